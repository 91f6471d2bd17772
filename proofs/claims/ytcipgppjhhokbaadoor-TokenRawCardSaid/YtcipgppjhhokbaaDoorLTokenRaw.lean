/- The walk of boltinglaw06.TokenRaw: it returns true, whatever it is given; nothing that lay in memory turns. -/
import Derived.Test.YtcipgppjhhokbaaDoorLTokenEnds
set_option linter.unusedVariables false
set_option linter.unusedSimpArgs false
namespace Go.Proofs.YtcipgppjhhokbaaDoor
open Go.RowKit Go.Proofs

theorem quiet_of : ∀ (x : Txt), (∀ j (hj : j + 1 < x.length), ¬ (x[j].toNat = 60 ∧ x[j + 1].toNat = 47)) → (∀ h : 0 < x.length, x[x.length - 1].toNat ≠ 60) → quietB x = true
  | [], _, _ => rfl
  | [c], _, h => by
    have := h (by simp)
    simp only [List.length_cons, List.length_nil, Nat.zero_add, Nat.sub_self, List.getElem_cons_zero] at this
    simp only [quietB, bne_iff_ne, ne_eq]
    intro e
    exact this (by rw [e]; rfl)
  | c :: d :: r, h1, h2 => by
    have ih := quiet_of (d :: r) (fun j hj => by
      have := h1 (j + 1) (by simpa using hj)
      simpa using this) (fun hp => by
      have := h2 (by simp)
      simpa using this)
    rw [quietB, ih]
    have h0 := h1 0 (by simp)
    simp only [List.getElem_cons_zero, List.getElem_cons_succ, Nat.zero_add] at h0
    simp only [Bool.and_true, Bool.not_eq_true', Bool.and_eq_false_iff, beq_eq_false_iff_ne, ne_eq]
    by_cases hc : c = 60
    · right
      intro hd
      exact h0 ⟨by rw [hc]; rfl, by rw [hd]; rfl⟩
    · exact .inl hc
theorem rd_take {w : World} {ad : Option Addr} {n cp cp' : Nat} {A B : List Tok} (h : RdT w (.slice ad n cp) (A ++ B)) : RdT w (.slice ad A.length cp') A := by
  obtain ⟨ax, cx, e, h2⟩ := h
  simp only [Value.slice.injEq] at e
  obtain ⟨rfl, _, _⟩ := e
  refine ⟨ad, cp', rfl, fun i hi => ?_⟩
  obtain ⟨g, o, va, h3, h4⟩ := h2 i (by rw [List.length_append]; omega)
  rw [List.getElem_append_left hi] at h4
  exact ⟨g, o, va, h3, h4⟩
theorem rd_drop {w : World} {ad : Option Addr} {n cp cp' : Nat} {A B : List Tok} (hA : A.length = 3) (h : RdT w (.slice ad n cp) (A ++ B)) : RdT w (.slice (Option.map (fun x => ({ block := x.block, off := x.off + 15 } : Addr)) ad) B.length cp') B := by
  obtain ⟨ax, cx, e, h2⟩ := h
  simp only [Value.slice.injEq] at e
  obtain ⟨rfl, _, _⟩ := e
  refine ⟨_, cp', rfl, fun i hi => ?_⟩
  obtain ⟨g, o, va, h3, h4⟩ := h2 (3 + i) (by rw [List.length_append]; omega)
  have e2 : (A ++ B)[3 + i]'(by rw [List.length_append]; omega) = B[i] := by
    rw [List.getElem_append_right (by omega)]
    congr 1
    omega
  rw [e2] at h4
  subst h3
  refine ⟨g, o + 15, va, rfl, ?_⟩
  · rw [show o + (3 + i) * 5 = o + 15 + i * 5 from by omega] at h4
    exact h4
theorem rd_nil (w : World) (ad : Option Addr) (cp : Nat) : RdT w (.slice ad 0 cp) [] := ⟨ad, cp, rfl, fun i hi => by simp at hi⟩
theorem Toks.cap {w : World} {base : Nat} {ad : Option Addr} {n cp : Nat} {l : List Tok} (h : Toks w base (.slice ad n cp) l) : l.length ≤ cp := by
  obtain ⟨ps, k1, k2, k3⟩ := h
  rcases k2.2 with ⟨e, h0⟩ | ⟨g, cap, cr, e, _, _, hn, _⟩
  · omega
  · simp only [Value.slice.injEq] at e
    omega

set_option maxHeartbeats 4000000 in
set_option maxRecDepth 100000 in
theorem tokenRaw_w (l1 : Txt) (hl1 : l1.length ≤ 9223372036854775807) (l2 : Txt) (hl2 : l2.length ≤ 9223372036854775807) (w : World) (hS : Std w) :
    Calls Tryd.prog 5 #[.string ⟨l1.toArray⟩, .string ⟨l2.toArray⟩] w fun e w' => e = .returned (.bool true) ∧ Below w.heap.size w w' := by
  have hfix := Lib.hid (fun W hS => fixed6_c W hS)
  go_enter Tryd.func5, Tryd.ntmps5
  go_wp2_with fail
  have hx := take_min_len l1 200
  generalize List.take (min (l1.length : Int) 200).toNat l1 = x at *
  have hy := take_min_len l2 200
  generalize List.take (min (l2.length : Int) 200).toNat l2 = y at *
  have hxx : x.length ≤ 200 := hx
  have hyy : y.length ≤ 200 := hy
  clear hx hy
  go_loop [5] (fun v => ∃ (k : Nat), v = .int .i64 k ∧ k ≤ x.length ∧ Hid (∀ j (hj : j + 1 < x.length), j < k → ¬ (x[j].toNat = 60 ∧ x[j + 1].toNat = 47))) (fun v => x.length - (intOf v).toNat)
  case atStart => exact ⟨0, rfl, by omega, fun j _ h => by omega⟩
  case round =>
    obtain ⟨k, rfl, hk, hno⟩ := hrel
    by_cases hlt : k + 1 < x.length
    · obtain ⟨n, hn⟩ : ∃ n, x[k].toNat = n := ⟨_, rfl⟩
      obtain ⟨m, hm⟩ : ∃ m, x[k + 1].toNat = m := ⟨_, rfl⟩
      have hn' := Lib.hid hn
      have hm' := Lib.hid hm
      have hltI : (k : Int) + 1 < x.length := by omega
      have next : ¬ (n = 60 ∧ m = 47) → Hid (∀ j (hj : j + 1 < x.length), j < k + 1 → ¬ (x[j].toNat = 60 ∧ x[j + 1].toNat = 47)) := by
        intro hnm j hj hjk
        by_cases e : j = k
        · subst e
          rw [hn'.out, hm'.out]
          exact hnm
        · exact hno.out j hj (by omega)
      by_cases h60 : n = 60
      · subst h60
        by_cases h47 : m = 47
        · subst h47
          clear next
          go_wp2_with (go_at_call 11; ((with_reducible refine (hfix.out _ hS).mono ?_); rintro e w1 ⟨rfl, hb1⟩))
          go_ret
          exact ⟨rfl, hb1⟩
        · have h47I : ¬ (m : Int) = 47 := by omega
          have next2 := next (fun h => h47 h.2)
          clear next
          go_wp2
          exact ⟨⟨k + 1, rfl, by omega, next2⟩, by simp [intOf]; omega⟩
      · have h60I : ¬ (n : Int) = 60 := by omega
        have next2 := next (fun h => h60 h.1)
        clear next
        go_wp2
        exact ⟨⟨k + 1, rfl, by omega, next2⟩, by simp [intOf]; omega⟩
    · have hltI : ¬ (k : Int) + 1 < x.length := by omega
      have hq0 := Lib.hid (fun (j : Nat) (hj : j + 1 < x.length) => hno.out j hj (by omega))
      clear hno
      by_cases hx0 : x = []
      · subst hx0
        go_wp2_with (go_at_call 11; ((with_reducible refine (hfix.out _ hS).mono ?_); rintro e w1 ⟨rfl, hb1⟩))
        go_ret
        exact ⟨rfl, hb1⟩
      · have hne : (x == []) = false := by simpa using hx0
        have hpos : 0 < x.length := List.length_pos_iff.2 hx0
        have hlast : x.length - 1 < x.length := by omega
        obtain ⟨z, hz⟩ : ∃ z, x[x.length - 1].toNat = z := ⟨_, rfl⟩
        have hz' := Lib.hid hz
        have hidx : ((x.length : Int) - 1) = ((x.length - 1 : Nat) : Int) := by omega
        by_cases hz60 : z = 60
        · subst hz60
          go_wp2_with (go_at_call 11; ((with_reducible refine (hfix.out _ hS).mono ?_); rintro e w1 ⟨rfl, hb1⟩))
          go_ret
          exact ⟨rfl, hb1⟩
        · have hz60I : ¬ (z : Int) = 60 := by omega
          have hq := quiet_of x hq0.out (fun _ => by rw [hz'.out]; exact hz60)
          have e1 := raw_law (rest := y) hx0 hq
          clear hq hq0
          have c1 := Lib.hid (fun W hS => cut_g ([60, 115, 116, 121, 108, 101, 62] ++ x ++ [60, 47, 115, 116, 121, 108, 101, 62] ++ y) (by simp; omega) W hS)
          have c2 := Lib.hid (fun W hS => cut_g y (by omega) W hS)
          rw [e1] at c1
          clear e1
          have hc1 : (⟨#[60, 115, 116, 121, 108, 101, 62]⟩ : ByteArray) ++ ⟨x.toArray⟩ ++ ⟨#[60, 47, 115, 116, 121, 108, 101, 62]⟩ ++ ⟨y.toArray⟩ = ⟨([60, 115, 116, 121, 108, 101, 62] ++ x ++ [60, 47, 115, 116, 121, 108, 101, 62] ++ y).toArray⟩ := by
            apply ByteArray.ext
            simp
          generalize [60, 115, 116, 121, 108, 101, 62] ++ x ++ [60, 47, 115, 116, 121, 108, 101, 62] ++ y = q1 at *
          generalize cutL y = M at *
          obtain ⟨A, hA⟩ : ∃ A : List Tok, [⟨1, [115, 116, 121, 108, 101], [], [], false⟩, ⟨0, [], [], x, false⟩, ⟨2, [115, 116, 121, 108, 101], [], [], false⟩] = A := ⟨_, rfl⟩
          rw [hA] at c1
          have hA3 : A.length = 3 := by rw [← hA]; rfl
          have hAb : ∀ t ∈ A, t.attrs.length ≤ 9223372036854775807 := by
            intro t ht
            rw [← hA] at ht
            simp only [List.mem_cons, List.not_mem_nil, or_false] at ht
            rcases ht with rfl | rfl | rfl <;> simp
          go_wp2_with (first
            | (go_at_call 14; first
              | ((with_reducible refine (c1.out _ hS).mono ?_); rintro e w1 ⟨v1, rfl, hT1, hb1⟩; have hS1 := hS.below hb1; obtain ⟨ad1, cp1, rfl⟩ := hT1.len; rw [List.length_append, hA3] at hT1; have hR1 := hT1.rd; have hcap := hT1.cap; rw [List.length_append, hA3] at hcap; have hbnd := hT1.bound.1; rw [List.length_append, hA3] at hbnd)
              | ((with_reducible refine (c2.out _ hS1).mono ?_); rintro e w2 ⟨v2, rfl, hT2, hb2⟩; have hS2 := hS1.below hb2; obtain ⟨ad2, cp2, rfl⟩ := hT2.len; have hR2 := hT2.rd; replace hR1 := hR1.below hb2; have hB2 := below_seq hb1 hb2; have hrow : RdT (w2.alloc (.cells #[.int .i64 1, .string ⟨#[115, 116, 121, 108, 101]⟩, .string ⟨#[]⟩, .slice none 0 0, .bool false, .int .i64 0, .string ⟨#[]⟩, .string ⟨x.toArray⟩, .slice none 0 0, .bool false, .int .i64 2, .string ⟨#[115, 116, 121, 108, 101]⟩, .string ⟨#[]⟩, .slice none 0 0, .bool false] 30)) (.slice (some ⟨w2.heap.size, 0, none⟩) 3 3) [⟨1, [115, 116, 121, 108, 101], [], [], false⟩, ⟨0, [], [], x, false⟩, ⟨2, [115, 116, 121, 108, 101], [], [], false⟩] := (rd_new w2 [(⟨1, [115, 116, 121, 108, 101], [], [], false⟩, .slice none 0 0), (⟨0, [], [], x, false⟩, .slice none 0 0), (⟨2, [115, 116, 121, 108, 101], [], [], false⟩, .slice none 0 0)] _ 3 _ rfl rfl (by intro p hp; simp only [List.mem_cons, List.not_mem_nil, or_false] at hp; rcases hp with rfl | rfl | rfl <;> exact RdA.nil _)); rw [hA] at hrow; have hp1 := rd_take (cp' := cp1) hR1; rw [hA3] at hp1; replace hp1 := rd_al hp1 (.cells #[.int .i64 1, .string ⟨#[115, 116, 121, 108, 101]⟩, .string ⟨#[]⟩, .slice none 0 0, .bool false, .int .i64 0, .string ⟨#[]⟩, .string ⟨x.toArray⟩, .slice none 0 0, .bool false, .int .i64 2, .string ⟨#[115, 116, 121, 108, 101]⟩, .string ⟨#[]⟩, .slice none 0 0, .bool false] 30)))
            | (go_at_call 16; first
              | ((with_reducible refine (same_c _ _ _ (by omega) hAb _ hp1 hrow).mono ?_); rintro e w3 ⟨rfl, hb3⟩; have hB3 := below_then (hB2.alloc hB2.size _) (by rw [World.size_alloc]; have := hB2.size; omega) hb3; have hS3 := hS.below hB3; replace hR2 := (rd_al hR2 _).below hb3; replace hR1 := (rd_al hR1 _).below hb3; have hp2 := rd_drop (cp' := cp1 - 3) hA3 hR1; have hp4 : RdT w3 (.slice (if cp1 = 3 then ad1 else Option.map (fun x => ({ block := x.block, off := x.off + 15 } : Addr)) ad1) M.length (cp1 - 3)) M := (by by_cases h : cp1 = 3; exact (by rw [if_pos h]; have hM : M = [] := List.eq_nil_of_length_eq_zero (by omega); rw [hM]; exact rd_nil _ _ _); exact (by rw [if_neg h]; exact hp2)))
              | ((with_reducible refine (same_t _ _ _ _ hT2 hp4 hR2).mono ?_); rintro e w4 ⟨rfl, hb4⟩; have hS4 := hS3.below hb4; have hB4 := below_seq hB3 hb4))
            | (go_at_call 11; ((with_reducible refine (hfix.out _ hS4).mono ?_); rintro e w7 ⟨rfl, hb7⟩)))
          all_goals
            go_ret
            exact ⟨rfl, below_seq hB4 hb7⟩
end Go.Proofs.YtcipgppjhhokbaaDoor
