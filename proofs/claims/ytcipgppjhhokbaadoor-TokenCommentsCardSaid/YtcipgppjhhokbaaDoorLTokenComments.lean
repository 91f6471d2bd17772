/- The walk of boltinglaw06.TokenComments: it returns true, whatever it is given; nothing that lay in memory turns. -/
import Derived.Test.YtcipgppjhhokbaaDoorLTokenEnds
import Derived.Test.YtcipgppjhhokbaaDoorTokS
set_option linter.unusedVariables false
set_option linter.unusedSimpArgs false
namespace Go.Proofs.YtcipgppjhhokbaaDoor
open Go.RowKit Go.Proofs

set_option maxHeartbeats 4000000 in
set_option maxRecDepth 100000 in
theorem tokenComments_w (l1 : Txt) (hl1 : l1.length ≤ 9223372036854775807) (w : World) (hS : Std w) :
    Calls Tryd.prog 7 #[.string ⟨l1.toArray⟩] w fun e w' => e = .returned (.bool true) ∧ Below w.heap.size w w' := by
  have hfix := Lib.hid (fun W hS => fixed6_c W hS)
  go_enter Tryd.func7, Tryd.ntmps7
  go_wp2_with fail
  have hx := take_min_len l1 200
  generalize List.take (min (l1.length : Int) 200).toNat l1 = x at *
  have hxx : x.length ≤ 200 := hx
  clear hx
  go_loop [3] (fun v => ∃ (k : Nat), v = .int .i64 k ∧ k ≤ x.length ∧ Hid (∀ j (hj : j < x.length), j < k → x[j].toNat ≠ 62)) (fun v => x.length - (intOf v).toNat)
  case atStart => exact ⟨0, rfl, by omega, fun j _ h => by omega⟩
  case round =>
    obtain ⟨k, rfl, hk, hno⟩ := hrel
    by_cases hlt : k < x.length
    · obtain ⟨n, hn⟩ : ∃ n, x[k].toNat = n := ⟨_, rfl⟩
      have hn' := Lib.hid hn
      by_cases h62 : n = 62
      · subst h62
        go_wp2_with (go_at_call 11; ((with_reducible refine (hfix.out _ hS).mono ?_); rintro e w1 ⟨rfl, hb1⟩))
        go_ret
        exact ⟨rfl, hb1⟩
      · have h62I : ¬ (n : Int) = 62 := by omega
        go_wp2
        refine ⟨⟨k + 1, rfl, by omega, fun j hj hjk => ?_⟩, by simp [intOf]; omega⟩
        by_cases e : j = k
        · subst e
          rw [hn'.out]
          exact h62
        · exact hno.out j hj (by omega)
    · have hm62 := not_mem_of (x := x) (c := 62) fun j hj => hno.out j hj (by omega)
      have e1 := comments_cut hm62
      have e2 := doctype_cut hm62
      have ew : writeL [⟨3, [], [], x, false⟩] = [60, 33, 45, 45] ++ x ++ [45, 45, 62] := by simp [writeL, writeN, tokW]
      have etl : (trimL (32 :: (x ++ [120]))).length ≤ x.length + 1 := by
        have := trim_le (x ++ [120])
        simpa using this
      clear hno hm62
      have c1 := Lib.hid (fun W hS => cut_g ([60, 33, 45, 45] ++ x ++ [45, 45, 62]) (by simp; omega) W hS)
      have c2 := Lib.hid (fun W hS => cut_g ([60, 33, 100, 111, 99, 116, 121, 112, 101, 32] ++ x ++ [120, 62]) (by simp; omega) W hS)
      have d1 := Lib.hid (fun v W h => write_g v [⟨3, [], [], x, false⟩] (by simp) (by rw [ew]; simp; omega) W h)
      rw [e1] at c1
      rw [e2] at c2
      rw [ew] at d1
      clear e1 e2 ew
      have hc2 : (⟨#[60, 33, 100, 111, 99, 116, 121, 112, 101, 32]⟩ : ByteArray) ++ ⟨x.toArray⟩ ++ ⟨#[120, 62]⟩ = ⟨([60, 33, 100, 111, 99, 116, 121, 112, 101, 32] ++ x ++ [120, 62]).toArray⟩ := by
        apply ByteArray.ext
        simp
      generalize [60, 33, 100, 111, 99, 116, 121, 112, 101, 32] ++ x ++ [120, 62] = q2 at *
      generalize [60, 33, 45, 45] ++ x ++ [45, 45, 62] = q1 at *
      generalize trimL (32 :: (x ++ [120])) = td at *
      have hrow : RdT (w.alloc (.cells #[.int .i64 3, .string ⟨#[]⟩, .string ⟨x.toArray⟩, .slice none 0 0, .bool false] 30)) (.slice (some ⟨w.heap.size, 0, none⟩) 1 1) [⟨3, [], [], x, false⟩] := (rd_new w [(⟨3, [], [], x, false⟩, .slice none 0 0)] _ 1 _ rfl rfl (by intro p hp; simp only [List.mem_cons, List.not_mem_nil, or_false] at hp; subst hp; exact RdA.nil _))
      have hBa := (Below.refl w.heap.size w).alloc (Nat.le_refl _) (.cells #[.int .i64 3, .string ⟨#[]⟩, .string ⟨x.toArray⟩, .slice none 0 0, .bool false] 30)
      have hSa := hS.below hBa
      have etI : (td.length : Int) ≤ (x.length : Int) + 1 := by omega
      go_wp2_with (first
        | (go_at_call 14; first
          | ((with_reducible refine (c2.out _ hSa).mono ?_); rintro e w1 ⟨v1, rfl, hT1, hb1⟩; have hS1 := hSa.below hb1; have hB1 := below_then hBa (by rw [World.size_alloc]; omega) hb1; replace hrow := hrow.below hb1; obtain ⟨ad1, cp1, rfl⟩ := hT1.len; have hR1 := hT1.rd)
          | ((with_reducible refine (c1.out _ hS2).mono ?_); rintro e w3 ⟨v3, rfl, hT3, hb3⟩; have hS3 := hS2.below hb3; have hB3 := below_seq hB2 hb3; replace hrow := hrow.below hb3; replace hR1 := hR1.below hb3; have hR3 := hT3.rd))
        | (go_at_call 12; ((with_reducible refine (d1.out _ _ hrow).mono ?_); rintro e w2 ⟨rfl, hb2⟩; have hS2 := hS1.below hb2; have hB2 := below_seq hB1 hb2; replace hrow := hrow.below hb2; replace hR1 := hR1.below hb2))
        | (go_at_call 16; ((with_reducible refine (same_t _ _ _ _ hT3 hR3 hrow).mono ?_); rintro e w4 ⟨rfl, hb4⟩; have hS4 := hS3.below hb4; have hB4 := below_seq hB3 hb4; replace hR1 := hR1.below hb4; obtain ⟨ax, cx, ex, hax⟩ := hR1; obtain ⟨g, o, vx, ax', z0, z1, z2, z3, z4, _⟩ := hax 0 (by simp); simp only [Value.slice.injEq] at ex; obtain ⟨rfl, _, _⟩ := ex; subst ax'; simp only [Nat.zero_mul, Nat.add_zero, List.getElem_cons_zero] at z0 z1 z2 z3 z4))
        | (go_at_call 11; ((with_reducible refine (hfix.out _ hS4).mono ?_); rintro e w7 ⟨rfl, hb7⟩)))
      go_ret
      exact ⟨rfl, below_seq hB4 hb7⟩
end Go.Proofs.YtcipgppjhhokbaaDoor
