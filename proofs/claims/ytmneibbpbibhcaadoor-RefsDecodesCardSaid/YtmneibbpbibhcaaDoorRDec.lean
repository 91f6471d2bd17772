/- Contract of boltingref03.Decode: a text with characters in the place of their references, as refs has it. Nothing that lay in memory turns. -/
import Derived.Test.YtmneibbpbibhcaaDoorRDecB
set_option linter.unusedVariables false
set_option linter.unusedSimpArgs false
namespace Go.Proofs.YtmneibbpbibhcaaDoor
open Go.RowKit Go.Proofs

/-- append(b, c): a byte onto a row of bytes of the call's own; the byte lies in a new block. -/
theorem app_byte {w : World} {ops : Array Oper} {rest : List Oper} {o : Oper} {a : Act} {Q : Exit → Act → World → Prop} (hgd : o.guard = none) (sl x : Operand)
    (ho : o.op = .call { callee := .builtin .append, args := #[sl, x], argTypes := #[47, 47] })
    (base : Nat) (v : Value) (l : List UInt8) (c : UInt8) (hs : a.eval sl = v) (hown : Bts w base v l) (hx : a.eval x = .slice (some ⟨w.heap.size, 0, none⟩) 1 1)
    (hlen : l.length + 1 ≤ 100000000000000) (hbase : base ≤ w.heap.size)
    (h : ∀ v' w', Bts w' base v' (l ++ [c]) → Below base w w' → w.heap.size ≤ w'.heap.size → wpList Tryd.prog ops Q rest (a.put o.dst v') w') : wpList Tryd.prog ops Q (o :: rest) a (w.alloc (.cells #[.int .u8 c.toNat] 5)) := by
  obtain ⟨i0, hi, hz0, hz1, hz2⟩ := byteInfo
  refine wpList_append_own _ hgd sl x 47 ho base 5 i0 (.int .u8 0) 1 1 Tryd.underlying47 hi hz0 hz1 hz2 rfl (by decide) v l.length (Lib.byteCells l) hs (World.ownsRow.alloc hown _) ⟨w.heap.size, 0, none⟩ 1 1 [.int .u8 c.toNat] hx rfl ?_ ?_ (by unfold maxLen; omega) (by omega) (by simp; omega) ?_
  · intro j u hj
    match j, hj with
    | 0, hj =>
      simp at hj
      subst hj
      rw [show (⟨w.heap.size, 0, none⟩ : Addr).add 0 = ⟨w.heap.size, 0, none⟩ from rfl, Lib.cell_of_heap (new_cells _ _ _)]
      rfl
  · intro u hu
    simp at hu
    subst hu
    rfl
  · intro v' w' hown' hgrow _
    have hsz := hgrow.size
    simp at hsz
    refine h v' w' ?_ ?_ (by omega)
    · unfold Bts
      rw [Lib.byteCells_append, show Lib.byteCells [c] = [.int .u8 c.toNat] from rfl]
      simpa using hown'
    · exact ((Below.refl base w).alloc hbase _).grown hgrow (by simp; omega) (fun k hk => own_base hown hk)

theorem cut_cons {c : UInt8} {l : List UInt8} (h : c ≠ 59) : cut1 59 (c :: l) = (c :: (cut1 59 l).1, (cut1 59 l).2.1, (cut1 59 l).2.2) := by rw [cut1, if_neg h]
theorem drop_at {l : List UInt8} {k : Nat} {c : UInt8} (hk : k < l.length) (hc : l[k] = c) : l.drop k = c :: l.drop (k + 1) := by rw [← hc]; exact List.drop_eq_getElem_cons hk
theorem take_cut {r : List UInt8} (hf : (cut1 59 r).2.2 = true) : r.take (cut1 59 r).1.length = (cut1 59 r).1 := by
  have h := cut1_yes hf
  generalize cut1 59 r = t at *
  subst h
  simp
theorem drop_cut0 {r : List UInt8} (hf : (cut1 59 r).2.2 = true) : r.drop ((cut1 59 r).1.length + 1) = (cut1 59 r).2.1 := by
  have h := cut1_yes hf
  generalize cut1 59 r = t at *
  subst h
  simp
theorem ext_cut {l : List UInt8} {k : Nat} (hf : (cut1 59 (l.drop (k + 1))).2.2 = true) : (⟨l.toArray⟩ : ByteArray).extract (k + 1) (k + 1 + (cut1 59 (l.drop (k + 1))).1.length) = ⟨(cut1 59 (l.drop (k + 1))).1.toArray⟩ := by
  rw [Lib.extract_eq, mk_data_list, Nat.add_sub_cancel_left, take_cut hf]
theorem drop_cut {l : List UInt8} {k : Nat} (hf : (cut1 59 (l.drop (k + 1))).2.2 = true) : l.drop (k + 1 + (cut1 59 (l.drop (k + 1))).1.length + 1) = (cut1 59 (l.drop (k + 1))).2.1 := by
  rw [Nat.add_assoc, ← List.drop_drop, drop_cut0 hf]
theorem app_38 {w : World} {ops : Array Oper} {rest : List Oper} {o : Oper} {a : Act} {Q : Exit → Act → World → Prop} (hgd : o.guard = none) (sl x : Operand)
    (ho : o.op = .call { callee := .builtin .append, args := #[sl, x], argTypes := #[47, 47] })
    (base : Nat) (v : Value) (l : List UInt8) (hs : a.eval sl = v) (hown : Bts w base v l) (hx : a.eval x = .slice (some ⟨w.heap.size, 0, none⟩) 1 1)
    (hlen : l.length + 1 ≤ 100000000000000) (hbase : base ≤ w.heap.size)
    (h : ∀ v' w', Bts w' base v' (l ++ [38]) → Below base w w' → w.heap.size ≤ w'.heap.size → wpList Tryd.prog ops Q rest (a.put o.dst v') w') : wpList Tryd.prog ops Q (o :: rest) a (w.alloc (.cells #[.int .u8 38] 5)) :=
  app_byte hgd sl x ho base v l 38 hs hown hx hlen hbase h

set_option maxHeartbeats 1000000 in
set_option maxRecDepth 100000 in
theorem rdecode_c (l : List UInt8) (hl : l.length ≤ 1000000000) (w : World) :
    Calls Tryd.prog 32 #[.string ⟨l.toArray⟩] w fun e w' => e = .returned (.string ⟨(decL l).toArray⟩) ∧ Below w.heap.size w w' := by
  go_enter Tryd.func32, Tryd.ntmps32
  go_wp2
  go_loopw [3, 4] (fun vb vi wr => ∃ (k : Nat) (acc : List UInt8), vi = .int .i64 k ∧ k ≤ l.length ∧ Bts wr w.heap.size vb acc ∧ Below w.heap.size w wr ∧ Hid (decL l = acc ++ decL (l.drop k)) ∧ acc.length ≤ 4 * k) (fun _ vi _ => l.length - (intOf vi).toNat)
  case atStart =>
    exact ⟨0, [], rfl, by omega, Bts.new _ _ (Nat.le_refl _), (Below.refl _ w).alloc (Nat.le_refl _) _, rfl, by simp⟩
  case round =>
    obtain ⟨k, acc, rfl, hk, hI, hbw, hdec, hal⟩ := hrel
    have hsz := hbw.size
    by_cases hlt : k < l.length
    · obtain ⟨c, hc⟩ : ∃ c, l[k] = c := ⟨_, rfl⟩
      have hdr := drop_at hlt hc
      have hd0 := hdec.out
      rw [hdr, decL_cons] at hd0
      by_cases h38 : c.toNat = 38
      · have hc38 : c = 38 := u8_eq (n := 38) h38 (by decide)
        subst hc38
        rw [if_pos rfl] at hd0
        have hend : endL l k = if (cut1 59 (l.drop (k + 1))).2.2 then ((k + 1 + (cut1 59 (l.drop (k + 1))).1.length : Nat) : Int) else -1 := by
          unfold endL
          rw [hdr, cut_cons (by decide)]
          simp only [List.length_cons]
          split
          · push_cast; omega
          · rfl
        have hre := Lib.hid (fun W => rend_c l hl k (by omega) W)
        rw [hend] at hre
        clear hend hdec h38
        cases hf : (cut1 59 (l.drop (k + 1))).2.2 with
        | false =>
          rw [hf] at hd0 hre
          have hd := Lib.hid (show decL l = (acc ++ [38]) ++ decL (l.drop (k + 1)) by rw [hd0]; simp)
          have hre2 : Hid (∀ W, Calls Tryd.prog 60 #[.string ⟨l.toArray⟩, .int .i64 k] W fun e w' => e = .returned (.int .i64 (-1)) ∧ W = w') := hre
          clear hd0 hdr hf hre
          go_wp2_with (first
            | (go_at_call 60; ((with_reducible refine (hre2.out _).mono ?_); rintro e w1 ⟨rfl, rfl⟩))
            | (at_builtin; refine app_38 rfl _ _ rfl w.heap.size _ acc rfl hI rfl (by omega) hsz ?_; intro v' w5 hI5 hb5 hz5))
          refine ⟨⟨k + 1, acc ++ [38], rfl, by omega, hI5, hbw.trans hb5, hd, by simp; omega⟩, by simp [intOf]; omega⟩
        | true =>
          have hx := ext_cut hf
          have hdc := drop_cut hf
          have hlen := cut1_len 59 (l.drop (k + 1))
          rw [hf] at hd0 hre
          rw [if_pos hf, List.length_drop] at hlen
          have hml := meantL_len (cut1 59 (l.drop (k + 1))).1
          have his := rm_is (cut1 59 (l.drop (k + 1))).1
          have hwh := @rm_what (cut1 59 (l.drop (k + 1))).1
          generalize hb : (cut1 59 (l.drop (k + 1))).1 = b at *
          generalize (cut1 59 (l.drop (k + 1))).2.1 = aft at *
          obtain ⟨e, he⟩ : ∃ e, k + 1 + b.length = e := ⟨_, rfl⟩
          rw [he] at hx hdc hre
          have hre2 : Hid (∀ W, Calls Tryd.prog 60 #[.string ⟨l.toArray⟩, .int .i64 k] W fun e' w' => e' = .returned (.int .i64 e) ∧ W = w') := hre
          have he1 : k + 1 ≤ e := by omega
          have he2 : e + 1 ≤ l.length := by omega
          have hrm := Lib.hid (fun W => rmeant_c b (by omega) W)
          clear hre hdr hf hb he hlen
          have hdc := Lib.hid hdc
          rename_i hdc0
          clear hdc0
          cases hm : (meantL b).2 with
          | false =>
            rw [hm] at hd0 his
            rw [his] at hrm
            have hd := Lib.hid (show decL l = (acc ++ [38]) ++ decL (l.drop (k + 1)) by rw [hd0]; simp)
            clear hd0 hm his hwh hml
            generalize (rmL b).1 = t at *
            go_wp2_with (first
              | (go_at_call 60; ((with_reducible refine (hre2.out _).mono ?_); rintro e w1 ⟨rfl, rfl⟩))
              | (go_at_call 61; ((with_reducible refine (hrm.out _).mono ?_); rintro e w1 ⟨rfl, hb1⟩; have hI1 := hI.below hb1; have hbw1 := below_then hbw hsz hb1; have hsz1 := hbw1.size))
              | (at_builtin; refine app_38 rfl _ _ rfl w.heap.size _ acc rfl hI1 rfl (by omega) hsz1 ?_; intro v' w5 hI5 hb5 hz5))
            refine ⟨⟨k + 1, acc ++ [38], rfl, by omega, hI5, hbw1.trans hb5, hd, by simp; omega⟩, by simp [intOf]; omega⟩
          | true =>
            rw [hm] at hd0 his
            rw [his, hwh hm] at hrm
            have hd := Lib.hid (show decL l = (acc ++ (meantL b).1) ++ decL (l.drop (e + 1)) by rw [hd0, hdc.out]; simp)
            clear hd0 hm his hwh
            generalize (meantL b).1 = t at *
            go_wp2_with (first
              | (go_at_call 60; ((with_reducible refine (hre2.out _).mono ?_); rintro e w1 ⟨rfl, rfl⟩))
              | (go_at_call 61; ((with_reducible refine (hrm.out _).mono ?_); rintro e w1 ⟨rfl, hb1⟩; have hI1 := hI.below hb1; have hbw1 := below_then hbw hsz hb1; have hsz1 := hbw1.size))
              | (at_builtin; refine app_text rfl _ _ rfl w.heap.size _ acc t rfl hI1 rfl (by omega) hsz1 ?_; intro v' w5 hI5 hb5 hz5))
            refine ⟨⟨e + 1, acc ++ t, rfl, by omega, hI5, hbw1.trans hb5, hd, by simp; omega⟩, by simp [intOf]; omega⟩
      · have hne : c ≠ 38 := fun e => h38 (by rw [e]; rfl)
        rw [if_neg hne] at hd0
        have hd := Lib.hid (show decL l = (acc ++ [c]) ++ decL (l.drop (k + 1)) by rw [hd0]; simp)
        have hcb : ((c.toNat : Int) == 38) = false := by rw [beq_eq_false_iff_ne]; omega
        clear hd0 hdr hdec h38 hne
        go_wp2_with (at_builtin; refine app_byte rfl (.tmp 37) (.tmp 41) rfl w.heap.size _ acc c rfl hI rfl (by omega) hsz ?_; intro v' w5 hI5 hb5 hz5)
        refine ⟨⟨k + 1, acc ++ [c], rfl, by omega, hI5, hbw.trans hb5, hd, by simp; omega⟩, by simp [intOf]; omega⟩
    · have hd : decL l = acc := by
        rw [hdec.out, List.drop_eq_nil_of_le (by omega), decL_nil]
        simp
      have hd := Lib.hid hd
      rename_i hd0
      clear hd0
      have hcv := conv_own hI
      go_wp2
      go_ret
      rw [hd.out]
      exact ⟨rfl, hbw⟩
end Go.Proofs.YtmneibbpbibhcaaDoor
