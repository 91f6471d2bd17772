/- Contracts of boltingref03's Char and Code: characters' bytes. Nothing that lay in memory turns. -/
import Derived.Test.YtmneibbpbibhcaaDoorLaw3
import Derived.Lib.ConvBytes
import Derived.Laws.BytesArg
import Derived.WalkSpells
set_option linter.unusedVariables false
set_option linter.unusedSimpArgs false
namespace Go.Proofs.YtmneibbpbibhcaaDoor
open Go.RowKit Go.Proofs

theorem conv_new (w : World) (xs : List Int) (cs : Array Value) (n : Nat) (h : xs.length = n) (hcs : cs = (xs.map (Value.int .u8)).toArray) :
    (convert 47 9 (.slice (some ⟨w.heap.size, 0, none⟩) n n)).run Tryd.prog (w.alloc (.cells cs 5)) = .ok (.string (strOfNums xs)) (w.alloc (.cells cs 5)) := by
  subst hcs
  refine run_convert_bytes_arg (P := Tryd.prog) _ 47 5 Tryd.underlying47 Tryd.underlying5 w.heap.size 0 n n xs h ?_ 9 Tryd.underlying9
  intro i hi
  have : (w.alloc (.cells (xs.map (Value.int .u8)).toArray 5)).heap[w.heap.size]? = some (.cells (xs.map (Value.int .u8)).toArray 5 (0, 0)) := by
    show (w.heap.push _)[w.heap.size]? = _
    simp
  rw [Nat.zero_add, Lib.cell_of_heap this]
  simp [List.getD, List.getElem?_eq_getElem (show i < xs.length by omega)]

theorem enc1 (n : Int) (h0 : 0 ≤ n) (h : n < 128) : Utf8.encode n = strOfNums [n] := by
  have hv : Utf8.valid n = true := by unfold Utf8.valid; simp; omega
  apply ba_ext
  simp only [Utf8.encode, hv, if_true, strOfNums]
  rw [if_pos (by omega)]
  simp
theorem enc2 (n : Int) (h0 : 128 ≤ n) (h : n < 2048) : Utf8.encode n = strOfNums [192 + n / 64, 128 + n % 64] := by
  have hv : Utf8.valid n = true := by unfold Utf8.valid; simp; omega
  apply ba_ext
  simp only [Utf8.encode, hv, if_true, strOfNums]
  rw [if_neg (by omega), if_pos (by omega)]
  show [UInt8.ofNat (0xC0 + n.toNat / 64), UInt8.ofNat (0x80 + n.toNat % 64)] = [UInt8.ofNat (192 + n / 64).toNat, UInt8.ofNat (128 + n % 64).toNat]
  rw [show (192 + n / 64).toNat = 0xC0 + n.toNat / 64 from by omega, show (128 + n % 64).toNat = 0x80 + n.toNat % 64 from by omega]
theorem enc3 (n : Int) (h0 : 2048 ≤ n) (h : n < 65536) (hv : Utf8.valid n = true) : Utf8.encode n = strOfNums [224 + n / 4096, 128 + n / 64 % 64, 128 + n % 64] := by
  apply ba_ext
  simp only [Utf8.encode, hv, if_true, strOfNums]
  rw [if_neg (by omega), if_neg (by omega), if_pos (by omega)]
  show [UInt8.ofNat (0xE0 + n.toNat / 4096), UInt8.ofNat (0x80 + n.toNat / 64 % 64), UInt8.ofNat (0x80 + n.toNat % 64)] = [UInt8.ofNat (224 + n / 4096).toNat, UInt8.ofNat (128 + n / 64 % 64).toNat, UInt8.ofNat (128 + n % 64).toNat]
  rw [show (224 + n / 4096).toNat = 0xE0 + n.toNat / 4096 from by omega, show (128 + n / 64 % 64).toNat = 0x80 + n.toNat / 64 % 64 from by omega, show (128 + n % 64).toNat = 0x80 + n.toNat % 64 from by omega]
theorem enc4 (n : Int) (h0 : 65536 ≤ n) (hv : Utf8.valid n = true) : Utf8.encode n = strOfNums [240 + n / 262144, 128 + n / 4096 % 64, 128 + n / 64 % 64, 128 + n % 64] := by
  apply ba_ext
  simp only [Utf8.encode, hv, if_true, strOfNums]
  rw [if_neg (by omega), if_neg (by omega), if_neg (by omega)]
  show [UInt8.ofNat (0xF0 + n.toNat / 262144), UInt8.ofNat (0x80 + n.toNat / 4096 % 64), UInt8.ofNat (0x80 + n.toNat / 64 % 64), UInt8.ofNat (0x80 + n.toNat % 64)] = [UInt8.ofNat (240 + n / 262144).toNat, UInt8.ofNat (128 + n / 4096 % 64).toNat, UInt8.ofNat (128 + n / 64 % 64).toNat, UInt8.ofNat (128 + n % 64).toNat]
  rw [show (240 + n / 262144).toNat = 0xF0 + n.toNat / 262144 from by omega, show (128 + n / 4096 % 64).toNat = 0x80 + n.toNat / 4096 % 64 from by omega, show (128 + n / 64 % 64).toNat = 0x80 + n.toNat / 64 % 64 from by omega, show (128 + n % 64).toNat = 0x80 + n.toNat % 64 from by omega]

set_option maxHeartbeats 1000000 in
set_option maxRecDepth 100000 in
theorem rchar_c (n : Int) (h0 : 0 ≤ n) (h1 : n ≤ 1114111) (hv : Utf8.valid n = true) (w : World) :
    Calls Tryd.prog 55 #[.int .i64 n] w fun e w' => e = .returned (.string (Utf8.encode n)) ∧ Below w.heap.size w w' := by
  by_cases c1 : n < 128
  · have hcv := conv_new w [n] #[.int .u8 n] 1 rfl rfl
    have he := Lib.hid (enc1 n h0 c1)
    clear hv
    go_enter Tryd.func55, Tryd.ntmps55
    go_wp2
    go_ret
    rw [he.out]
    exact ⟨rfl, (Below.refl _ _).alloc (Nat.le_refl _) _⟩
  by_cases c2 : n < 2048
  · have hcv := conv_new w [192 + n / 64, 128 + n % 64] #[.int .u8 (192 + n / 64), .int .u8 (128 + n % 64)] 2 rfl rfl
    have he := Lib.hid (enc2 n (by omega) c2)
    clear hv
    go_enter Tryd.func55, Tryd.ntmps55
    go_wp2
    go_ret
    rw [he.out]
    exact ⟨rfl, (Below.refl _ _).alloc (Nat.le_refl _) _⟩
  by_cases c3 : n < 65536
  · have hcv := conv_new w [224 + n / 4096, 128 + n / 64 % 64, 128 + n % 64] #[.int .u8 (224 + n / 4096), .int .u8 (128 + n / 64 % 64), .int .u8 (128 + n % 64)] 3 rfl rfl
    have he := Lib.hid (enc3 n (by omega) c3 hv)
    clear hv
    go_enter Tryd.func55, Tryd.ntmps55
    go_wp2
    go_ret
    rw [he.out]
    exact ⟨rfl, (Below.refl _ _).alloc (Nat.le_refl _) _⟩
  · have hcv := conv_new w [240 + n / 262144, 128 + n / 4096 % 64, 128 + n / 64 % 64, 128 + n % 64] #[.int .u8 (240 + n / 262144), .int .u8 (128 + n / 4096 % 64), .int .u8 (128 + n / 64 % 64), .int .u8 (128 + n % 64)] 4 rfl rfl
    have he := Lib.hid (enc4 n (by omega) hv)
    clear hv
    go_enter Tryd.func55, Tryd.ntmps55
    go_wp2
    go_ret
    rw [he.out]
    exact ⟨rfl, (Below.refl _ _).alloc (Nat.le_refl _) _⟩

theorem codeI_ok (n : Int) : 0 ≤ codeI n ∧ codeI n ≤ 1114111 ∧ Utf8.valid (codeI n) = true := by
  unfold codeI Utf8.valid
  split
  · decide
  · split
    · decide
    · simp; omega
theorem code_mk (n : Int) : (⟨(codeL n).toArray⟩ : ByteArray) = Utf8.encode (codeI n) := ba_mk _

set_option maxHeartbeats 1000000 in
set_option maxRecDepth 100000 in
theorem rcode_c (n : Int) (h0 : -9223372036854775808 ≤ n) (h1 : n ≤ 9223372036854775807) (w : World) :
    Calls Tryd.prog 30 #[.int .i64 n] w fun e w' => e = .returned (.string ⟨(codeL n).toArray⟩) ∧ Below w.heap.size w w' := by
  rw [code_mk]
  obtain ⟨k0, k1, k2⟩ := codeI_ok n
  by_cases c1 : n < 1 ∨ 1114111 < n ∨ (55296 ≤ n ∧ n ≤ 57343)
  · have e : codeI n = 65533 := by unfold codeI; rw [if_pos c1]
    rw [e] at k0 k1 k2 ⊢
    have hc := Lib.hid (fun W => rchar_c 65533 k0 k1 k2 W)
    clear k0 k1 k2 e
    go_enter Tryd.func30, Tryd.ntmps30
    go_wp2_with (go_at_call 55; ((with_reducible refine (hc.out _).mono ?_); rintro e w1 ⟨rfl, hb⟩))
    all_goals first
      | (go_ret; exact ⟨rfl, hb⟩)
      | (exfalso; simp only [beq_iff_eq, beq_eq_false_iff_ne, ne_eq] at *; omega)
  · by_cases c2 : n = 13
    · subst c2
      have e : codeI 13 = 10 := by decide
      rw [e] at k0 k1 k2 ⊢
      have hc := Lib.hid (fun W => rchar_c 10 k0 k1 k2 W)
      clear k0 k1 k2 e c1
      go_enter Tryd.func30, Tryd.ntmps30
      go_wp2_with (go_at_call 55; ((with_reducible refine (hc.out _).mono ?_); rintro e w1 ⟨rfl, hb⟩))
      go_ret
      exact ⟨rfl, hb⟩
    · have e : codeI n = n := by unfold codeI; rw [if_neg c1, if_neg c2]
      rw [e] at k0 k1 k2 ⊢
      have hc := Lib.hid (fun W => rchar_c n k0 k1 k2 W)
      have c3 : 1 ≤ n ∧ n ≤ 1114111 ∧ (n < 55296 ∨ 57343 < n) := by omega
      obtain ⟨c4, c5, c6⟩ := c3
      have c7 : (n == 13) = false := by simpa using c2
      clear k0 k1 k2 e c1 c2
      rcases c6 with c6 | c6
      all_goals
        go_enter Tryd.func30, Tryd.ntmps30
        go_wp2_with (go_at_call 55; ((with_reducible refine (hc.out _).mono ?_); rintro e w1 ⟨rfl, hb⟩))
        all_goals first
          | (go_ret; exact ⟨rfl, hb⟩)
          | (exfalso; simp only [beq_iff_eq, beq_eq_false_iff_ne, ne_eq] at *; omega)
end Go.Proofs.YtmneibbpbibhcaaDoor
