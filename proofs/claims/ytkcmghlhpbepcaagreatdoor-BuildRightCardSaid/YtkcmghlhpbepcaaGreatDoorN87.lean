/- Lemmas and walks, part 7: QSpan, QLower, QTrim, QTokH. -/
import Derived.Test.YtkcmghlhpbepcaaGreatDoorN86
import Derived.Lib.ConvBytes
import Derived.Test.YtkcmghlhpbepcaaGreatDoorN85
import Derived.Laws.OwnMore
set_option linter.unusedVariables false
set_option linter.unusedSimpArgs false

/- Contracts of package token: slashed, letter, the predicates, and span over each of them. Nothing that lay in memory turns. -/
namespace Go.Proofs.YtkcmghlhpbepcaaGreatDoor
open Go.RowKit Go.Proofs
def slashedI (n : Int) : Bool := spaceI n || n == 47 || n == 62
def op1I (n : Int) : Bool := !spaceI n && n != 47
def at1I (n : Int) : Bool := slashedI n || n == 61
def at2I (n : Int) : Bool := !spaceI n
def at4I (n : Int) : Bool := spaceI n || n == 62
def all1I (n : Int) : Bool := n == 60
theorem slashedI_u8 (c : UInt8) : slashedI c.toNat = slashedB c := by
 have := all_u8 (p := fun c => slashedI c.toNat == slashedB c) (by decide +kernel) c
 simpa using this
theorem op1I_u8 (c : UInt8) : op1I c.toNat = (!spaceB c && c != 47) := by
 have := all_u8 (p := fun c => op1I c.toNat == (!spaceB c && c != 47)) (by decide +kernel) c
 simpa using this
theorem at1I_u8 (c : UInt8) : at1I c.toNat = (slashedB c || c == 61) := by
 have := all_u8 (p := fun c => at1I c.toNat == (slashedB c || c == 61)) (by decide +kernel) c
 simpa using this
theorem at2I_u8 (c : UInt8) : at2I c.toNat = (!spaceB c) := by
 have := all_u8 (p := fun c => at2I c.toNat == (!spaceB c)) (by decide +kernel) c
 simpa using this
theorem at4I_u8 (c : UInt8) : at4I c.toNat = (spaceB c || c == 62) := by
 have := all_u8 (p := fun c => at4I c.toNat == (spaceB c || c == 62)) (by decide +kernel) c
 simpa using this
theorem all1I_u8 (c : UInt8) : all1I c.toNat = (c == 60) := by
 have := all_u8 (p := fun c => all1I c.toNat == (c == 60)) (by decide +kernel) c
 simpa using this
theorem slashed_i (n : Int) (w : World) :
 Calls Tryz.prog 154 #[.int .u8 n] w fun e w' => e = .returned (.bool (slashedI n)) ∧ w = w' := by
 have hs := Lib.hid (fun W => space_i n W)
 go_enter Tryz.func154, Tryz.ntmps154
 cases hb : spaceI n <;> rw [hb] at hs
 all_goals
  go_wp2_with (go_at_call 128; ((with_reducible refine (hs.out _).mono ?_); rintro e w1 ⟨rfl, rfl⟩))
  all_goals go_ret
  all_goals (refine ⟨ret_b ?_, rfl⟩; simp_all [slashedI])
theorem op1_i (n : Int) (w : World) :
 Calls Tryz.prog 229 #[.int .u8 n] w fun e w' => e = .returned (.bool (op1I n)) ∧ w = w' := by
 have hs := Lib.hid (fun W => space_i n W)
 go_enter Tryz.func229, Tryz.ntmps229
 cases hb : spaceI n <;> rw [hb] at hs
 all_goals
  go_wp2_with (go_at_call 128; ((with_reducible refine (hs.out _).mono ?_); rintro e w1 ⟨rfl, rfl⟩))
  all_goals go_ret
  all_goals (refine ⟨ret_b ?_, rfl⟩; simp_all [op1I])
theorem at1_i (n : Int) (w : World) :
 Calls Tryz.prog 241 #[.int .u8 n] w fun e w' => e = .returned (.bool (at1I n)) ∧ w = w' := by
 have hs := Lib.hid (fun W => slashed_i n W)
 go_enter Tryz.func241, Tryz.ntmps241
 cases hb : slashedI n <;> rw [hb] at hs
 all_goals
  go_wp2_with (go_at_call 154; ((with_reducible refine (hs.out _).mono ?_); rintro e w1 ⟨rfl, rfl⟩))
  all_goals go_ret
  all_goals (refine ⟨ret_b ?_, rfl⟩; simp_all [at1I])
theorem at2_i (n : Int) (w : World) :
 Calls Tryz.prog 242 #[.int .u8 n] w fun e w' => e = .returned (.bool (at2I n)) ∧ w = w' := by
 have hs := Lib.hid (fun W => space_i n W)
 go_enter Tryz.func242, Tryz.ntmps242
 cases hb : spaceI n <;> rw [hb] at hs
 all_goals
  go_wp2_with (go_at_call 128; ((with_reducible refine (hs.out _).mono ?_); rintro e w1 ⟨rfl, rfl⟩))
  all_goals go_ret
  all_goals (refine ⟨ret_b ?_, rfl⟩; simp_all [at2I])
theorem at3_i (n : Int) (w : World) :
 Calls Tryz.prog 243 #[.int .u8 n] w fun e w' => e = .returned (.bool (at2I n)) ∧ w = w' := by
 have hs := Lib.hid (fun W => space_i n W)
 go_enter Tryz.func243, Tryz.ntmps243
 cases hb : spaceI n <;> rw [hb] at hs
 all_goals
  go_wp2_with (go_at_call 128; ((with_reducible refine (hs.out _).mono ?_); rintro e w1 ⟨rfl, rfl⟩))
  all_goals go_ret
  all_goals (refine ⟨ret_b ?_, rfl⟩; simp_all [at2I])
theorem at4_i (n : Int) (w : World) :
 Calls Tryz.prog 244 #[.int .u8 n] w fun e w' => e = .returned (.bool (at4I n)) ∧ w = w' := by
 have hs := Lib.hid (fun W => space_i n W)
 go_enter Tryz.func244, Tryz.ntmps244
 cases hb : spaceI n <;> rw [hb] at hs
 all_goals
  go_wp2_with (go_at_call 128; ((with_reducible refine (hs.out _).mono ?_); rintro e w1 ⟨rfl, rfl⟩))
  all_goals go_ret
  all_goals (refine ⟨ret_b ?_, rfl⟩; simp_all [at4I])
theorem all1_i (n : Int) (w : World) :
 Calls Tryz.prog 157 #[.int .u8 n] w fun e w' => e = .returned (.bool (all1I n)) ∧ w = w' := by
 go_enter Tryz.func157, Tryz.ntmps157
 go_wp2
 go_ret
 exact ⟨rfl, rfl⟩
theorem fi_at {p : UInt8 → Bool} {l : Txt} {k : Nat} (hk : k < l.length) (hno : ∀ j (hj : j < l.length), j < k → p l[j] = false) (hp : p l[k] = true) : l.findIdx p = k := by
 rw [List.findIdx_eq hk]
 exact ⟨hp, fun j hj => hno j (by omega) hj⟩
theorem fi_end {p : UInt8 → Bool} {l : Txt} (hno : ∀ j (hj : j < l.length), p l[j] = false) : l.findIdx p = l.length := by
 rw [List.findIdx_eq_length]
 intro x hx
 obtain ⟨j, hj, rfl⟩ := List.getElem_of_mem hx
 exact hno j hj
set_option maxHeartbeats 1000000 in
set_option maxRecDepth 100000 in
theorem span_slashed (l : Txt) (hl : l.length ≤ 1000000000) (w : World) :
 Calls Tryz.prog 156 #[.string ⟨l.toArray⟩, .func (.func 154) #[] #[]] w fun e w' => e = .returned (.int .i64 (l.findIdx slashedB : Nat)) ∧ w = w' := by
 go_enter Tryz.func156, Tryz.ntmps156
 go_wp2
 go_loop [5, 8] (fun _ v => ∃ (k : Nat), v = .int .i64 k ∧ k ≤ l.length ∧ Hid (∀ j (hj : j < l.length), j < k → slashedB l[j] = false)) (fun _ v => l.length - (intOf v).toNat)
 case atStart => exact ⟨0, rfl, by omega, fun j _ h => by omega⟩
 case round =>
  obtain ⟨k, rfl, hk, hno⟩ := hrel
  by_cases hlt : k < l.length
  ·obtain ⟨n, hn⟩ : ∃ n, (l[k].toNat : Int) = n := ⟨_, rfl⟩
   have hu := slashedI_u8 l[k]
   rw [hn] at hu
   have hc := Lib.hid (fun W => slashed_i n W)
   cases hb : slashedI n with
   | true =>
     have hf := Lib.hid (fi_at (p := slashedB) hlt hno.out (hu.symm.trans hb))
     rw [hb] at hc
     clear hu hb
     go_wp2_with (go_at_call 154; ((with_reducible refine (hc.out _).mono ?_); rintro e w1 ⟨rfl, rfl⟩))
     go_ret
     rw [hf.out]
     exact ⟨rfl, rfl⟩
   | false =>
     have hno2 := Lib.hid (show ∀ j (hj : j < l.length), j < k + 1 → slashedB l[j] = false by
      intro j hj hjk
      by_cases e : j = k
      ·subst e; exact hu.symm.trans hb
      ·exact hno.out j hj (by omega))
     rw [hb] at hc
     clear hu hb hno
     go_wp2_with (go_at_call 154; ((with_reducible refine (hc.out _).mono ?_); rintro e w1 ⟨rfl, rfl⟩))
     refine ⟨⟨k + 1, rfl, by omega, hno2⟩, by simp [intOf]; omega⟩
  ·have hf := Lib.hid (fi_end (p := slashedB) (l := l) fun j hj => hno.out j hj (by omega))
   go_wp2
   go_ret
   rw [hf.out]
   exact ⟨rfl, rfl⟩
set_option maxHeartbeats 1000000 in
set_option maxRecDepth 100000 in
theorem span_op1 (l : Txt) (hl : l.length ≤ 1000000000) (w : World) :
 Calls Tryz.prog 156 #[.string ⟨l.toArray⟩, .func (.func 229) #[] #[]] w fun e w' => e = .returned (.int .i64 (l.findIdx (fun c => !spaceB c && c != 47) : Nat)) ∧ w = w' := by
 go_enter Tryz.func156, Tryz.ntmps156
 go_wp2
 go_loop [5, 8] (fun _ v => ∃ (k : Nat), v = .int .i64 k ∧ k ≤ l.length ∧ Hid (∀ j (hj : j < l.length), j < k → (fun c => !spaceB c && c != 47) l[j] = false)) (fun _ v => l.length - (intOf v).toNat)
 case atStart => exact ⟨0, rfl, by omega, fun j _ h => by omega⟩
 case round =>
  obtain ⟨k, rfl, hk, hno⟩ := hrel
  by_cases hlt : k < l.length
  ·obtain ⟨n, hn⟩ : ∃ n, (l[k].toNat : Int) = n := ⟨_, rfl⟩
   have hu := op1I_u8 l[k]
   rw [hn] at hu
   have hc := Lib.hid (fun W => op1_i n W)
   cases hb : op1I n with
   | true =>
     have hf := Lib.hid (fi_at (p := (fun c => !spaceB c && c != 47)) hlt hno.out (hu.symm.trans hb))
     rw [hb] at hc
     clear hu hb
     go_wp2_with (go_at_call 229; ((with_reducible refine (hc.out _).mono ?_); rintro e w1 ⟨rfl, rfl⟩))
     go_ret
     rw [hf.out]
     exact ⟨rfl, rfl⟩
   | false =>
     have hno2 := Lib.hid (show ∀ j (hj : j < l.length), j < k + 1 → (fun c => !spaceB c && c != 47) l[j] = false by
      intro j hj hjk
      by_cases e : j = k
      ·subst e; exact hu.symm.trans hb
      ·exact hno.out j hj (by omega))
     rw [hb] at hc
     clear hu hb hno
     go_wp2_with (go_at_call 229; ((with_reducible refine (hc.out _).mono ?_); rintro e w1 ⟨rfl, rfl⟩))
     refine ⟨⟨k + 1, rfl, by omega, hno2⟩, by simp [intOf]; omega⟩
  ·have hf := Lib.hid (fi_end (p := (fun c => !spaceB c && c != 47)) (l := l) fun j hj => hno.out j hj (by omega))
   go_wp2
   go_ret
   rw [hf.out]
   exact ⟨rfl, rfl⟩
set_option maxHeartbeats 1000000 in
set_option maxRecDepth 100000 in
theorem span_at1 (l : Txt) (hl : l.length ≤ 1000000000) (w : World) :
 Calls Tryz.prog 156 #[.string ⟨l.toArray⟩, .func (.func 241) #[] #[]] w fun e w' => e = .returned (.int .i64 (l.findIdx (fun c => slashedB c || c == 61) : Nat)) ∧ w = w' := by
 go_enter Tryz.func156, Tryz.ntmps156
 go_wp2
 go_loop [5, 8] (fun _ v => ∃ (k : Nat), v = .int .i64 k ∧ k ≤ l.length ∧ Hid (∀ j (hj : j < l.length), j < k → (fun c => slashedB c || c == 61) l[j] = false)) (fun _ v => l.length - (intOf v).toNat)
 case atStart => exact ⟨0, rfl, by omega, fun j _ h => by omega⟩
 case round =>
  obtain ⟨k, rfl, hk, hno⟩ := hrel
  by_cases hlt : k < l.length
  ·obtain ⟨n, hn⟩ : ∃ n, (l[k].toNat : Int) = n := ⟨_, rfl⟩
   have hu := at1I_u8 l[k]
   rw [hn] at hu
   have hc := Lib.hid (fun W => at1_i n W)
   cases hb : at1I n with
   | true =>
     have hf := Lib.hid (fi_at (p := (fun c => slashedB c || c == 61)) hlt hno.out (hu.symm.trans hb))
     rw [hb] at hc
     clear hu hb
     go_wp2_with (go_at_call 241; ((with_reducible refine (hc.out _).mono ?_); rintro e w1 ⟨rfl, rfl⟩))
     go_ret
     rw [hf.out]
     exact ⟨rfl, rfl⟩
   | false =>
     have hno2 := Lib.hid (show ∀ j (hj : j < l.length), j < k + 1 → (fun c => slashedB c || c == 61) l[j] = false by
      intro j hj hjk
      by_cases e : j = k
      ·subst e; exact hu.symm.trans hb
      ·exact hno.out j hj (by omega))
     rw [hb] at hc
     clear hu hb hno
     go_wp2_with (go_at_call 241; ((with_reducible refine (hc.out _).mono ?_); rintro e w1 ⟨rfl, rfl⟩))
     refine ⟨⟨k + 1, rfl, by omega, hno2⟩, by simp [intOf]; omega⟩
  ·have hf := Lib.hid (fi_end (p := (fun c => slashedB c || c == 61)) (l := l) fun j hj => hno.out j hj (by omega))
   go_wp2
   go_ret
   rw [hf.out]
   exact ⟨rfl, rfl⟩
set_option maxHeartbeats 1000000 in
set_option maxRecDepth 100000 in
theorem span_at2 (l : Txt) (hl : l.length ≤ 1000000000) (w : World) :
 Calls Tryz.prog 156 #[.string ⟨l.toArray⟩, .func (.func 242) #[] #[]] w fun e w' => e = .returned (.int .i64 (l.findIdx (fun c => !spaceB c) : Nat)) ∧ w = w' := by
 go_enter Tryz.func156, Tryz.ntmps156
 go_wp2
 go_loop [5, 8] (fun _ v => ∃ (k : Nat), v = .int .i64 k ∧ k ≤ l.length ∧ Hid (∀ j (hj : j < l.length), j < k → (fun c => !spaceB c) l[j] = false)) (fun _ v => l.length - (intOf v).toNat)
 case atStart => exact ⟨0, rfl, by omega, fun j _ h => by omega⟩
 case round =>
  obtain ⟨k, rfl, hk, hno⟩ := hrel
  by_cases hlt : k < l.length
  ·obtain ⟨n, hn⟩ : ∃ n, (l[k].toNat : Int) = n := ⟨_, rfl⟩
   have hu := at2I_u8 l[k]
   rw [hn] at hu
   have hc := Lib.hid (fun W => at2_i n W)
   cases hb : at2I n with
   | true =>
     have hf := Lib.hid (fi_at (p := (fun c => !spaceB c)) hlt hno.out (hu.symm.trans hb))
     rw [hb] at hc
     clear hu hb
     go_wp2_with (go_at_call 242; ((with_reducible refine (hc.out _).mono ?_); rintro e w1 ⟨rfl, rfl⟩))
     go_ret
     rw [hf.out]
     exact ⟨rfl, rfl⟩
   | false =>
     have hno2 := Lib.hid (show ∀ j (hj : j < l.length), j < k + 1 → (fun c => !spaceB c) l[j] = false by
      intro j hj hjk
      by_cases e : j = k
      ·subst e; exact hu.symm.trans hb
      ·exact hno.out j hj (by omega))
     rw [hb] at hc
     clear hu hb hno
     go_wp2_with (go_at_call 242; ((with_reducible refine (hc.out _).mono ?_); rintro e w1 ⟨rfl, rfl⟩))
     refine ⟨⟨k + 1, rfl, by omega, hno2⟩, by simp [intOf]; omega⟩
  ·have hf := Lib.hid (fi_end (p := (fun c => !spaceB c)) (l := l) fun j hj => hno.out j hj (by omega))
   go_wp2
   go_ret
   rw [hf.out]
   exact ⟨rfl, rfl⟩
set_option maxHeartbeats 1000000 in
set_option maxRecDepth 100000 in
theorem span_at3 (l : Txt) (hl : l.length ≤ 1000000000) (w : World) :
 Calls Tryz.prog 156 #[.string ⟨l.toArray⟩, .func (.func 243) #[] #[]] w fun e w' => e = .returned (.int .i64 (l.findIdx (fun c => !spaceB c) : Nat)) ∧ w = w' := by
 go_enter Tryz.func156, Tryz.ntmps156
 go_wp2
 go_loop [5, 8] (fun _ v => ∃ (k : Nat), v = .int .i64 k ∧ k ≤ l.length ∧ Hid (∀ j (hj : j < l.length), j < k → (fun c => !spaceB c) l[j] = false)) (fun _ v => l.length - (intOf v).toNat)
 case atStart => exact ⟨0, rfl, by omega, fun j _ h => by omega⟩
 case round =>
  obtain ⟨k, rfl, hk, hno⟩ := hrel
  by_cases hlt : k < l.length
  ·obtain ⟨n, hn⟩ : ∃ n, (l[k].toNat : Int) = n := ⟨_, rfl⟩
   have hu := at2I_u8 l[k]
   rw [hn] at hu
   have hc := Lib.hid (fun W => at3_i n W)
   cases hb : at2I n with
   | true =>
     have hf := Lib.hid (fi_at (p := (fun c => !spaceB c)) hlt hno.out (hu.symm.trans hb))
     rw [hb] at hc
     clear hu hb
     go_wp2_with (go_at_call 243; ((with_reducible refine (hc.out _).mono ?_); rintro e w1 ⟨rfl, rfl⟩))
     go_ret
     rw [hf.out]
     exact ⟨rfl, rfl⟩
   | false =>
     have hno2 := Lib.hid (show ∀ j (hj : j < l.length), j < k + 1 → (fun c => !spaceB c) l[j] = false by
      intro j hj hjk
      by_cases e : j = k
      ·subst e; exact hu.symm.trans hb
      ·exact hno.out j hj (by omega))
     rw [hb] at hc
     clear hu hb hno
     go_wp2_with (go_at_call 243; ((with_reducible refine (hc.out _).mono ?_); rintro e w1 ⟨rfl, rfl⟩))
     refine ⟨⟨k + 1, rfl, by omega, hno2⟩, by simp [intOf]; omega⟩
  ·have hf := Lib.hid (fi_end (p := (fun c => !spaceB c)) (l := l) fun j hj => hno.out j hj (by omega))
   go_wp2
   go_ret
   rw [hf.out]
   exact ⟨rfl, rfl⟩
set_option maxHeartbeats 1000000 in
set_option maxRecDepth 100000 in
theorem span_at4 (l : Txt) (hl : l.length ≤ 1000000000) (w : World) :
 Calls Tryz.prog 156 #[.string ⟨l.toArray⟩, .func (.func 244) #[] #[]] w fun e w' => e = .returned (.int .i64 (l.findIdx (fun c => spaceB c || c == 62) : Nat)) ∧ w = w' := by
 go_enter Tryz.func156, Tryz.ntmps156
 go_wp2
 go_loop [5, 8] (fun _ v => ∃ (k : Nat), v = .int .i64 k ∧ k ≤ l.length ∧ Hid (∀ j (hj : j < l.length), j < k → (fun c => spaceB c || c == 62) l[j] = false)) (fun _ v => l.length - (intOf v).toNat)
 case atStart => exact ⟨0, rfl, by omega, fun j _ h => by omega⟩
 case round =>
  obtain ⟨k, rfl, hk, hno⟩ := hrel
  by_cases hlt : k < l.length
  ·obtain ⟨n, hn⟩ : ∃ n, (l[k].toNat : Int) = n := ⟨_, rfl⟩
   have hu := at4I_u8 l[k]
   rw [hn] at hu
   have hc := Lib.hid (fun W => at4_i n W)
   cases hb : at4I n with
   | true =>
     have hf := Lib.hid (fi_at (p := (fun c => spaceB c || c == 62)) hlt hno.out (hu.symm.trans hb))
     rw [hb] at hc
     clear hu hb
     go_wp2_with (go_at_call 244; ((with_reducible refine (hc.out _).mono ?_); rintro e w1 ⟨rfl, rfl⟩))
     go_ret
     rw [hf.out]
     exact ⟨rfl, rfl⟩
   | false =>
     have hno2 := Lib.hid (show ∀ j (hj : j < l.length), j < k + 1 → (fun c => spaceB c || c == 62) l[j] = false by
      intro j hj hjk
      by_cases e : j = k
      ·subst e; exact hu.symm.trans hb
      ·exact hno.out j hj (by omega))
     rw [hb] at hc
     clear hu hb hno
     go_wp2_with (go_at_call 244; ((with_reducible refine (hc.out _).mono ?_); rintro e w1 ⟨rfl, rfl⟩))
     refine ⟨⟨k + 1, rfl, by omega, hno2⟩, by simp [intOf]; omega⟩
  ·have hf := Lib.hid (fi_end (p := (fun c => spaceB c || c == 62)) (l := l) fun j hj => hno.out j hj (by omega))
   go_wp2
   go_ret
   rw [hf.out]
   exact ⟨rfl, rfl⟩
set_option maxHeartbeats 1000000 in
set_option maxRecDepth 100000 in
theorem span_all1 (l : Txt) (hl : l.length ≤ 1000000000) (w : World) :
 Calls Tryz.prog 156 #[.string ⟨l.toArray⟩, .func (.func 157) #[] #[]] w fun e w' => e = .returned (.int .i64 (l.findIdx (fun c => c == 60) : Nat)) ∧ w = w' := by
 go_enter Tryz.func156, Tryz.ntmps156
 go_wp2
 go_loop [5, 8] (fun _ v => ∃ (k : Nat), v = .int .i64 k ∧ k ≤ l.length ∧ Hid (∀ j (hj : j < l.length), j < k → (fun c => c == 60) l[j] = false)) (fun _ v => l.length - (intOf v).toNat)
 case atStart => exact ⟨0, rfl, by omega, fun j _ h => by omega⟩
 case round =>
  obtain ⟨k, rfl, hk, hno⟩ := hrel
  by_cases hlt : k < l.length
  ·obtain ⟨n, hn⟩ : ∃ n, (l[k].toNat : Int) = n := ⟨_, rfl⟩
   have hu := all1I_u8 l[k]
   rw [hn] at hu
   have hc := Lib.hid (fun W => all1_i n W)
   cases hb : all1I n with
   | true =>
     have hf := Lib.hid (fi_at (p := (fun c => c == 60)) hlt hno.out (hu.symm.trans hb))
     rw [hb] at hc
     clear hu hb
     go_wp2_with (go_at_call 157; ((with_reducible refine (hc.out _).mono ?_); rintro e w1 ⟨rfl, rfl⟩))
     go_ret
     rw [hf.out]
     exact ⟨rfl, rfl⟩
   | false =>
     have hno2 := Lib.hid (show ∀ j (hj : j < l.length), j < k + 1 → (fun c => c == 60) l[j] = false by
      intro j hj hjk
      by_cases e : j = k
      ·subst e; exact hu.symm.trans hb
      ·exact hno.out j hj (by omega))
     rw [hb] at hc
     clear hu hb hno
     go_wp2_with (go_at_call 157; ((with_reducible refine (hc.out _).mono ?_); rintro e w1 ⟨rfl, rfl⟩))
     refine ⟨⟨k + 1, rfl, by omega, hno2⟩, by simp [intOf]; omega⟩
  ·have hf := Lib.hid (fi_end (p := (fun c => c == 60)) (l := l) fun j hj => hno.out j hj (by omega))
   go_wp2
   go_ret
   rw [hf.out]
   exact ⟨rfl, rfl⟩
end Go.Proofs.YtkcmghlhpbepcaaGreatDoor

/- Contracts of fold.Lower, Same, Trim and token.letter. Nothing that lay in memory turns. -/
namespace Go.Proofs.YtkcmghlhpbepcaaGreatDoor
open Go.RowKit Go.Proofs
def lowI (n : Int) : Int := if 65 ≤ n ∧ n ≤ 90 then n + 32 else n
theorem lowI_u8 (c : UInt8) : lowI c.toNat = (lowB c).toNat := by
 have := all_u8 (p := fun c => decide (lowI c.toNat = (lowB c).toNat)) (by decide +kernel) c
 simpa using this
def BRow (w : World) (g n : Nat) (f : Nat → Int) : Prop := ∀ j, j < n → w.cell? ⟨g, j, none⟩ = some (.int .u8 (f j)) ∧ w.frozen? ⟨g, j, none⟩ = false
def lowF (l : Txt) (k j : Nat) : Int := if j < k then lowI (l.getD j 0).toNat else (l.getD j 0).toNat
theorem BRow.conv (w : World) (l : Txt) : BRow (Lib.bytesWorld w 5 ⟨l.toArray⟩) w.heap.size l.length (lowF l 0) := by
 intro j hj
 refine ⟨?_, ?_⟩
 ·rw [Lib.bytesWorld_cell _ _ _ _ (by rw [mk_size]; exact hj), mk_data_list]
  rfl
 ·unfold World.frozen?
  rw [Lib.bytesWorld_at_new]
  have : l.length ≤ (Lib.bytesCells w 5 ⟨l.toArray⟩).size := by simp [Lib.bytesCells]
  simp
  omega
theorem below_bytes (w : World) (l : Txt) : Below w.heap.size w (Lib.bytesWorld w 5 ⟨l.toArray⟩) :=
 ⟨rfl, rfl, rfl, by rw [Lib.bytesWorld_size]; omega, fun i hi => Lib.bytesWorld_at_old w _ _ i hi⟩
theorem BRow.set {w : World} {g n : Nat} {f f' : Nat → Int} (h : BRow w g n f) (k : Nat) (v : Int) (hk : f' k = v) (ho : ∀ j, j ≠ k → f' j = f j) : BRow (w.setCell ⟨g, k, none⟩ (.int .u8 v)) g n f' := by
 intro j hj
 obtain ⟨h1, h2⟩ := h j hj
 refine ⟨?_, by rw [World.frozen?_setCell]; exact h2⟩
 by_cases e : j = k
 ·subst e
  rw [World.cell?_setCell_same _ _ _ h1, hk]
 ·rw [World.cell?_setCell_other _ _ _ _ (by intro e'; injection e' with _ e''; omega), ho j e]
  exact h1
theorem BRow.same {w : World} {g n : Nat} {f f' : Nat → Int} (h : BRow w g n f) (ho : ∀ j, f' j = f j) : BRow w g n f' := fun j hj => by rw [ho j]; exact h j hj
theorem lowF_other (l : Txt) (k j : Nat) (h : j ≠ k) : lowF l (k + 1) j = lowF l k j := by
 unfold lowF
 by_cases e : j < k
 ·rw [if_pos e, if_pos (by omega)]
 ·rw [if_neg e, if_neg (by omega)]
theorem lowF_at (l : Txt) (k : Nat) : lowF l (k + 1) k = lowI (l.getD k 0).toNat := by
 unfold lowF
 rw [if_pos (by omega)]
theorem lowF_here (l : Txt) (k : Nat) : lowF l k k = (l.getD k 0).toNat := by
 unfold lowF
 rw [if_neg (by omega)]
theorem low_conv {w : World} {g cap k : Nat} {l : Txt} (hk : l.length ≤ k) (h : BRow w g l.length (lowF l k)) : (convert 43 9 (.slice (some ⟨g, 0, none⟩) l.length cap)).run Tryz.prog w = .ok (.string ⟨(lowL l).toArray⟩) w := by
 have hl : (lowL l).length = l.length := by simp [lowL]
 rw [← hl]
 refine run_convert_bytes_back (P := Tryz.prog) w 43 9 5 ⟨g, 0, none⟩ cap (lowL l) Tryz.underlying43 Tryz.underlying5 Tryz.underlying9 (fun j hj => ?_)
 have ha : (⟨g, 0, none⟩ : Addr).add j = ⟨g, j, none⟩ := by unfold Addr.add; split <;> simp_all
 have hj' : j < l.length := by rw [← hl]; exact hj
 rw [ha, (h j hj').1]
 simp [lowF, lowL, show j < k by omega, List.getD, hj', lowI_u8]
set_option maxHeartbeats 1000000 in
set_option maxRecDepth 100000 in
theorem flower_c (l : Txt) (hl : l.length ≤ 1000000000) (w : World) :
 Calls Tryz.prog 187 #[.string ⟨l.toArray⟩] w fun e w' => e = .returned (.string ⟨(lowL l).toArray⟩) ∧ Below w.heap.size w w' := by
 have hcv := Lib.run_convert_string_bytes (P := Tryz.prog) w 9 43 5 ⟨l.toArray⟩ Tryz.underlying9 Tryz.underlying43 Tryz.underlying5
 have hrow := BRow.conv w l
 have hbel := below_bytes w l
 rw [mk_size] at hcv
 generalize Lib.bytesWorld w 5 ⟨l.toArray⟩ = w1 at *
 generalize grownCap w l.length 0 5 = cap at *
 go_enter Tryz.func187, Tryz.ntmps187
 go_wp2
 clear hcv
 go_loopw [4, 5, 10] (fun _ _ vk wr => ∃ (k : Nat), vk = .int .i64 k ∧ k ≤ l.length ∧ BRow wr w.heap.size l.length (lowF l k) ∧ Below w.heap.size w wr) (fun _ _ vk _ => l.length - (intOf vk).toNat)
 case atStart => exact ⟨0, rfl, by omega, hrow, hbel⟩
 case round =>
  obtain ⟨k, rfl, hk, hI, hbw⟩ := hrel
  by_cases hlt : k < l.length
  ·obtain ⟨c1, c2⟩ := hI k hlt
   have hat := lowF_at l k
   have hother := lowF_other l k
   rw [lowF_here] at c1
   obtain ⟨n, hn⟩ : ∃ n, ((l.getD k 0).toNat : Int) = n := ⟨_, rfl⟩
   rw [hn] at hat c1
   have hn0 : 0 ≤ n := by omega
   have hn1 : n ≤ 255 := by have := (l.getD k 0).toNat_lt; omega
   have hh := lowF_here l k
   rw [hn] at hh
   clear hn
   have hst := Lib.hid (fun (v : Int) (hv : lowI n = v) => hI.set (f' := lowF l (k + 1)) k v (by rw [hat]; exact hv) hother)
   have hsame := Lib.hid (fun (hv : lowI n = n) => hI.same (f' := lowF l (k + 1)) (fun j => by
    by_cases e : j = k
    ·subst e; rw [hat, hh, hv]
    ·exact hother j e))
   clear hat hother hh
   go_wp2
   all_goals (try simp only [decide_eq_true_eq, decide_eq_false_iff_not] at *)
   all_goals first
    | (refine ⟨⟨k + 1, rfl, by omega, hst.out _ (by unfold lowI; rw [if_pos ⟨by omega, by omega⟩]; omega), hbw.setCell (p := ⟨w.heap.size, k, none⟩) (Nat.le_refl _) _⟩, by simp [intOf]; omega⟩)
    | (refine ⟨⟨k + 1, rfl, by omega, hsame.out (by unfold lowI; rw [if_neg (by omega)]), hbw⟩, by simp [intOf]; omega⟩)
  ·have hcv := low_conv (cap := cap) (by omega) hI
   go_wp2
   go_ret
   exact ⟨rfl, hbw⟩
end Go.Proofs.YtkcmghlhpbepcaaGreatDoor

/- Contracts of fold.Same, Trim and token.letter. Nothing that lay in memory turns. -/
namespace Go.Proofs.YtkcmghlhpbepcaaGreatDoor
open Go.RowKit Go.Proofs
def sameB (a b : Txt) : Bool := lowL a == lowL b
set_option maxRecDepth 100000 in
theorem fsame_c (a b : Txt) (ha : a.length ≤ 1000000000) (hb : b.length ≤ 1000000000) (w : World) :
 Calls Tryz.prog 153 #[.string ⟨a.toArray⟩, .string ⟨b.toArray⟩] w fun e w' => e = .returned (.bool (sameB a b)) ∧ Below w.heap.size w w' := by
 have h1 := Lib.hid (fun W => flower_c a ha W)
 have h2 := Lib.hid (fun W => flower_c b hb W)
 have hs : (lowL a == lowL b) = sameB a b := rfl
 generalize sameB a b = r at *
 generalize lowL a = la at *
 generalize lowL b = lb at *
 have hB := Below.refl w.heap.size w
 go_enter Tryz.func153, Tryz.ntmps153
 go_wp2_with (go_at_call 187; first
  | ((with_reducible refine (h1.out _).mono ?_); rintro e w1 ⟨rfl, hb⟩; replace hB := below_seq hB hb; clear hb)
  | ((with_reducible refine (h2.out _).mono ?_); rintro e w1 ⟨rfl, hb⟩; replace hB := below_seq hB hb; clear hb))
 go_ret
 exact ⟨rfl, hB⟩
set_option maxRecDepth 100000 in
theorem letter_c (l : Txt) (w : World) :
 Calls Tryz.prog 190 #[.string ⟨l.toArray⟩] w fun e w' => e = .returned (.bool (letterL l)) ∧ w = w' := by
 cases l with
 | nil =>
   go_enter Tryz.func190, Tryz.ntmps190
   go_wp2
   go_ret
   exact ⟨rfl, rfl⟩
 | cons c t =>
   have h1 := Lib.hid (fun n (hn : (c.toNat : Int) = n) W => letter_i n W)
   have hu : letterI c.toNat = letterL (c :: t) := letterI_u8 c
   obtain ⟨n, hn⟩ : ∃ n, (c.toNat : Int) = n := ⟨_, rfl⟩
   rw [hn] at hu
   generalize letterL (c :: t) = r at *
   go_enter Tryz.func190, Tryz.ntmps190
   go_wp2_with (go_at_call 80; ((with_reducible refine (letter_i _ _).mono ?_); rintro e w1 ⟨rfl, rfl⟩))
   go_ret
   exact ⟨rfl, rfl⟩
theorem trim_l0 {c : UInt8} {t : Txt} (h : spaceB c = false) : (c :: t).dropWhile spaceB = c :: t := by rw [List.dropWhile_cons, if_neg (by rw [h]; simp)]
theorem trim_l1 {c : UInt8} {t : Txt} (h : spaceB c = true) : (c :: t).dropWhile spaceB = t.dropWhile spaceB := by rw [List.dropWhile_cons, if_pos h]
theorem trim_start {s l : Txt} (h : s = l.dropWhile spaceB) : ((s.reverse).dropWhile spaceB).reverse = trimL l := by rw [h]; rfl
theorem tail_string {c : UInt8} {t : Txt} : (⟨(c :: t).toArray⟩ : ByteArray).extract 1 (t.length + 1) = ⟨t.toArray⟩ := by
 have := ext_end (c :: t) 1
 simpa using this
set_option maxHeartbeats 1000000 in
set_option maxRecDepth 100000 in
theorem ftrim_c (l : Txt) (hl : l.length ≤ 1000000000) (w : World) :
 Calls Tryz.prog 215 #[.string ⟨l.toArray⟩] w fun e w' => e = .returned (.string ⟨(trimL l).toArray⟩) ∧ w = w' := by
 go_enter Tryz.func215, Tryz.ntmps215
 go_wp2
 go_loop [0] (fun v => ∃ (s : Txt), v = .string ⟨s.toArray⟩ ∧ s.length ≤ l.length ∧ Hid (s.dropWhile spaceB = l.dropWhile spaceB)) (fun v => strLen v)
 case atStart => exact ⟨l, rfl, by omega, rfl⟩
 case round =>
  obtain ⟨s, rfl, hk, hdec⟩ := hrel
  cases s with
  | nil =>
    have hdec := Lib.hid (show ([] : Txt) = l.dropWhile spaceB from hdec.out)
    rename_i hdec0
    clear hdec0
    go_wp2_with fail
    go_loop [0] (fun v => ∃ (r : Txt), v = .string ⟨r.reverse.toArray⟩ ∧ r.length ≤ l.length ∧ Hid ((r.dropWhile spaceB).reverse = trimL l)) (fun v => strLen v)
    case atStart => exact ⟨[].reverse, by simp, by simp, trim_start hdec.out⟩
    case round =>
     obtain ⟨r, rfl, hk, hdec2⟩ := hrel
     cases r with
     | nil =>
       have he := Lib.hid (show trimL l = [] from hdec2.out.symm)
       go_wp2
       go_ret
       rw [he.out]
       exact ⟨rfl, rfl⟩
     | cons c t =>
       obtain ⟨n, hn⟩ : ∃ n, (c.toNat : Int) = n := ⟨_, rfl⟩
       have hu := spaceI_u8 c
       rw [hn] at hu
       obtain ⟨q, hq⟩ : ∃ q, (c :: t).reverse = q := ⟨_, rfl⟩
       have hql : q.length = t.length + 1 := by rw [← hq]; simp
       have hx1 : (⟨q.toArray⟩ : ByteArray).extract 0 t.length = ⟨t.reverse.toArray⟩ := by
        rw [Lib.extract_eq, mk_data_list, ← hq]
        simp
       have hget : ∀ (h : t.length < q.length), q[t.length] = c := by
        intro h
        subst hq
        simp
       rw [hq]
       have ht1 : t.length ≤ 1000000000 := by simp only [List.length_cons] at hk; omega
       have hql0 : (0 : Int) < q.length := by omega
       have hsub : (q.length : Int) - 1 = t.length := by omega
       have hne : q ≠ [] := by rw [← hq]; simp
       have hbe : (q == []) = false := by simpa using hne
       cases hb : spaceI n with
       | true =>
         rw [hb] at hu
         have hd := Lib.hid (show (t.dropWhile spaceB).reverse = trimL l by rw [← trim_l1 hu.symm]; exact hdec2.out)
         have hc := Lib.hid (fun W => space_i n W)
         rw [hb] at hc
         clear hu hb hdec2 hq
         go_wp2_with (go_at_call 128; ((with_reducible refine (hc.out _).mono ?_); rintro e w1 ⟨rfl, rfl⟩))
         exact ⟨⟨t, rfl, by simp only [List.length_cons] at hk; omega, hd⟩, by rw [strLen_mk, strLen_mk, List.length_reverse]; omega⟩
       | false =>
         rw [hb] at hu
         have hd := Lib.hid (show q = trimL l by rw [← hq, ← hdec2.out, trim_l0 hu.symm])
         have hc := Lib.hid (fun W => space_i n W)
         rw [hb] at hc
         clear hu hb hdec2 hq
         go_wp2_with (go_at_call 128; ((with_reducible refine (hc.out _).mono ?_); rintro e w1 ⟨rfl, rfl⟩))
         go_ret
         rw [← hd.out]
         exact ⟨rfl, rfl⟩
  | cons c t =>
    obtain ⟨n, hn⟩ : ∃ n, (c.toNat : Int) = n := ⟨_, rfl⟩
    have hu := spaceI_u8 c
    rw [hn] at hu
    cases hb : spaceI n with
    | true =>
      rw [hb] at hu
      have hd := Lib.hid (show t.dropWhile spaceB = l.dropWhile spaceB by rw [← trim_l1 hu.symm]; exact hdec.out)
      have hc := Lib.hid (fun W => space_i n W)
      rw [hb] at hc
      clear hu hb hdec
      go_wp2_with (go_at_call 128; ((with_reducible refine (hc.out _).mono ?_); rintro e w1 ⟨rfl, rfl⟩))
      refine ⟨⟨t, by rw [tail_string], by simp only [List.length_cons] at hk; omega, hd⟩, by rw [tail_string, strLen_mk, strLen_mk]; simp⟩
    | false =>
      rw [hb] at hu
      have hdec := Lib.hid (show c :: t = l.dropWhile spaceB by rw [← trim_l0 hu.symm]; exact hdec.out)
      rename_i hdec0
      have hc := Lib.hid (fun W => space_i n W)
      rw [hb] at hc
      clear hu hb hdec0
      go_wp2_with (go_at_call 128; ((with_reducible refine (hc.out _).mono ?_); rintro e w1 ⟨rfl, rfl⟩))
      go_loop [0] (fun v => ∃ (r : Txt), v = .string ⟨r.reverse.toArray⟩ ∧ r.length ≤ l.length ∧ Hid ((r.dropWhile spaceB).reverse = trimL l)) (fun v => strLen v)
      case atStart => exact ⟨(c :: t).reverse, by simp, by simpa using hk, trim_start hdec.out⟩
      case round =>
       obtain ⟨r, rfl, hk, hdec2⟩ := hrel
       cases r with
       | nil =>
         have he := Lib.hid (show trimL l = [] from hdec2.out.symm)
         go_wp2
         go_ret
         rw [he.out]
         exact ⟨rfl, rfl⟩
       | cons c t =>
         obtain ⟨n, hn⟩ : ∃ n, (c.toNat : Int) = n := ⟨_, rfl⟩
         have hu := spaceI_u8 c
         rw [hn] at hu
         obtain ⟨q, hq⟩ : ∃ q, (c :: t).reverse = q := ⟨_, rfl⟩
         have hql : q.length = t.length + 1 := by rw [← hq]; simp
         have hx1 : (⟨q.toArray⟩ : ByteArray).extract 0 t.length = ⟨t.reverse.toArray⟩ := by
          rw [Lib.extract_eq, mk_data_list, ← hq]
          simp
         have hget : ∀ (h : t.length < q.length), q[t.length] = c := by
          intro h
          subst hq
          simp
         rw [hq]
         have ht1 : t.length ≤ 1000000000 := by simp only [List.length_cons] at hk; omega
         have hql0 : (0 : Int) < q.length := by omega
         have hsub : (q.length : Int) - 1 = t.length := by omega
         have hne : q ≠ [] := by rw [← hq]; simp
         have hbe : (q == []) = false := by simpa using hne
         cases hb : spaceI n with
         | true =>
           rw [hb] at hu
           have hd := Lib.hid (show (t.dropWhile spaceB).reverse = trimL l by rw [← trim_l1 hu.symm]; exact hdec2.out)
           have hc := Lib.hid (fun W => space_i n W)
           rw [hb] at hc
           clear hu hb hdec2 hq
           go_wp2_with (go_at_call 128; ((with_reducible refine (hc.out _).mono ?_); rintro e w1 ⟨rfl, rfl⟩))
           exact ⟨⟨t, rfl, by simp only [List.length_cons] at hk; omega, hd⟩, by rw [strLen_mk, strLen_mk, List.length_reverse]; omega⟩
         | false =>
           rw [hb] at hu
           have hd := Lib.hid (show q = trimL l by rw [← hq, ← hdec2.out, trim_l0 hu.symm])
           have hc := Lib.hid (fun W => space_i n W)
           rw [hb] at hc
           clear hu hb hdec2 hq
           go_wp2_with (go_at_call 128; ((with_reducible refine (hc.out _).mono ?_); rintro e w1 ⟨rfl, rfl⟩))
           go_ret
           rw [← hd.out]
           exact ⟨rfl, rfl⟩
end Go.Proofs.YtkcmghlhpbepcaaGreatDoor

/- Rows of attributes and of tokens that the call itself owns; the scanner. -/
namespace Go.Proofs.YtkcmghlhpbepcaaGreatDoor
open Go.RowKit Go.Proofs
theorem own_ne {w : World} {base : Nat} {e e' : TypeId} {size n b : Nat} {v : Value} {xs : List Value} {cur : Array Value} {fz : Nat × Nat} (h : w.ownsRow base e size v n xs) (hb : w.heap[b]? = some (.cells cur e' fz)) (hne : e' ≠ e) : v.ownBlock ≠ some b := by
 rcases h.2 with ⟨rfl, _⟩ | ⟨g, cap, cr, rfl, hg, hh, _⟩
 ·simp [Value.ownBlock]
 ·intro e0
  have : g = b := by simpa [Value.ownBlock] using e0
  subst this
  rw [hb] at hh
  simp at hh
  exact hne hh.2.1
theorem own_other {w w' : World} {base : Nat} {e e' : TypeId} {size n b : Nat} {v : Value} {xs : List Value} {cur : Array Value} {fz : Nat × Nat} (h : w.ownsRow base e size v n xs) (hg : w.grownBy w' (some b)) (hb : w.heap[b]? = some (.cells cur e' fz)) (hne : e' ≠ e) : w'.ownsRow base e size v n xs :=
 World.ownsRow.kept h hg (.inr (own_ne h hb hne))
theorem own_cells {w : World} {base : Nat} {e : TypeId} {size n b : Nat} {v : Value} {xs : List Value} (h : w.ownsRow base e size v n xs) (hv : v.ownBlock = some b) : ∃ cur, w.heap[b]? = some (.cells cur e (0, 0)) := by
 rcases h.2 with ⟨rfl, _⟩ | ⟨g, cap, cr, rfl, hg, hh, _⟩
 ·simp [Value.ownBlock] at hv
 ·have : g = b := by simpa [Value.ownBlock] using hv
  subst this
  exact ⟨cr, hh⟩
theorem own_apart {w w' : World} {base base' : Nat} {e e' : TypeId} {size n size' n' : Nat} {v v' : Value} {xs xs' : List Value} (h : w.ownsRow base e size v n xs) (h' : w.ownsRow base' e' size' v' n' xs') (hg : w.grownBy w' v'.ownBlock) (hne : e' ≠ e) : w'.ownsRow base e size v n xs := by
 cases hv : v'.ownBlock with
 | none => rw [hv] at hg; exact World.ownsRow.kept h hg (by cases hx : v.ownBlock <;> simp)
 | some b =>
   rw [hv] at hg
   obtain ⟨cur, hc⟩ := own_cells h' hv
   exact own_other h hg hc hne
theorem own_below {w w1 : World} {base : Nat} {e : TypeId} {size n : Nat} {v : Value} {xs : List Value} (h : w.ownsRow base e size v n xs) (hb : Below w.heap.size w w1) : w1.ownsRow base e size v n xs :=
 World.ownsRow.kept h (grown_of_below hb none) (by cases hv : v.ownBlock <;> simp)
def attrV (l : List (Txt × Txt)) : List Value := l.flatMap fun a => [.string ⟨a.1.toArray⟩, .string ⟨a.2.toArray⟩]
def Atts (w : World) (base : Nat) (v : Value) (l : List (Txt × Txt)) : Prop := w.ownsRow base 36 2 v l.length (attrV l)
def tokV (t : Tok) (va : Value) : List Value := [.int .i64 t.kind, .string ⟨t.name.toArray⟩, .string ⟨t.data.toArray⟩, va, .bool t.self]
def Toks (w : World) (base : Nat) (v : Value) (l : List Tok) : Prop :=
 ∃ ps : List (Tok × Value), ps.map Prod.fst = l ∧ w.ownsRow base 65 5 v l.length (ps.flatMap fun p => tokV p.1 p.2) ∧ ∀ p ∈ ps, Atts w base p.2 p.1.attrs
theorem Atts.nil (w : World) (base : Nat) : Atts w base (.slice none 0 0) [] := World.ownsRow_nil _ _ _ _
theorem Toks.nil (w : World) (base : Nat) : Toks w base (.slice none 0 0) [] := ⟨[], rfl, World.ownsRow_nil _ _ _ _, by simp⟩
theorem Atts.below {w w1 : World} {base : Nat} {v : Value} {l : List (Txt × Txt)} (h : Atts w base v l) (hb : Below w.heap.size w w1) : Atts w1 base v l := own_below h hb
theorem Toks.below {w w1 : World} {base : Nat} {v : Value} {l : List Tok} (h : Toks w base v l) (hb : Below w.heap.size w w1) : Toks w1 base v l := by
 obtain ⟨ps, h1, h2, h3⟩ := h
 exact ⟨ps, h1, own_below h2 hb, fun p hp => (h3 p hp).below hb⟩
theorem Toks.other {w w' : World} {base b : Nat} {v : Value} {l : List Tok} {cur : Array Value} {e' : TypeId} {fz : Nat × Nat} (h : Toks w base v l) (hg : w.grownBy w' (some b)) (hb : w.heap[b]? = some (.cells cur e' fz)) (h1 : e' ≠ 65) (h2 : e' ≠ 36) : Toks w' base v l := by
 obtain ⟨ps, k1, k2, k3⟩ := h
 exact ⟨ps, k1, own_other k2 hg hb h1, fun p hp => own_other (k3 p hp) hg hb h2⟩
theorem tokInfo : ∃ i z, Tryz.prog.info? 65 = some i ∧ i.zero = some z ∧ i.size = 5 ∧ i.bytes = 72 ∧ z.cells.size = 5 := by
 have h : (Tryz.prog.info? 65).map (fun i => (i.zero.map fun z => z.cells.size, i.size, i.bytes)) = some (some 5, 5, 72) := by kernel_rfl
 cases hi : Tryz.prog.info? 65 with
 | none => rw [hi] at h; simp at h
 | some i =>
   rw [hi] at h
   simp at h
   obtain ⟨⟨z, hz, hs⟩, h2, h3⟩ := h
   exact ⟨i, z, rfl, hz, h2, h3, hs⟩
theorem attrInfo : ∃ i z, Tryz.prog.info? 36 = some i ∧ i.zero = some z ∧ i.size = 2 ∧ i.bytes = 32 ∧ z.cells.size = 2 := by
 have h : (Tryz.prog.info? 36).map (fun i => (i.zero.map fun z => z.cells.size, i.size, i.bytes)) = some (some 2, 2, 32) := by kernel_rfl
 cases hi : Tryz.prog.info? 36 with
 | none => rw [hi] at h; simp at h
 | some i =>
   rw [hi] at h
   simp at h
   obtain ⟨⟨z, hz, hs⟩, h2, h3⟩ := h
   exact ⟨i, z, rfl, hz, h2, h3, hs⟩
theorem addr_add (g j : Nat) : (⟨g, 0, none⟩ : Addr).add j = ⟨g, j, none⟩ := by unfold Addr.add; split <;> simp_all
theorem attrV_app (a b : List (Txt × Txt)) : attrV (a ++ b) = attrV a ++ attrV b := by simp [attrV]
theorem own_one {w : World} {base : Nat} {e : TypeId} {size n : Nat} {v : Value} {xs : List Value} (h : w.ownsRow base e size v n xs) : v.oneCell' = true := by
 rcases h.2 with ⟨rfl, _⟩ | ⟨g, cap, cr, rfl, _⟩ <;> rfl
theorem app_attr {w : World} {ops : Array Oper} {rest : List Oper} {o : Oper} {a : Act} {Q : Exit → Act → World → Prop} (hgd : o.guard = none) (sl x : Operand)
 (ho : o.op = .call { callee := .builtin .append, args := #[sl, x], argTypes := #[32, 32] })
 (base g : Nat) (v : Value) (l : List (Txt × Txt)) (t : Txt × Txt) (hs : a.eval sl = v) (hown : Atts w base v l) (hx : a.eval x = .slice (some ⟨g, 0, none⟩) 1 1)
 (hc0 : w.cell? ⟨g, 0, none⟩ = some (.string ⟨t.1.toArray⟩)) (hc1 : w.cell? ⟨g, 1, none⟩ = some (.string ⟨t.2.toArray⟩))
 (hlen : l.length + 1 ≤ 1000000000000) (hbase : base ≤ w.heap.size)
 (h : ∀ v' w', Atts w' base v' (l ++ [t]) → w.grownBy w' v.ownBlock → Below base w w' → wpList Tryz.prog ops Q rest (a.put o.dst v') w') : wpList Tryz.prog ops Q (o :: rest) a w := by
 obtain ⟨i, z, hi, hz, h2, h3, hzs⟩ := attrInfo
 refine wpList_append_own _ hgd sl x 32 ho base 36 i z 2 32 Tryz.underlying32 hi hz h2 h3 hzs (by decide) v l.length (attrV l) hs hown ⟨g, 0, none⟩ 1 1 (attrV [t]) hx rfl ?_ ?_ (by unfold maxLen; omega) (by omega) hbase ?_
 ·intro j u hj
  rw [addr_add]
  match j, hj with
  | 0, hj => simp [attrV] at hj; subst hj; exact hc0
  | 1, hj => simp [attrV] at hj; subst hj; exact hc1
 ·intro u hu
  simp [attrV] at hu
  rcases hu with rfl | rfl <;> rfl
 ·intro v' w' hown' hgrow _
  refine h v' w' ?_ hgrow ((Below.refl base w).grown hgrow hbase (fun k hk => own_base hown hk))
  unfold Atts
  rw [attrV_app]
  simpa using hown'
theorem app_tok {w : World} {ops : Array Oper} {rest : List Oper} {o : Oper} {a : Act} {Q : Exit → Act → World → Prop} (hgd : o.guard = none) (sl x : Operand)
 (ho : o.op = .call { callee := .builtin .append, args := #[sl, x], argTypes := #[26, 26] })
 (base g : Nat) (v va : Value) (l : List Tok) (t : Tok) (hs : a.eval sl = v) (hown : Toks w base v l) (hx : a.eval x = .slice (some ⟨g, 0, none⟩) 1 1)
 (hc0 : w.cell? ⟨g, 0, none⟩ = some (.int .i64 t.kind)) (hc1 : w.cell? ⟨g, 1, none⟩ = some (.string ⟨t.name.toArray⟩)) (hc2 : w.cell? ⟨g, 2, none⟩ = some (.string ⟨t.data.toArray⟩)) (hc3 : w.cell? ⟨g, 3, none⟩ = some va) (hc4 : w.cell? ⟨g, 4, none⟩ = some (.bool t.self))
 (hat : Atts w base va t.attrs) (hlen : l.length + 1 ≤ 1000000000000) (hbase : base ≤ w.heap.size)
 (h : ∀ v' w', Toks w' base v' (l ++ [t]) → w.grownBy w' v.ownBlock → Below base w w' → (∀ (b : Nat) (cur : Array Value) (e : TypeId) (fz : Nat × Nat), w.heap[b]? = some (.cells cur e fz) → e ≠ 65 → w'.heap[b]? = some (.cells cur e fz)) → wpList Tryz.prog ops Q rest (a.put o.dst v') w') : wpList Tryz.prog ops Q (o :: rest) a w := by
 obtain ⟨i, z, hi, hz, h2, h3, hzs⟩ := tokInfo
 obtain ⟨ps, k1, k2, k3⟩ := hown
 refine wpList_append_own _ hgd sl x 26 ho base 65 i z 5 72 Tryz.underlying26 hi hz h2 h3 hzs (by decide) v l.length _ hs k2 ⟨g, 0, none⟩ 1 1 (tokV t va) hx rfl ?_ ?_ (by unfold maxLen; omega) (by omega) hbase ?_
 ·intro j u hj
  rw [addr_add]
  match j, hj with
  | 0, hj => simp [tokV] at hj; subst hj; exact hc0
  | 1, hj => simp [tokV] at hj; subst hj; exact hc1
  | 2, hj => simp [tokV] at hj; subst hj; exact hc2
  | 3, hj => simp [tokV] at hj; subst hj; exact hc3
  | 4, hj => simp [tokV] at hj; subst hj; exact hc4
 ·intro u hu
  simp [tokV] at hu
  rcases hu with rfl | rfl | rfl | rfl | rfl
  ·rfl
  ·rfl
  ·rfl
  ·exact own_one hat
  ·rfl
 ·intro v' w' hown' hgrow _
  refine h v' w' ⟨ps ++ [(t, va)], by simp [k1], by simpa using hown', ?_⟩ hgrow ((Below.refl base w).grown hgrow hbase (fun k hk => own_base k2 hk)) ?_
  ·intro p hp
   rw [List.mem_append] at hp
   rcases hp with hp | hp
   ·exact own_apart (k3 p hp) k2 hgrow (by decide)
   ·simp at hp
    subst hp
    exact own_apart hat k2 hgrow (by decide)
  ·intro b cur e fz hb hne
   rw [hgrow.block b (Array.getElem?_eq_some_iff.1 hb).1 (fun e0 => own_ne k2 hb hne e0.symm)]
   exact hb
def Sc (w : World) (base b : Nat) (s t : Txt) (l : List Tok) : Prop :=
 base ≤ b ∧ ∃ v, w.heap[b]? = some (.cells #[.string ⟨s.toArray⟩, .string ⟨t.toArray⟩, v] 92 (0, 0)) ∧ Toks w base v l
theorem Sc.below {w w1 : World} {base b : Nat} {s t : Txt} {l : List Tok} (h : Sc w base b s t l) (hb : Below w.heap.size w w1) : Sc w1 base b s t l := by
 obtain ⟨h1, v, h2, h3⟩ := h
 exact ⟨h1, v, (hb.block b (Array.getElem?_eq_some_iff.1 h2).1).trans h2, h3.below hb⟩
theorem grown_set (w : World) (a : Addr) (v : Value) : w.grownBy (w.setCell a v) (some a.block) :=
 ⟨rfl, rfl, rfl, by simp, fun k _ hk => heap_setCell_other w a k v (fun e => hk (by simp [e]))⟩
theorem below_set {B b j : Nat} {w W : World} (h : Below B w W) (hb : B ≤ b) (v : Value) : Below B w (W.setCell ⟨b, j, none⟩ v) := h.setCell (p := ⟨b, j, none⟩) hb v
theorem Sc.set_s {w : World} {base b : Nat} {s t : Txt} {l : List Tok} (h : Sc w base b s t l) (s' : Txt) : Sc (w.setCell ⟨b, 0, none⟩ (.string ⟨s'.toArray⟩)) base b s' t l := by
 obtain ⟨h1, v, h2, h3⟩ := h
 exact ⟨h1, v, heap_setCell_same w b 0 _ _ _ h2, h3.other (grown_set w ⟨b, 0, none⟩ _) h2 (by decide) (by decide)⟩
theorem Sc.set_t {w : World} {base b : Nat} {s t : Txt} {l : List Tok} (h : Sc w base b s t l) (t' : Txt) : Sc (w.setCell ⟨b, 1, none⟩ (.string ⟨t'.toArray⟩)) base b s t' l := by
 obtain ⟨h1, v, h2, h3⟩ := h
 exact ⟨h1, v, heap_setCell_same w b 1 _ _ _ h2, h3.other (grown_set w ⟨b, 1, none⟩ _) h2 (by decide) (by decide)⟩
theorem Sc.set_o {w : World} {base b : Nat} {s t : Txt} {l l' : List Tok} {v v' : Value} (h1 : base ≤ b) (h2 : w.heap[b]? = some (.cells #[.string ⟨s.toArray⟩, .string ⟨t.toArray⟩, v] 92 (0, 0))) (h3 : Toks w base v' l') : Sc (w.setCell ⟨b, 2, none⟩ v') base b s t l' :=
 ⟨h1, v', heap_setCell_same w b 2 _ _ _ h2, h3.other (grown_set w ⟨b, 2, none⟩ _) h2 (by decide) (by decide)⟩
end Go.Proofs.YtkcmghlhpbepcaaGreatDoor
