/- Lemmas and walks, part 2: Span. -/
import Derived.Test.YtdnbaliibiginaaGreatDoorTIM1
set_option linter.unusedVariables false
set_option linter.unusedSimpArgs false

/- Contracts of package token: slashed, letter, the predicates, and span over each of them. Nothing that lay in memory turns. -/
namespace Go.Proofs.YtdnbaliibiginaaGreatDoor
open Go.RowKit Go.Proofs

def slashedI (n : Int) : Bool := spaceI n || n == 47 || n == 62
def op1I (n : Int) : Bool := !spaceI n && n != 47
def at1I (n : Int) : Bool := slashedI n || n == 61
def at2I (n : Int) : Bool := !spaceI n
def at4I (n : Int) : Bool := spaceI n || n == 62
def all1I (n : Int) : Bool := n == 60
theorem slashedI_u8 (c : UInt8) : slashedI c.toNat = slashedB c := by
  have := all_u8 (p := fun c => slashedI c.toNat == slashedB c) (by decide +kernel) c
  simpa using this
theorem op1I_u8 (c : UInt8) : op1I c.toNat = (!spaceB c && c != 47) := by
  have := all_u8 (p := fun c => op1I c.toNat == (!spaceB c && c != 47)) (by decide +kernel) c
  simpa using this
theorem at1I_u8 (c : UInt8) : at1I c.toNat = (slashedB c || c == 61) := by
  have := all_u8 (p := fun c => at1I c.toNat == (slashedB c || c == 61)) (by decide +kernel) c
  simpa using this
theorem at2I_u8 (c : UInt8) : at2I c.toNat = (!spaceB c) := by
  have := all_u8 (p := fun c => at2I c.toNat == (!spaceB c)) (by decide +kernel) c
  simpa using this
theorem at4I_u8 (c : UInt8) : at4I c.toNat = (spaceB c || c == 62) := by
  have := all_u8 (p := fun c => at4I c.toNat == (spaceB c || c == 62)) (by decide +kernel) c
  simpa using this
theorem all1I_u8 (c : UInt8) : all1I c.toNat = (c == 60) := by
  have := all_u8 (p := fun c => all1I c.toNat == (c == 60)) (by decide +kernel) c
  simpa using this

theorem slashed_i (n : Int) (w : World) :
    Calls Tryz.prog 101 #[.int .u8 n] w fun e w' => e = .returned (.bool (slashedI n)) ∧ w = w' := by
  have hs := Lib.hid (fun W => space_i n W)
  go_enter Tryz.func101, Tryz.ntmps101
  cases hb : spaceI n <;> rw [hb] at hs
  all_goals
    go_wp2_with (go_at_call 143; ((with_reducible refine (hs.out _).mono ?_); rintro e w1 ⟨rfl, rfl⟩))
    all_goals go_ret
    all_goals (refine ⟨ret_b ?_, rfl⟩; simp_all [slashedI])
theorem op1_i (n : Int) (w : World) :
    Calls Tryz.prog 187 #[.int .u8 n] w fun e w' => e = .returned (.bool (op1I n)) ∧ w = w' := by
  have hs := Lib.hid (fun W => space_i n W)
  go_enter Tryz.func187, Tryz.ntmps187
  cases hb : spaceI n <;> rw [hb] at hs
  all_goals
    go_wp2_with (go_at_call 143; ((with_reducible refine (hs.out _).mono ?_); rintro e w1 ⟨rfl, rfl⟩))
    all_goals go_ret
    all_goals (refine ⟨ret_b ?_, rfl⟩; simp_all [op1I])
theorem at1_i (n : Int) (w : World) :
    Calls Tryz.prog 195 #[.int .u8 n] w fun e w' => e = .returned (.bool (at1I n)) ∧ w = w' := by
  have hs := Lib.hid (fun W => slashed_i n W)
  go_enter Tryz.func195, Tryz.ntmps195
  cases hb : slashedI n <;> rw [hb] at hs
  all_goals
    go_wp2_with (go_at_call 101; ((with_reducible refine (hs.out _).mono ?_); rintro e w1 ⟨rfl, rfl⟩))
    all_goals go_ret
    all_goals (refine ⟨ret_b ?_, rfl⟩; simp_all [at1I])
theorem at2_i (n : Int) (w : World) :
    Calls Tryz.prog 196 #[.int .u8 n] w fun e w' => e = .returned (.bool (at2I n)) ∧ w = w' := by
  have hs := Lib.hid (fun W => space_i n W)
  go_enter Tryz.func196, Tryz.ntmps196
  cases hb : spaceI n <;> rw [hb] at hs
  all_goals
    go_wp2_with (go_at_call 143; ((with_reducible refine (hs.out _).mono ?_); rintro e w1 ⟨rfl, rfl⟩))
    all_goals go_ret
    all_goals (refine ⟨ret_b ?_, rfl⟩; simp_all [at2I])
theorem at3_i (n : Int) (w : World) :
    Calls Tryz.prog 197 #[.int .u8 n] w fun e w' => e = .returned (.bool (at2I n)) ∧ w = w' := by
  have hs := Lib.hid (fun W => space_i n W)
  go_enter Tryz.func197, Tryz.ntmps197
  cases hb : spaceI n <;> rw [hb] at hs
  all_goals
    go_wp2_with (go_at_call 143; ((with_reducible refine (hs.out _).mono ?_); rintro e w1 ⟨rfl, rfl⟩))
    all_goals go_ret
    all_goals (refine ⟨ret_b ?_, rfl⟩; simp_all [at2I])
theorem at4_i (n : Int) (w : World) :
    Calls Tryz.prog 198 #[.int .u8 n] w fun e w' => e = .returned (.bool (at4I n)) ∧ w = w' := by
  have hs := Lib.hid (fun W => space_i n W)
  go_enter Tryz.func198, Tryz.ntmps198
  cases hb : spaceI n <;> rw [hb] at hs
  all_goals
    go_wp2_with (go_at_call 143; ((with_reducible refine (hs.out _).mono ?_); rintro e w1 ⟨rfl, rfl⟩))
    all_goals go_ret
    all_goals (refine ⟨ret_b ?_, rfl⟩; simp_all [at4I])
theorem all1_i (n : Int) (w : World) :
    Calls Tryz.prog 92 #[.int .u8 n] w fun e w' => e = .returned (.bool (all1I n)) ∧ w = w' := by
  go_enter Tryz.func92, Tryz.ntmps92
  go_wp2
  go_ret
  exact ⟨rfl, rfl⟩

theorem fi_at {p : UInt8 → Bool} {l : Txt} {k : Nat} (hk : k < l.length) (hno : ∀ j (hj : j < l.length), j < k → p l[j] = false) (hp : p l[k] = true) : l.findIdx p = k := by
  rw [List.findIdx_eq hk]
  exact ⟨hp, fun j hj => hno j (by omega) hj⟩
theorem fi_end {p : UInt8 → Bool} {l : Txt} (hno : ∀ j (hj : j < l.length), p l[j] = false) : l.findIdx p = l.length := by
  rw [List.findIdx_eq_length]
  intro x hx
  obtain ⟨j, hj, rfl⟩ := List.getElem_of_mem hx
  exact hno j hj

set_option maxHeartbeats 1000000 in
set_option maxRecDepth 100000 in
theorem span_slashed (l : Txt) (hl : l.length ≤ 1000000000) (w : World) :
    Calls Tryz.prog 91 #[.string ⟨l.toArray⟩, .func (.func 101) #[] #[]] w fun e w' => e = .returned (.int .i64 (l.findIdx slashedB : Nat)) ∧ w = w' := by
  go_enter Tryz.func91, Tryz.ntmps91
  go_wp2
  go_loop [5, 8] (fun _ v => ∃ (k : Nat), v = .int .i64 k ∧ k ≤ l.length ∧ Hid (∀ j (hj : j < l.length), j < k → slashedB l[j] = false)) (fun _ v => l.length - (intOf v).toNat)
  case atStart => exact ⟨0, rfl, by omega, fun j _ h => by omega⟩
  case round =>
    obtain ⟨k, rfl, hk, hno⟩ := hrel
    by_cases hlt : k < l.length
    · obtain ⟨n, hn⟩ : ∃ n, (l[k].toNat : Int) = n := ⟨_, rfl⟩
      have hu := slashedI_u8 l[k]
      rw [hn] at hu
      have hc := Lib.hid (fun W => slashed_i n W)
      cases hb : slashedI n with
      | true =>
        have hf := Lib.hid (fi_at (p := slashedB) hlt hno.out (hu.symm.trans hb))
        rw [hb] at hc
        clear hu hb
        go_wp2_with (go_at_call 101; ((with_reducible refine (hc.out _).mono ?_); rintro e w1 ⟨rfl, rfl⟩))
        go_ret
        rw [hf.out]
        exact ⟨rfl, rfl⟩
      | false =>
        have hno2 := Lib.hid (show ∀ j (hj : j < l.length), j < k + 1 → slashedB l[j] = false by
          intro j hj hjk
          by_cases e : j = k
          · subst e; exact hu.symm.trans hb
          · exact hno.out j hj (by omega))
        rw [hb] at hc
        clear hu hb hno
        go_wp2_with (go_at_call 101; ((with_reducible refine (hc.out _).mono ?_); rintro e w1 ⟨rfl, rfl⟩))
        refine ⟨⟨k + 1, rfl, by omega, hno2⟩, by simp [intOf]; omega⟩
    · have hf := Lib.hid (fi_end (p := slashedB) (l := l) fun j hj => hno.out j hj (by omega))
      go_wp2
      go_ret
      rw [hf.out]
      exact ⟨rfl, rfl⟩

set_option maxHeartbeats 1000000 in
set_option maxRecDepth 100000 in
theorem span_op1 (l : Txt) (hl : l.length ≤ 1000000000) (w : World) :
    Calls Tryz.prog 91 #[.string ⟨l.toArray⟩, .func (.func 187) #[] #[]] w fun e w' => e = .returned (.int .i64 (l.findIdx (fun c => !spaceB c && c != 47) : Nat)) ∧ w = w' := by
  go_enter Tryz.func91, Tryz.ntmps91
  go_wp2
  go_loop [5, 8] (fun _ v => ∃ (k : Nat), v = .int .i64 k ∧ k ≤ l.length ∧ Hid (∀ j (hj : j < l.length), j < k → (fun c => !spaceB c && c != 47) l[j] = false)) (fun _ v => l.length - (intOf v).toNat)
  case atStart => exact ⟨0, rfl, by omega, fun j _ h => by omega⟩
  case round =>
    obtain ⟨k, rfl, hk, hno⟩ := hrel
    by_cases hlt : k < l.length
    · obtain ⟨n, hn⟩ : ∃ n, (l[k].toNat : Int) = n := ⟨_, rfl⟩
      have hu := op1I_u8 l[k]
      rw [hn] at hu
      have hc := Lib.hid (fun W => op1_i n W)
      cases hb : op1I n with
      | true =>
        have hf := Lib.hid (fi_at (p := (fun c => !spaceB c && c != 47)) hlt hno.out (hu.symm.trans hb))
        rw [hb] at hc
        clear hu hb
        go_wp2_with (go_at_call 187; ((with_reducible refine (hc.out _).mono ?_); rintro e w1 ⟨rfl, rfl⟩))
        go_ret
        rw [hf.out]
        exact ⟨rfl, rfl⟩
      | false =>
        have hno2 := Lib.hid (show ∀ j (hj : j < l.length), j < k + 1 → (fun c => !spaceB c && c != 47) l[j] = false by
          intro j hj hjk
          by_cases e : j = k
          · subst e; exact hu.symm.trans hb
          · exact hno.out j hj (by omega))
        rw [hb] at hc
        clear hu hb hno
        go_wp2_with (go_at_call 187; ((with_reducible refine (hc.out _).mono ?_); rintro e w1 ⟨rfl, rfl⟩))
        refine ⟨⟨k + 1, rfl, by omega, hno2⟩, by simp [intOf]; omega⟩
    · have hf := Lib.hid (fi_end (p := (fun c => !spaceB c && c != 47)) (l := l) fun j hj => hno.out j hj (by omega))
      go_wp2
      go_ret
      rw [hf.out]
      exact ⟨rfl, rfl⟩

set_option maxHeartbeats 1000000 in
set_option maxRecDepth 100000 in
theorem span_at1 (l : Txt) (hl : l.length ≤ 1000000000) (w : World) :
    Calls Tryz.prog 91 #[.string ⟨l.toArray⟩, .func (.func 195) #[] #[]] w fun e w' => e = .returned (.int .i64 (l.findIdx (fun c => slashedB c || c == 61) : Nat)) ∧ w = w' := by
  go_enter Tryz.func91, Tryz.ntmps91
  go_wp2
  go_loop [5, 8] (fun _ v => ∃ (k : Nat), v = .int .i64 k ∧ k ≤ l.length ∧ Hid (∀ j (hj : j < l.length), j < k → (fun c => slashedB c || c == 61) l[j] = false)) (fun _ v => l.length - (intOf v).toNat)
  case atStart => exact ⟨0, rfl, by omega, fun j _ h => by omega⟩
  case round =>
    obtain ⟨k, rfl, hk, hno⟩ := hrel
    by_cases hlt : k < l.length
    · obtain ⟨n, hn⟩ : ∃ n, (l[k].toNat : Int) = n := ⟨_, rfl⟩
      have hu := at1I_u8 l[k]
      rw [hn] at hu
      have hc := Lib.hid (fun W => at1_i n W)
      cases hb : at1I n with
      | true =>
        have hf := Lib.hid (fi_at (p := (fun c => slashedB c || c == 61)) hlt hno.out (hu.symm.trans hb))
        rw [hb] at hc
        clear hu hb
        go_wp2_with (go_at_call 195; ((with_reducible refine (hc.out _).mono ?_); rintro e w1 ⟨rfl, rfl⟩))
        go_ret
        rw [hf.out]
        exact ⟨rfl, rfl⟩
      | false =>
        have hno2 := Lib.hid (show ∀ j (hj : j < l.length), j < k + 1 → (fun c => slashedB c || c == 61) l[j] = false by
          intro j hj hjk
          by_cases e : j = k
          · subst e; exact hu.symm.trans hb
          · exact hno.out j hj (by omega))
        rw [hb] at hc
        clear hu hb hno
        go_wp2_with (go_at_call 195; ((with_reducible refine (hc.out _).mono ?_); rintro e w1 ⟨rfl, rfl⟩))
        refine ⟨⟨k + 1, rfl, by omega, hno2⟩, by simp [intOf]; omega⟩
    · have hf := Lib.hid (fi_end (p := (fun c => slashedB c || c == 61)) (l := l) fun j hj => hno.out j hj (by omega))
      go_wp2
      go_ret
      rw [hf.out]
      exact ⟨rfl, rfl⟩

set_option maxHeartbeats 1000000 in
set_option maxRecDepth 100000 in
theorem span_at2 (l : Txt) (hl : l.length ≤ 1000000000) (w : World) :
    Calls Tryz.prog 91 #[.string ⟨l.toArray⟩, .func (.func 196) #[] #[]] w fun e w' => e = .returned (.int .i64 (l.findIdx (fun c => !spaceB c) : Nat)) ∧ w = w' := by
  go_enter Tryz.func91, Tryz.ntmps91
  go_wp2
  go_loop [5, 8] (fun _ v => ∃ (k : Nat), v = .int .i64 k ∧ k ≤ l.length ∧ Hid (∀ j (hj : j < l.length), j < k → (fun c => !spaceB c) l[j] = false)) (fun _ v => l.length - (intOf v).toNat)
  case atStart => exact ⟨0, rfl, by omega, fun j _ h => by omega⟩
  case round =>
    obtain ⟨k, rfl, hk, hno⟩ := hrel
    by_cases hlt : k < l.length
    · obtain ⟨n, hn⟩ : ∃ n, (l[k].toNat : Int) = n := ⟨_, rfl⟩
      have hu := at2I_u8 l[k]
      rw [hn] at hu
      have hc := Lib.hid (fun W => at2_i n W)
      cases hb : at2I n with
      | true =>
        have hf := Lib.hid (fi_at (p := (fun c => !spaceB c)) hlt hno.out (hu.symm.trans hb))
        rw [hb] at hc
        clear hu hb
        go_wp2_with (go_at_call 196; ((with_reducible refine (hc.out _).mono ?_); rintro e w1 ⟨rfl, rfl⟩))
        go_ret
        rw [hf.out]
        exact ⟨rfl, rfl⟩
      | false =>
        have hno2 := Lib.hid (show ∀ j (hj : j < l.length), j < k + 1 → (fun c => !spaceB c) l[j] = false by
          intro j hj hjk
          by_cases e : j = k
          · subst e; exact hu.symm.trans hb
          · exact hno.out j hj (by omega))
        rw [hb] at hc
        clear hu hb hno
        go_wp2_with (go_at_call 196; ((with_reducible refine (hc.out _).mono ?_); rintro e w1 ⟨rfl, rfl⟩))
        refine ⟨⟨k + 1, rfl, by omega, hno2⟩, by simp [intOf]; omega⟩
    · have hf := Lib.hid (fi_end (p := (fun c => !spaceB c)) (l := l) fun j hj => hno.out j hj (by omega))
      go_wp2
      go_ret
      rw [hf.out]
      exact ⟨rfl, rfl⟩

set_option maxHeartbeats 1000000 in
set_option maxRecDepth 100000 in
theorem span_at3 (l : Txt) (hl : l.length ≤ 1000000000) (w : World) :
    Calls Tryz.prog 91 #[.string ⟨l.toArray⟩, .func (.func 197) #[] #[]] w fun e w' => e = .returned (.int .i64 (l.findIdx (fun c => !spaceB c) : Nat)) ∧ w = w' := by
  go_enter Tryz.func91, Tryz.ntmps91
  go_wp2
  go_loop [5, 8] (fun _ v => ∃ (k : Nat), v = .int .i64 k ∧ k ≤ l.length ∧ Hid (∀ j (hj : j < l.length), j < k → (fun c => !spaceB c) l[j] = false)) (fun _ v => l.length - (intOf v).toNat)
  case atStart => exact ⟨0, rfl, by omega, fun j _ h => by omega⟩
  case round =>
    obtain ⟨k, rfl, hk, hno⟩ := hrel
    by_cases hlt : k < l.length
    · obtain ⟨n, hn⟩ : ∃ n, (l[k].toNat : Int) = n := ⟨_, rfl⟩
      have hu := at2I_u8 l[k]
      rw [hn] at hu
      have hc := Lib.hid (fun W => at3_i n W)
      cases hb : at2I n with
      | true =>
        have hf := Lib.hid (fi_at (p := (fun c => !spaceB c)) hlt hno.out (hu.symm.trans hb))
        rw [hb] at hc
        clear hu hb
        go_wp2_with (go_at_call 197; ((with_reducible refine (hc.out _).mono ?_); rintro e w1 ⟨rfl, rfl⟩))
        go_ret
        rw [hf.out]
        exact ⟨rfl, rfl⟩
      | false =>
        have hno2 := Lib.hid (show ∀ j (hj : j < l.length), j < k + 1 → (fun c => !spaceB c) l[j] = false by
          intro j hj hjk
          by_cases e : j = k
          · subst e; exact hu.symm.trans hb
          · exact hno.out j hj (by omega))
        rw [hb] at hc
        clear hu hb hno
        go_wp2_with (go_at_call 197; ((with_reducible refine (hc.out _).mono ?_); rintro e w1 ⟨rfl, rfl⟩))
        refine ⟨⟨k + 1, rfl, by omega, hno2⟩, by simp [intOf]; omega⟩
    · have hf := Lib.hid (fi_end (p := (fun c => !spaceB c)) (l := l) fun j hj => hno.out j hj (by omega))
      go_wp2
      go_ret
      rw [hf.out]
      exact ⟨rfl, rfl⟩

set_option maxHeartbeats 1000000 in
set_option maxRecDepth 100000 in
theorem span_at4 (l : Txt) (hl : l.length ≤ 1000000000) (w : World) :
    Calls Tryz.prog 91 #[.string ⟨l.toArray⟩, .func (.func 198) #[] #[]] w fun e w' => e = .returned (.int .i64 (l.findIdx (fun c => spaceB c || c == 62) : Nat)) ∧ w = w' := by
  go_enter Tryz.func91, Tryz.ntmps91
  go_wp2
  go_loop [5, 8] (fun _ v => ∃ (k : Nat), v = .int .i64 k ∧ k ≤ l.length ∧ Hid (∀ j (hj : j < l.length), j < k → (fun c => spaceB c || c == 62) l[j] = false)) (fun _ v => l.length - (intOf v).toNat)
  case atStart => exact ⟨0, rfl, by omega, fun j _ h => by omega⟩
  case round =>
    obtain ⟨k, rfl, hk, hno⟩ := hrel
    by_cases hlt : k < l.length
    · obtain ⟨n, hn⟩ : ∃ n, (l[k].toNat : Int) = n := ⟨_, rfl⟩
      have hu := at4I_u8 l[k]
      rw [hn] at hu
      have hc := Lib.hid (fun W => at4_i n W)
      cases hb : at4I n with
      | true =>
        have hf := Lib.hid (fi_at (p := (fun c => spaceB c || c == 62)) hlt hno.out (hu.symm.trans hb))
        rw [hb] at hc
        clear hu hb
        go_wp2_with (go_at_call 198; ((with_reducible refine (hc.out _).mono ?_); rintro e w1 ⟨rfl, rfl⟩))
        go_ret
        rw [hf.out]
        exact ⟨rfl, rfl⟩
      | false =>
        have hno2 := Lib.hid (show ∀ j (hj : j < l.length), j < k + 1 → (fun c => spaceB c || c == 62) l[j] = false by
          intro j hj hjk
          by_cases e : j = k
          · subst e; exact hu.symm.trans hb
          · exact hno.out j hj (by omega))
        rw [hb] at hc
        clear hu hb hno
        go_wp2_with (go_at_call 198; ((with_reducible refine (hc.out _).mono ?_); rintro e w1 ⟨rfl, rfl⟩))
        refine ⟨⟨k + 1, rfl, by omega, hno2⟩, by simp [intOf]; omega⟩
    · have hf := Lib.hid (fi_end (p := (fun c => spaceB c || c == 62)) (l := l) fun j hj => hno.out j hj (by omega))
      go_wp2
      go_ret
      rw [hf.out]
      exact ⟨rfl, rfl⟩

set_option maxHeartbeats 1000000 in
set_option maxRecDepth 100000 in
theorem span_all1 (l : Txt) (hl : l.length ≤ 1000000000) (w : World) :
    Calls Tryz.prog 91 #[.string ⟨l.toArray⟩, .func (.func 92) #[] #[]] w fun e w' => e = .returned (.int .i64 (l.findIdx (fun c => c == 60) : Nat)) ∧ w = w' := by
  go_enter Tryz.func91, Tryz.ntmps91
  go_wp2
  go_loop [5, 8] (fun _ v => ∃ (k : Nat), v = .int .i64 k ∧ k ≤ l.length ∧ Hid (∀ j (hj : j < l.length), j < k → (fun c => c == 60) l[j] = false)) (fun _ v => l.length - (intOf v).toNat)
  case atStart => exact ⟨0, rfl, by omega, fun j _ h => by omega⟩
  case round =>
    obtain ⟨k, rfl, hk, hno⟩ := hrel
    by_cases hlt : k < l.length
    · obtain ⟨n, hn⟩ : ∃ n, (l[k].toNat : Int) = n := ⟨_, rfl⟩
      have hu := all1I_u8 l[k]
      rw [hn] at hu
      have hc := Lib.hid (fun W => all1_i n W)
      cases hb : all1I n with
      | true =>
        have hf := Lib.hid (fi_at (p := (fun c => c == 60)) hlt hno.out (hu.symm.trans hb))
        rw [hb] at hc
        clear hu hb
        go_wp2_with (go_at_call 92; ((with_reducible refine (hc.out _).mono ?_); rintro e w1 ⟨rfl, rfl⟩))
        go_ret
        rw [hf.out]
        exact ⟨rfl, rfl⟩
      | false =>
        have hno2 := Lib.hid (show ∀ j (hj : j < l.length), j < k + 1 → (fun c => c == 60) l[j] = false by
          intro j hj hjk
          by_cases e : j = k
          · subst e; exact hu.symm.trans hb
          · exact hno.out j hj (by omega))
        rw [hb] at hc
        clear hu hb hno
        go_wp2_with (go_at_call 92; ((with_reducible refine (hc.out _).mono ?_); rintro e w1 ⟨rfl, rfl⟩))
        refine ⟨⟨k + 1, rfl, by omega, hno2⟩, by simp [intOf]; omega⟩
    · have hf := Lib.hid (fi_end (p := (fun c => c == 60)) (l := l) fun j hj => hno.out j hj (by omega))
      go_wp2
      go_ret
      rw [hf.out]
      exact ⟨rfl, rfl⟩
end Go.Proofs.YtdnbaliibiginaaGreatDoor
