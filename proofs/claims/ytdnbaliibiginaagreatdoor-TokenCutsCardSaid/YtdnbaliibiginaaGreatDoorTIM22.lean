/- Lemmas and walks, part 22: LTokenIns. -/
import Derived.Test.YtdnbaliibiginaaGreatDoorTIM21
set_option linter.unusedVariables false
set_option linter.unusedSimpArgs false

/- boltinglaw06.TokenIns is true of any bytes and any name: its walk (printed) over the plain law. -/
namespace Go.Proofs.YtdnbaliibiginaaGreatDoorH.TI
open Go.RowKit Go.Proofs Go.Proofs.YtdnbaliibiginaaGreatDoorH Go.Proofs.YtdnbaliibiginaaGreatDoor Go.Proofs.YtdnbaliibiginaaGreatDoorW.PrintWords Go.Proofs.YtdnbaliibiginaaGreatDoorW.PrintMore

theorem mn500 (n : Nat) : 0 ≤ mn (n : Int) 500 ∧ mn (n : Int) 500 ≤ n ∧ (mn (n : Int) 500).toNat ≤ 500 := by unfold mn; split <;> omega
theorem ext500 (a : ByteArray) : (a.extract 0 (mn (a.size : Int) 500).toNat).size ≤ 500 := by
  have := mn500 a.size
  rw [← L_len, L_ext]
  simp
  omega
theorem addA_len (acc : List (Txt × Txt)) (a : Txt × Txt) : (addA acc a).length ≤ acc.length + 1 := by unfold addA; split <;> simp
theorem attrsN_len : ∀ (n : Nat) (acc : List (Txt × Txt)) (s : Txt) r, attrsN n acc s = some r → r.1.length ≤ acc.length + n
  | 0, _, _, _, h => by simp [attrsN] at h
  | n + 1, acc, s, r, h => by
    unfold attrsN at h
    cases hd : s.drop (gapF s) with
    | nil => rw [hd] at h; simp at h
    | cons c s1 =>
      rw [hd] at h
      simp only at h
      split at h
      · simp at h
        subst h
        simp
      · split at h
        · have := attrsN_len n _ _ r h
          have := addA_len acc (attrF (c :: s1)).1
          omega
        · simp at h
theorem opened_attrs {s : Txt} {r : Go.Proofs.YtdnbaliibiginaaGreatDoor.Tok × Txt} (h : openedF s = some r) : r.1.attrs.length ≤ s.length + 1 := by
  unfold openedF at h
  obtain ⟨q, hq, rfl⟩ := Option.map_eq_some_iff.1 h
  have := attrsN_len _ _ _ _ hq
  simp only [List.length_drop, List.length_nil] at *
  omega
/-- No token has many attributes. -/
def Few (n : Nat) (l : List Go.Proofs.YtdnbaliibiginaaGreatDoor.Tok) : Prop := ∀ t ∈ l, t.attrs.length ≤ n
theorem Few.app {n : Nat} {a b : List Go.Proofs.YtdnbaliibiginaaGreatDoor.Tok} (h1 : Few n a) (h2 : Few n b) : Few n (a ++ b) := fun t ht => by
  rcases List.mem_append.1 ht with h | h
  · exact h1 t h
  · exact h2 t h
theorem few_tell (n : Nat) (t : Txt) : Few n (tellF t) := by unfold tellF Few; split <;> simp
theorem few_ins (n : Nat) (nm s : Txt) : Few n (insideT nm s) := by unfold insideT Few; split <;> simp
theorem few_note (n : Nat) (k : Int) (s e : Txt) : Few n (noteF k s e).1 := by unfold noteF Few; simp
theorem few_comment (n : Nat) (s : Txt) : Few n (commentF s).1 := by
  unfold commentF
  split
  · simp [Few]
  · split
    · simp [Few]
    · exact few_note _ _ _ _
theorem few_tag (k : Int) (s : Txt) (n : Nat) (hn : s.length + 1 ≤ n) : Few n (tagF k s).1 := by
  unfold tagF
  cases ho : openedF s with
  | none => simp [Few]
  | some r =>
    have := opened_attrs ho
    simp only
    split
    · simp [Few]
    · split
      · intro t ht
        rcases List.mem_cons.1 ht with h | h
        · subst h; simp only; omega
        · exact few_ins n _ _ t h
      · intro t ht
        simp at ht
        subst ht
        simp only
        omega
theorem few_open {s : Txt} {r : List Go.Proofs.YtdnbaliibiginaaGreatDoor.Tok × Txt} (n : Nat) (hn : s.length + 1 ≤ n) (h : openF s = some r) : Few n r.1 := by
  have ht : s.tail.length ≤ s.length := by simp
  unfold openF at h
  split at h
  · simp at h; subst h; exact few_tag _ _ _ hn
  · split at h
    · simp at h; subst h; exact few_tag _ _ _ (by omega)
    · split at h
      · simp at h; subst h; simp [Few]
      · split at h
        · simp at h; subst h; exact few_comment _ _
        · split at h
          · simp at h; subst h; exact few_note _ _ _ _
          · split at h
            · simp at h; subst h; exact few_note _ _ _ _
            · split at h
              · simp at h; subst h; exact few_note _ _ _ _
              · split at h
                · simp at h; subst h; exact few_note _ _ _ _
                · simp at h
theorem few_run (n : Nat) : ∀ (m : Nat) (t s : Txt), s.length < m → s.length + 1 ≤ n → Few n (runF t s) := by
  intro m
  induction m with
  | zero => intro t s h _; omega
  | succ m ih =>
    intro t s h hn
    rw [runF_eq]
    cases hd : s.drop (textF s) with
    | nil => exact few_tell _ _
    | cons c s1 =>
      have h1 : s1.length < s.length := by
        have := congrArg List.length hd
        simp at this
        omega
      simp only
      cases ho : openF s1 with
      | none => exact ih _ _ (by omega) (by omega)
      | some r =>
        have h2 := few_open n (by omega) ho
        have h3 := openF_le ho
        obtain ⟨ts, r⟩ := r
        exact ((few_tell n _).app h2).app (ih _ _ (by simp only at h3; omega) (by simp only at h3; omega))
theorem few_in (s nm : Txt) : Few (s.length + 1) (inL s nm) := by
  have h := insideR_le nm s
  unfold inL
  split
  · exact (few_ins _ _ _).app (few_run _ (s.length + 1) _ _ (by omega) (by omega))
  · exact few_run _ (s.length + 1) _ _ (by omega) (by omega)

theorem tokenIns (a0 a1 : ByteArray) : boltinglaw06_TokenIns.f a0 a1 = some true := by
  have h := mn500 a0.size
  have h5 := ext500 a0
  unfold boltinglaw06_TokenIns.f
  rw [if_pos h.1, if_pos h.2.1]
  generalize a0.extract 0 (mn (a0.size : Int) 500).toNat = s at *
  unfold boltinglaw06_fixed.f token_In.f boltingref06_In.f
  rw [Option.bind_some, if_pos rfl, if_pos (by omega), Option.bind_some, Option.bind_some]
  have hf := few_in s.data.toList a1.data.toList
  have hl := L_len s
  unfold boltingref06_Same.f
  have hc : ∀ t ∈ ((inL s.data.toList a1.data.toList).map tokT).map tokS, t.attrs.length ≤ 9223372036854775807 := by
    rw [toksS_T]
    intro t ht
    have h8 : t.attrs.length ≤ (L s).length + 1 := hf t ht
    omega
  rw [if_pos ⟨rfl, hc⟩]
  rfl
end Go.Proofs.YtdnbaliibiginaaGreatDoorH.TI
namespace Go.Proofs.YtdnbaliibiginaaGreatDoor
open Go.RowKit Go.Proofs Go.Proofs.YtdnbaliibiginaaGreatDoorH.TI

theorem tokenIns_w (s : ByteArray) (hs : s.size ≤ maxLen) (nm : ByteArray) (hn : nm.size ≤ maxLen) {W : World} (hS : Std W) :
    Calls Tryz.prog 5 #[.string s, .string nm] W fun e w' => e = .returned (.bool true) ∧ Below W.heap.size W w' :=
  boltinglaw06_TokenIns.calls s nm true W (tokenIns s nm) hS
end Go.Proofs.YtdnbaliibiginaaGreatDoor
