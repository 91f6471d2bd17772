/- Lemmas and walks, part 7: QLBuildParts. -/
import Derived.Test.YtkcmghlhpbepcaaGreatDoorC7D4
import Derived.Test.YtkcmghlhpbepcaaGreatDoorC7D6
set_option linter.unusedVariables false
set_option linter.unusedSimpArgs false

/- Documents, one behind the other, are each as it is alone, if the first one's elements are all closed: BuildParts is true. -/
namespace Go.Proofs.YtkcmghlhpbepcaaGreatDoor
open Go.RowKit Go.Proofs Go.Proofs.YtkcmghlhpbepcaaGreatDoorH Go.Proofs.YtkcmghlhpbepcaaGreatDoorH.W7 Go.Proofs.YtkcmghlhpbepcaaGreatDoorW.PrintWords Go.Proofs.YtkcmghlhpbepcaaGreatDoor.Ch
theorem memS_map (s : ByteArray) : ∀ L : List ByteArray, memS L s = (L.map fun x => x.data.toList).contains s.data.toList
 | [] => rfl
 | a :: L => by
   have := memS_map s L
   unfold memS at this ⊢
   rw [List.any_cons, List.map_cons, List.contains_cons, this, BEq.comm]
theorem rawP_f (s : ByteArray) (k : Nat) (hk : 100 ≤ k) : names_Raw.f k s = some (rawB s.data.toList) := by
 unfold names_Raw.f
 rw [among_f _ _ _ (by simp) (by simp; omega), Option.bind_some]
 rw [memS_map]
 rfl
theorem softP_f (s : ByteArray) (k : Nat) (hk : 100 ≤ k) : names_Soft.f k s = some (softB s.data.toList) := by
 unfold names_Soft.f
 rw [among_f _ _ _ (by simp) (by simp; omega), Option.bind_some]
 rw [memS_map]
 rfl
theorem voidP_f (s : ByteArray) (k : Nat) (hk : 100 ≤ k) : names_Void.f k s = some (voidL s) := by rw [voidT_f _ _ (by omega), voidL_eq]
theorem goneP_f (s : ByteArray) (k : Nat) (hk : 100 ≤ k) : names_Gone.f k s = some (goneL s) := by rw [goneT_f _ _ (by omega), goneL_eq]
theorem plain_l0 (s : ByteArray) (hz : s.size ≤ 1000) : ∀ (d i k : Nat), i + d = s.size → d < k → ∃ b, boltinglaw07_plain.l0 k s i = some b ∧ (b = true → ∀ j : Nat, i ≤ j → j < s.size → 97 ≤ bt s j ∧ bt s j ≤ 122)
 | 0, i, k, hi, hk => by
   obtain ⟨k, rfl⟩ : ∃ q, k = q + 1 := ⟨k - 1, by omega⟩
   simp only [boltinglaw07_plain.l0]
   rw [if_neg (by omega)]
   exact ⟨_, rfl, fun _ j h1 h2 => by omega⟩
 | d + 1, i, k, hi, hk => by
   obtain ⟨k, rfl⟩ : ∃ q, k = q + 1 := ⟨k - 1, by omega⟩
   obtain ⟨b, e, hb⟩ := plain_l0 s hz d (i + 1) k (by omega) (by omega)
   simp only [boltinglaw07_plain.l0]
   rw [if_pos (by omega), if_pos (by omega)]
   by_cases h1 : bt s i < 97
   ·rw [if_pos h1]; exact ⟨_, rfl, fun h => by cases h⟩
   rw [if_neg h1]
   by_cases h2 : bt s i > 122
   ·rw [if_pos h2]; exact ⟨_, rfl, fun h => by cases h⟩
   rw [if_neg h2, wN (by omega)]
   refine ⟨b, e, fun h j hj1 hj2 => ?_⟩
   by_cases c : j = i
   ·subst c; exact ⟨by omega, by omega⟩
   ·exact hb h j (by omega) hj2
theorem plain_all (s : ByteArray) (hz : s.size ≤ 1000) (k : Nat) (hk : 1001 < k) : ∃ b, boltinglaw07_plain.f k s = some b ∧ (b = true → ∀ c ∈ s.data.toList, 97 ≤ c.toNat ∧ c.toNat ≤ 122) := by
 obtain ⟨b, e, hb⟩ := plain_l0 s hz s.size 0 k (Nat.zero_add _) (by omega)
 refine ⟨b, e, fun h c hc => ?_⟩
 obtain ⟨j, hj, e2⟩ := bt_mem s c hc
 have := hb h j (Nat.zero_le _) hj
 omega
theorem parts_j1 (k : Nat) (hk : 9000 ≤ k) (xs : List ByteArray) (s t : ByteArray) (rs : List Rw) (i : Nat) (hi : i < xs.length) :
 ∃ b, boltinglaw07_BuildParts.j1 (k + 1) xs s t rs i true = boltinglaw07_BuildParts.j2 k xs s t rs i xs[i] b ∧ (b = false → Plain xs[i]) := by
 simp only [boltinglaw07_BuildParts.j1]
 rw [if_pos trivial, if_pos (by omega), if_pos (by omega), rdOf_at xs i hi]
 generalize xs[i] = n
 by_cases h0 : (n.size : Int) > 40
 ·rw [if_pos h0]; exact ⟨_, rfl, fun h => by cases h⟩
 rw [if_neg h0, nright_f n (by omega) k (by omega), Option.bind_some]
 cases h1 : Go.Proofs.YtkcmghlhpbepcaaGreatDoorH.W7.rightB n with
 | false => rw [if_neg (by decide)]; exact ⟨_, rfl, fun h => by cases h⟩
 | true =>
 rw [if_pos rfl, voidP_f _ _ (by omega), Option.bind_some]
 cases h2 : voidL n with
 | true => rw [if_pos rfl]; exact ⟨_, rfl, fun h => by cases h⟩
 | false =>
 rw [if_neg (by decide), rawP_f _ _ (by omega), Option.bind_some]
 cases h3 : rawB n.data.toList with
 | true => rw [if_pos rfl]; exact ⟨_, rfl, fun h => by cases h⟩
 | false =>
 rw [if_neg (by decide), softP_f _ _ (by omega), Option.bind_some]
 cases h4 : softB n.data.toList with
 | true => rw [if_pos rfl]; exact ⟨_, rfl, fun h => by cases h⟩
 | false =>
 rw [if_neg (by decide), goneP_f _ _ (by omega), Option.bind_some]
 cases h5 : goneL n with
 | true => rw [if_pos rfl]; exact ⟨_, rfl, fun h => by cases h⟩
 | false =>
 rw [if_neg (by decide), closesL_f _ _ (by omega), Option.bind_some]
 by_cases h6 : ((closesL n).length : Int) > 0
 ·rw [if_pos h6]; exact ⟨_, rfl, fun h => by cases h⟩
 rw [if_neg h6]
 obtain ⟨b, e, hb⟩ := plain_all n (by omega) k (by omega)
 rw [e, Option.bind_some]
 refine ⟨_, rfl, fun h => ?_⟩
 have hne : n.data.toList ≠ [] := by
  have hp : Go.Proofs.YtkcmghlhpbepcaaGreatDoorH.W7.plainB n ⟨#[47, 62]⟩ = true := by
   unfold Go.Proofs.YtkcmghlhpbepcaaGreatDoorH.W7.rightB at h1
   rw [Bool.and_eq_true] at h1
   exact h1.1
  have := okFrom_nil _ _ _ _ hp
  rwa [Lib.toList_data] at this
 exact ⟨hne, hb (by simpa using h), h2, h5, h3, h4, List.length_eq_zero_iff.1 (by omega), by omega⟩
theorem moved_ref (l : List Rw) (hl : l.length < 1000000) (hd : ∀ x ∈ l, 0 ≤ x.f0 ∧ x.f0 ≤ 1000000) (ha : ∀ x ∈ l, x.f4.length ≤ 1000000) : ∀ (d i k : Nat) (acc : List Rw), i + d = l.length → acc.length ≤ i → d < k → boltingref04_Moved.l0 k l 0 acc i = some (acc ++ l.drop i)
 | 0, i, k, acc, hi, hacc, hk => by
   obtain ⟨k, rfl⟩ : ∃ q, k = q + 1 := ⟨k - 1, by omega⟩
   simp only [boltingref04_Moved.l0]
   rw [if_neg (by omega), List.drop_of_length_le (by omega), List.append_nil]
 | d + 1, i, k, acc, hi, hacc, hk => by
   obtain ⟨k, rfl⟩ : ∃ q, k = q + 1 := ⟨k - 1, by omega⟩
   have hlt : i < l.length := by omega
   have h0 := hd l[i] (List.getElem_mem hlt)
   have h4 := ha l[i] (List.getElem_mem hlt)
   simp only [boltingref04_Moved.l0]
   rw [if_pos (by omega), if_pos (by omega), Option.bind_some, rd35_at l i hlt, if_pos (by simp; omega), if_pos (by omega), wN (by omega), Int.add_zero, wM (by omega) (by omega)]
   rw [moved_ref l hl hd ha d (i + 1) k _ (by omega) (by simp; omega) (by omega), List.append_assoc, List.drop_eq_getElem_cons hlt]
   rfl
theorem moved_rf (l : List Rw) (hl : l.length < 1000000) (hd : ∀ x ∈ l, 0 ≤ x.f0 ∧ x.f0 ≤ 1000000) (ha : ∀ x ∈ l, x.f4.length ≤ 1000000) (k : Nat) (hk : l.length < k) : boltingref04_Moved.f k l 0 = some l := by
 unfold boltingref04_Moved.f
 have := moved_ref l hl hd ha l.length 0 k [] (Nat.zero_add _) (Nat.le_refl _) hk
 simpa using this
theorem docR_ok : ∀ (l : List ByteArray), ∀ x ∈ docR l, (0 ≤ x.f0 ∧ x.f0 ≤ 1000000) ∧ x.f4.length ≤ 1000000
 | [], x, h => by cases h
 | n :: l, x, h => by
   simp only [docR, List.mem_cons] at h
   rcases h with rfl | rfl | h
   ·simp
   ·simp
   ·exact docR_ok l x h
theorem doc_size : ∀ (l : List ByteArray), (∀ n ∈ l, Plain n) → (docT l).length ≤ 90 * l.length
 | [], _ => Nat.le_refl _
 | n :: l, h => by
   have := doc_size l (fun x hx => h x (List.mem_cons_of_mem _ hx))
   have h2 := (h n (by simp)).len
   have hz : n.data.toList.length = n.size := Array.length_toList
   simp only [docT, oneT, List.length_append, List.length_cons, List.length_nil]
   omega
theorem parts_end (xs : List ByteArray) (s t : ByteArray) (l : List ByteArray) (i : Int) (k : Nat) (hk : 9000 ≤ k) (hP : ∀ n ∈ l, Plain n) (hl : l.length ≤ 20) (ht : t.data.toList = docT l) :
 boltinglaw07_BuildParts.j1 (k + 1) xs s t (docR l) i false = some true := by
 have hz : t.data.toList.length = t.size := Array.length_toList
 have hds := doc_size l hP
 have h : 0 ≤ mn (s.size : Int) 100 ∧ mn (s.size : Int) 100 ≤ (s.size : Int) ∧ mn (s.size : Int) 100 ≤ 100 := by
  unfold mn
  split <;> omega
 simp only [boltinglaw07_BuildParts.j1]
 rw [if_neg (by decide), if_pos h.1, if_pos h.2.1]
 have hs : (s.extract 0 (mn (s.size : Int) 100).toNat).size ≤ 100 := by rw [ByteArray.size_extract]; omega
 generalize s.extract 0 (mn (s.size : Int) 100).toNat = u at *
 have hu : u.data.toList.length = u.size := Array.length_toList
 have e7 : (⟨#[60, 105, 62, 60, 47, 105, 62]⟩ : ByteArray).size = 7 := rfl
 rw [parse_val u (by omega), Option.bind_some, if_pos (by rw [ht] at hz; omega), if_pos (by rw [ByteArray.size_append, e7]; rw [ht] at hz; omega)]
 rw [parse_val _ (by rw [ByteArray.size_append, ByteArray.size_append, e7]; rw [ht] at hz; omega), Option.bind_some]
 have e8 : ((t ++ (⟨#[60, 105, 62, 60, 47, 105, 62]⟩ : ByteArray)) ++ u).data.toList = docT l ++ ([60, 105, 62, 60, 47, 105, 62] ++ u.data.toList) := by
  rw [toList_app, toList_app, ht, List.append_assoc]
 rw [e8, doc_tree l _ hP hl (by omega)]
 unfold boltinglaw07_el.f
 rw [Option.bind_some, if_pos (by rw [docR_len]; omega)]
 obtain ⟨hsz, hat⟩ := toks_small u.data.toList [] (by omega)
 cases hT : treeP (toksF u.data.toList []) [] [] with
 | none =>
   rw [if_pos (show (ansF none).2 = (ansF (Option.map (fun o => (docR l ++ [⟨0, 0, ⟨#[105]⟩, ⟨#[]⟩, []⟩]) ++ o) none)).2 from rfl), if_neg (show ¬ (ansF none).2 = 0 by decide)]
   rfl
 | some o =>
   obtain ⟨op, hB⟩ := tree_built _ (by omega) (fun x hx => by have := hat x hx; omega) o hT
   rw [if_pos (show (ansF (some o)).2 = (ansF (Option.map (fun o => (docR l ++ [⟨0, 0, ⟨#[105]⟩, ⟨#[]⟩, []⟩]) ++ o) (some o))).2 from rfl), if_pos (show (ansF (some o)).2 = 0 from rfl)]
   rw [show (ansF (some o)).1 = o from rfl, show (ansF (Option.map (fun o => (docR l ++ [⟨0, 0, ⟨#[105]⟩, ⟨#[]⟩, []⟩]) ++ o) (some o))).1 = (docR l ++ [⟨0, 0, ⟨#[105]⟩, ⟨#[]⟩, []⟩]) ++ o from rfl]
   unfold boltingref04_Join.f
   dsimp only
   rw [moved_rf (docR l ++ [(⟨0, 0, ⟨#[105]⟩, ⟨#[]⟩, []⟩ : Rw)]) (by rw [List.length_append, docR_len]; simp; omega) (by
    intro x hx
    rcases List.mem_append.1 hx with hx | hx
    ·exact (docR_ok l x hx).1
    ·obtain rfl := List.mem_singleton.1 hx; simp) (by
    intro x hx
    rcases List.mem_append.1 hx with hx | hx
    ·exact (docR_ok l x hx).2
    ·obtain rfl := List.mem_singleton.1 hx; simp) k (by rw [List.length_append, docR_len]; simp; omega), Option.bind_some]
   rw [moved_rf o (by have := hB.len; omega) (fun x hx => by have := hB.depth x hx; omega) hB.attrs k (by have := hB.len; omega), Option.bind_some, if_pos (by have := hB.len; rw [List.length_append, docR_len]; simp; omega), Option.bind_some]
   unfold boltingref04_Same.f
   rw [Option.bind_some, decide_eq_true rfl, if_pos rfl]
   rfl
theorem parts_l0 (xs : List ByteArray) (s : ByteArray) : ∀ (d i k : Nat) (t : ByteArray) (l : List ByteArray), 20 - i ≤ d → i ≤ 20 → 9000 + 3 * d + 3 ≤ k → l.length ≤ i → (∀ n ∈ l, Plain n) → t.data.toList = docT l → boltinglaw07_BuildParts.l0 k xs s t (docR l) i = some true := by
 intro d
 induction d with
 | zero =>
   intro i k t l hd hi hk hl hP ht
   obtain ⟨k, rfl⟩ : ∃ q, k = q + 2 := ⟨k - 2, by omega⟩
   obtain rfl : i = 20 := by omega
   simp only [boltinglaw07_BuildParts.l0]
   rw [show (decide (((20 : Nat) : Int) < 20)) = false from rfl]
   have := parts_end xs s t l ((20 : Nat) : Int) k (by omega) hP hl ht
   split <;> exact this
 | succ d ih =>
   intro i k t l hd hi hk hl hP ht
   obtain ⟨k, rfl⟩ : ∃ q, k = q + 3 := ⟨k - 3, by omega⟩
   have hz : t.data.toList.length = t.size := Array.length_toList
   have hds := doc_size l hP
   simp only [boltinglaw07_BuildParts.l0]
   by_cases h1 : (i : Int) < (xs.length : Int)
   ·rw [if_pos h1]
    by_cases h2 : (i : Int) < 20
    ·rw [decide_eq_true h2]
     obtain ⟨b, e, hb⟩ := parts_j1 (k + 1) (by omega) xs s t (docR l) i (by omega)
     rw [e]
     simp only [boltinglaw07_BuildParts.j2]
     cases b with
     | true =>
       rw [if_pos rfl, wN (by omega)]
       exact ih (i + 1) k t l (by omega) (by omega) (by omega) (by omega) hP ht
     | false =>
       rw [if_neg (by decide), wN (by omega)]
       have hn := hb rfl
       generalize xs[i] = n at *
       have hq := hn.len
       have a1 : (⟨#[60]⟩ : ByteArray).size = 1 := rfl
       have a2 : (⟨#[62, 120, 60, 47]⟩ : ByteArray).size = 4 := rfl
       have a3 : (⟨#[62]⟩ : ByteArray).size = 1 := rfl
       rw [ht] at hz
       rw [if_pos (by omega), if_pos (by simp only [ByteArray.size_append, a1]; omega), if_pos (by simp only [ByteArray.size_append, a1, a2]; omega), if_pos (by simp only [ByteArray.size_append, a1, a2]; omega), if_pos (by simp only [ByteArray.size_append, a1, a2, a3]; omega)]
       unfold boltinglaw07_el.f boltinglaw07_text.f
       rw [Option.bind_some, Option.bind_some, Option.bind_some, if_pos (by rw [docR_len]; simp; omega)]
       have hr : docR l ++ [(⟨0, 0, n, ⟨#[]⟩, []⟩ : Rw), ⟨1, 1, ⟨#[]⟩, ⟨#[120]⟩, []⟩] = docR (l ++ [n]) := by rw [docR_app]; rfl
       have := ih (i + 1) k (t ++ (((((⟨#[60]⟩ : ByteArray) ++ n) ++ (⟨#[62, 120, 60, 47]⟩ : ByteArray)) ++ n) ++ (⟨#[62]⟩ : ByteArray))) (l ++ [n]) (by omega) (by omega) (by omega) (by simp; omega) (by
        intro x hx
        rcases List.mem_append.1 hx with hx | hx
        ·exact hP x hx
        ·obtain rfl := List.mem_singleton.1 hx; exact hn) (by
        rw [toList_app, ht, docT_app]
        congr 1
        simp only [toList_app, docT, oneT, List.append_nil]
        simp)
       rw [← hr] at this
       exact this
    ·rw [decide_eq_false h2]
     exact parts_end xs s t l i (k + 1) (by omega) hP (by omega) ht
   ·rw [if_neg h1]
    exact parts_end xs s t l i (k + 1) (by omega) hP (by omega) ht
theorem parts_true (xs : List ByteArray) (s : ByteArray) : boltinglaw07_BuildParts.f 9100 xs s = some true := by
 unfold boltinglaw07_BuildParts.f
 exact parts_l0 xs s 20 0 9100 ⟨#[]⟩ [] (by omega) (by omega) (by omega) (Nat.le_refl _) (fun n h => by cases h) rfl
theorem buildParts_w (A : Option Addr) (c : Nat) (l : List ByteArray) {W : World} (hr : Kd.string.C W A l.length l) (hc : l.length ≤ c) (wf : ∀ x ∈ l, x.size ≤ maxLen) (s : ByteArray) (hs : s.size ≤ maxLen) (hS : Std W) :
 Calls Tryz.prog 10 #[.slice A l.length c, .string s] W fun e w' => e = .returned (.bool true) ∧ Below W.heap.size W w' :=
 boltinglaw07_BuildParts.calls 9100 A c l s true W hr hc (parts_true l s) hS
end Go.Proofs.YtkcmghlhpbepcaaGreatDoor
