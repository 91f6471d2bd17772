/- Lemmas and walks, part 14: QW8A. -/
import Derived.Test.YtdnbaliibiginaaDoorV10
import Derived.Test.YtdnbaliibiginaaDoorV11
import Derived.Test.YtdnbaliibiginaaDoorV12
import Derived.Test.YtdnbaliibiginaaDoorV13
set_option linter.unusedVariables false
set_option linter.unusedSimpArgs false

/- What the printed functions of layer 8 come to: names in lists, start tags, where a tree ends. Plain. -/
namespace Go.Proofs.YtdnbaliibiginaaDoorH.W8
open Go.RowKit Go.Proofs Go.Proofs.YtdnbaliibiginaaDoorH Go.Proofs.YtdnbaliibiginaaDoor Go.Proofs.YtdnbaliibiginaaDoorW.PrintWords
theorem wN {i : Nat} (h : i < 1000000000) : wrap64 ((i : Int) + 1) = ((i + 1 : Nat) : Int) := by unfold wrap64; omega
theorem bIff (a b : ByteArray) : a.toList = b.toList ↔ a.data.toList = b.data.toList := by rw [Lib.toList_data, Lib.toList_data]
def memS (l : List ByteArray) (s : ByteArray) : Bool := l.any fun x => x.data.toList == s.data.toList
theorem rdOf_at (l : List ByteArray) (i : Nat) (h : i < l.length) : rdOf ByteArray.empty l (i : Int) = l[i] := by simp [rdOf, h]
theorem among_l0 (s : ByteArray) (l : List ByteArray) (hl : l.length < 100000) : ∀ (d i k : Nat), l.length - i ≤ d → i ≤ l.length → d < k → names_among.l0 k s l (l.length : Int) i = some (memS (l.drop i) s) := by
 intro d
 induction d with
 | zero =>
  intro i k hd hi hk
  obtain ⟨k, rfl⟩ : ∃ m, k = m + 1 := ⟨k - 1, by omega⟩
  simp only [names_among.l0]
  rw [if_neg (by omega), List.drop_of_length_le (by omega)]
  rfl
 | succ d ih =>
  intro i k hd hi hk
  obtain ⟨k, rfl⟩ : ∃ m, k = m + 1 := ⟨k - 1, by omega⟩
  by_cases h : i < l.length
  ·simp only [names_among.l0]
   rw [if_pos (by omega), if_pos (by omega), if_pos (by omega), rdOf_at l i h, wN (by omega), ih (i + 1) k (by omega) (by omega) (by omega), List.drop_eq_getElem_cons h]
   simp only [memS, List.any_cons]
   by_cases e : l[i].data.toList = s.data.toList
   ·rw [if_pos ((bIff _ _).2 e), e]; simp
   ·rw [if_neg (fun h => e ((bIff _ _).1 h)), beq_eq_false_iff_ne.2 e, Bool.false_or]
  ·simp only [names_among.l0]
   rw [if_neg (by omega), List.drop_of_length_le (by omega)]
   rfl
theorem among_f (s : ByteArray) (l : List ByteArray) (k : Nat) (hl : l.length < 100000) (hk : l.length < k) : names_among.f k s l = some (memS l s) := among_l0 s l hl l.length 0 k (by omega) (by omega) hk
theorem has_l0 (s : ByteArray) (l : List ByteArray) (hl : l.length < 100000) : ∀ (d i k : Nat), l.length - i ≤ d → i ≤ l.length → d < k → boltingref02_Has.l0 k l s i = some (memS (l.drop i) s) := by
 intro d
 induction d with
 | zero =>
  intro i k hd hi hk
  obtain ⟨k, rfl⟩ : ∃ m, k = m + 1 := ⟨k - 1, by omega⟩
  simp only [boltingref02_Has.l0]
  rw [if_neg (by omega), List.drop_of_length_le (by omega)]
  rfl
 | succ d ih =>
  intro i k hd hi hk
  obtain ⟨k, rfl⟩ : ∃ m, k = m + 1 := ⟨k - 1, by omega⟩
  by_cases h : i < l.length
  ·simp only [boltingref02_Has.l0]
   rw [if_pos (by omega), if_pos (by omega), rdOf_at l i h, wN (by omega), ih (i + 1) k (by omega) (by omega) (by omega), List.drop_eq_getElem_cons h]
   simp only [memS, List.any_cons]
   by_cases e : l[i].data.toList = s.data.toList
   ·rw [if_pos ((bIff _ _).2 e), e]; simp
   ·rw [if_neg (fun h => e ((bIff _ _).1 h)), beq_eq_false_iff_ne.2 e, Bool.false_or]
  ·simp only [boltingref02_Has.l0]
   rw [if_neg (by omega), List.drop_of_length_le (by omega)]
   rfl
theorem has_f (s : ByteArray) (l : List ByteArray) (k : Nat) (hl : l.length < 100000) (hk : l.length < k) : boltingref02_Has.f k l s = some (memS l s) := has_l0 s l hl l.length 0 k (by omega) (by omega) hk
def voids : List ByteArray := (boltingref05_Void.f).getD []
def raws : List ByteArray := (boltingref05_Raw.f).getD []
theorem void_f (s : ByteArray) (k : Nat) (hk : 20 ≤ k) : names_Void.f k s = some (memS voids s) := by
 unfold names_Void.f
 rw [among_f _ _ _ (by simp) (by simp; omega)]
 rfl
theorem raw_f (s : ByteArray) (k : Nat) (hk : 20 ≤ k) : names_Raw.f k s = some (memS raws s) := by
 unfold names_Raw.f
 rw [among_f _ _ _ (by simp) (by simp; omega)]
 rfl
theorem voidR_f (s : ByteArray) (k : Nat) (hk : 20 ≤ k) : boltingref02_Has.f k voids s = some (memS voids s) := has_f s voids k (by simp [voids, boltingref05_Void.f]) (by simp [voids, boltingref05_Void.f]; omega)
theorem rawR_f (s : ByteArray) (k : Nat) (hk : 20 ≤ k) : boltingref02_Has.f k raws s = some (memS raws s) := has_f s raws k (by simp [raws, boltingref05_Raw.f]) (by simp [raws, boltingref05_Raw.f]; omega)
def atT (a : S45) : Txt := ((([32] ++ a.f0.data.toList) ++ [61, 34]) ++ wrL true a.f1.data.toList) ++ [34]
def tagT (nm : ByteArray) (l : List S45) : Txt := ([60] ++ nm.data.toList) ++ l.flatMap atT ++ [62]
theorem wrB_at (b : Bool) (v : ByteArray) (h : v.data.toList.length ≤ 1000000000) : wrB b v = some ⟨(wrL b v.data.toList).toArray⟩ := by unfold wrB; rw [if_pos h]
theorem rd45_at (l : List S45) (i : Nat) (h : i < l.length) : rd_T45 l i = l[i] := by simp [rd_T45, h]
theorem l32 : (⟨#[32]⟩ : ByteArray).data.toList = [32] := rfl
theorem l61 : (⟨#[61, 34]⟩ : ByteArray).data.toList = [61, 34] := rfl
theorem l34 : (⟨#[34]⟩ : ByteArray).data.toList = [34] := rfl
theorem l60 : (⟨#[60]⟩ : ByteArray).data.toList = [60] := rfl
theorem lw (b : Bool) (v : List UInt8) : (⟨(wrL b v).toArray⟩ : ByteArray).data.toList = wrL b v := rfl
theorem sz32 : (⟨#[32]⟩ : ByteArray).size = 1 := rfl
theorem sz61 : (⟨#[61, 34]⟩ : ByteArray).size = 2 := rfl
theorem sz34 : (⟨#[34]⟩ : ByteArray).size = 1 := rfl
theorem szw (b : Bool) (v : List UInt8) : (⟨(wrL b v).toArray⟩ : ByteArray).size = (wrL b v).length := mk_size _
set_option maxHeartbeats 1000000 in
theorem opened_l0 (l : List S45) (hl : l.length < 100000) (hv : ∀ a ∈ l, a.f1.data.toList.length ≤ 1000000000) : ∀ (d i k : Nat) (acc : ByteArray), l.length - i ≤ d → i ≤ l.length → d < k →
  acc.data.toList.length + ((l.drop i).flatMap atT).length ≤ 1000000000000 →
  ∃ r, write_opened.l0 k acc l (l.length : Int) i = some r ∧ r.data.toList = (acc.data.toList ++ (l.drop i).flatMap atT) ++ [62] := by
 intro d
 induction d with
 | zero =>
  intro i k acc hd hi hk hz
  obtain ⟨k, rfl⟩ : ∃ m, k = m + 1 := ⟨k - 1, by omega⟩
  simp only [write_opened.l0]
  rw [List.drop_of_length_le (by omega)] at hz ⊢
  rw [if_neg (by omega), if_pos (by rw [ba_size]; simp only [List.flatMap_nil, List.length_nil, Nat.add_zero] at hz; omega)]
  exact ⟨_, rfl, by simp⟩
 | succ d ih =>
  intro i k acc hd hi hk hz
  by_cases h : i < l.length
  ·obtain ⟨k, rfl⟩ : ∃ m, k = m + 1 := ⟨k - 1, by omega⟩
   have hva := hv l[i] (List.getElem_mem h)
   rw [List.drop_eq_getElem_cons h, List.flatMap_cons] at hz
   simp only [List.length_append, atT, List.length_cons, List.length_nil] at hz
   simp only [write_opened.l0]
   rw [if_pos (by omega), if_pos (by omega), if_pos (by omega), rd45_at l i h]
   rw [if_pos (by rw [ba_size]; omega), if_pos (by rw [ByteArray.size_append, sz32, ba_size]; omega)]
   unfold refs_Value.f
   rw [wrB_at true _ hva, Option.bind_some]
   rw [if_pos (by rw [ByteArray.size_append, ByteArray.size_append, sz32, sz61, szw, ba_size]; omega)]
   rw [if_pos (by rw [ByteArray.size_append, ByteArray.size_append, ByteArray.size_append, sz32, sz61, szw, ba_size]; omega)]
   rw [if_pos (by rw [ByteArray.size_append, ByteArray.size_append, ByteArray.size_append, ByteArray.size_append, sz32, sz61, sz34, szw, ba_size, ba_size]; omega)]
   rw [wN (by omega)]
   obtain ⟨r, h1, h2⟩ := ih (i + 1) k (acc ++ ((((⟨#[32]⟩ : ByteArray) ++ l[i].f0) ++ (⟨#[61, 34]⟩ : ByteArray)) ++ (⟨(wrL true l[i].f1.data.toList).toArray⟩ : ByteArray) ++ (⟨#[34]⟩ : ByteArray))) (by omega) (by omega) (by omega)
    (by rw [ba_data, ba_data, ba_data, ba_data, ba_data, l32, l61, lw, l34]; simp only [List.length_append, List.length_cons, List.length_nil]; omega)
   refine ⟨r, h1, ?_⟩
   rw [h2, List.drop_eq_getElem_cons h, List.flatMap_cons, ba_data, ba_data, ba_data, ba_data, ba_data, l32, l61, lw, l34]
   simp only [atT, List.append_assoc]
  ·exact ih i k acc (by omega) hi (by omega) hz
theorem opened_f (x : Rw) (k : Nat) (hl : x.f4.length < 100000) (hk : x.f4.length < k) (hv : ∀ a ∈ x.f4, a.f1.data.toList.length ≤ 1000000000) (hz : (tagT x.f2 x.f4).length ≤ 1000000000000) :
  ∃ r, write_opened.f k x.f0 x.f1 x.f2 x.f3 x.f4 = some r ∧ r.data.toList = tagT x.f2 x.f4 := by
 unfold tagT at hz ⊢
 simp only [List.length_append, List.length_cons, List.length_nil] at hz
 unfold write_opened.f
 rw [if_pos (by rw [ba_size]; omega)]
 obtain ⟨r, h1, h2⟩ := opened_l0 x.f4 hl hv x.f4.length 0 k ((⟨#[60]⟩ : ByteArray) ++ x.f2) (by omega) (by omega) hk (by rw [ba_data, l60, List.drop_zero]; simp only [List.length_append, List.length_cons, List.length_nil]; omega)
 exact ⟨r, h1, by rw [h2, ba_data, l60, List.drop_zero]⟩
set_option maxHeartbeats 1000000 in
theorem tag_l0 (l : List S45) (hl : l.length < 100000) (hv : ∀ a ∈ l, a.f1.data.toList.length ≤ 1000000000) (y0 y1 : Int) (y2 y3 : ByteArray) : ∀ (d i k : Nat) (acc : ByteArray), l.length - i ≤ d → i ≤ l.length → d < k →
  acc.data.toList.length + ((l.drop i).flatMap atT).length ≤ 1000000000000 →
  ∃ r, boltingref08_tag.l0 k acc i y0 y1 y2 y3 l = some r ∧ r.data.toList = (acc.data.toList ++ (l.drop i).flatMap atT) ++ [62] := by
 intro d
 induction d with
 | zero =>
  intro i k acc hd hi hk hz
  obtain ⟨k, rfl⟩ : ∃ m, k = m + 1 := ⟨k - 1, by omega⟩
  simp only [boltingref08_tag.l0]
  rw [List.drop_of_length_le (by omega)] at hz ⊢
  rw [if_neg (by omega), if_pos (by rw [ba_size]; simp only [List.flatMap_nil, List.length_nil, Nat.add_zero] at hz; omega)]
  exact ⟨_, rfl, by simp⟩
 | succ d ih =>
  intro i k acc hd hi hk hz
  by_cases h : i < l.length
  ·obtain ⟨k, rfl⟩ : ∃ m, k = m + 1 := ⟨k - 1, by omega⟩
   have hva := hv l[i] (List.getElem_mem h)
   rw [List.drop_eq_getElem_cons h, List.flatMap_cons] at hz
   simp only [List.length_append, atT, List.length_cons, List.length_nil] at hz
   simp only [boltingref08_tag.l0]
   rw [if_pos (by omega), if_pos (by omega), rd45_at l i h]
   rw [if_pos (by rw [ba_size]; omega), if_pos (by rw [ByteArray.size_append, sz32, ba_size]; omega)]
   unfold boltingref03_Write.f
   rw [wrB_at true _ hva, Option.bind_some]
   rw [if_pos (by rw [ByteArray.size_append, ByteArray.size_append, sz32, sz61, szw, ba_size]; omega)]
   rw [if_pos (by rw [ByteArray.size_append, ByteArray.size_append, ByteArray.size_append, sz32, sz61, szw, ba_size]; omega)]
   rw [if_pos (by rw [ByteArray.size_append, ByteArray.size_append, ByteArray.size_append, ByteArray.size_append, sz32, sz61, sz34, szw, ba_size, ba_size]; omega)]
   rw [wN (by omega)]
   obtain ⟨r, h1, h2⟩ := ih (i + 1) k (acc ++ ((((⟨#[32]⟩ : ByteArray) ++ l[i].f0) ++ (⟨#[61, 34]⟩ : ByteArray)) ++ (⟨(wrL true l[i].f1.data.toList).toArray⟩ : ByteArray) ++ (⟨#[34]⟩ : ByteArray))) (by omega) (by omega) (by omega)
    (by rw [ba_data, ba_data, ba_data, ba_data, ba_data, l32, l61, lw, l34]; simp only [List.length_append, List.length_cons, List.length_nil]; omega)
   refine ⟨r, h1, ?_⟩
   rw [h2, List.drop_eq_getElem_cons h, List.flatMap_cons, ba_data, ba_data, ba_data, ba_data, ba_data, l32, l61, lw, l34]
   simp only [atT, List.append_assoc]
  ·exact ih i k acc (by omega) hi (by omega) hz
theorem tag_f (x : Rw) (k : Nat) (hl : x.f4.length < 100000) (hk : x.f4.length < k) (hv : ∀ a ∈ x.f4, a.f1.data.toList.length ≤ 1000000000) (hz : (tagT x.f2 x.f4).length ≤ 1000000000000) :
  ∃ r, boltingref08_tag.f k x.f0 x.f1 x.f2 x.f3 x.f4 = some r ∧ r.data.toList = tagT x.f2 x.f4 := by
 unfold tagT at hz ⊢
 simp only [List.length_append, List.length_cons, List.length_nil] at hz
 unfold boltingref08_tag.f
 rw [if_pos (by rw [ba_size]; omega)]
 obtain ⟨r, h1, h2⟩ := tag_l0 x.f4 hl hv x.f0 x.f1 x.f2 x.f3 x.f4.length 0 k ((⟨#[60]⟩ : ByteArray) ++ x.f2) (by omega) (by omega) hk (by rw [ba_data, l60, List.drop_zero]; simp only [List.length_append, List.length_cons, List.length_nil]; omega)
 exact ⟨r, h1, by rw [h2, ba_data, l60, List.drop_zero]⟩
theorem refEnd_l0 (xs : List Rw) (hl : xs.length < 100000000) (i : Nat) (hi : i < xs.length) : ∀ (d j k : Nat), xs.length - j ≤ d → j ≤ xs.length → d < k →
  boltingref04_End.l0 k xs i j = some ((j + spanN (rd_T35 xs i).f0 (xs.drop j) : Nat) : Int) := by
 intro d
 induction d with
 | zero =>
  intro j k hd hj hk
  obtain ⟨k, rfl⟩ : ∃ m, k = m + 1 := ⟨k - 1, by omega⟩
  simp only [boltingref04_End.l0]
  rw [if_neg (by omega), List.drop_of_length_le (by omega), show j = xs.length from by omega]
  rfl
 | succ d ih =>
  intro j k hd hj hk
  by_cases h : j < xs.length
  ·obtain ⟨k, rfl⟩ : ∃ m, k = m + 1 := ⟨k - 1, by omega⟩
   have hdj : rd_T35 xs (j : Int) = xs[j] := by simp [rd_T35, h]
   simp only [boltingref04_End.l0]
   rw [if_pos (by omega), if_pos (by omega), if_pos (by omega), if_pos (by omega), List.drop_eq_getElem_cons h, hdj]
   simp only [spanN]
   by_cases e : xs[j].f0 ≤ (rd_T35 xs i).f0
   ·rw [if_pos e, if_neg (by omega), Nat.add_zero]
   ·rw [if_neg e, if_pos (by omega), wN (by omega), ih (j + 1) k (by omega) (by omega) (by omega)]
    congr 2
    omega
  ·exact ih j k (by omega) hj (by omega)
theorem refEnd_f (xs : List Rw) (hl : xs.length < 100000000) (i k : Nat) (hi : i < xs.length) (hk : xs.length < k) : boltingref04_End.f k xs i = some ((endN xs i : Nat) : Int) := by
 unfold boltingref04_End.f
 obtain ⟨k, rfl⟩ : ∃ m, k = m + 1 := ⟨k - 1, by omega⟩
 rw [if_neg (by omega)]
 simp only [boltingref04_End.j0]
 rw [decide_eq_false (by omega), if_neg (by decide), wN (by omega), refEnd_l0 xs hl i hi (xs.length - (i + 1)) (i + 1) k (by omega) (by omega) (by omega)]
 rfl
end Go.Proofs.YtdnbaliibiginaaDoorH.W8
