/- Lemmas and walks, part 4: QW7Q, QKOpn, QKOp7, QPW7x32, QPW7x39, QPW7x40. -/
import Derived.Test.YtkcmghlhpbepcaaGreatDoorC7D1
import Derived.Test.YtkcmghlhpbepcaaGreatDoorC7D3
import Derived.Test.YtkcmghlhpbepcaaGreatDoorRows
import Derived.Test.YtkcmghlhpbepcaaGreatDoorB77
import Derived.WalkKit
import Derived.ProofKit
import Derived.OpenShut
import Derived.ChangeArms
import Derived.Test.YtkcmghlhpbepcaaGreatDoorB79
import Derived.Test.YtkcmghlhpbepcaaGreatDoorB712
set_option linter.unusedVariables false
set_option linter.unusedSimpArgs false

/- Documents one behind the other, in lists alone: what stands ahead, its elements all closed, is laid ahead. -/
namespace Go.Proofs.YtkcmghlhpbepcaaGreatDoorH.W7
open Go.RowKit Go.Proofs Go.Proofs.YtkcmghlhpbepcaaGreatDoorH Go.Proofs.YtkcmghlhpbepcaaGreatDoor Go.Proofs.YtkcmghlhpbepcaaGreatDoorW.PrintWords Go.Proofs.YtkcmghlhpbepcaaGreatDoor.Ch
theorem lay_pre (op : List ByteArray) (pre out : List Rw) (x : Rw) (h : pre.length + out.length < 4096) : layF op (pre ++ out) false x = (pre ++ (layF op out false x).1, (layF op out false x).2) := by
 unfold layF
 by_cases h6 : 60 ≤ op.length
 ·rw [if_pos (Or.inr h6), if_pos (Or.inr h6)]
 ·rw [if_neg (by rw [List.length_append]; omega), if_neg (by omega), List.append_assoc]
theorem text_pre (op : List ByteArray) (pre out : List Rw) (s : ByteArray) (y : Rw) (hy : pre.getLast? = some y) (hk : y.f1 ≠ 1) (h : pre.length + out.length < 4096) : Go.Proofs.YtkcmghlhpbepcaaGreatDoorH.W7.textF op (pre ++ out) false s = (pre ++ (Go.Proofs.YtkcmghlhpbepcaaGreatDoorH.W7.textF op out false s).1, (Go.Proofs.YtkcmghlhpbepcaaGreatDoorH.W7.textF op out false s).2) := by
 unfold Go.Proofs.YtkcmghlhpbepcaaGreatDoorH.W7.textF
 by_cases e : s.data.toList = []
 ·rw [if_pos e, if_pos e]
 rw [if_neg e, if_neg e]
 cases ho : out.getLast? with
 | none =>
   obtain rfl : out = [] := by simpa using ho
   have h1 : joinB op (pre ++ []) = false := by
    unfold joinB
    rw [List.append_nil, hy]
    simp [hk]
   have h2 : joinB op [] = false := rfl
   rw [h1, h2, if_neg (by decide), if_neg (by decide)]
   exact lay_pre op pre [] _ h
 | some z =>
   have hj : joinB op (pre ++ out) = joinB op out := by
    unfold joinB
    rw [List.getLast?_append, ho]
    rfl
   rw [hj]
   cases hb : joinB op out with
   | false =>
     rw [if_neg (by decide), if_neg (by decide)]
     exact lay_pre op pre out _ h
   | true =>
     rw [if_pos rfl, if_pos rfl]
     have hp : 0 < out.length := by cases out with | nil => cases ho | cons a l => simp
     have r1 := last_rd (pre ++ out) (by rw [List.length_append]; omega)
     have r2 := last_rd out hp
     rw [List.getLast?_append, ho] at r1
     rw [ho] at r2
     have e1 := Option.some.inj r1
     have e2 := Option.some.inj r2
     try simp only at e1 e2
     rw [← e1, ← e2]
     have : (pre ++ out).set ((pre ++ out).length - 1) (addT z s) = pre ++ out.set (out.length - 1) (addT z s) := by
      rw [List.set_append_right _ _ (by rw [List.length_append]; omega), List.length_append]
      congr 2
      omega
     rw [this]
theorem step_pre (op : List ByteArray) (pre out : List Rw) (t : Tk) (y : Rw) (hy : pre.getLast? = some y) (hk : y.f1 ≠ 1) (h : pre.length + out.length < 4096) : stepF op (pre ++ out) t = ((stepF op out t).1, pre ++ (stepF op out t).2.1, (stepF op out t).2.2) := by
 unfold stepF
 split
 ·rw [text_pre op pre out _ y hy hk h]
 ·split
  ·rw [lay_pre op pre out _ h]
  ·split
   ·unfold startF
    split
    ·rfl
    ·split
     ·rfl
     ·rw [lay_pre _ pre out _ h]
   ·split
    ·unfold Go.Proofs.YtkcmghlhpbepcaaGreatDoorH.W7.endF
     split
     ·rfl
     ·split
      ·rfl
      ·split
       ·rfl
       ·split
        ·rfl
        ·split
         ·rw [lay_pre _ pre out _ h]
         ·rfl
    ·rfl
theorem grown_len {t : Tk} {out o : List Rw} (h : Grown t out o) : o.length ≤ out.length + 1 := by
 cases h with
 | same => omega
 | app x => simp
 | text pre y he => subst he; simp
theorem tree_pre : ∀ (L : List Tk) (op : List ByteArray) (pre out : List Rw) (y : Rw), pre.getLast? = some y → y.f1 ≠ 1 → pre.length + out.length + L.length ≤ 4096 → treeP L op (pre ++ out) = (treeP L op out).map fun o => pre ++ o
 | [], op, pre, out, y, _, _, _ => rfl
 | t :: L, op, pre, out, y, hy, hk, h => by
   simp only [List.length_cons] at h
   simp only [treeP]
   rw [step_pre op pre out t y hy hk (by omega)]
   cases hb : (stepF op out t).2.2 with
   | true => rfl
   | false =>
     rw [if_neg (by decide), if_neg (by decide)]
     have := grown_len (step_grown op out t hb)
     exact tree_pre L _ pre _ y hy hk (by omega)
structure Plain (n : ByteArray) : Prop where
 ne : n.data.toList ≠ []
 all : ∀ c ∈ n.data.toList, 97 ≤ c.toNat ∧ c.toNat ≤ 122
 void : voidL n = false
 gone : goneL n = false
 raw : rawB n.data.toList = false
 soft : softB n.data.toList = false
 closes : closesL n = []
 len : n.size ≤ 40
theorem par_li (n : ByteArray) (h : parL n = true) : closesL n ≠ [] := by
 have e : n.data.toList = [108, 105] ∨ n.data.toList = [100, 100] ∨ n.data.toList = [100, 116] := by
  unfold parL build_paragraph.f at h
  by_cases h1 : n.toList = [108, 105]
  ·rw [Lib.toList_data] at h1; exact Or.inl h1
  rw [if_neg h1] at h
  by_cases h2 : n.toList = [100, 100]
  ·rw [Lib.toList_data] at h2; exact Or.inr (Or.inl h2)
  rw [if_neg h2] at h
  rw [Lib.toList_data] at h
  exact Or.inr (Or.inr (by simpa using h))
 have hn : n = ⟨n.data.toList.toArray⟩ := by cases n; simp
 rw [hn]
 rcases e with e | e | e
 all_goals
  rw [e]
  first | decide | (intro h; have h2 : (closesL ⟨[108, 105].toArray⟩).length = 1 := by kernel_rfl
                    rw [h] at h2; cases h2) | (intro h; have h2 : (closesL ⟨[100, 100].toArray⟩).length = 2 := by kernel_rfl
                                               rw [h] at h2; cases h2) | (intro h; have h2 : (closesL ⟨[100, 116].toArray⟩).length = 2 := by kernel_rfl
                                                                          rw [h] at h2; cases h2)
theorem Plain.par {n : ByteArray} (h : Plain n) : parL n = false := by
 cases e : parL n with
 | false => rfl
 | true => exact absurd h.closes (par_li n e)
def midB (c : UInt8) : Bool := decide (97 ≤ c.toNat) && decide (c.toNat ≤ 122)
def fineB (c : UInt8) : Bool := !(Go.Proofs.YtkcmghlhpbepcaaGreatDoor.spaceB c || (decide (65 ≤ c.toNat) && decide (c.toNat ≤ 90)) || c == 0 || [47, 62].contains c)
theorem Plain.tag {n : ByteArray} (h : Plain n) : TagName n.data.toList := by
 refine right_name ?_
 unfold Go.Proofs.YtkcmghlhpbepcaaGreatDoor.rightB Go.Proofs.YtkcmghlhpbepcaaGreatDoor.plainB
 have hc : ∀ c ∈ n.data.toList, fineB c = true := by
  intro c hc
  have hr := h.all c hc
  have hm : midB c = true := by simp [midB, hr.1, hr.2]
  have := all_u8 (p := fun c => !midB c || fineB c) (by decide +kernel) c
  rw [hm] at this
  exact this
 rw [show (fun c => !(Go.Proofs.YtkcmghlhpbepcaaGreatDoor.spaceB c || (decide (65 ≤ c.toNat) && decide (c.toNat ≤ 90)) || c == 0 || [47, 62].contains c)) = fineB from rfl, List.all_eq_true.2 hc]
 have hne := h.ne
 have hl : letterL n.data.toList = true := by
  cases e : n.data.toList with
  | nil => exact absurd e hne
  | cons c r =>
    have := h.all c (by rw [e]; simp)
    simp [letterL, Go.Proofs.YtkcmghlhpbepcaaGreatDoor.letterB, this.1, this.2]
 rw [hl]
 cases e : n.data.toList with
 | nil => exact absurd e hne
 | cons c r => rfl
def stTk (n : ByteArray) : Tk := ⟨1, n, ⟨#[]⟩, [], false⟩
def enTk (n : ByteArray) : Tk := ⟨2, n, ⟨#[]⟩, [], false⟩
def txTk (s : ByteArray) : Tk := ⟨0, ⟨#[]⟩, s, [], false⟩
theorem Plain.start {n : ByteArray} (h : Plain n) (op : List ByteArray) (out : List Rw) (hl : out.length < 4096) (ho : op.length < 60) : stepF op out (stTk n) = (op ++ [n], out ++ [⟨op.length, 0, n, ⟨#[]⟩, []⟩], false) := by
 have hs : startOp op n = op := by
  unfold startOp
  rw [h.par, if_neg (by decide), h.closes, close_none]
 unfold stepF stTk
 rw [if_neg (by simp), if_neg (by simp), if_pos rfl]
 unfold startF
 rw [if_neg h.ne, h.gone, if_neg (by decide), h.void, if_neg (by decide), hs]
 unfold layF
 rw [if_neg (by omega)]
 rfl
theorem contains_self (n : ByteArray) : Lib.containsS [n] n = true := by
 rw [Lib.containsS_iff]
 simp
theorem Plain.end {n : ByteArray} (h : Plain n) (op : List ByteArray) (out : List Rw) : stepF (op ++ [n]) out (enTk n) = (op, out, false) := by
 unfold stepF enTk
 rw [if_neg (by simp), if_neg (by simp), if_neg (by simp), if_pos rfl]
 unfold Go.Proofs.YtkcmghlhpbepcaaGreatDoorH.W7.endF
 rw [if_neg h.ne, h.gone, if_neg (by decide), h.void, if_neg (by decide)]
 have hf : foundK (op ++ [n]) [n] (endW n) (op ++ [n]).length = (op.length : Int) := by
  rw [List.length_append]
  simp only [List.length_cons, List.length_nil, Nat.zero_add, foundK]
  have e : (op ++ [n]).getD op.length ⟨#[]⟩ = n := by simp [List.getD_eq_getElem?_getD]
  rw [e, contains_self, if_pos rfl]
 rw [hf, if_pos (by omega)]
 simp
theorem text_step (op : List ByteArray) (out : List Rw) (s : ByteArray) (hs : s.data.toList ≠ []) (hj : joinB op out = false) (hl : out.length < 4096) (ho : op.length < 60) : stepF op out (txTk s) = (op, out ++ [⟨op.length, 1, ⟨#[]⟩, s, []⟩], false) := by
 unfold stepF txTk
 rw [if_pos rfl]
 unfold Go.Proofs.YtkcmghlhpbepcaaGreatDoorH.W7.textF
 rw [if_neg hs, hj, if_neg (by decide)]
 unfold layF
 rw [if_neg (by omega)]
abbrev xB : ByteArray := ⟨#[120]⟩
theorem Plain.three {n : ByteArray} (h : Plain n) (out : List Rw) (L : List Tk) (hl : out.length + 2 < 4096) : treeP (stTk n :: txTk xB :: enTk n :: L) [] out = treeP L [] (out ++ [⟨0, 0, n, ⟨#[]⟩, []⟩, ⟨1, 1, ⟨#[]⟩, xB, []⟩]) := by
 simp only [treeP]
 rw [h.start [] out (by omega) (by decide)]
 simp only [List.nil_append, List.length_nil, Int.ofNat_zero, Int.natCast_zero]
 rw [text_step [n] _ xB (by decide) (by simp [joinB]) (by rw [List.length_append]; simp; omega) (by simp)]
 simp only
 have := h.end [] ((out ++ [⟨0, 0, n, ⟨#[]⟩, []⟩]) ++ [⟨(([n] : List ByteArray).length : Int), 1, ⟨#[]⟩, xB, []⟩])
 simp only [List.nil_append] at this
 rw [this]
 simp
theorem Plain.two {n : ByteArray} (h : Plain n) (out : List Rw) (L : List Tk) (hl : out.length + 2 < 4096) : treeP (stTk n :: enTk n :: L) [] out = treeP L [] (out ++ [⟨0, 0, n, ⟨#[]⟩, []⟩]) := by
 simp only [treeP]
 rw [h.start [] out (by omega) (by decide)]
 simp only [List.nil_append, List.length_nil, Int.ofNat_zero, Int.natCast_zero]
 have := h.end [] (out ++ [⟨0, 0, n, ⟨#[]⟩, []⟩])
 simp only [List.nil_append] at this
 rw [this]
 simp
def oneT (n : Txt) : Txt := 60 :: (n ++ (62 :: 120 :: 60 :: 47 :: (n ++ [62])))
theorem Plain.run {n : ByteArray} (h : Plain n) (r : Txt) : runF [] (oneT n.data.toList ++ r) = ⟨1, n.data.toList, [], [], false⟩ :: ⟨0, [], [], [120], false⟩ :: ⟨2, n.data.toList, [], [], false⟩ :: runF [] r := by
 have hs : (rawB n.data.toList || softB n.data.toList) = false := by rw [h.raw, h.soft]; rfl
 have h1 : ∀ r, openF (n.data.toList ++ 62 :: r) = some ([⟨1, n.data.toList, [], [], false⟩], r) := fun r => by
  have := open_start (nm := n.data.toList) (r := r) (l := []) (b := false) h.tag (by simp) (by simp)
  rw [hs] at this
  simpa [attrsW, selfW] using this
 have h2 := open_end (nm := n.data.toList) (r := r) h.tag
 have e : oneT n.data.toList ++ r = 60 :: (n.data.toList ++ 62 :: ([120] ++ 60 :: (47 :: (n.data.toList ++ 62 :: r)))) := by
  simp [oneT]
 have ht : tellF ([] ++ [120]) = [⟨0, [], [], [120], false⟩] := by
  have := tell_wr (x := [120]) (by decide)
  rwa [show wrL false [120] = [120] from by decide] at this
 rw [e, run_open (h1 _), run_hit (by decide) h2, ht]
 rfl
theorem Plain.run2 {n : ByteArray} (h : Plain n) (r : Txt) : runF [] (60 :: (n.data.toList ++ (62 :: 60 :: 47 :: (n.data.toList ++ 62 :: r)))) = ⟨1, n.data.toList, [], [], false⟩ :: ⟨2, n.data.toList, [], [], false⟩ :: runF [] r := by
 have hs : (rawB n.data.toList || softB n.data.toList) = false := by rw [h.raw, h.soft]; rfl
 have h1 : ∀ r, openF (n.data.toList ++ 62 :: r) = some ([⟨1, n.data.toList, [], [], false⟩], r) := fun r => by
  have := open_start (nm := n.data.toList) (r := r) (l := []) (b := false) h.tag (by simp) (by simp)
  rw [hs] at this
  simpa [attrsW, selfW] using this
 have h2 := open_end (nm := n.data.toList) (r := r) h.tag
 rw [run_open (h1 _), run_open h2]
 rfl
theorem letters_easy {n : Txt} (h : ∀ c ∈ n, 97 ≤ c.toNat ∧ c.toNat ≤ 122) : n.all easyB = true := by
 rw [List.all_eq_true]
 intro c hc
 have := h c hc
 refine easy2 ?_ ?_ (by omega)
 ·rintro rfl; exact absurd this.1 (by decide)
 ·rintro rfl; exact absurd this.1 (by decide)
where
 easy2 {c : UInt8} (h0 : c ≠ 0) (h1 : c ≠ 13) (h2 : c.toNat ≤ 126) : easyB c = true := by
  simp only [easyB, Bool.and_eq_true, decide_eq_true_eq]
  exact ⟨⟨h0, h1⟩, by omega⟩
theorem Plain.easy {n : ByteArray} (h : Plain n) : (oneT n.data.toList).all easyB = true := by
 have := letters_easy h.all
 simp only [oneT, List.all_cons, List.all_append, this, List.all_nil]
 decide
theorem i_plain : Plain ⟨#[105]⟩ := ⟨by decide, by decide, by kernel_rfl, by kernel_rfl, by decide, by decide, by kernel_rfl, by decide⟩
def docT : List ByteArray → Txt
 | [] => []
 | n :: l => oneT n.data.toList ++ docT l
def docR : List ByteArray → List Rw
 | [] => []
 | n :: l => ⟨0, 0, n, ⟨#[]⟩, []⟩ :: ⟨1, 1, ⟨#[]⟩, xB, []⟩ :: docR l
theorem docT_app : ∀ (a b : List ByteArray), docT (a ++ b) = docT a ++ docT b
 | [], b => rfl
 | n :: a, b => by simp [docT, docT_app a b]
theorem docR_app : ∀ (a b : List ByteArray), docR (a ++ b) = docR a ++ docR b
 | [], b => rfl
 | n :: a, b => by simp [docR, docR_app a b]
theorem docR_len : ∀ l : List ByteArray, (docR l).length = 2 * l.length
 | [] => rfl
 | n :: l => by
   simp only [docR, List.length_cons, docR_len l]
   omega
theorem doc_easy : ∀ (l : List ByteArray), (∀ n ∈ l, Plain n) → (docT l).all easyB = true
 | [], _ => rfl
 | n :: l, h => by
   simp only [docT, List.all_append, (h n (by simp)).easy, doc_easy l (fun x hx => h x (List.mem_cons_of_mem _ hx)), Bool.and_self]
theorem doc_run : ∀ (l : List ByteArray) (r : Txt), (∀ n ∈ l, Plain n) → ∃ T : List Tok, runF [] (docT l ++ r) = T ++ runF [] r ∧ ∀ (L : List Tk) (out : List Rw), out.length + 2 * l.length < 4096 → treeP (T.map tokT ++ L) [] out = treeP L [] (out ++ docR l)
 | [], r, _ => ⟨[], rfl, fun L out _ => by simp [docR]⟩
 | n :: l, r, h => by
   obtain ⟨T, e, ht⟩ := doc_run l r (fun x hx => h x (List.mem_cons_of_mem _ hx))
   have hn := h n (by simp)
   refine ⟨⟨1, n.data.toList, [], [], false⟩ :: ⟨0, [], [], [120], false⟩ :: ⟨2, n.data.toList, [], [], false⟩ :: T, ?_, fun L out hl => ?_⟩
   ·simp only [docT]
    rw [List.append_assoc, hn.run, e]
    rfl
   ·simp only [List.length_cons] at hl
    have e1 : tokT ⟨1, n.data.toList, [], [], false⟩ = stTk n := by simp [tokT, stTk]
    have e2 : tokT ⟨2, n.data.toList, [], [], false⟩ = enTk n := by simp [tokT, enTk]
    have e0 : tokT ⟨0, [], [], [120], false⟩ = txTk xB := rfl
    simp only [List.map_cons, List.cons_append, e0, e1, e2]
    rw [hn.three out _ (by omega), ht L _ (by simp; omega)]
    simp [docR]
theorem doc_tree (l : List ByteArray) (s : Txt) (h : ∀ n ∈ l, Plain n) (hl : l.length ≤ 20) (hs : s.length ≤ 100) :
 treeP (toksF (docT l ++ ([60, 105, 62, 60, 47, 105, 62] ++ s)) []) [] [] = (treeP (toksF s []) [] []).map fun o => (docR l ++ [⟨0, 0, ⟨#[105]⟩, ⟨#[]⟩, []⟩]) ++ o := by
 have h0 : (rawB [] || softB []) = false := by decide
 have e1 : toksF (docT l ++ ([60, 105, 62, 60, 47, 105, 62] ++ s)) [] = (runF [] (docT l ++ ([60, 105, 62, 60, 47, 105, 62] ++ readyF s))).map tokT := by
  unfold toksF
  rw [readyF_pre _ _ (doc_easy l h), readyF_pre [60, 105, 62, 60, 47, 105, 62] s (by decide)]
  unfold inL
  rw [h0, if_neg (by decide)]
 have e2 : toksF s [] = (runF [] (readyF s)).map tokT := by
  unfold toksF inL
  rw [h0, if_neg (by decide)]
 have hcount : (toksF s []).length ≤ 2700 := by
  have h1 := readyF_len s
  have h2 := inL_len (readyF s) []
  have hk := inL_ok (readyF s) []
  have h3 : ∀ L : List Tok, (∀ t ∈ L, ShapeOK t) → 3 * L.length ≤ wts L := by
   intro L
   induction L with
   | nil => intro _; simp [wts]
   | cons t L ih =>
     intro hL
     have ih2 := ih (fun x hx => hL x (List.mem_cons_of_mem _ hx))
     have h3 : 3 ≤ wt t := by
      have hS := hL t (by simp)
      have hg := hS.ge
      have hle := hS.le
      unfold wt
      split
      ·rename_i k0
       have := List.length_pos_iff.2 (hS.text k0)
       omega
      ·rename_i k0
       unfold tokW
       rcases (show t.kind = 1 ∨ t.kind = 2 ∨ t.kind = 3 ∨ t.kind = 4 from by omega) with k | k | k | k
       all_goals (simp [k, taggedW]; try omega)
       all_goals (have := List.length_pos_iff.2 (hS.tag (by first | exact Or.inl k | exact Or.inr k)).1.ne; omega)
     rw [wts_cons, List.length_cons]
     omega
  have h4 := h3 _ hk
  unfold toksF
  rw [List.length_map]
  omega
 obtain ⟨T, e3, ht⟩ := doc_run l ([60, 105, 62, 60, 47, 105, 62] ++ readyF s) h
 have e4 : runF [] ([60, 105, 62, 60, 47, 105, 62] ++ readyF s) = ⟨1, [105], [], [], false⟩ :: ⟨2, [105], [], [], false⟩ :: runF [] (readyF s) := i_plain.run2 (readyF s)
 rw [e1, e3, e4, List.map_append, ht _ [] (by simp; omega)]
 simp only [List.map_cons, List.nil_append]
 have e5 : tokT ⟨1, [105], [], [], false⟩ = stTk ⟨#[105]⟩ := rfl
 have e6 : tokT ⟨2, [105], [], [], false⟩ = enTk ⟨#[105]⟩ := rfl
 rw [e5, e6, i_plain.two _ _ (by rw [docR_len]; omega), ← e2]
 have := tree_pre (toksF s []) [] (docR l ++ [⟨0, 0, ⟨#[105]⟩, ⟨#[]⟩, []⟩]) [] ⟨0, 0, ⟨#[105]⟩, ⟨#[]⟩, []⟩ (by simp) (by decide) (by simp [docR_len]; omega)
 rwa [List.append_nil] at this
end Go.Proofs.YtkcmghlhpbepcaaGreatDoorH.W7

/- What came in, in the words of the printed walks: kind by kind, what a datum's cells say, how much it is at the least, and that its numbers fit. -/
namespace Go.Proofs.YtkcmghlhpbepcaaGreatDoorH
open Go.RowKit Go.Proofs Go.Proofs.YtkcmghlhpbepcaaGreatDoorW.PrintWords
open Go.ChangeShapes Go.WideShapes Go.ChangeAt
open Go.Proofs.YtkcmghlhpbepcaaGreatDoor (Rows.uptoBulk Rows.uptoBulkAll)
theorem cells_at {w : World} {base n : Nat} {a : Addr} {cs : List Value} (h : w.cells? base a n = some cs) : cs.length = n ∧ ∀ j, j < n → w.cell? (a.add j) = cs[j]? := by
 unfold World.cells? at h
 split at h
 ·have hl := mapM_some_length h
  refine ⟨by simpa using hl, fun j hj => ?_⟩
  have := mapM_some_get h j j (by simp [hj])
  exact this
 ·cases h
theorem add_add (a : Addr) (n m : Nat) : (a.add n).add m = a.add (n + m) := by
 unfold Addr.add
 by_cases hm : m = 0
 ·subst hm; simp
 ·by_cases hn : n = 0
  ·subst hn; simp
  ·simp [hm, hn, Nat.add_assoc]
theorem list_of {α : Type} (P : Nat → α → Prop) : ∀ (n : Nat), (∀ i, i < n → ∃ x, P i x) → ∃ L : List α, L.length = n ∧ ∀ i (h : i < L.length), P i L[i]
 | 0, _ => ⟨[], rfl, fun i h => by simp at h⟩
 | n + 1, h => by
   obtain ⟨L, hl, hp⟩ := list_of P n (fun i hi => h i (by omega))
   obtain ⟨x, hx⟩ := h n (by omega)
   refine ⟨L ++ [x], by simp [hl], fun i hi => ?_⟩
   rcases Nat.lt_or_ge i L.length with e | e
   ·rw [List.getElem_append_left e]
    exact hp i e
   ·have e2 : i = L.length := by simp at hi; omega
    subst e2
    rw [List.getElem_append_right (by omega)]
    simp only [Nat.sub_self, List.getElem_cons_zero]
    rw [hl]
    exact hx
def Opn {α : Type} (P : Program) (t : TypeId) (d : Kd α) (wt : α → Nat) (Wf : α → Prop) : Prop :=
 ∀ {H : Type} {enc : TypeId × Value → H} {w : World} {base : Nat} {spare : Nat → Bool} {held : Bool} {fuel : Nat} {cs : List Value} {x : DataW H × List MemPlace},
  DataW.trod enc P w base spare held fuel t cs = some x → ∃ a : α, d.K w a cs ∧ wt a ≤ Rows.uptoBulk x.1 ∧ Wf a
section
variable {P : Program} {t e : TypeId}
theorem opn_string (hu : P.underlying t = some .string) : Opn P t Kd.string (fun s => s.size + 1) (fun s => s.size ≤ maxLen) := by
 intro H enc w base spare held fuel cs x h
 obtain ⟨s, rfl, rfl, hs⟩ := DataW.trod_string hu h
 refine ⟨s, rfl, ?_, hs⟩
 simp only [Rows.uptoBulk, Array.length_toList]
 exact Nat.le_refl _
theorem bulk_all {H : Type} {α : Type} (wt : α → Nat) : ∀ (l : List α) (es : List (DataW H × List MemPlace)), l.length = es.length → (∀ i (h : i < l.length) (h' : i < es.length), wt l[i] ≤ Rows.uptoBulk es[i].1) → (l.map wt).sum ≤ Rows.uptoBulkAll (es.map (·.1))
 | [], _, _, _ => by simp
 | _ :: _, [], h, _ => by simp at h
 | a :: l, y :: es, h, hp => by
   have h0 := hp 0 (by simp) (by simp)
   have ih := bulk_all wt l es (by simpa using h) (fun i h1 h2 => by
    have := hp (i + 1) (by simp; omega) (by simp; omega)
    simpa using this)
   simp only [List.map_cons, List.sum_cons, Rows.uptoBulkAll]
   simp only [List.getElem_cons_zero] at h0
   omega
theorem opn_slice {α : Type} {d : Kd α} {wt : α → Nat} {Wf : α → Prop} (hu : P.underlying t = some (.slice e)) (hsz : P.cellsOf e = d.sz) (ho : Opn P e d wt Wf) :
 Opn P t (Kd.slice e d) (fun l => (l.map wt).sum + 1) (fun l => ∀ x ∈ l, Wf x) := by
 intro H enc w base spare held fuel cs x h
 rcases DataW.trod_slice hu h with ⟨rfl, rfl⟩ | ⟨a, len, cap, elems, rest, n, _, rfl, rfl, hb, hle, hc, hlen, hel, _, _⟩
 ·exact ⟨[], ⟨none, 0, rfl, Nat.le_refl _, ⟨rfl, by simp, fun h => by simp at h⟩⟩, by simp [Rows.uptoBulk], by simp⟩
 ·obtain ⟨L, hL, hp⟩ := list_of (fun i (y : α) => ∃ c : List Value, c.length = d.sz ∧ d.K w y c ∧ (∀ j u, c[j]? = some u → w.cell? (a.add (i * d.sz + j)) = some u) ∧ (∀ (h' : i < elems.length), wt y ≤ Rows.uptoBulk elems[i].1) ∧ Wf y) len (by
   intro i hi
   have h1 := hel i hi
   have hi2 : i < elems.length := by omega
   rw [List.getElem?_eq_getElem hi2, Option.bind_eq_some_iff] at h1
   obtain ⟨c, h2, h3⟩ := h1
   obtain ⟨y, hK, hw, hf⟩ := ho h3
   obtain ⟨hcl, h6⟩ := cells_at h2
   rw [hsz] at h2 hcl h6
   refine ⟨y, c, hcl, hK, fun j u hj => ?_, fun _ => hw, hf⟩
   have hjl : j < c.length := by
    rcases Nat.lt_or_ge j c.length with h7 | h7
    ·exact h7
    ·rw [List.getElem?_eq_none h7] at hj; cases hj
   have := h6 j (by omega)
   rw [add_add] at this
   exact this.trans hj)
  refine ⟨L, ⟨some a, cap, by rw [hL], by rw [hL]; exact hle, ⟨rfl, ?_, fun _ => ⟨a, rfl, fun j p hj => ?_⟩⟩⟩, ?_, fun y hy => ?_⟩
  ·unfold maxLen at hc; omega
  ·obtain ⟨hj1, rfl⟩ := List.getElem?_eq_some_iff.1 hj
   obtain ⟨c, g1, g2, g3, _⟩ := hp j hj1
   exact ⟨c, g1, g2, g3⟩
  ·have := bulk_all wt L elems (by omega) (fun i h1 h2 => by obtain ⟨_, _, _, _, g4, _⟩ := hp i h1; exact g4 h2)
   simp only [Rows.uptoBulk]
   omega
  ·obtain ⟨i, hi, rfl⟩ := List.getElem_of_mem hy
   obtain ⟨_, _, _, _, _, g⟩ := hp i hi
   exact g
end
end Go.Proofs.YtkcmghlhpbepcaaGreatDoorH

/- What came in: openings of the types that the statements of layer 7 take. -/
namespace Go.Proofs.YtkcmghlhpbepcaaGreatDoorH.W7
open Go.RowKit Go.Proofs Go.Proofs.YtkcmghlhpbepcaaGreatDoorH Go.Proofs.YtkcmghlhpbepcaaGreatDoorW.PrintWords
open Go.Proofs.YtkcmghlhpbepcaaGreatDoor (Rows.uptoBulk Rows.uptoBulkAll)
theorem opn9 : Opn Tryz.prog 9 Kd.string (fun s => s.size + 1) (fun s => s.size ≤ maxLen) := opn_string Tryz.underlying9
theorem opn41 : Opn Tryz.prog 41 (Kd.slice 9 Kd.string) (fun l => (l.map (fun s => s.size + 1)).sum + 1) (fun l => ∀ x ∈ l, x.size ≤ maxLen) := opn_slice Tryz.underlying41 (by kernel_rfl) opn9
end Go.Proofs.YtkcmghlhpbepcaaGreatDoorH.W7

/- Words and walks used below. -/
namespace Go.Proofs.YtkcmghlhpbepcaaGreatDoorH.W7
open Go.RowKit Go.Proofs.YtkcmghlhpbepcaaGreatDoorW.PrintWords Go.Proofs.YtkcmghlhpbepcaaGreatDoorW.PrintLast Go.Proofs.YtkcmghlhpbepcaaGreatDoorW.PrintMore
attribute [local go_sem] max2_int min2_int max_two min_two max_three min_three max_four min_four   -- for this text's walks alone
def boltinglaw07_text.f (a0 : Int) (a1 : ByteArray) : Option (Int × Int × ByteArray × ByteArray × (List (S36))) := some (a0, 1, (⟨#[]⟩ : ByteArray), a1, ([] : List (S36)))
set_option maxHeartbeats 8000000 in
set_option maxRecDepth 100000 in
theorem boltinglaw07_text.calls (a0 : Int) (a1 : ByteArray) (r1 : Int) (r2 : Int) (r3 : ByteArray) (r4 : ByteArray) (r5 : List (S36)) (w : World) (h : boltinglaw07_text.f a0 a1 = some (r1, r2, r3, r4, r5)) :
 Calls Tryz.prog 29 #[.int .i64 a0, .string a1] w fun e w' => ∃ v4_ : Value, e = .returned (.agg #[.int .i64 r1, .int .i64 r2, .string r3, .string r4, v4_]) ∧ Kd.R k36 36 w' w.heap.size (fun _ => True) v4_ r5 ∧ Below w.heap.size w w' := by
 have hu34 := Tryz.underlying34
 have HB := Aside0.mk (Below.refl w.heap.size w)
 have H : (some (a0, 1, (⟨#[]⟩ : ByteArray), a1, ([] : List (S36)))) = some (r1, r2, r3, r4, r5) := h
 clear h
 simp only [Option.some.injEq, Prod.mk.injEq] at H
 obtain ⟨rfl, rfl, rfl, rfl, rfl⟩ := H
 go_enter Tryz.func29, Tryz.ntmps29
 go_wp2_with (first | ((with_reducible refine gate_dst (N := 4) rfl ?_); refine box_event ?hg (N := 4) ?hd (cs := #[.int .i64 0, .int .i64 0, .string (⟨#[]⟩ : ByteArray), .string (⟨#[]⟩ : ByteArray), .slice none 0 0]) (t := 34) ?hr ?_; (case hd => rfl); (case hg => rfl); (case hr => first | (go_simp; done) | (go_simp; rfl)); intro gb338 hg w3 hbox hb; have n0_ := Aside0.mk (below_step bz hb); have n1_ := Aside0.mk (hbox); have n2_ := Aside0.mk ((by rw [hg]; exact (below_size bz) : w.heap.size ≤ gb338)); have n3_ := Aside0.mk ((by rw [hg]; exact (below_size bz) : w.heap.size ≤ gb338)); clear HB; have HB := n0_; have BK338 := n1_; have GW338 := n2_; have GE338 := n3_; clear n0_ n1_ n2_ n3_; clear hb hbox hg; have hcz4_0 : w3.cell? ⟨gb338, 0, none⟩ = some (.int .i64 0) := (blk_cell BK338.out 0).trans rfl; have hcz4_1 : w3.cell? ⟨gb338, 1, none⟩ = some (.int .i64 0) := (blk_cell BK338.out 1).trans rfl; have hcz4_2 : w3.cell? ⟨gb338, 2, none⟩ = some (.string (⟨#[]⟩ : ByteArray)) := (blk_cell BK338.out 2).trans rfl; have hcz4_3 : w3.cell? ⟨gb338, 3, none⟩ = some (.string (⟨#[]⟩ : ByteArray)) := (blk_cell BK338.out 3).trans rfl; have hcz4_4 : w3.cell? ⟨gb338, 4, none⟩ = some (.slice none 0 0) := (blk_cell BK338.out 4).trans rfl; have hfz4_0 := blk_frozen BK338.out 0; have hfz4_1 := blk_frozen BK338.out 1; have hfz4_2 := blk_frozen BK338.out 2; have hfz4_3 := blk_frozen BK338.out 3; have hfz4_4 := blk_frozen BK338.out 4))
 refine bodyPost_ret (results_cell_row rfl _ _ gb338 34 #[.int .i64 a0, .int .i64 1, .string (⟨#[]⟩ : ByteArray), .string a1, .slice none 0 0] (0, 0) _ rfl (by (with_reducible repeat (first | refine blk_drewN ?_ _ | refine blk_drew ?_ | refine blk_alloc ?_ _)); refine blk_put (cs := #[.int .i64 a0, .int .i64 1, .string (⟨#[]⟩ : ByteArray), .string a1, .slice none 0 0]) ?_ 4 _ rfl; (with_reducible repeat (first | refine blk_drewN ?_ _ | refine blk_drew ?_ | refine blk_alloc ?_ _)); refine blk_put (cs := #[.int .i64 a0, .int .i64 1, .string (⟨#[]⟩ : ByteArray), .string (⟨#[]⟩ : ByteArray), .slice none 0 0]) ?_ 3 _ rfl; (with_reducible repeat (first | refine blk_drewN ?_ _ | refine blk_drew ?_ | refine blk_alloc ?_ _)); refine blk_put (cs := #[.int .i64 a0, .int .i64 1, .string (⟨#[]⟩ : ByteArray), .string (⟨#[]⟩ : ByteArray), .slice none 0 0]) ?_ 2 _ rfl; (with_reducible repeat (first | refine blk_drewN ?_ _ | refine blk_drew ?_ | refine blk_alloc ?_ _)); refine blk_put (cs := #[.int .i64 a0, .int .i64 0, .string (⟨#[]⟩ : ByteArray), .string (⟨#[]⟩ : ByteArray), .slice none 0 0]) ?_ 1 _ rfl; (with_reducible repeat (first | refine blk_drewN ?_ _ | refine blk_drew ?_ | refine blk_alloc ?_ _)); refine blk_put (cs := #[.int .i64 0, .int .i64 0, .string (⟨#[]⟩ : ByteArray), .string (⟨#[]⟩ : ByteArray), .slice none 0 0]) ?_ 0 _ rfl; (with_reducible repeat (first | refine blk_drewN ?_ _ | refine blk_drew ?_ | refine blk_alloc ?_ _)); exact BK338.out) Tryz.underlying34 rfl (by kernel_rfl)) rfl ?_
 exact ⟨_, by first | rfl | (simp [errW_none, errW_some] <;> rfl) | (simp [*, errW_none, errW_some] <;> rfl), by first | exact Kd.R_nil _ _ _ _ _ | exact Kd.N_nil _ _ _ _ _ | exact Kd.V_nil _ _ _ _ _ | exact Kd.Q_nil _ _ _ _ _ | exact Kd.S_nil _ _ _ _ _, bs GE338.out⟩
end Go.Proofs.YtkcmghlhpbepcaaGreatDoorH.W7

/- Words and walks used below. -/
namespace Go.Proofs.YtkcmghlhpbepcaaGreatDoorH.W7
open Go.RowKit Go.Proofs.YtkcmghlhpbepcaaGreatDoorW.PrintWords Go.Proofs.YtkcmghlhpbepcaaGreatDoorW.PrintLast Go.Proofs.YtkcmghlhpbepcaaGreatDoorW.PrintMore
attribute [local go_sem] max2_int min2_int max_two min_two max_three min_three max_four min_four   -- for this text's walks alone
def names_Raw.f (k : Nat) (a0 : ByteArray) : Option (Bool) := (names_among.f k a0 (([(⟨#[105, 102, 114, 97, 109, 101]⟩ : ByteArray), (⟨#[110, 111, 101, 109, 98, 101, 100]⟩ : ByteArray), (⟨#[110, 111, 102, 114, 97, 109, 101, 115]⟩ : ByteArray), (⟨#[115, 99, 114, 105, 112, 116]⟩ : ByteArray), (⟨#[115, 116, 121, 108, 101]⟩ : ByteArray), (⟨#[120, 109, 112]⟩ : ByteArray)] : List ByteArray))).bind fun t372 => (some t372)
set_option maxHeartbeats 8000000 in
set_option maxRecDepth 100000 in
theorem names_Raw.calls (k : Nat) (a0 : ByteArray) (r : Bool) (w : World) (h : names_Raw.f k a0 = some r) :
 Calls Tryz.prog 32 #[.string a0] w fun e w' => e = .returned (.bool r) ∧ Below w.heap.size w w' := by
 have HB := Aside0.mk (Below.refl w.heap.size w)
 have H : ((names_among.f k a0 (([(⟨#[105, 102, 114, 97, 109, 101]⟩ : ByteArray), (⟨#[110, 111, 101, 109, 98, 101, 100]⟩ : ByteArray), (⟨#[110, 111, 102, 114, 97, 109, 101, 115]⟩ : ByteArray), (⟨#[115, 99, 114, 105, 112, 116]⟩ : ByteArray), (⟨#[115, 116, 121, 108, 101]⟩ : ByteArray), (⟨#[120, 109, 112]⟩ : ByteArray)] : List ByteArray))).bind fun t372 => (some t372)) = some r := h
 clear h
 obtain ⟨y369, hy369⟩ : ∃ y_ : List ByteArray, y_ = (([(⟨#[105, 102, 114, 97, 109, 101]⟩ : ByteArray), (⟨#[110, 111, 101, 109, 98, 101, 100]⟩ : ByteArray), (⟨#[110, 111, 102, 114, 97, 109, 101, 115]⟩ : ByteArray), (⟨#[115, 99, 114, 105, 112, 116]⟩ : ByteArray), (⟨#[115, 116, 121, 108, 101]⟩ : ByteArray), (⟨#[120, 109, 112]⟩ : ByteArray)] : List ByteArray)) := ⟨_, rfl⟩
 replace H : ((names_among.f k a0 y369).bind fun t372 => (some t372)) = some r := by first | (rw [hy369]; with_reducible exact H) | (have H2_ := (Option.bind_some _ _).symm.trans H; rw [hy369]; with_reducible exact H2_) | (have H2_ := (Option.bind_some _ _).symm.trans H; with_reducible exact H2_) | with_reducible exact H | (rw [hy369]; exact H) | exact H
 have Ny369 := Aside0.mk hy369
 clear hy369
 replace H := Option.bind_eq_some_iff.mp H
 obtain ⟨t372, A20, H⟩ := H
 replace H : (some t372) = some r := H
 have A2 := Aside0.mk A20
 clear A20
 obtain rfl := Option.some.inj H
 go_enter Tryz.func32, Tryz.ntmps32
 go_wp2_with (first | ((with_reducible refine gate_dst (N := 4) rfl ?_); refine Kd.R_lit Kd.string _ 9 ?hg (N := 4) ?hd (xs := ([(⟨#[105, 102, 114, 97, 109, 101]⟩ : ByteArray), (⟨#[110, 111, 101, 109, 98, 101, 100]⟩ : ByteArray), (⟨#[110, 111, 102, 114, 97, 109, 101, 115]⟩ : ByteArray), (⟨#[115, 99, 114, 105, 112, 116]⟩ : ByteArray), (⟨#[115, 116, 121, 108, 101]⟩ : ByteArray), (⟨#[120, 109, 112]⟩ : ByteArray)] : List ByteArray)) (inner := [.string (⟨#[105, 102, 114, 97, 109, 101]⟩ : ByteArray), .string (⟨#[110, 111, 101, 109, 98, 101, 100]⟩ : ByteArray), .string (⟨#[110, 111, 102, 114, 97, 109, 101, 115]⟩ : ByteArray), .string (⟨#[115, 99, 114, 105, 112, 116]⟩ : ByteArray), .string (⟨#[115, 116, 121, 108, 101]⟩ : ByteArray), .string (⟨#[120, 109, 112]⟩ : ByteArray)]) (ok := fun _ => True) (okp := fun _ => True) ?hr ?hp (fun _ hk => hk) trivial (Below.refl _ _) (Nat.le_refl _) (by simp) ?_; (case hd => rfl); (case hg => rfl); (case hr => first | (go_simp; done) | (go_simp; rfl)); (case hp => exact (Reps.one (show Kd.M Kd.string _ _ _ (⟨#[105, 102, 114, 97, 109, 101]⟩ : ByteArray) [.string (⟨#[105, 102, 114, 97, 109, 101]⟩ : ByteArray)] from rfl) (Reps.one (show Kd.M Kd.string _ _ _ (⟨#[110, 111, 101, 109, 98, 101, 100]⟩ : ByteArray) [.string (⟨#[110, 111, 101, 109, 98, 101, 100]⟩ : ByteArray)] from rfl) (Reps.one (show Kd.M Kd.string _ _ _ (⟨#[110, 111, 102, 114, 97, 109, 101, 115]⟩ : ByteArray) [.string (⟨#[110, 111, 102, 114, 97, 109, 101, 115]⟩ : ByteArray)] from rfl) (Reps.one (show Kd.M Kd.string _ _ _ (⟨#[115, 99, 114, 105, 112, 116]⟩ : ByteArray) [.string (⟨#[115, 99, 114, 105, 112, 116]⟩ : ByteArray)] from rfl) (Reps.one (show Kd.M Kd.string _ _ _ (⟨#[115, 116, 121, 108, 101]⟩ : ByteArray) [.string (⟨#[115, 116, 121, 108, 101]⟩ : ByteArray)] from rfl) (Reps.one (show Kd.M Kd.string _ _ _ (⟨#[120, 109, 112]⟩ : ByteArray) [.string (⟨#[120, 109, 112]⟩ : ByteArray)] from rfl) (Reps.none _ _)))))))); intro v370 w3 ho4 hb hg_ hnew_; clear hg_ hnew_; (first | rw [← Ny369.out] at ho4 | (simp only [Int.reduceToNat] at ho4; rw [← Ny369.out] at ho4)); have n0_ := Aside0.mk (Kd.R_lower ho4 (below_size bz)); have n1_ := Aside0.mk (below_step bz hb); clear HB; have HO371 := n0_; have HB := n1_; clear n0_ n1_; clear hb ho4; obtain ⟨Ao5, co5, eo5⟩ := Kd.R_slice HO371.out; subst eo5) | ((with_reducible refine gate_callee (f := 81) rfl ?_); refine goesL_ (some 5) rfl rfl Tryz.func81 (by kernel_rfl) rfl #[.string a0, .slice Ao5 y369.length co5] rfl (by (try simp only [List.map_toArray, List.map_cons, List.map_nil]); first | done | rfl | (simp only [List.length_drop, List.length_take]; rfl)) ?_; (with_reducible refine (names_among.calls k a0 _ _ y369 t372 _ ?side1 ?side2 A2.out).mono ?_); (case side1 => exact cz (Kd.R_reads' HO371.out).2.2); (case side2 => exact (Kd.R_reads' HO371.out).2.1); rintro e w' ⟨rfl, ⟨nd, rfl⟩⟩; refine ⟨_, rfl, ?_⟩))
 go_ret
 exact ⟨by first | rfl | (simp [errW_none, errW_some] <;> rfl) | (simp [*, errW_none, errW_some] <;> rfl), bz⟩
end Go.Proofs.YtkcmghlhpbepcaaGreatDoorH.W7

/- Words and walks used below. -/
namespace Go.Proofs.YtkcmghlhpbepcaaGreatDoorH.W7
open Go.RowKit Go.Proofs.YtkcmghlhpbepcaaGreatDoorW.PrintWords Go.Proofs.YtkcmghlhpbepcaaGreatDoorW.PrintLast Go.Proofs.YtkcmghlhpbepcaaGreatDoorW.PrintMore
attribute [local go_sem] max2_int min2_int max_two min_two max_three min_three max_four min_four   -- for this text's walks alone
def names_Soft.f (k : Nat) (a0 : ByteArray) : Option (Bool) := (names_among.f k a0 (([(⟨#[116, 101, 120, 116, 97, 114, 101, 97]⟩ : ByteArray), (⟨#[116, 105, 116, 108, 101]⟩ : ByteArray)] : List ByteArray))).bind fun t376 => (some t376)
set_option maxHeartbeats 8000000 in
set_option maxRecDepth 100000 in
theorem names_Soft.calls (k : Nat) (a0 : ByteArray) (r : Bool) (w : World) (h : names_Soft.f k a0 = some r) :
 Calls Tryz.prog 33 #[.string a0] w fun e w' => e = .returned (.bool r) ∧ Below w.heap.size w w' := by
 have HB := Aside0.mk (Below.refl w.heap.size w)
 have H : ((names_among.f k a0 (([(⟨#[116, 101, 120, 116, 97, 114, 101, 97]⟩ : ByteArray), (⟨#[116, 105, 116, 108, 101]⟩ : ByteArray)] : List ByteArray))).bind fun t376 => (some t376)) = some r := h
 clear h
 obtain ⟨y373, hy373⟩ : ∃ y_ : List ByteArray, y_ = (([(⟨#[116, 101, 120, 116, 97, 114, 101, 97]⟩ : ByteArray), (⟨#[116, 105, 116, 108, 101]⟩ : ByteArray)] : List ByteArray)) := ⟨_, rfl⟩
 replace H : ((names_among.f k a0 y373).bind fun t376 => (some t376)) = some r := by first | (rw [hy373]; with_reducible exact H) | (have H2_ := (Option.bind_some _ _).symm.trans H; rw [hy373]; with_reducible exact H2_) | (have H2_ := (Option.bind_some _ _).symm.trans H; with_reducible exact H2_) | with_reducible exact H | (rw [hy373]; exact H) | exact H
 have Ny373 := Aside0.mk hy373
 clear hy373
 replace H := Option.bind_eq_some_iff.mp H
 obtain ⟨t376, A20, H⟩ := H
 replace H : (some t376) = some r := H
 have A2 := Aside0.mk A20
 clear A20
 obtain rfl := Option.some.inj H
 go_enter Tryz.func33, Tryz.ntmps33
 go_wp2_with (first | ((with_reducible refine gate_dst (N := 4) rfl ?_); refine Kd.R_lit Kd.string _ 9 ?hg (N := 4) ?hd (xs := ([(⟨#[116, 101, 120, 116, 97, 114, 101, 97]⟩ : ByteArray), (⟨#[116, 105, 116, 108, 101]⟩ : ByteArray)] : List ByteArray)) (inner := [.string (⟨#[116, 101, 120, 116, 97, 114, 101, 97]⟩ : ByteArray), .string (⟨#[116, 105, 116, 108, 101]⟩ : ByteArray)]) (ok := fun _ => True) (okp := fun _ => True) ?hr ?hp (fun _ hk => hk) trivial (Below.refl _ _) (Nat.le_refl _) (by simp) ?_; (case hd => rfl); (case hg => rfl); (case hr => first | (go_simp; done) | (go_simp; rfl)); (case hp => exact (Reps.one (show Kd.M Kd.string _ _ _ (⟨#[116, 101, 120, 116, 97, 114, 101, 97]⟩ : ByteArray) [.string (⟨#[116, 101, 120, 116, 97, 114, 101, 97]⟩ : ByteArray)] from rfl) (Reps.one (show Kd.M Kd.string _ _ _ (⟨#[116, 105, 116, 108, 101]⟩ : ByteArray) [.string (⟨#[116, 105, 116, 108, 101]⟩ : ByteArray)] from rfl) (Reps.none _ _)))); intro v374 w3 ho4 hb hg_ hnew_; clear hg_ hnew_; (first | rw [← Ny373.out] at ho4 | (simp only [Int.reduceToNat] at ho4; rw [← Ny373.out] at ho4)); have n0_ := Aside0.mk (Kd.R_lower ho4 (below_size bz)); have n1_ := Aside0.mk (below_step bz hb); clear HB; have HO375 := n0_; have HB := n1_; clear n0_ n1_; clear hb ho4; obtain ⟨Ao5, co5, eo5⟩ := Kd.R_slice HO375.out; subst eo5) | ((with_reducible refine gate_callee (f := 81) rfl ?_); refine goesL_ (some 5) rfl rfl Tryz.func81 (by kernel_rfl) rfl #[.string a0, .slice Ao5 y373.length co5] rfl (by (try simp only [List.map_toArray, List.map_cons, List.map_nil]); first | done | rfl | (simp only [List.length_drop, List.length_take]; rfl)) ?_; (with_reducible refine (names_among.calls k a0 _ _ y373 t376 _ ?side1 ?side2 A2.out).mono ?_); (case side1 => exact cz (Kd.R_reads' HO375.out).2.2); (case side2 => exact (Kd.R_reads' HO375.out).2.1); rintro e w' ⟨rfl, ⟨nd, rfl⟩⟩; refine ⟨_, rfl, ?_⟩))
 go_ret
 exact ⟨by first | rfl | (simp [errW_none, errW_some] <;> rfl) | (simp [*, errW_none, errW_some] <;> rfl), bz⟩
end Go.Proofs.YtkcmghlhpbepcaaGreatDoorH.W7
