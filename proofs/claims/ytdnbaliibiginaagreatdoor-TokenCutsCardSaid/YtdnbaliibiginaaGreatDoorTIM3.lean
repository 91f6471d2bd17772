/- Lemmas and walks, part 3: Lower, Trim, TokH, TokQ, Attr, AttrB. -/
import Derived.Test.YtdnbaliibiginaaGreatDoorTIM2
import Derived.Lib.ConvBytes
import Derived.Test.YtdnbaliibiginaaGreatDoorTIM1
import Derived.Laws.OwnMore
set_option linter.unusedVariables false
set_option linter.unusedSimpArgs false

/- Contracts of fold.Lower, Same, Trim and token.letter. Nothing that lay in memory turns. -/
namespace Go.Proofs.YtdnbaliibiginaaGreatDoor
open Go.RowKit Go.Proofs

def lowI (n : Int) : Int := if 65 ≤ n ∧ n ≤ 90 then n + 32 else n
theorem lowI_u8 (c : UInt8) : lowI c.toNat = (lowB c).toNat := by
  have := all_u8 (p := fun c => decide (lowI c.toNat = (lowB c).toNat)) (by decide +kernel) c
  simpa using this
/-- A row of bytes that may be written. -/
def BRow (w : World) (g n : Nat) (f : Nat → Int) : Prop := ∀ j, j < n → w.cell? ⟨g, j, none⟩ = some (.int .u8 (f j)) ∧ w.frozen? ⟨g, j, none⟩ = false
def lowF (l : Txt) (k j : Nat) : Int := if j < k then lowI (l.getD j 0).toNat else (l.getD j 0).toNat
theorem BRow.conv (w : World) (l : Txt) : BRow (Lib.bytesWorld w 5 ⟨l.toArray⟩) w.heap.size l.length (lowF l 0) := by
  intro j hj
  refine ⟨?_, ?_⟩
  · rw [Lib.bytesWorld_cell _ _ _ _ (by rw [mk_size]; exact hj), mk_data_list]
    rfl
  · unfold World.frozen?
    rw [Lib.bytesWorld_at_new]
    have : l.length ≤ (Lib.bytesCells w 5 ⟨l.toArray⟩).size := by simp [Lib.bytesCells]
    simp
    omega
theorem below_bytes (w : World) (l : Txt) : Below w.heap.size w (Lib.bytesWorld w 5 ⟨l.toArray⟩) :=
  ⟨rfl, rfl, rfl, by rw [Lib.bytesWorld_size]; omega, fun i hi => Lib.bytesWorld_at_old w _ _ i hi⟩
theorem BRow.set {w : World} {g n : Nat} {f f' : Nat → Int} (h : BRow w g n f) (k : Nat) (v : Int) (hk : f' k = v) (ho : ∀ j, j ≠ k → f' j = f j) : BRow (w.setCell ⟨g, k, none⟩ (.int .u8 v)) g n f' := by
  intro j hj
  obtain ⟨h1, h2⟩ := h j hj
  refine ⟨?_, by rw [World.frozen?_setCell]; exact h2⟩
  by_cases e : j = k
  · subst e
    rw [World.cell?_setCell_same _ _ _ h1, hk]
  · rw [World.cell?_setCell_other _ _ _ _ (by intro e'; injection e' with _ e''; omega), ho j e]
    exact h1
theorem BRow.same {w : World} {g n : Nat} {f f' : Nat → Int} (h : BRow w g n f) (ho : ∀ j, f' j = f j) : BRow w g n f' := fun j hj => by rw [ho j]; exact h j hj
theorem lowF_other (l : Txt) (k j : Nat) (h : j ≠ k) : lowF l (k + 1) j = lowF l k j := by
  unfold lowF
  by_cases e : j < k
  · rw [if_pos e, if_pos (by omega)]
  · rw [if_neg e, if_neg (by omega)]
theorem lowF_at (l : Txt) (k : Nat) : lowF l (k + 1) k = lowI (l.getD k 0).toNat := by
  unfold lowF
  rw [if_pos (by omega)]
theorem lowF_here (l : Txt) (k : Nat) : lowF l k k = (l.getD k 0).toNat := by
  unfold lowF
  rw [if_neg (by omega)]
theorem low_conv {w : World} {g cap k : Nat} {l : Txt} (hk : l.length ≤ k) (h : BRow w g l.length (lowF l k)) : (convert 87 9 (.slice (some ⟨g, 0, none⟩) l.length cap)).run Tryz.prog w = .ok (.string ⟨(lowL l).toArray⟩) w := by
  have hl : (lowL l).length = l.length := by simp [lowL]
  rw [← hl]
  refine run_convert_bytes_back (P := Tryz.prog) w 87 9 5 ⟨g, 0, none⟩ cap (lowL l) Tryz.underlying87 Tryz.underlying5 Tryz.underlying9 (fun j hj => ?_)
  have ha : (⟨g, 0, none⟩ : Addr).add j = ⟨g, j, none⟩ := by unfold Addr.add; split <;> simp_all
  have hj' : j < l.length := by rw [← hl]; exact hj
  rw [ha, (h j hj').1]
  simp [lowF, lowL, show j < k by omega, List.getD, hj', lowI_u8]

set_option maxHeartbeats 1000000 in
set_option maxRecDepth 100000 in
theorem flower_c (l : Txt) (hl : l.length ≤ 1000000000) (w : World) :
    Calls Tryz.prog 142 #[.string ⟨l.toArray⟩] w fun e w' => e = .returned (.string ⟨(lowL l).toArray⟩) ∧ Below w.heap.size w w' := by
  have hcv := Lib.run_convert_string_bytes (P := Tryz.prog) w 9 87 5 ⟨l.toArray⟩ Tryz.underlying9 Tryz.underlying87 Tryz.underlying5
  have hrow := BRow.conv w l
  have hbel := below_bytes w l
  rw [mk_size] at hcv
  generalize Lib.bytesWorld w 5 ⟨l.toArray⟩ = w1 at *
  generalize grownCap w l.length 0 5 = cap at *
  go_enter Tryz.func142, Tryz.ntmps142
  go_wp2
  clear hcv
  go_loopw [4, 5, 10] (fun _ _ vk wr => ∃ (k : Nat), vk = .int .i64 k ∧ k ≤ l.length ∧ BRow wr w.heap.size l.length (lowF l k) ∧ Below w.heap.size w wr) (fun _ _ vk _ => l.length - (intOf vk).toNat)
  case atStart => exact ⟨0, rfl, by omega, hrow, hbel⟩
  case round =>
    obtain ⟨k, rfl, hk, hI, hbw⟩ := hrel
    by_cases hlt : k < l.length
    · obtain ⟨c1, c2⟩ := hI k hlt
      have hat := lowF_at l k
      have hother := lowF_other l k
      rw [lowF_here] at c1
      obtain ⟨n, hn⟩ : ∃ n, ((l.getD k 0).toNat : Int) = n := ⟨_, rfl⟩
      rw [hn] at hat c1
      have hn0 : 0 ≤ n := by omega
      have hn1 : n ≤ 255 := by have := (l.getD k 0).toNat_lt; omega
      have hh := lowF_here l k
      rw [hn] at hh
      clear hn
      have hst := Lib.hid (fun (v : Int) (hv : lowI n = v) => hI.set (f' := lowF l (k + 1)) k v (by rw [hat]; exact hv) hother)
      have hsame := Lib.hid (fun (hv : lowI n = n) => hI.same (f' := lowF l (k + 1)) (fun j => by
        by_cases e : j = k
        · subst e; rw [hat, hh, hv]
        · exact hother j e))
      clear hat hother hh
      go_wp2
      all_goals (try simp only [decide_eq_true_eq, decide_eq_false_iff_not] at *)
      all_goals first
        | (refine ⟨⟨k + 1, rfl, by omega, hst.out _ (by unfold lowI; rw [if_pos ⟨by omega, by omega⟩]; omega), hbw.setCell (p := ⟨w.heap.size, k, none⟩) (Nat.le_refl _) _⟩, by simp [intOf]; omega⟩)
        | (refine ⟨⟨k + 1, rfl, by omega, hsame.out (by unfold lowI; rw [if_neg (by omega)]), hbw⟩, by simp [intOf]; omega⟩)
    · have hcv := low_conv (cap := cap) (by omega) hI
      go_wp2
      go_ret
      exact ⟨rfl, hbw⟩
end Go.Proofs.YtdnbaliibiginaaGreatDoor

/- Contracts of fold.Same, Trim and token.letter. Nothing that lay in memory turns. -/
namespace Go.Proofs.YtdnbaliibiginaaGreatDoor
open Go.RowKit Go.Proofs

def sameB (a b : Txt) : Bool := lowL a == lowL b
set_option maxRecDepth 100000 in
theorem fsame_c (a b : Txt) (ha : a.length ≤ 1000000000) (hb : b.length ≤ 1000000000) (w : World) :
    Calls Tryz.prog 100 #[.string ⟨a.toArray⟩, .string ⟨b.toArray⟩] w fun e w' => e = .returned (.bool (sameB a b)) ∧ Below w.heap.size w w' := by
  have h1 := Lib.hid (fun W => flower_c a ha W)
  have h2 := Lib.hid (fun W => flower_c b hb W)
  have hs : (lowL a == lowL b) = sameB a b := rfl
  generalize sameB a b = r at *
  generalize lowL a = la at *
  generalize lowL b = lb at *
  have hB := Below.refl w.heap.size w
  go_enter Tryz.func100, Tryz.ntmps100
  go_wp2_with (go_at_call 142; first
    | ((with_reducible refine (h1.out _).mono ?_); rintro e w1 ⟨rfl, hb⟩; replace hB := below_seq hB hb; clear hb)
    | ((with_reducible refine (h2.out _).mono ?_); rintro e w1 ⟨rfl, hb⟩; replace hB := below_seq hB hb; clear hb))
  go_ret
  exact ⟨rfl, hB⟩

set_option maxRecDepth 100000 in
theorem letter_c (l : Txt) (w : World) :
    Calls Tryz.prog 134 #[.string ⟨l.toArray⟩] w fun e w' => e = .returned (.bool (letterL l)) ∧ w = w' := by
  cases l with
  | nil =>
    go_enter Tryz.func134, Tryz.ntmps134
    go_wp2
    go_ret
    exact ⟨rfl, rfl⟩
  | cons c t =>
    have h1 := Lib.hid (fun n (hn : (c.toNat : Int) = n) W => letter_i n W)
    have hu : letterI c.toNat = letterL (c :: t) := letterI_u8 c
    obtain ⟨n, hn⟩ : ∃ n, (c.toNat : Int) = n := ⟨_, rfl⟩
    rw [hn] at hu
    generalize letterL (c :: t) = r at *
    go_enter Tryz.func134, Tryz.ntmps134
    go_wp2_with (go_at_call 115; ((with_reducible refine (letter_i _ _).mono ?_); rintro e w1 ⟨rfl, rfl⟩))
    go_ret
    exact ⟨rfl, rfl⟩

theorem trim_l0 {c : UInt8} {t : Txt} (h : spaceB c = false) : (c :: t).dropWhile spaceB = c :: t := by rw [List.dropWhile_cons, if_neg (by rw [h]; simp)]
theorem trim_l1 {c : UInt8} {t : Txt} (h : spaceB c = true) : (c :: t).dropWhile spaceB = t.dropWhile spaceB := by rw [List.dropWhile_cons, if_pos h]
theorem trim_start {s l : Txt} (h : s = l.dropWhile spaceB) : ((s.reverse).dropWhile spaceB).reverse = trimL l := by rw [h]; rfl
theorem tail_string {c : UInt8} {t : Txt} : (⟨(c :: t).toArray⟩ : ByteArray).extract 1 (t.length + 1) = ⟨t.toArray⟩ := by
  have := ext_end (c :: t) 1
  simpa using this

set_option maxHeartbeats 1000000 in
set_option maxRecDepth 100000 in
theorem ftrim_c (l : Txt) (hl : l.length ≤ 1000000000) (w : World) :
    Calls Tryz.prog 168 #[.string ⟨l.toArray⟩] w fun e w' => e = .returned (.string ⟨(trimL l).toArray⟩) ∧ w = w' := by
  go_enter Tryz.func168, Tryz.ntmps168
  go_wp2
  go_loop [0] (fun v => ∃ (s : Txt), v = .string ⟨s.toArray⟩ ∧ s.length ≤ l.length ∧ Hid (s.dropWhile spaceB = l.dropWhile spaceB)) (fun v => strLen v)
  case atStart => exact ⟨l, rfl, by omega, rfl⟩
  case round =>
    obtain ⟨s, rfl, hk, hdec⟩ := hrel
    cases s with
    | nil =>
      have hdec := Lib.hid (show ([] : Txt) = l.dropWhile spaceB from hdec.out)
      rename_i hdec0
      clear hdec0
      go_wp2_with fail
      go_loop [0] (fun v => ∃ (r : Txt), v = .string ⟨r.reverse.toArray⟩ ∧ r.length ≤ l.length ∧ Hid ((r.dropWhile spaceB).reverse = trimL l)) (fun v => strLen v)
      case atStart => exact ⟨[].reverse, by simp, by simp, trim_start hdec.out⟩
      case round =>
        obtain ⟨r, rfl, hk, hdec2⟩ := hrel
        cases r with
        | nil =>
          have he := Lib.hid (show trimL l = [] from hdec2.out.symm)
          go_wp2
          go_ret
          rw [he.out]
          exact ⟨rfl, rfl⟩
        | cons c t =>
          obtain ⟨n, hn⟩ : ∃ n, (c.toNat : Int) = n := ⟨_, rfl⟩
          have hu := spaceI_u8 c
          rw [hn] at hu
          obtain ⟨q, hq⟩ : ∃ q, (c :: t).reverse = q := ⟨_, rfl⟩
          have hql : q.length = t.length + 1 := by rw [← hq]; simp
          have hx1 : (⟨q.toArray⟩ : ByteArray).extract 0 t.length = ⟨t.reverse.toArray⟩ := by
            rw [Lib.extract_eq, mk_data_list, ← hq]
            simp
          have hget : ∀ (h : t.length < q.length), q[t.length] = c := by
            intro h
            subst hq
            simp
          rw [hq]
          have ht1 : t.length ≤ 1000000000 := by simp only [List.length_cons] at hk; omega
          have hql0 : (0 : Int) < q.length := by omega
          have hsub : (q.length : Int) - 1 = t.length := by omega
          have hne : q ≠ [] := by rw [← hq]; simp
          have hbe : (q == []) = false := by simpa using hne
          cases hb : spaceI n with
          | true =>
            rw [hb] at hu
            have hd := Lib.hid (show (t.dropWhile spaceB).reverse = trimL l by rw [← trim_l1 hu.symm]; exact hdec2.out)
            have hc := Lib.hid (fun W => space_i n W)
            rw [hb] at hc
            clear hu hb hdec2 hq
            go_wp2_with (go_at_call 143; ((with_reducible refine (hc.out _).mono ?_); rintro e w1 ⟨rfl, rfl⟩))
            exact ⟨⟨t, rfl, by simp only [List.length_cons] at hk; omega, hd⟩, by rw [strLen_mk, strLen_mk, List.length_reverse]; omega⟩
          | false =>
            rw [hb] at hu
            have hd := Lib.hid (show q = trimL l by rw [← hq, ← hdec2.out, trim_l0 hu.symm])
            have hc := Lib.hid (fun W => space_i n W)
            rw [hb] at hc
            clear hu hb hdec2 hq
            go_wp2_with (go_at_call 143; ((with_reducible refine (hc.out _).mono ?_); rintro e w1 ⟨rfl, rfl⟩))
            go_ret
            rw [← hd.out]
            exact ⟨rfl, rfl⟩
    | cons c t =>
      obtain ⟨n, hn⟩ : ∃ n, (c.toNat : Int) = n := ⟨_, rfl⟩
      have hu := spaceI_u8 c
      rw [hn] at hu
      cases hb : spaceI n with
      | true =>
        rw [hb] at hu
        have hd := Lib.hid (show t.dropWhile spaceB = l.dropWhile spaceB by rw [← trim_l1 hu.symm]; exact hdec.out)
        have hc := Lib.hid (fun W => space_i n W)
        rw [hb] at hc
        clear hu hb hdec
        go_wp2_with (go_at_call 143; ((with_reducible refine (hc.out _).mono ?_); rintro e w1 ⟨rfl, rfl⟩))
        refine ⟨⟨t, by rw [tail_string], by simp only [List.length_cons] at hk; omega, hd⟩, by rw [tail_string, strLen_mk, strLen_mk]; simp⟩
      | false =>
        rw [hb] at hu
        have hdec := Lib.hid (show c :: t = l.dropWhile spaceB by rw [← trim_l0 hu.symm]; exact hdec.out)
        rename_i hdec0
        have hc := Lib.hid (fun W => space_i n W)
        rw [hb] at hc
        clear hu hb hdec0
        go_wp2_with (go_at_call 143; ((with_reducible refine (hc.out _).mono ?_); rintro e w1 ⟨rfl, rfl⟩))
        go_loop [0] (fun v => ∃ (r : Txt), v = .string ⟨r.reverse.toArray⟩ ∧ r.length ≤ l.length ∧ Hid ((r.dropWhile spaceB).reverse = trimL l)) (fun v => strLen v)
        case atStart => exact ⟨(c :: t).reverse, by simp, by simpa using hk, trim_start hdec.out⟩
        case round =>
          obtain ⟨r, rfl, hk, hdec2⟩ := hrel
          cases r with
          | nil =>
            have he := Lib.hid (show trimL l = [] from hdec2.out.symm)
            go_wp2
            go_ret
            rw [he.out]
            exact ⟨rfl, rfl⟩
          | cons c t =>
            obtain ⟨n, hn⟩ : ∃ n, (c.toNat : Int) = n := ⟨_, rfl⟩
            have hu := spaceI_u8 c
            rw [hn] at hu
            obtain ⟨q, hq⟩ : ∃ q, (c :: t).reverse = q := ⟨_, rfl⟩
            have hql : q.length = t.length + 1 := by rw [← hq]; simp
            have hx1 : (⟨q.toArray⟩ : ByteArray).extract 0 t.length = ⟨t.reverse.toArray⟩ := by
              rw [Lib.extract_eq, mk_data_list, ← hq]
              simp
            have hget : ∀ (h : t.length < q.length), q[t.length] = c := by
              intro h
              subst hq
              simp
            rw [hq]
            have ht1 : t.length ≤ 1000000000 := by simp only [List.length_cons] at hk; omega
            have hql0 : (0 : Int) < q.length := by omega
            have hsub : (q.length : Int) - 1 = t.length := by omega
            have hne : q ≠ [] := by rw [← hq]; simp
            have hbe : (q == []) = false := by simpa using hne
            cases hb : spaceI n with
            | true =>
              rw [hb] at hu
              have hd := Lib.hid (show (t.dropWhile spaceB).reverse = trimL l by rw [← trim_l1 hu.symm]; exact hdec2.out)
              have hc := Lib.hid (fun W => space_i n W)
              rw [hb] at hc
              clear hu hb hdec2 hq
              go_wp2_with (go_at_call 143; ((with_reducible refine (hc.out _).mono ?_); rintro e w1 ⟨rfl, rfl⟩))
              exact ⟨⟨t, rfl, by simp only [List.length_cons] at hk; omega, hd⟩, by rw [strLen_mk, strLen_mk, List.length_reverse]; omega⟩
            | false =>
              rw [hb] at hu
              have hd := Lib.hid (show q = trimL l by rw [← hq, ← hdec2.out, trim_l0 hu.symm])
              have hc := Lib.hid (fun W => space_i n W)
              rw [hb] at hc
              clear hu hb hdec2 hq
              go_wp2_with (go_at_call 143; ((with_reducible refine (hc.out _).mono ?_); rintro e w1 ⟨rfl, rfl⟩))
              go_ret
              rw [← hd.out]
              exact ⟨rfl, rfl⟩
end Go.Proofs.YtdnbaliibiginaaGreatDoor

/- Rows of attributes and of tokens that the call itself owns; the scanner. -/
namespace Go.Proofs.YtdnbaliibiginaaGreatDoor
open Go.RowKit Go.Proofs

theorem own_ne {w : World} {base : Nat} {e e' : TypeId} {size n b : Nat} {v : Value} {xs : List Value} {cur : Array Value} {fz : Nat × Nat} (h : w.ownsRow base e size v n xs) (hb : w.heap[b]? = some (.cells cur e' fz)) (hne : e' ≠ e) : v.ownBlock ≠ some b := by
  rcases h.2 with ⟨rfl, _⟩ | ⟨g, cap, cr, rfl, hg, hh, _⟩
  · simp [Value.ownBlock]
  · intro e0
    have : g = b := by simpa [Value.ownBlock] using e0
    subst this
    rw [hb] at hh
    simp at hh
    exact hne hh.2.1
theorem own_other {w w' : World} {base : Nat} {e e' : TypeId} {size n b : Nat} {v : Value} {xs : List Value} {cur : Array Value} {fz : Nat × Nat} (h : w.ownsRow base e size v n xs) (hg : w.grownBy w' (some b)) (hb : w.heap[b]? = some (.cells cur e' fz)) (hne : e' ≠ e) : w'.ownsRow base e size v n xs :=
  World.ownsRow.kept h hg (.inr (own_ne h hb hne))
theorem own_cells {w : World} {base : Nat} {e : TypeId} {size n b : Nat} {v : Value} {xs : List Value} (h : w.ownsRow base e size v n xs) (hv : v.ownBlock = some b) : ∃ cur, w.heap[b]? = some (.cells cur e (0, 0)) := by
  rcases h.2 with ⟨rfl, _⟩ | ⟨g, cap, cr, rfl, hg, hh, _⟩
  · simp [Value.ownBlock] at hv
  · have : g = b := by simpa [Value.ownBlock] using hv
    subst this
    exact ⟨cr, hh⟩
/-- Another row of another kind stands when a row of the call's own was grown. -/
theorem own_apart {w w' : World} {base base' : Nat} {e e' : TypeId} {size n size' n' : Nat} {v v' : Value} {xs xs' : List Value} (h : w.ownsRow base e size v n xs) (h' : w.ownsRow base' e' size' v' n' xs') (hg : w.grownBy w' v'.ownBlock) (hne : e' ≠ e) : w'.ownsRow base e size v n xs := by
  cases hv : v'.ownBlock with
  | none => rw [hv] at hg; exact World.ownsRow.kept h hg (by cases hx : v.ownBlock <;> simp)
  | some b =>
    rw [hv] at hg
    obtain ⟨cur, hc⟩ := own_cells h' hv
    exact own_other h hg hc hne
theorem own_below {w w1 : World} {base : Nat} {e : TypeId} {size n : Nat} {v : Value} {xs : List Value} (h : w.ownsRow base e size v n xs) (hb : Below w.heap.size w w1) : w1.ownsRow base e size v n xs :=
  World.ownsRow.kept h (grown_of_below hb none) (by cases hv : v.ownBlock <;> simp)

def attrV (l : List (Txt × Txt)) : List Value := l.flatMap fun a => [.string ⟨a.1.toArray⟩, .string ⟨a.2.toArray⟩]
def Atts (w : World) (base : Nat) (v : Value) (l : List (Txt × Txt)) : Prop := w.ownsRow base 40 2 v l.length (attrV l)
def tokV (t : Tok) (va : Value) : List Value := [.int .i64 t.kind, .string ⟨t.name.toArray⟩, .string ⟨t.data.toArray⟩, va, .bool t.self]
def Toks (w : World) (base : Nat) (v : Value) (l : List Tok) : Prop :=
  ∃ ps : List (Tok × Value), ps.map Prod.fst = l ∧ w.ownsRow base 59 5 v l.length (ps.flatMap fun p => tokV p.1 p.2) ∧ ∀ p ∈ ps, Atts w base p.2 p.1.attrs

theorem Atts.nil (w : World) (base : Nat) : Atts w base (.slice none 0 0) [] := World.ownsRow_nil _ _ _ _
theorem Toks.nil (w : World) (base : Nat) : Toks w base (.slice none 0 0) [] := ⟨[], rfl, World.ownsRow_nil _ _ _ _, by simp⟩
theorem Atts.below {w w1 : World} {base : Nat} {v : Value} {l : List (Txt × Txt)} (h : Atts w base v l) (hb : Below w.heap.size w w1) : Atts w1 base v l := own_below h hb
theorem Toks.below {w w1 : World} {base : Nat} {v : Value} {l : List Tok} (h : Toks w base v l) (hb : Below w.heap.size w w1) : Toks w1 base v l := by
  obtain ⟨ps, h1, h2, h3⟩ := h
  exact ⟨ps, h1, own_below h2 hb, fun p hp => (h3 p hp).below hb⟩
theorem Toks.other {w w' : World} {base b : Nat} {v : Value} {l : List Tok} {cur : Array Value} {e' : TypeId} {fz : Nat × Nat} (h : Toks w base v l) (hg : w.grownBy w' (some b)) (hb : w.heap[b]? = some (.cells cur e' fz)) (h1 : e' ≠ 59) (h2 : e' ≠ 40) : Toks w' base v l := by
  obtain ⟨ps, k1, k2, k3⟩ := h
  exact ⟨ps, k1, own_other k2 hg hb h1, fun p hp => own_other (k3 p hp) hg hb h2⟩

theorem tokInfo : ∃ i z, Tryz.prog.info? 59 = some i ∧ i.zero = some z ∧ i.size = 5 ∧ i.bytes = 72 ∧ z.cells.size = 5 := by
  have h : (Tryz.prog.info? 59).map (fun i => (i.zero.map fun z => z.cells.size, i.size, i.bytes)) = some (some 5, 5, 72) := by kernel_rfl
  cases hi : Tryz.prog.info? 59 with
  | none => rw [hi] at h; simp at h
  | some i =>
    rw [hi] at h
    simp at h
    obtain ⟨⟨z, hz, hs⟩, h2, h3⟩ := h
    exact ⟨i, z, rfl, hz, h2, h3, hs⟩
theorem attrInfo : ∃ i z, Tryz.prog.info? 40 = some i ∧ i.zero = some z ∧ i.size = 2 ∧ i.bytes = 32 ∧ z.cells.size = 2 := by
  have h : (Tryz.prog.info? 40).map (fun i => (i.zero.map fun z => z.cells.size, i.size, i.bytes)) = some (some 2, 2, 32) := by kernel_rfl
  cases hi : Tryz.prog.info? 40 with
  | none => rw [hi] at h; simp at h
  | some i =>
    rw [hi] at h
    simp at h
    obtain ⟨⟨z, hz, hs⟩, h2, h3⟩ := h
    exact ⟨i, z, rfl, hz, h2, h3, hs⟩

theorem addr_add (g j : Nat) : (⟨g, 0, none⟩ : Addr).add j = ⟨g, j, none⟩ := by unfold Addr.add; split <;> simp_all
theorem attrV_app (a b : List (Txt × Txt)) : attrV (a ++ b) = attrV a ++ attrV b := by simp [attrV]
/-- The value's row is one cell each. -/
theorem own_one {w : World} {base : Nat} {e : TypeId} {size n : Nat} {v : Value} {xs : List Value} (h : w.ownsRow base e size v n xs) : v.oneCell' = true := by
  rcases h.2 with ⟨rfl, _⟩ | ⟨g, cap, cr, rfl, _⟩ <;> rfl

/-- append(l, a): an attribute onto a row of attributes of the call's own. -/
theorem app_attr {w : World} {ops : Array Oper} {rest : List Oper} {o : Oper} {a : Act} {Q : Exit → Act → World → Prop} (hgd : o.guard = none) (sl x : Operand)
    (ho : o.op = .call { callee := .builtin .append, args := #[sl, x], argTypes := #[33, 33] })
    (base g : Nat) (v : Value) (l : List (Txt × Txt)) (t : Txt × Txt) (hs : a.eval sl = v) (hown : Atts w base v l) (hx : a.eval x = .slice (some ⟨g, 0, none⟩) 1 1)
    (hc0 : w.cell? ⟨g, 0, none⟩ = some (.string ⟨t.1.toArray⟩)) (hc1 : w.cell? ⟨g, 1, none⟩ = some (.string ⟨t.2.toArray⟩))
    (hlen : l.length + 1 ≤ 1000000000000) (hbase : base ≤ w.heap.size)
    (h : ∀ v' w', Atts w' base v' (l ++ [t]) → w.grownBy w' v.ownBlock → Below base w w' → wpList Tryz.prog ops Q rest (a.put o.dst v') w') : wpList Tryz.prog ops Q (o :: rest) a w := by
  obtain ⟨i, z, hi, hz, h2, h3, hzs⟩ := attrInfo
  refine wpList_append_own _ hgd sl x 33 ho base 40 i z 2 32 Tryz.underlying33 hi hz h2 h3 hzs (by decide) v l.length (attrV l) hs hown ⟨g, 0, none⟩ 1 1 (attrV [t]) hx rfl ?_ ?_ (by unfold maxLen; omega) (by omega) hbase ?_
  · intro j u hj
    rw [addr_add]
    match j, hj with
    | 0, hj => simp [attrV] at hj; subst hj; exact hc0
    | 1, hj => simp [attrV] at hj; subst hj; exact hc1
  · intro u hu
    simp [attrV] at hu
    rcases hu with rfl | rfl <;> rfl
  · intro v' w' hown' hgrow _
    refine h v' w' ?_ hgrow ((Below.refl base w).grown hgrow hbase (fun k hk => own_base hown hk))
    unfold Atts
    rw [attrV_app]
    simpa using hown'

/-- append(l, t): a token onto a row of tokens of the call's own. -/
theorem app_tok {w : World} {ops : Array Oper} {rest : List Oper} {o : Oper} {a : Act} {Q : Exit → Act → World → Prop} (hgd : o.guard = none) (sl x : Operand)
    (ho : o.op = .call { callee := .builtin .append, args := #[sl, x], argTypes := #[26, 26] })
    (base g : Nat) (v va : Value) (l : List Tok) (t : Tok) (hs : a.eval sl = v) (hown : Toks w base v l) (hx : a.eval x = .slice (some ⟨g, 0, none⟩) 1 1)
    (hc0 : w.cell? ⟨g, 0, none⟩ = some (.int .i64 t.kind)) (hc1 : w.cell? ⟨g, 1, none⟩ = some (.string ⟨t.name.toArray⟩)) (hc2 : w.cell? ⟨g, 2, none⟩ = some (.string ⟨t.data.toArray⟩)) (hc3 : w.cell? ⟨g, 3, none⟩ = some va) (hc4 : w.cell? ⟨g, 4, none⟩ = some (.bool t.self))
    (hat : Atts w base va t.attrs) (hlen : l.length + 1 ≤ 1000000000000) (hbase : base ≤ w.heap.size)
    (h : ∀ v' w', Toks w' base v' (l ++ [t]) → w.grownBy w' v.ownBlock → Below base w w' → (∀ (b : Nat) (cur : Array Value) (e : TypeId) (fz : Nat × Nat), w.heap[b]? = some (.cells cur e fz) → e ≠ 59 → w'.heap[b]? = some (.cells cur e fz)) → wpList Tryz.prog ops Q rest (a.put o.dst v') w') : wpList Tryz.prog ops Q (o :: rest) a w := by
  obtain ⟨i, z, hi, hz, h2, h3, hzs⟩ := tokInfo
  obtain ⟨ps, k1, k2, k3⟩ := hown
  refine wpList_append_own _ hgd sl x 26 ho base 59 i z 5 72 Tryz.underlying26 hi hz h2 h3 hzs (by decide) v l.length _ hs k2 ⟨g, 0, none⟩ 1 1 (tokV t va) hx rfl ?_ ?_ (by unfold maxLen; omega) (by omega) hbase ?_
  · intro j u hj
    rw [addr_add]
    match j, hj with
    | 0, hj => simp [tokV] at hj; subst hj; exact hc0
    | 1, hj => simp [tokV] at hj; subst hj; exact hc1
    | 2, hj => simp [tokV] at hj; subst hj; exact hc2
    | 3, hj => simp [tokV] at hj; subst hj; exact hc3
    | 4, hj => simp [tokV] at hj; subst hj; exact hc4
  · intro u hu
    simp [tokV] at hu
    rcases hu with rfl | rfl | rfl | rfl | rfl
    · rfl
    · rfl
    · rfl
    · exact own_one hat
    · rfl
  · intro v' w' hown' hgrow _
    refine h v' w' ⟨ps ++ [(t, va)], by simp [k1], by simpa using hown', ?_⟩ hgrow ((Below.refl base w).grown hgrow hbase (fun k hk => own_base k2 hk)) ?_
    · intro p hp
      rw [List.mem_append] at hp
      rcases hp with hp | hp
      · exact own_apart (k3 p hp) k2 hgrow (by decide)
      · simp at hp
        subst hp
        exact own_apart hat k2 hgrow (by decide)
    · intro b cur e fz hb hne
      rw [hgrow.block b (Array.getElem?_eq_some_iff.1 hb).1 (fun e0 => own_ne k2 hb hne e0.symm)]
      exact hb

/-- The scanner: the rest, the text that is not told yet, the tokens. -/
def Sc (w : World) (base b : Nat) (s t : Txt) (l : List Tok) : Prop :=
  base ≤ b ∧ ∃ v, w.heap[b]? = some (.cells #[.string ⟨s.toArray⟩, .string ⟨t.toArray⟩, v] 64 (0, 0)) ∧ Toks w base v l
theorem Sc.below {w w1 : World} {base b : Nat} {s t : Txt} {l : List Tok} (h : Sc w base b s t l) (hb : Below w.heap.size w w1) : Sc w1 base b s t l := by
  obtain ⟨h1, v, h2, h3⟩ := h
  exact ⟨h1, v, (hb.block b (Array.getElem?_eq_some_iff.1 h2).1).trans h2, h3.below hb⟩
theorem grown_set (w : World) (a : Addr) (v : Value) : w.grownBy (w.setCell a v) (some a.block) :=
  ⟨rfl, rfl, rfl, by simp, fun k _ hk => heap_setCell_other w a k v (fun e => hk (by simp [e]))⟩
theorem below_set {B b j : Nat} {w W : World} (h : Below B w W) (hb : B ≤ b) (v : Value) : Below B w (W.setCell ⟨b, j, none⟩ v) := h.setCell (p := ⟨b, j, none⟩) hb v
theorem Sc.set_s {w : World} {base b : Nat} {s t : Txt} {l : List Tok} (h : Sc w base b s t l) (s' : Txt) : Sc (w.setCell ⟨b, 0, none⟩ (.string ⟨s'.toArray⟩)) base b s' t l := by
  obtain ⟨h1, v, h2, h3⟩ := h
  exact ⟨h1, v, heap_setCell_same w b 0 _ _ _ h2, h3.other (grown_set w ⟨b, 0, none⟩ _) h2 (by decide) (by decide)⟩
theorem Sc.set_t {w : World} {base b : Nat} {s t : Txt} {l : List Tok} (h : Sc w base b s t l) (t' : Txt) : Sc (w.setCell ⟨b, 1, none⟩ (.string ⟨t'.toArray⟩)) base b s t' l := by
  obtain ⟨h1, v, h2, h3⟩ := h
  exact ⟨h1, v, heap_setCell_same w b 1 _ _ _ h2, h3.other (grown_set w ⟨b, 1, none⟩ _) h2 (by decide) (by decide)⟩
theorem Sc.set_o {w : World} {base b : Nat} {s t : Txt} {l l' : List Tok} {v v' : Value} (h1 : base ≤ b) (h2 : w.heap[b]? = some (.cells #[.string ⟨s.toArray⟩, .string ⟨t.toArray⟩, v] 64 (0, 0))) (h3 : Toks w base v' l') : Sc (w.setCell ⟨b, 2, none⟩ v') base b s t l' :=
  ⟨h1, v', heap_setCell_same w b 2 _ _ _ h2, h3.other (grown_set w ⟨b, 2, none⟩ _) h2 (by decide) (by decide)⟩
end Go.Proofs.YtdnbaliibiginaaGreatDoor

/- Plain: the cutting of bytes to tokens ends: the fuel does not count; the rest is no longer than what was. No program in sight. -/
namespace Go.Proofs.YtdnbaliibiginaaGreatDoor
open Go.Proofs

theorem cut1_le (c : UInt8) (l : Txt) : (cut1 c l).2.1.length ≤ l.length := by
  have := cut1_len c l
  omega
theorem skipS_le (s : Txt) : (skipS s).length ≤ s.length := by
  unfold skipS
  simp
theorem valF_le (nm s : Txt) : (valF nm s).2.1.length ≤ s.length := by
  unfold valF
  split
  · simp
  · rename_i q t
    split
    · have := cut1_le q t
      simp only [List.length_cons]
      omega
    · simp only [List.length_drop]
      omega
theorem attrR_le (nm s : Txt) : (attrR nm s).2.1.length ≤ s.length := by
  have h1 := skipS_le s
  unfold attrR
  split
  · simp
  · rename_i c t h
    rw [h] at h1
    simp only [List.length_cons] at h1
    split
    · have h2 := valF_le nm (skipS t)
      have h3 := skipS_le t
      omega
    · simp
theorem attrF_lt (c : UInt8) (s : Txt) : (attrF (c :: s)).2.1.length ≤ s.length := by
  have h := attrR_le (lowL ((c :: s).take (attrK (c :: s)))) ((c :: s).drop (attrK (c :: s)))
  have : 1 ≤ attrK (c :: s) := by unfold attrK; omega
  unfold attrF
  simp only [List.length_drop, List.length_cons] at h
  omega

theorem attrsN_fuel : ∀ (n m : Nat) (acc : List (Txt × Txt)) (s : Txt), s.length < n → s.length < m → attrsN n acc s = attrsN m acc s
  | 0, _, _, _, h, _ => absurd h (Nat.not_lt_zero _)
  | _, 0, _, _, _, h => absurd h (Nat.not_lt_zero _)
  | n + 1, m + 1, acc, s, hn, hm => by
    unfold attrsN
    cases h : s.drop (gapF s) with
    | nil => rfl
    | cons c s1 =>
      have h1 : s1.length < s.length := by
        have := congrArg List.length h
        simp at this
        omega
      have h2 := attrF_lt c s1
      simp only
      split
      · rfl
      · split
        · exact attrsN_fuel n m _ _ (by omega) (by omega)
        · rfl
theorem attrsF_eq (acc : List (Txt × Txt)) (s : Txt) : attrsF acc s = match s.drop (gapF s) with
    | [] => none
    | c :: s1 => if c = 62 then some (acc, slashF s, s1) else if (attrF (c :: s1)).2.2 then attrsF (addA acc (attrF (c :: s1)).1) (attrF (c :: s1)).2.1 else none := by
  unfold attrsF
  rw [attrsN]
  cases h : s.drop (gapF s) with
  | nil => rfl
  | cons c s1 =>
    have h1 : s1.length < s.length := by
      have := congrArg List.length h
      simp at this
      omega
    have h2 := attrF_lt c s1
    simp only
    split
    · rfl
    · split
      · exact attrsN_fuel _ _ _ _ (by omega) (by omega)
      · rfl
theorem attrsN_le : ∀ (n : Nat) (acc : List (Txt × Txt)) (s : Txt) r, attrsN n acc s = some r → r.2.2.length ≤ s.length
  | 0, _, _, _, h => by simp [attrsN] at h
  | n + 1, acc, s, r, h => by
    unfold attrsN at h
    cases hd : s.drop (gapF s) with
    | nil => rw [hd] at h; simp at h
    | cons c s1 =>
      rw [hd] at h
      have h1 : s1.length < s.length := by
        have := congrArg List.length hd
        simp at this
        omega
      have h2 := attrF_lt c s1
      simp only at h
      split at h
      · simp at h
        subst h
        simp only
        omega
      · split at h
        · have := attrsN_le n _ _ r h
          omega
        · simp at h
theorem openedF_le {s : Txt} {r : Tok × Txt} (h : openedF s = some r) : r.2.length ≤ s.length := by
  unfold openedF at h
  cases ha : attrsF [] (s.drop (s.findIdx slashedB)) with
  | none => rw [ha] at h; simp at h
  | some q =>
    rw [ha] at h
    simp at h
    have := attrsN_le _ _ _ _ ha
    subst h
    simp only [List.length_drop] at *
    omega
theorem tagF_le (k : Int) (s : Txt) : (tagF k s).2.length ≤ s.length := by
  unfold tagF
  cases ho : openedF s with
  | none => simp
  | some r =>
    have := openedF_le ho
    simp only
    split
    · simpa using this
    · split
      · simp only [insideR, List.length_drop]
        omega
      · simpa using this
theorem cut_le (s e : Txt) : (Lib.cut s e).2.1.length ≤ s.length := by
  unfold Lib.cut
  split
  · simp
  · simp
theorem noteF_le (k : Int) (s e : Txt) : (noteF k s e).2.length ≤ s.length := cut_le s e
theorem commentF_le (s : Txt) : (commentF s).2.length ≤ s.length := by
  unfold commentF
  split
  · simp
  · split
    · simp
    · exact noteF_le _ _ _
theorem openF_le {s : Txt} {r : List Tok × Txt} (h : openF s = some r) : r.2.length ≤ s.length := by
  unfold openF at h
  have hd : ∀ n, (s.drop n).length ≤ s.length := by simp
  have ht : s.tail.length ≤ s.length := by simp
  split at h
  · simp at h; subst h; exact tagF_le _ _
  · split at h
    · simp at h; subst h; exact Nat.le_trans (tagF_le _ _) ht
    · split at h
      · simp at h; subst h; exact hd 2
      · split at h
        · simp at h; subst h; exact Nat.le_trans (commentF_le _) (hd 3)
        · split at h
          · simp at h; subst h; exact Nat.le_trans (noteF_le _ _ _) (hd 8)
          · split at h
            · simp at h; subst h; exact Nat.le_trans (noteF_le _ _ _) ht
            · split at h
              · simp at h; subst h; exact noteF_le _ _ _
              · split at h
                · simp at h; subst h; exact Nat.le_trans (noteF_le _ _ _) ht
                · simp at h
theorem runN_fuel : ∀ (n m : Nat) (t s : Txt), s.length < n → s.length < m → runN n t s = runN m t s
  | 0, _, _, _, h, _ => absurd h (Nat.not_lt_zero _)
  | _, 0, _, _, _, h => absurd h (Nat.not_lt_zero _)
  | n + 1, m + 1, t, s, hn, hm => by
    unfold runN
    cases h : s.drop (textF s) with
    | nil => rfl
    | cons c s1 =>
      have h1 : s1.length < s.length := by
        have := congrArg List.length h
        simp at this
        omega
      simp only
      cases ho : openF s1 with
      | none => exact runN_fuel n m _ _ (by omega) (by omega)
      | some r =>
        have := openF_le ho
        obtain ⟨ts, r⟩ := r
        simp only at *
        rw [runN_fuel n m _ _ (by omega) (by omega)]
theorem runF_eq (t s : Txt) : runF t s = match s.drop (textF s) with
    | [] => tellF (t ++ s.take (textF s))
    | _ :: s1 =>
      match openF s1 with
      | none => runF (t ++ s.take (textF s) ++ [60]) s1
      | some (ts, r) => tellF (t ++ s.take (textF s)) ++ ts ++ runF [] r := by
  unfold runF
  rw [runN]
  cases h : s.drop (textF s) with
  | nil => rfl
  | cons c s1 =>
    have h1 : s1.length < s.length := by
      have := congrArg List.length h
      simp at this
      omega
    simp only
    cases ho : openF s1 with
    | none => exact runN_fuel _ _ _ _ (by omega) (by omega)
    | some r =>
      have := openF_le ho
      obtain ⟨ts, r⟩ := r
      simp only at *
      rw [runN_fuel s.length (r.length + 1) [] r (by omega) (by omega)]
end Go.Proofs.YtdnbaliibiginaaGreatDoor

/- Contract of token.attribute: an attribute that stands at the beginning, what follows it, whether it ended. Nothing that lay in memory turns. -/
namespace Go.Proofs.YtdnbaliibiginaaGreatDoor
open Go.RowKit Go.Proofs

@[go_sem] theorem tail_go (c : UInt8) (t : Txt) : (⟨(c :: t).toArray⟩ : ByteArray).extract 1 (t.length + 1) = ⟨t.toArray⟩ := tail_string
theorem two_facts {w : World} {b : Nat} {x y : Value} {t : TypeId} (h : w.heap[b]? = some (.cells #[x, y] t (0, 0))) : w.cell? ⟨b, 0, none⟩ = some x ∧ w.cell? ⟨b, 1, none⟩ = some y ∧ w.frozen? ⟨b, 0, none⟩ = false ∧ w.frozen? ⟨b, 1, none⟩ = false := by
  refine ⟨?_, ?_, ?_, ?_⟩
  · rw [Lib.cell_of_heap h]; rfl
  · rw [Lib.cell_of_heap h]; rfl
  · exact frozen_of_row w b 0 _ _ h
  · exact frozen_of_row w b 1 _ _ h

theorem two_alloc {w : World} {b : Nat} {x y : Value} {t : TypeId} (h : w.heap[b]? = some (.cells #[x, y] t (0, 0))) : (∀ o, (w.alloc o).cell? ⟨b, 0, none⟩ = some x) ∧ (∀ o, (w.alloc o).cell? ⟨b, 1, none⟩ = some y) ∧ (∀ o, (w.alloc o).frozen? ⟨b, 0, none⟩ = false) ∧ (∀ o, (w.alloc o).frozen? ⟨b, 1, none⟩ = false) := by
  have hlt : b < w.heap.size := (Array.getElem?_eq_some_iff.1 h).1
  have h' : ∀ o, (w.alloc o).heap[b]? = some (.cells #[x, y] t (0, 0)) := fun o => (heap_alloc_old w _ hlt).trans h
  exact ⟨fun o => (two_facts (h' o)).1, fun o => (two_facts (h' o)).2.1, fun o => (two_facts (h' o)).2.2.1, fun o => (two_facts (h' o)).2.2.2⟩
theorem attrK_le {l : Txt} (h : 0 < l.length) : ∃ k, attrK l = 1 + k ∧ l.tail.findIdx (fun c => slashedB c || c == 61) = k ∧ 1 + k ≤ l.length := by
  refine ⟨_, rfl, rfl, ?_⟩
  have := List.findIdx_le_length (p := fun c => slashedB c || c == 61) (xs := l.tail)
  rw [List.length_tail] at this
  omega
theorem skipS_get {s t : Txt} {c : UInt8} (h : skipS s = c :: t) : ∃ k, s.findIdx (fun c => !spaceB c) = k ∧ k < s.length ∧ (∀ h : k < s.length, s[k] = c) ∧ s.drop (k + 1) = t := by
  unfold skipS at h
  refine ⟨_, rfl, ?_⟩
  generalize s.findIdx (fun c => !spaceB c) = k at *
  have hlt : k < s.length := by
    have := congrArg List.length h
    simp at this
    omega
  rw [List.drop_eq_getElem_cons hlt] at h
  injection h with h1 h2
  exact ⟨hlt, fun _ => h1, h2⟩
theorem skipS_end {s : Txt} (h : skipS s = []) : s.findIdx (fun c => !spaceB c) = s.length := by
  have h1 := List.findIdx_le_length (p := fun c => !spaceB c) (xs := s)
  have h2 := List.drop_eq_nil_iff.1 h
  omega

set_option maxHeartbeats 1000000 in
set_option maxRecDepth 100000 in
theorem attribute_A (l nm s1 : Txt) (k : Nat) (hl : l.length ≤ 1000000000) (hk : 1 + k ≤ l.length) (hK : l.tail.findIdx (fun c => slashedB c || c == 61) = k) (hnm : lowL (l.take (1 + k)) = nm) (hs1 : l.drop (1 + k) = s1) (hsk : skipS s1 = []) (w : World) (hS : Std w) :
    Calls Tryz.prog 188 #[.string ⟨l.toArray⟩] w fun e w' => e = .returned (.tuple #[.agg #[.string ⟨nm.toArray⟩, .string ⟨([] : Txt).toArray⟩], .string ⟨([] : Txt).toArray⟩, .bool false]) ∧ Below w.heap.size w w' := by
  have hsl : s1.length ≤ 1000000000 := by rw [← hs1]; simp; omega
  have hc1 := Lib.hid (fun W => span_at1 l.tail (by simp; omega) W)
  have hc2 := Lib.hid (fun W => flower_c (l.take (1 + k)) (by simp; omega) W)
  have hc3 := Lib.hid (fun W => span_at2 s1 hsl W)
  rw [hK] at hc1
  rw [hnm] at hc2
  rw [skipS_end hsk] at hc3
  clear hsk
  clear hK hnm
  go_enter Tryz.func188, Tryz.ntmps188
  go_wp2_with (first
    | (go_at_call 91; first
      | ((with_reducible refine (hc1.out _).mono ?_); rintro e w1 ⟨rfl, rfl⟩)
      | ((with_reducible refine (hc3.out _).mono ?_); rintro e w1 ⟨rfl, rfl⟩))
    | (go_at_call 142; ((with_reducible refine (hc2.out _).mono ?_); rintro e w1 ⟨rfl, hb⟩; have hB1 := below_then ((Below.refl w.heap.size w).alloc (Nat.le_refl _) _) (by simp) hb; have r0 := (hb.block w.heap.size (by simp)).trans (new_cells _ _ _); obtain ⟨q1, q2, q3, q4⟩ := two_alloc r0; have hz1 := hb.size; simp at hz1; have hS1 := hS.below hB1; have hne1 : w1.heap.size ≠ w.heap.size := (by omega); have hne2 : w.heap.size ≠ w1.heap.size := (by omega); clear hb)))
  refine bodyPost_ret (v := .tuple #[.agg #[.string ⟨nm.toArray⟩, .string ⟨([] : Txt).toArray⟩], .string ⟨([] : Txt).toArray⟩, .bool false]) (by simp [results, Tryz.results188, go_sem, q1, q2]) rfl ⟨rfl, below_set (below_set (hB1.alloc (by omega) _) (Nat.le_refl _) _) (Nat.le_refl _) _⟩

set_option maxHeartbeats 1000000 in
set_option maxRecDepth 100000 in
theorem attribute_B (l nm s1 t2 : Txt) (c : UInt8) (k : Nat) (hl : l.length ≤ 1000000000) (hk : 1 + k ≤ l.length) (hK : l.tail.findIdx (fun c => slashedB c || c == 61) = k) (hnm : lowL (l.take (1 + k)) = nm) (hs1 : l.drop (1 + k) = s1) (hsk : skipS s1 = c :: t2) (hc61 : c ≠ 61) (w : World) (hS : Std w) :
    Calls Tryz.prog 188 #[.string ⟨l.toArray⟩] w fun e w' => e = .returned (.tuple #[.agg #[.string ⟨nm.toArray⟩, .string ⟨([] : Txt).toArray⟩], .string ⟨(s1 : Txt).toArray⟩, .bool true]) ∧ Below w.heap.size w w' := by
  have hsl : s1.length ≤ 1000000000 := by rw [← hs1]; simp; omega
  have hc1 := Lib.hid (fun W => span_at1 l.tail (by simp; omega) W)
  have hc2 := Lib.hid (fun W => flower_c (l.take (1 + k)) (by simp; omega) W)
  have hc3 := Lib.hid (fun W => span_at2 s1 hsl W)
  rw [hK] at hc1
  rw [hnm] at hc2
  obtain ⟨k2, h21, h22, h23, h24⟩ := skipS_get hsk
  rw [h21] at hc3
  have h23 := h23 h22
  obtain ⟨n, hn⟩ : ∃ n, (c.toNat : Int) = n := ⟨_, rfl⟩
  have hn61 : n ≠ 61 := by
    intro e
    exact hc61 (u8_eq (n := 61) (by omega) (by omega))
  clear hsk h21 h24 hc61
  clear hK hnm
  go_enter Tryz.func188, Tryz.ntmps188
  go_wp2_with (first
    | (go_at_call 91; first
      | ((with_reducible refine (hc1.out _).mono ?_); rintro e w1 ⟨rfl, rfl⟩)
      | ((with_reducible refine (hc3.out _).mono ?_); rintro e w1 ⟨rfl, rfl⟩))
    | (go_at_call 142; ((with_reducible refine (hc2.out _).mono ?_); rintro e w1 ⟨rfl, hb⟩; have hB1 := below_then ((Below.refl w.heap.size w).alloc (Nat.le_refl _) _) (by simp) hb; have r0 := (hb.block w.heap.size (by simp)).trans (new_cells _ _ _); obtain ⟨q1, q2, q3, q4⟩ := two_alloc r0; have hz1 := hb.size; simp at hz1; have hS1 := hS.below hB1; have hne1 : w1.heap.size ≠ w.heap.size := (by omega); have hne2 : w.heap.size ≠ w1.heap.size := (by omega); clear hb)))
  refine bodyPost_ret (v := .tuple #[.agg #[.string ⟨nm.toArray⟩, .string ⟨([] : Txt).toArray⟩], .string ⟨(s1 : Txt).toArray⟩, .bool true]) (by simp [results, Tryz.results188, go_sem, q1, q2]) rfl ⟨rfl, below_set (below_set (hB1.alloc (by omega) _) (Nat.le_refl _) _) (Nat.le_refl _) _⟩

set_option maxHeartbeats 1000000 in
set_option maxRecDepth 100000 in
theorem attribute_C (l nm s1 t2 : Txt) (k : Nat) (hl : l.length ≤ 1000000000) (hk : 1 + k ≤ l.length) (hK : l.tail.findIdx (fun c => slashedB c || c == 61) = k) (hnm : lowL (l.take (1 + k)) = nm) (hs1 : l.drop (1 + k) = s1) (hsk : skipS s1 = 61 :: t2) (hsk2 : skipS t2 = []) (w : World) (hS : Std w) :
    Calls Tryz.prog 188 #[.string ⟨l.toArray⟩] w fun e w' => e = .returned (.tuple #[.agg #[.string ⟨nm.toArray⟩, .string ⟨([] : Txt).toArray⟩], .string ⟨([] : Txt).toArray⟩, .bool false]) ∧ Below w.heap.size w w' := by
  have hsl : s1.length ≤ 1000000000 := by rw [← hs1]; simp; omega
  have hc1 := Lib.hid (fun W => span_at1 l.tail (by simp; omega) W)
  have hc2 := Lib.hid (fun W => flower_c (l.take (1 + k)) (by simp; omega) W)
  have hc3 := Lib.hid (fun W => span_at2 s1 hsl W)
  rw [hK] at hc1
  rw [hnm] at hc2
  obtain ⟨k2, h21, h22, h23, h24⟩ := skipS_get hsk
  rw [h21] at hc3
  have h23 := h23 h22
  have ht2 : t2.length ≤ 1000000000 := by rw [← h24]; simp; omega
  have hc4 := Lib.hid (fun W => span_at3 t2 ht2 W)
  rw [skipS_end hsk2] at hc4
  clear hsk h21 hsk2
  clear hK hnm
  go_enter Tryz.func188, Tryz.ntmps188
  go_wp2_with (first
    | (go_at_call 91; first
      | ((with_reducible refine (hc1.out _).mono ?_); rintro e w1 ⟨rfl, rfl⟩)
      | ((with_reducible refine (hc3.out _).mono ?_); rintro e w1 ⟨rfl, rfl⟩)
      | ((with_reducible refine (hc4.out _).mono ?_); rintro e w1 ⟨rfl, rfl⟩))
    | (go_at_call 142; ((with_reducible refine (hc2.out _).mono ?_); rintro e w1 ⟨rfl, hb⟩; have hB1 := below_then ((Below.refl w.heap.size w).alloc (Nat.le_refl _) _) (by simp) hb; have r0 := (hb.block w.heap.size (by simp)).trans (new_cells _ _ _); obtain ⟨q1, q2, q3, q4⟩ := two_alloc r0; have hz1 := hb.size; simp at hz1; have hS1 := hS.below hB1; have hne1 : w1.heap.size ≠ w.heap.size := (by omega); have hne2 : w.heap.size ≠ w1.heap.size := (by omega); clear hb)))
  refine bodyPost_ret (v := .tuple #[.agg #[.string ⟨nm.toArray⟩, .string ⟨([] : Txt).toArray⟩], .string ⟨([] : Txt).toArray⟩, .bool false]) (by simp [results, Tryz.results188, go_sem, q1, q2]) rfl ⟨rfl, below_set (below_set (hB1.alloc (by omega) _) (Nat.le_refl _) _) (Nat.le_refl _) _⟩

set_option maxHeartbeats 1000000 in
set_option maxRecDepth 100000 in
theorem attribute_D34 (l nm s1 t2 t3 : Txt) (k : Nat) (hl : l.length ≤ 1000000000) (hk : 1 + k ≤ l.length) (hK : l.tail.findIdx (fun c => slashedB c || c == 61) = k) (hnm : lowL (l.take (1 + k)) = nm) (hs1 : l.drop (1 + k) = s1) (hsk : skipS s1 = 61 :: t2) (hsk2 : skipS t2 = 34 :: t3) (w : World) (hS : Std w) :
    Calls Tryz.prog 188 #[.string ⟨l.toArray⟩] w fun e w' => e = .returned (.tuple #[.agg #[.string ⟨nm.toArray⟩, .string ⟨(decL (cut1 34 t3).1 : Txt).toArray⟩], .string ⟨((cut1 34 t3).2.1 : Txt).toArray⟩, .bool (cut1 34 t3).2.2]) ∧ Below w.heap.size w w' := by
  have hsl : s1.length ≤ 1000000000 := by rw [← hs1]; simp; omega
  have hc1 := Lib.hid (fun W => span_at1 l.tail (by simp; omega) W)
  have hc2 := Lib.hid (fun W => flower_c (l.take (1 + k)) (by simp; omega) W)
  have hc3 := Lib.hid (fun W => span_at2 s1 hsl W)
  rw [hK] at hc1
  rw [hnm] at hc2
  obtain ⟨k2, h21, h22, h23, h24⟩ := skipS_get hsk
  rw [h21] at hc3
  have h23 := h23 h22
  have ht2 : t2.length ≤ 1000000000 := by rw [← h24]; simp; omega
  have hc4 := Lib.hid (fun W => span_at3 t2 ht2 W)
  obtain ⟨k3, h31⟩ : ∃ k3, t2.findIdx (fun c => !spaceB c) = k3 := ⟨_, rfl⟩
  rw [h31] at hc4
  have h3le : k3 ≤ t2.length := by rw [← h31]; exact List.findIdx_le_length
  have h32 : t2.drop k3 = 34 :: t3 := by rw [← h31]; exact hsk2
  have h3l := congrArg List.length h32
  simp only [List.length_drop, List.length_cons] at h3l
  have hcut := Lib.hid (fun W hS => cut_c t3 34 (by omega) W hS)
  have hcl := cut1_len 34 t3
  generalize cut1 34 t3 = cc at *
  obtain ⟨v1, v2, fd⟩ := cc
  have hdec := Lib.hid (fun W hS => decode_c v1 (by simp only at hcl; omega) W hS)
  simp only at hcut
  clear hsk h21 hsk2 h31 hcl
  clear hK hnm
  go_enter Tryz.func188, Tryz.ntmps188
  go_wp2_with (first
    | (go_at_call 91; first
      | ((with_reducible refine (hc1.out _).mono ?_); rintro e w1 ⟨rfl, rfl⟩)
      | ((with_reducible refine (hc3.out _).mono ?_); rintro e w1 ⟨rfl, rfl⟩)
      | ((with_reducible refine (hc4.out _).mono ?_); rintro e w1 ⟨rfl, rfl⟩))
    | (go_at_call 142; ((with_reducible refine (hc2.out _).mono ?_); rintro e w1 ⟨rfl, hb⟩; have hB1 := below_then ((Below.refl w.heap.size w).alloc (Nat.le_refl _) _) (by simp) hb; have r0 := (hb.block w.heap.size (by simp)).trans (new_cells _ _ _); obtain ⟨q1, q2, q3, q4⟩ := two_alloc r0; have hz1 := hb.size; simp at hz1; have hS1 := hS.below hB1; have hne1 : w1.heap.size ≠ w.heap.size := (by omega); have hne2 : w.heap.size ≠ w1.heap.size := (by omega); clear hb))
    | (go_at_call 144; ((with_reducible refine (hcut.out _ (hS1.alloc _)).mono ?_); rintro e w2 ⟨rfl, hb2⟩; have hB2 := below_then (hB1.alloc (by omega) _) (by simp; omega) hb2; have r02 := (hb2.block w.heap.size (by simp; omega)).trans ((heap_alloc_old w1 _ (by omega)).trans r0); have r12 := (hb2.block w1.heap.size (by simp)).trans (new_cells _ _ _); have hz2 := hb2.size; simp at hz2; have hS2 := hS.below hB2; clear hb2))
    | (go_at_call 102; ((with_reducible refine (hdec.out _ hS2).mono ?_); rintro e w3 ⟨rfl, hb3⟩; have hB3 := below_then hB2 (by omega) hb3; obtain ⟨p1, p2, p3, p4⟩ := two_facts ((hb3.block w.heap.size (by omega)).trans r02); obtain ⟨p5, p6, p7, p8⟩ := two_facts ((hb3.block w1.heap.size (by omega)).trans r12); clear hb3)))
  refine bodyPost_ret (v := .tuple #[.agg #[.string ⟨nm.toArray⟩, .string ⟨(decL v1 : Txt).toArray⟩], .string ⟨(v2 : Txt).toArray⟩, .bool fd]) (by simp [results, Tryz.results188, go_sem, p1, p2, hne1, hne2]) rfl ⟨rfl, below_set (below_set (below_set hB3 (by omega) _) (Nat.le_refl _) _) (Nat.le_refl _) _⟩

set_option maxHeartbeats 1000000 in
set_option maxRecDepth 100000 in
theorem attribute_D39 (l nm s1 t2 t3 : Txt) (k : Nat) (hl : l.length ≤ 1000000000) (hk : 1 + k ≤ l.length) (hK : l.tail.findIdx (fun c => slashedB c || c == 61) = k) (hnm : lowL (l.take (1 + k)) = nm) (hs1 : l.drop (1 + k) = s1) (hsk : skipS s1 = 61 :: t2) (hsk2 : skipS t2 = 39 :: t3) (w : World) (hS : Std w) :
    Calls Tryz.prog 188 #[.string ⟨l.toArray⟩] w fun e w' => e = .returned (.tuple #[.agg #[.string ⟨nm.toArray⟩, .string ⟨(decL (cut1 39 t3).1 : Txt).toArray⟩], .string ⟨((cut1 39 t3).2.1 : Txt).toArray⟩, .bool (cut1 39 t3).2.2]) ∧ Below w.heap.size w w' := by
  have hsl : s1.length ≤ 1000000000 := by rw [← hs1]; simp; omega
  have hc1 := Lib.hid (fun W => span_at1 l.tail (by simp; omega) W)
  have hc2 := Lib.hid (fun W => flower_c (l.take (1 + k)) (by simp; omega) W)
  have hc3 := Lib.hid (fun W => span_at2 s1 hsl W)
  rw [hK] at hc1
  rw [hnm] at hc2
  obtain ⟨k2, h21, h22, h23, h24⟩ := skipS_get hsk
  rw [h21] at hc3
  have h23 := h23 h22
  have ht2 : t2.length ≤ 1000000000 := by rw [← h24]; simp; omega
  have hc4 := Lib.hid (fun W => span_at3 t2 ht2 W)
  obtain ⟨k3, h31⟩ : ∃ k3, t2.findIdx (fun c => !spaceB c) = k3 := ⟨_, rfl⟩
  rw [h31] at hc4
  have h3le : k3 ≤ t2.length := by rw [← h31]; exact List.findIdx_le_length
  have h32 : t2.drop k3 = 39 :: t3 := by rw [← h31]; exact hsk2
  have h3l := congrArg List.length h32
  simp only [List.length_drop, List.length_cons] at h3l
  have hcut := Lib.hid (fun W hS => cut_c t3 39 (by omega) W hS)
  have hcl := cut1_len 39 t3
  generalize cut1 39 t3 = cc at *
  obtain ⟨v1, v2, fd⟩ := cc
  have hdec := Lib.hid (fun W hS => decode_c v1 (by simp only at hcl; omega) W hS)
  simp only at hcut
  clear hsk h21 hsk2 h31 hcl
  clear hK hnm
  go_enter Tryz.func188, Tryz.ntmps188
  go_wp2_with (first
    | (go_at_call 91; first
      | ((with_reducible refine (hc1.out _).mono ?_); rintro e w1 ⟨rfl, rfl⟩)
      | ((with_reducible refine (hc3.out _).mono ?_); rintro e w1 ⟨rfl, rfl⟩)
      | ((with_reducible refine (hc4.out _).mono ?_); rintro e w1 ⟨rfl, rfl⟩))
    | (go_at_call 142; ((with_reducible refine (hc2.out _).mono ?_); rintro e w1 ⟨rfl, hb⟩; have hB1 := below_then ((Below.refl w.heap.size w).alloc (Nat.le_refl _) _) (by simp) hb; have r0 := (hb.block w.heap.size (by simp)).trans (new_cells _ _ _); obtain ⟨q1, q2, q3, q4⟩ := two_alloc r0; have hz1 := hb.size; simp at hz1; have hS1 := hS.below hB1; have hne1 : w1.heap.size ≠ w.heap.size := (by omega); have hne2 : w.heap.size ≠ w1.heap.size := (by omega); clear hb))
    | (go_at_call 144; ((with_reducible refine (hcut.out _ (hS1.alloc _)).mono ?_); rintro e w2 ⟨rfl, hb2⟩; have hB2 := below_then (hB1.alloc (by omega) _) (by simp; omega) hb2; have r02 := (hb2.block w.heap.size (by simp; omega)).trans ((heap_alloc_old w1 _ (by omega)).trans r0); have r12 := (hb2.block w1.heap.size (by simp)).trans (new_cells _ _ _); have hz2 := hb2.size; simp at hz2; have hS2 := hS.below hB2; clear hb2))
    | (go_at_call 102; ((with_reducible refine (hdec.out _ hS2).mono ?_); rintro e w3 ⟨rfl, hb3⟩; have hB3 := below_then hB2 (by omega) hb3; obtain ⟨p1, p2, p3, p4⟩ := two_facts ((hb3.block w.heap.size (by omega)).trans r02); obtain ⟨p5, p6, p7, p8⟩ := two_facts ((hb3.block w1.heap.size (by omega)).trans r12); clear hb3)))
  refine bodyPost_ret (v := .tuple #[.agg #[.string ⟨nm.toArray⟩, .string ⟨(decL v1 : Txt).toArray⟩], .string ⟨(v2 : Txt).toArray⟩, .bool fd]) (by simp [results, Tryz.results188, go_sem, p1, p2, hne1, hne2]) rfl ⟨rfl, below_set (below_set (below_set hB3 (by omega) _) (Nat.le_refl _) _) (Nat.le_refl _) _⟩
end Go.Proofs.YtdnbaliibiginaaGreatDoor

/- Contract of token.attribute, the last cases, and all of it: an attribute that stands at the beginning, what follows it, whether it ended. Nothing that lay in memory turns. -/
namespace Go.Proofs.YtdnbaliibiginaaGreatDoor
open Go.RowKit Go.Proofs


set_option maxHeartbeats 1000000 in
set_option maxRecDepth 100000 in
theorem attribute_DnT (l nm s1 t2 s3 t3 : Txt) (q : UInt8) (m : Nat) (k : Nat) (hl : l.length ≤ 1000000000) (hk : 1 + k ≤ l.length) (hK : l.tail.findIdx (fun c => slashedB c || c == 61) = k) (hnm : lowL (l.take (1 + k)) = nm) (hs1 : l.drop (1 + k) = s1) (hsk : skipS s1 = 61 :: t2) (hs3 : s3 = q :: t3) (hsk2 : skipS t2 = q :: t3) (hq1 : q ≠ 34) (hq2 : q ≠ 39) (hm : wordK s3 = m) (hlt : m < s3.length) (w : World) (hS : Std w) :
    Calls Tryz.prog 188 #[.string ⟨l.toArray⟩] w fun e w' => e = .returned (.tuple #[.agg #[.string ⟨nm.toArray⟩, .string ⟨(decL (s3.take m) : Txt).toArray⟩], .string ⟨(s3.drop m : Txt).toArray⟩, .bool true]) ∧ Below w.heap.size w w' := by
  have hsl : s1.length ≤ 1000000000 := by rw [← hs1]; simp; omega
  have hc1 := Lib.hid (fun W => span_at1 l.tail (by simp; omega) W)
  have hc2 := Lib.hid (fun W => flower_c (l.take (1 + k)) (by simp; omega) W)
  have hc3 := Lib.hid (fun W => span_at2 s1 hsl W)
  rw [hK] at hc1
  rw [hnm] at hc2
  obtain ⟨k2, h21, h22, h23, h24⟩ := skipS_get hsk
  rw [h21] at hc3
  have h23 := h23 h22
  have ht2 : t2.length ≤ 1000000000 := by rw [← h24]; simp; omega
  have hc4 := Lib.hid (fun W => span_at3 t2 ht2 W)
  obtain ⟨k3, h31⟩ : ∃ k3, t2.findIdx (fun c => !spaceB c) = k3 := ⟨_, rfl⟩
  rw [h31] at hc4
  have h3le : k3 ≤ t2.length := by rw [← h31]; exact List.findIdx_le_length
  have h32 : t2.drop k3 = s3 := by rw [← h31, hs3]; exact hsk2
  have h3l := congrArg List.length h32
  simp only [List.length_drop] at h3l
  have hc5 := Lib.hid (fun W => span_at4 s3 (by omega) W)
  rw [show s3.findIdx (fun c => spaceB c || c == 62) = m from hm] at hc5
  have hml : m ≤ s3.length := by rw [← hm]; unfold wordK; exact List.findIdx_le_length
  have hdec := Lib.hid (fun W hS => decode_c (s3.take m) (by simp; omega) W hS)
  have hs31 : s3.take 1 = [q] := by rw [hs3]; rfl
  have hs30 : 0 < s3.length := by rw [hs3]; simp
  have hbe : (s3 == []) = false := by rw [hs3]; rfl
  generalize decL (s3.take m) = dv at *
  have hb1 : ¬ q = 34 := hq1
  have hb2 : (q == 39) = false := by simpa using hq2
  clear hsk h21 hsk2 h31 hs3 hm hq1 hq2
  clear hK hnm
  go_enter Tryz.func188, Tryz.ntmps188
  go_wp2_with (first
    | (go_at_call 91; first
      | ((with_reducible refine (hc1.out _).mono ?_); rintro e w1 ⟨rfl, rfl⟩)
      | ((with_reducible refine (hc3.out _).mono ?_); rintro e w1 ⟨rfl, rfl⟩)
      | ((with_reducible refine (hc4.out _).mono ?_); rintro e w1 ⟨rfl, rfl⟩)
      | ((with_reducible refine (hc5.out _).mono ?_); rintro e w1 ⟨rfl, rfl⟩))
    | (go_at_call 142; ((with_reducible refine (hc2.out _).mono ?_); rintro e w1 ⟨rfl, hb⟩; have hB1 := below_then ((Below.refl w.heap.size w).alloc (Nat.le_refl _) _) (by simp) hb; have r0 := (hb.block w.heap.size (by simp)).trans (new_cells _ _ _); obtain ⟨q1, q2, q3, q4⟩ := two_alloc r0; have hz1 := hb.size; simp at hz1; have hS1 := hS.below hB1; have hne1 : w1.heap.size ≠ w.heap.size := (by omega); have hne2 : w.heap.size ≠ w1.heap.size := (by omega); clear hb))
    | (go_at_call 102; ((with_reducible refine (hdec.out _ (hS1.alloc _)).mono ?_); rintro e w3 ⟨rfl, hb3⟩; have hB3 := below_then (hB1.alloc (by omega) _) (by simp; omega) hb3; obtain ⟨p1, p2, p3, p4⟩ := two_facts ((hb3.block w.heap.size (by simp; omega)).trans ((heap_alloc_old w1 _ (by omega)).trans r0)); obtain ⟨p5, p6, p7, p8⟩ := two_facts ((hb3.block w1.heap.size (by simp)).trans (new_cells _ _ _)); clear hb3)))
  go_region
  all_goals (go_wp2_with fail)
  all_goals
    refine bodyPost_ret (v := .tuple #[.agg #[.string ⟨nm.toArray⟩, .string ⟨(dv : Txt).toArray⟩], .string ⟨(s3.drop m : Txt).toArray⟩, .bool true]) (by simp [results, Tryz.results188, go_sem, p1, p2, hne1, hne2]) rfl ⟨rfl, (below_set (below_set (below_set hB3 (by omega) _) (Nat.le_refl _) _) (Nat.le_refl _) _).drew⟩

set_option maxHeartbeats 1000000 in
set_option maxRecDepth 100000 in
theorem attribute_DnF (l nm s1 t2 s3 t3 : Txt) (q : UInt8) (m : Nat) (k : Nat) (hl : l.length ≤ 1000000000) (hk : 1 + k ≤ l.length) (hK : l.tail.findIdx (fun c => slashedB c || c == 61) = k) (hnm : lowL (l.take (1 + k)) = nm) (hs1 : l.drop (1 + k) = s1) (hsk : skipS s1 = 61 :: t2) (hs3 : s3 = q :: t3) (hsk2 : skipS t2 = q :: t3) (hq1 : q ≠ 34) (hq2 : q ≠ 39) (hm : wordK s3 = m) (hlt : ¬ m < s3.length) (w : World) (hS : Std w) :
    Calls Tryz.prog 188 #[.string ⟨l.toArray⟩] w fun e w' => e = .returned (.tuple #[.agg #[.string ⟨nm.toArray⟩, .string ⟨(decL (s3.take m) : Txt).toArray⟩], .string ⟨(s3.drop m : Txt).toArray⟩, .bool false]) ∧ Below w.heap.size w w' := by
  have hsl : s1.length ≤ 1000000000 := by rw [← hs1]; simp; omega
  have hc1 := Lib.hid (fun W => span_at1 l.tail (by simp; omega) W)
  have hc2 := Lib.hid (fun W => flower_c (l.take (1 + k)) (by simp; omega) W)
  have hc3 := Lib.hid (fun W => span_at2 s1 hsl W)
  rw [hK] at hc1
  rw [hnm] at hc2
  obtain ⟨k2, h21, h22, h23, h24⟩ := skipS_get hsk
  rw [h21] at hc3
  have h23 := h23 h22
  have ht2 : t2.length ≤ 1000000000 := by rw [← h24]; simp; omega
  have hc4 := Lib.hid (fun W => span_at3 t2 ht2 W)
  obtain ⟨k3, h31⟩ : ∃ k3, t2.findIdx (fun c => !spaceB c) = k3 := ⟨_, rfl⟩
  rw [h31] at hc4
  have h3le : k3 ≤ t2.length := by rw [← h31]; exact List.findIdx_le_length
  have h32 : t2.drop k3 = s3 := by rw [← h31, hs3]; exact hsk2
  have h3l := congrArg List.length h32
  simp only [List.length_drop] at h3l
  have hc5 := Lib.hid (fun W => span_at4 s3 (by omega) W)
  rw [show s3.findIdx (fun c => spaceB c || c == 62) = m from hm] at hc5
  have hml : m ≤ s3.length := by rw [← hm]; unfold wordK; exact List.findIdx_le_length
  have hdec := Lib.hid (fun W hS => decode_c (s3.take m) (by simp; omega) W hS)
  have hs31 : s3.take 1 = [q] := by rw [hs3]; rfl
  have hs30 : 0 < s3.length := by rw [hs3]; simp
  have hbe : (s3 == []) = false := by rw [hs3]; rfl
  generalize decL (s3.take m) = dv at *
  have hb1 : ¬ q = 34 := hq1
  have hb2 : (q == 39) = false := by simpa using hq2
  clear hsk h21 hsk2 h31 hs3 hm hq1 hq2
  clear hK hnm
  go_enter Tryz.func188, Tryz.ntmps188
  go_wp2_with (first
    | (go_at_call 91; first
      | ((with_reducible refine (hc1.out _).mono ?_); rintro e w1 ⟨rfl, rfl⟩)
      | ((with_reducible refine (hc3.out _).mono ?_); rintro e w1 ⟨rfl, rfl⟩)
      | ((with_reducible refine (hc4.out _).mono ?_); rintro e w1 ⟨rfl, rfl⟩)
      | ((with_reducible refine (hc5.out _).mono ?_); rintro e w1 ⟨rfl, rfl⟩))
    | (go_at_call 142; ((with_reducible refine (hc2.out _).mono ?_); rintro e w1 ⟨rfl, hb⟩; have hB1 := below_then ((Below.refl w.heap.size w).alloc (Nat.le_refl _) _) (by simp) hb; have r0 := (hb.block w.heap.size (by simp)).trans (new_cells _ _ _); obtain ⟨q1, q2, q3, q4⟩ := two_alloc r0; have hz1 := hb.size; simp at hz1; have hS1 := hS.below hB1; have hne1 : w1.heap.size ≠ w.heap.size := (by omega); have hne2 : w.heap.size ≠ w1.heap.size := (by omega); clear hb))
    | (go_at_call 102; ((with_reducible refine (hdec.out _ (hS1.alloc _)).mono ?_); rintro e w3 ⟨rfl, hb3⟩; have hB3 := below_then (hB1.alloc (by omega) _) (by simp; omega) hb3; obtain ⟨p1, p2, p3, p4⟩ := two_facts ((hb3.block w.heap.size (by simp; omega)).trans ((heap_alloc_old w1 _ (by omega)).trans r0)); obtain ⟨p5, p6, p7, p8⟩ := two_facts ((hb3.block w1.heap.size (by simp)).trans (new_cells _ _ _)); clear hb3)))
  go_region
  all_goals (go_wp2_with fail)
  all_goals
    refine bodyPost_ret (v := .tuple #[.agg #[.string ⟨nm.toArray⟩, .string ⟨(dv : Txt).toArray⟩], .string ⟨(s3.drop m : Txt).toArray⟩, .bool false]) (by simp [results, Tryz.results188, go_sem, p1, p2, hne1, hne2]) rfl ⟨rfl, (below_set (below_set (below_set hB3 (by omega) _) (Nat.le_refl _) _) (Nat.le_refl _) _).drew⟩

theorem attribute_c (l : Txt) (h0 : 0 < l.length) (hl : l.length ≤ 1000000000) (w : World) (hS : Std w) :
    Calls Tryz.prog 188 #[.string ⟨l.toArray⟩] w fun e w' => e = .returned (.tuple #[.agg #[.string ⟨(attrF l).1.1.toArray⟩, .string ⟨(attrF l).1.2.toArray⟩], .string ⟨(attrF l).2.1.toArray⟩, .bool (attrF l).2.2]) ∧ Below w.heap.size w w' := by
  obtain ⟨k, hK, hk, hkl⟩ := attrK_le h0
  unfold attrF
  rw [hK]
  generalize hnm : lowL (l.take (1 + k)) = nm
  generalize hs1 : l.drop (1 + k) = s1
  unfold attrR
  cases hsk : skipS s1 with
  | nil => exact attribute_A l nm s1 k hl hkl hk hnm hs1 hsk w hS
  | cons c t2 =>
    simp only
    by_cases hc : c = 61
    · subst hc
      rw [if_pos rfl]
      unfold valF
      cases hsk2 : skipS t2 with
      | nil => exact attribute_C l nm s1 t2 k hl hkl hk hnm hs1 hsk hsk2 w hS
      | cons q t3 =>
        simp only
        by_cases hq : q = 34 ∨ q = 39
        · rw [if_pos hq]
          rcases hq with rfl | rfl
          · exact attribute_D34 l nm s1 t2 t3 k hl hkl hk hnm hs1 hsk hsk2 w hS
          · exact attribute_D39 l nm s1 t2 t3 k hl hkl hk hnm hs1 hsk hsk2 w hS
        · rw [if_neg hq]
          simp only [not_or] at hq
          by_cases hm : wordK (q :: t3) < (q :: t3).length
          · simp only [hm, decide_true]
            exact attribute_DnT l nm s1 t2 (q :: t3) t3 q _ k hl hkl hk hnm hs1 hsk rfl hsk2 hq.1 hq.2 rfl hm w hS
          · simp only [hm, decide_false]
            exact attribute_DnF l nm s1 t2 (q :: t3) t3 q _ k hl hkl hk hnm hs1 hsk rfl hsk2 hq.1 hq.2 rfl hm w hS
    · rw [if_neg hc]
      exact attribute_B l nm s1 t2 c k hl hkl hk hnm hs1 hsk hc w hS
end Go.Proofs.YtdnbaliibiginaaGreatDoor
