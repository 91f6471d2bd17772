/- Lemmas and walks, part 29: QE8F, QPW8x33, QPW8x34. -/
import Derived.Test.YtdnbaliibiginaaDoorV28
import Derived.Test.YtdnbaliibiginaaDoorV5
import Derived.Test.YtdnbaliibiginaaDoorV4
import Derived.Test.YtdnbaliibiginaaDoorV25
import Derived.Test.YtdnbaliibiginaaDoorV26
import Derived.Test.YtdnbaliibiginaaDoorV24
set_option linter.unusedVariables false
set_option linter.unusedSimpArgs false

/- Contract of build.found: its loop over slices.Backward. Nothing that lay in memory turns. -/
namespace Go.Proofs.YtdnbaliibiginaaDoorH.W8
open Go.RowKit Go.Shelf Go.Proofs Go.Proofs.YtdnbaliibiginaaDoor
attribute [local go_sem] Oper.semAt_some
theorem has_c (A : Option Addr) (c : Nat) (xs : List ByteArray) (x : ByteArray) (w : World) (h : Strs w A xs) :
  Calls Tryd.prog 111 #[.slice A xs.length c, .string x] w fun e w' => e = .returned (.bool (Lib.containsS xs x)) ∧ w' = w := by
 rcases str_at h with rfl | ⟨g, o, rfl, hc⟩
 ·exact Tryd.slices_Contains_string_empty A c x w
 ·have := Tryd.slices_Contains_string g o xs.length c xs x w (Nat.le_refl _) h.2.1 hc
  rwa [List.take_length] at this
set_option maxHeartbeats 1000000 in
theorem back_in (n : Nat) (A : Option Addr) (len c : Nat) (w : World) :
  CallsIn Fence.wide n Tryd.prog 110 #[.slice A len c] w fun e w' => e = .returned (.func (.func 128) #[] #[.pointer (some ⟨w.heap.size, 0, none⟩)]) ∧ w' = w.alloc (.cells #[.slice A len c] 47) := by
 refine callsIn_of_wp Tryd.func110 rfl trivial ?_ rfl
 simp only [Tryd.ntmps110, List.size_toArray, List.length_cons, List.length_nil, Nat.reduceAdd, Nat.reduceSub, Array.replicate_succ, Array.replicate_zero, List.push_toArray, List.append_toArray, List.nil_append, List.cons_append]
 gi_wp2
 go_ret
 exact ⟨rfl, rfl⟩
theorem back_stops (n : Nat) (hn : 1 ≤ n) (B1 : Nat) (A : Option Addr) (c : Nat) (xs : List ByteArray) (w0 w : World) (hr : Strs w0 A xs) (hB : Below w0.heap.size w0 w) (b1 : Boxed w B1 47 (.slice A xs.length c)) :
  SeqStopsK Fence.wide n Tryd.prog 128 #[.pointer (some ⟨B1, 0, none⟩)] (fun x : IxS => #[Value.int .i64 (x.1 : Nat), .string x.2]) (KpB 47 w0.heap.size B1 (.slice A xs.length c)) (fun ys => ys = backK xs xs.length) (fun pre => ∃ k, k ≤ xs.length ∧ pre = backK xs k) xs.length w := fun l J Jx W hW _ _ hY h0 =>
 back1_in n hn l B1 A c xs w0 hr J Jx hY W (hB.trans (hW.mono hB.size)) ((hW.block B1 b1.lt).trans b1) h0
def foundK (xs some_ walls : List ByteArray) : Nat → Int
 | 0 => -1
 | k + 1 => if Lib.containsS some_ (xs.getD k ⟨#[]⟩) then (k : Int) else if Lib.containsS walls (xs.getD k ⟨#[]⟩) then -1 else foundK xs some_ walls k
def freeB (some_ walls : List ByteArray) (pre : List IxS) : Prop := ∀ p ∈ pre, Lib.containsS some_ p.2 = false ∧ Lib.containsS walls p.2 = false
theorem found_free (xs some_ walls : List ByteArray) : ∀ k, k ≤ xs.length → freeB some_ walls (backK xs k) → foundK xs some_ walls xs.length = foundK xs some_ walls (xs.length - k)
 | 0, _, _ => by rw [Nat.sub_zero]
 | k + 1, hk, h => by
  rw [backK_succ] at h
  have h1 := h (xs.length - 1 - k, xs.getD (xs.length - 1 - k) ⟨#[]⟩) (by simp)
  have ih := found_free xs some_ walls k (by omega) (fun p hp => h p (List.mem_append_left _ hp))
  obtain ⟨m, hm⟩ : ∃ m, xs.length - k = m + 1 := ⟨xs.length - k - 1, by omega⟩
  have hm2 : xs.length - (k + 1) = m := by omega
  have hm3 : xs.length - 1 - k = m := by omega
  rw [hm3] at h1
  rw [ih, hm, hm2]
  simp only [foundK, h1.1, h1.2]
  rfl
theorem found_stop (xs some_ walls : List ByteArray) (k : Nat) (hk : k ≤ xs.length) (pre' : List IxS) (x : IxS) (res : Int) (h : backK xs k = pre' ++ [x]) (hf : freeB some_ walls pre')
  (hc : (Lib.containsS some_ x.2 = true ∧ res = x.1) ∨ (Lib.containsS some_ x.2 = false ∧ Lib.containsS walls x.2 = true ∧ res = -1)) : foundK xs some_ walls xs.length = res := by
 cases k with
 | zero => simp [backK] at h
 | succ m =>
  rw [backK_succ] at h
  obtain ⟨h1, h2⟩ := List.append_inj' h rfl
  have h3 := (List.cons.inj h2).1
  subst h1
  subst h3
  rw [found_free xs some_ walls m (by omega) hf]
  obtain ⟨q, hq⟩ : ∃ q, xs.length - m = q + 1 := ⟨xs.length - m - 1, by omega⟩
  have hq2 : xs.length - 1 - m = q := by omega
  rw [hq2] at hc
  rw [hq]
  rcases hc with ⟨c1, rfl⟩ | ⟨c1, c2, rfl⟩
  ·simp only [foundK, c1]
   rfl
  ·simp only [foundK, c1, c2]
   rfl
theorem boxed_ne {X : World} {B q : Nat} {t : TypeId} {v : Value} {row : Option Nat} (h : Boxed X B t v) (hr : ∀ r, row = some r → q ≤ r ∧ ∃ o : Obj, X.heap[r]? = some o ∧ o.isCells = false) : some B ≠ row := fun e => by
 obtain ⟨_, o, ho, hc⟩ := hr B e.symm
 rw [show X.heap[B]? = _ from h] at ho
 cases ho
 cases hc
def fI (w : World) (V1 V2 : Value) (ys zs : List ByteArray) (pre : List IxS) (W : World) : Prop :=
 (Boxed W w.heap.size 47 V1 ∧ Boxed W (w.heap.size + 1) 47 V2 ∧ Boxed W (w.heap.size + 1 + 1) 3 (.int .i64 0) ∧ freeB ys zs pre) ∧ Below w.heap.size w W
def fX (w : World) (ys zs : List ByteArray) (c : Code) (pre : List IxS) (W : World) : Prop :=
 (c = .ret ∧ ∃ (res : Int) (pre' : List IxS) (x : IxS), Boxed W (w.heap.size + 1 + 1) 3 (.int .i64 res) ∧ pre = pre' ++ [x] ∧ freeB ys zs pre' ∧ ((Lib.containsS ys x.2 = true ∧ res = x.1) ∨ (Lib.containsS ys x.2 = false ∧ Lib.containsS zs x.2 = true ∧ res = -1))) ∧ Below w.heap.size w W
theorem fI_own (w : World) (B : Nat) (hB : w.heap.size ≤ B) (V1 V2 : Value) (ys zs : List ByteArray) : OwnFrom B (fI w V1 V2 ys zs) :=
 OwnFrom.and (fun s X Y row h hg hr => ⟨h.1.kept hg (boxed_ne h.1 hr), h.2.1.kept hg (boxed_ne h.2.1 hr), h.2.2.1.kept hg (boxed_ne h.2.2.1 hr), h.2.2.2⟩) (ownFrom_below (Nat.le_refl _) hB)
theorem fX_own (w : World) (B : Nat) (hB : w.heap.size ≤ B) (ys zs : List ByteArray) (c : Code) : OwnFrom B (fX w ys zs c) :=
 OwnFrom.and (fun s X Y row h hg hr => by
  obtain ⟨hc, res, pre', x, hb, r⟩ := h
  exact ⟨hc, res, pre', x, hb.kept hg (boxed_ne hb hr), r⟩) (ownFrom_below (Nat.le_refl _) hB)
set_option maxHeartbeats 2000000 in
set_option maxRecDepth 100000 in
theorem found_in (n : Nat) (hn : 3 ≤ n) (A0 A1 A2 : Option Addr) (c0 c1 c2 : Nat) (xs ys zs : List ByteArray) (w : World) (h0 : Strs w A0 xs) (h1s : Strs w A1 ys) (h2s : Strs w A2 zs) :
  CallsIn Fence.wide n Tryd.prog 87 #[.slice A0 xs.length c0, .slice A1 ys.length c1, .slice A2 zs.length c2] w fun e w' => e = .returned (.int .i64 (foundK xs ys zs xs.length)) ∧ Below w.heap.size w w' := by
 have h1 : 1 ≤ n := by omega
 have hfn : Fence.wide.fn 110 := trivial
 have hfn2 : Fence.wide.fn 111 := trivial
 refine callsIn_of_wp_marks Tryd.func87 rfl trivial ?_ rfl
 simp only [Tryd.ntmps87, List.size_toArray, List.length_cons, List.length_nil, Nat.reduceAdd, Nat.reduceSub, Array.replicate_succ, Array.replicate_zero, List.push_toArray, List.append_toArray, List.nil_append, List.cons_append]
 gi_wp2_with (gi_at_call 110; refine (back_in _ _ _ _ _).mono ?_; rintro e w' ⟨rfl, rfl⟩)
 have HB0 : Below w.heap.size w ((((w.alloc (.cells #[.slice A1 ys.length c1] 47)).alloc (.cells #[.slice A2 zs.length c2] 47)).alloc (.cells #[.int .i64 0] 3)).alloc (.cells #[.slice A0 xs.length c0] 47)) := ((((Below.refl _ w).alloc (Nat.le_refl _) _).alloc (by simp) _).alloc (by simp; omega) _).alloc (by simp; omega) _
 have b1 := Boxed.new w 47 (.slice A1 ys.length c1)
 have b2 : Boxed ((w.alloc (.cells #[.slice A1 ys.length c1] 47)).alloc (.cells #[.slice A2 zs.length c2] 47)) (w.heap.size + 1) 47 (.slice A2 zs.length c2) := by
  have h := Boxed.new (w.alloc (.cells #[.slice A1 ys.length c1] 47)) 47 (.slice A2 zs.length c2)
  rw [World.size_alloc] at h; exact h
 have b3 : Boxed (((w.alloc (.cells #[.slice A1 ys.length c1] 47)).alloc (.cells #[.slice A2 zs.length c2] 47)).alloc (.cells #[.int .i64 0] 3)) (w.heap.size + 1 + 1) 3 (.int .i64 0) := by
  have h := Boxed.new ((w.alloc (.cells #[.slice A1 ys.length c1] 47)).alloc (.cells #[.slice A2 zs.length c2] 47)) 3 (.int .i64 0)
  rw [World.size_alloc, World.size_alloc] at h; exact h
 have b4 : Boxed ((((w.alloc (.cells #[.slice A1 ys.length c1] 47)).alloc (.cells #[.slice A2 zs.length c2] 47)).alloc (.cells #[.int .i64 0] 3)).alloc (.cells #[.slice A0 xs.length c0] 47)) (w.heap.size + 1 + 1 + 1) 47 (.slice A0 xs.length c0) := by
  have h := Boxed.new (((w.alloc (.cells #[.slice A1 ys.length c1] 47)).alloc (.cells #[.slice A2 zs.length c2] 47)).alloc (.cells #[.int .i64 0] 3)) 47 (.slice A0 xs.length c0)
  rw [World.size_alloc, World.size_alloc, World.size_alloc] at h; exact h
 refine wpIn_rangeFunc_ownG rfl h1 (gf := 128) (lb := #[.pointer (some ⟨w.heap.size + 1 + 1 + 1, 0, none⟩)]) rfl trivial (enters_of Tryd.func128 (by kernel_rfl) rfl)
  (back_stops (n - 1) (by omega) (w.heap.size + 1 + 1 + 1) A0 c0 xs w _ h0 HB0 b4) (fun h k => kpB_t h k) (kpB_b HB0.size b4.lt) (Below.refl _ _) (fun _ => rfl)
  (fI w (.slice A1 ys.length c1) (.slice A2 zs.length c2) ys zs) (fX w ys zs) (fI_own w _ HB0.size _ _ ys zs) (fX_own w _ HB0.size ys zs)
  ⟨⟨((b1.alloc _).alloc _).alloc _, (b2.alloc _).alloc _, b3.alloc _, fun p hp => by cases hp⟩, HB0⟩
  ?a1 ?assign ?body ?done ?stop
 case assign =>
  intro l x W K hK
  gi_wp2
  exact hK
 case body =>
  rintro l pre x W ⟨⟨hb1, hb2, hb3, hfree⟩, hB⟩ hlt
  have k1 := hb1.cell
  have k2 := hb2.cell
  have k3 := hb3.cell
  have f3 := hb3.frozen
  have hfree2 := Lib.hid hfree
  clear hfree
  have hc1 := Lib.hid (callsIn_wide (n := n - 1 - 1 - 1).2 (has_c A1 c1 ys x.2 W (Go.Proofs.YtdnbaliibiginaaDoorW.PrintWords.Kd.C_below h1s hB)))
  have hc2 := Lib.hid (callsIn_wide (n := n - 1 - 1 - 1).2 (has_c A2 c2 zs x.2 W (Go.Proofs.YtdnbaliibiginaaDoorW.PrintWords.Kd.C_below h2s hB)))
  obtain ⟨xi, xs'⟩ := x
  dsimp only at hc1 hc2
  have hd : 1 ≤ n - 1 - 1 := by omega
  have hfd : (Fence.wide.inRound l).fn 111 := trivial
  cases e1 : Lib.containsS ys xs'
  ·rw [e1] at hc1
   cases e2 : Lib.containsS zs xs'
   ·rw [e2] at hc2
    gi_wp2_with (first | (gi_at_call 111; refine (CallsIn.inRound l hc1.out).mono ?_; rintro e w1 ⟨rfl, hw1⟩; rw [hw1]; clear hc1) | (gi_at_call 111; refine (CallsIn.inRound l hc2.out).mono ?_; rintro e w2 ⟨rfl, hw2⟩; rw [hw2]; clear hc2))
    exact ⟨KeepsFrom.refl _ _, ⟨Below.refl _ _, fun h => h⟩, ⟨hb1, hb2, hb3, fun p hp => by
     rcases List.mem_append.1 hp with h | h
     ·exact hfree2.out p h
     ·obtain rfl := List.mem_singleton.1 h
      exact ⟨e1, e2⟩⟩, hB⟩
   ·rw [e2] at hc2
    gi_wp2_with (first | (gi_at_call 111; refine (CallsIn.inRound l hc1.out).mono ?_; rintro e w1 ⟨rfl, hw1⟩; rw [hw1]; clear hc1) | (gi_at_call 111; refine (CallsIn.inRound l hc2.out).mono ?_; rintro e w2 ⟨rfl, hw2⟩; rw [hw2]; clear hc2))
    exact ⟨(KeepsOthers.setCell _ _ _).from _, ⟨rfl, -1, pre, (xi, xs'), hb3.set _, rfl, hfree2.out, .inr ⟨e1, e2, rfl⟩⟩, hB.setCell (p := ⟨w.heap.size + 1 + 1, 0, none⟩) (by show w.heap.size ≤ w.heap.size + 1 + 1; omega) _⟩
  ·rw [e1] at hc1
   gi_wp2_with (first | (gi_at_call 111; refine (CallsIn.inRound l hc1.out).mono ?_; rintro e w1 ⟨rfl, hw1⟩; rw [hw1]; clear hc1) | (gi_at_call 111; refine (CallsIn.inRound l hc2.out).mono ?_; rintro e w2 ⟨rfl, hw2⟩; rw [hw2]; clear hc2))
   exact ⟨(KeepsOthers.setCell _ _ _).from _, ⟨rfl, xi, pre, (xi, xs'), hb3.set _, rfl, hfree2.out, .inl ⟨e1, rfl⟩⟩, hB.setCell (p := ⟨w.heap.size + 1 + 1, 0, none⟩) (by show w.heap.size ≤ w.heap.size + 1 + 1; omega) _⟩
 case done =>
  rintro D ps W hD rfl ⟨⟨hb1, hb2, hb3, hfree⟩, hB⟩ hK
  have k3 := hb3.cell
  have f3 := hb3.frozen
  have hres : foundK xs ys zs xs.length = -1 := by
   rw [found_free xs ys zs xs.length (Nat.le_refl _) hfree, Nat.sub_self]
   rfl
  have hres2 := Lib.hid hres
  gi_wp2
  have hK2 := (KeepsOthers.setCell W ⟨w.heap.size + 1 + 1, 0, none⟩ (.int .i64 (-1))).same D _ hK rfl
  refine ⟨by simp, .inl ⟨_, _, rfl, run_takeDeferred hK2, ?_⟩⟩
  have hb4 := (hb3.set (.int .i64 (-1))).kept (grownBy_putObj' _ D (.deferred none)) (fun e => by
   have h := hb3
   rw [show w.heap.size + 1 + 1 = D from by simpa using e] at h
   rw [show W.heap[D]? = _ from h] at hK
   cases hK)
  have hc4 := hb4.cell
  have hui := Tryd.underlying3
  rw [hres2.out]
  refine ⟨.int .i64 (-1), ?_, rfl, (hB.setCell (p := ⟨w.heap.size + 1 + 1, 0, none⟩) (by show w.heap.size ≤ w.heap.size + 1 + 1; omega) _).trans (belowK_b (w := w) (Nat.le_refl _) _ D _ _ (Nat.le_trans HB0.size hD) hK2 rfl rfl)⟩
  simp [results, asAddr, loadVar, hc4, hui, Sem.run_bind, Result.andThen, go_sem]
 case stop =>
  rintro D c pre W hD ⟨k, hk, rfl⟩ ⟨⟨rfl, res, pre', x, hb3, hpre, hfree, hcase⟩, hB⟩ hK
  have hres : foundK xs ys zs xs.length = res := found_stop xs ys zs k hk pre' x res hpre hfree hcase
  have hres2 := Lib.hid hres
  clear hres hcase hfree hpre
  gi_wp2
  refine ⟨by simp, .inl ⟨_, _, rfl, run_takeDeferred hK, ?_⟩⟩
  have hb4 := hb3.kept (grownBy_putObj' _ D (.deferred none)) (fun e => by
   have h := hb3
   rw [show w.heap.size + 1 + 1 = D from by simpa using e] at h
   rw [show W.heap[D]? = _ from h] at hK
   cases hK)
  have hc4 := hb4.cell
  have hui := Tryd.underlying3
  rw [hres2.out]
  refine ⟨.int .i64 res, ?_, rfl, hB.trans (belowK_b (w := w) (Nat.le_refl _) _ D _ _ (Nat.le_trans HB0.size hD) hK rfl rfl)⟩
  simp [results, asAddr, loadVar, hc4, hui, Sem.run_bind, Result.andThen, go_sem]
def build_found.f (l0 l1 l2 : List ByteArray) : Option Int := some (foundK l0 l1 l2 l0.length)
theorem build_found.calls (A0 : Option Addr) (c0 : Nat) (l0 : List ByteArray) (A1 : Option Addr) (c1 : Nat) (l1 : List ByteArray) (A2 : Option Addr) (c2 : Nat) (l2 : List ByteArray) (r : Int) (w : World) (hr0 : Go.Proofs.YtdnbaliibiginaaDoorW.PrintWords.Kd.string.C w A0 l0.length l0) (hc0 : l0.length ≤ c0) (hr1 : Go.Proofs.YtdnbaliibiginaaDoorW.PrintWords.Kd.string.C w A1 l1.length l1) (hc1 : l1.length ≤ c1) (hr2 : Go.Proofs.YtdnbaliibiginaaDoorW.PrintWords.Kd.string.C w A2 l2.length l2) (hc2 : l2.length ≤ c2) (h : build_found.f l0 l1 l2 = some r) :
  Calls Tryd.prog 87 #[.slice A0 l0.length c0, .slice A1 l1.length c1, .slice A2 l2.length c2] w fun e w' => e = .returned (.int .i64 r) ∧ Below w.heap.size w w' := by
 obtain rfl := Option.some.inj h
 exact (callsIn_wide (n := 3)).1 (found_in 3 (Nat.le_refl _) A0 A1 A2 c0 c1 c2 l0 l1 l2 w hr0 hr1 hr2)
end Go.Proofs.YtdnbaliibiginaaDoorH.W8

/- Words and walks used below. -/
namespace Go.Proofs.YtdnbaliibiginaaDoorH.W8
open Go.RowKit Go.Proofs.YtdnbaliibiginaaDoorW.PrintWords Go.Proofs.YtdnbaliibiginaaDoorW.PrintLast Go.Proofs.YtdnbaliibiginaaDoorW.PrintMore
attribute [local go_sem] max2_int min2_int max_two min_two max_three min_three max_four min_four   -- for this text's walks alone
def build_Nested.f (k : Nat) (a0 : ByteArray) (l1 : List ByteArray) : Option (Bool) := (build_paragraph.f a0).bind fun t242 => (if t242 = true then ((names_Walls.f k (⟨#[112]⟩ : ByteArray)).bind fun t246 => ((build_found.f l1 (([(⟨#[112]⟩ : ByteArray)] : List ByteArray)) t246).bind fun t249 => (if t249 ≥ 0 then (some false) else ((names_Closes.f k a0).bind fun t250 => ((names_Walls.f k a0).bind fun t253 => ((build_found.f l1 t250 t253).bind fun t256 => (some (decide (t256 < 0))))))))) else ((names_Closes.f k a0).bind fun t257 => ((names_Walls.f k a0).bind fun t260 => ((build_found.f l1 t257 t260).bind fun t263 => (some (decide (t263 < 0)))))))
set_option maxHeartbeats 8000000 in
set_option maxRecDepth 100000 in
theorem build_Nested.calls (k : Nat) (a0 : ByteArray) (A1 : Option Addr) (c1 : Nat) (l1 : List ByteArray) (r : Bool) (w : World) (hr1 : Kd.C Kd.string w A1 l1.length l1) (hc1 : l1.length ≤ c1) (h : build_Nested.f k a0 l1 = some r) :
  Calls Tryd.prog 65 #[.string a0, .slice A1 l1.length c1] w fun e w' => e = .returned (.bool r) ∧ Below w.heap.size w w' := by
 have HR1 := Aside0.mk hr1
 have HC1 := Aside0.mk hc1
 clear hr1 hc1
 have HB := Aside0.mk (Below.refl w.heap.size w)
 have H : ((build_paragraph.f a0).bind fun t242 => (if t242 = true then ((names_Walls.f k (⟨#[112]⟩ : ByteArray)).bind fun t246 => ((build_found.f l1 (([(⟨#[112]⟩ : ByteArray)] : List ByteArray)) t246).bind fun t249 => (if t249 ≥ 0 then (some false) else ((names_Closes.f k a0).bind fun t250 => ((names_Walls.f k a0).bind fun t253 => ((build_found.f l1 t250 t253).bind fun t256 => (some (decide (t256 < 0))))))))) else ((names_Closes.f k a0).bind fun t257 => ((names_Walls.f k a0).bind fun t260 => ((build_found.f l1 t257 t260).bind fun t263 => (some (decide (t263 < 0)))))))) = some r := h
 clear h
 replace H := Option.bind_eq_some_iff.mp H
 obtain ⟨t242, A30, H⟩ := H
 replace H : (if t242 = true then ((names_Walls.f k (⟨#[112]⟩ : ByteArray)).bind fun t246 => ((build_found.f l1 (([(⟨#[112]⟩ : ByteArray)] : List ByteArray)) t246).bind fun t249 => (if t249 ≥ 0 then (some false) else ((names_Closes.f k a0).bind fun t250 => ((names_Walls.f k a0).bind fun t253 => ((build_found.f l1 t250 t253).bind fun t256 => (some (decide (t256 < 0))))))))) else ((names_Closes.f k a0).bind fun t257 => ((names_Walls.f k a0).bind fun t260 => ((build_found.f l1 t257 t260).bind fun t263 => (some (decide (t263 < 0))))))) = some r := H
 have A3 := Aside0.mk A30
 clear A30
 by_cases c4 : t242 = true
 ·subst c4
  have H1 : ((names_Walls.f k (⟨#[112]⟩ : ByteArray)).bind fun t246 => ((build_found.f l1 (([(⟨#[112]⟩ : ByteArray)] : List ByteArray)) t246).bind fun t249 => (if t249 ≥ 0 then (some false) else ((names_Closes.f k a0).bind fun t250 => ((names_Walls.f k a0).bind fun t253 => ((build_found.f l1 t250 t253).bind fun t256 => (some (decide (t256 < 0))))))))) = some r := by rw [if_pos rfl] at H; exact H
  clear H
  have H := H1
  clear H1
  obtain ⟨y243, hy243⟩ : ∃ y_ : List ByteArray, y_ = (([(⟨#[112]⟩ : ByteArray)] : List ByteArray)) := ⟨_, rfl⟩
  replace H : ((names_Walls.f k (⟨#[112]⟩ : ByteArray)).bind fun t246 => ((build_found.f l1 y243 t246).bind fun t249 => (if t249 ≥ 0 then (some false) else ((names_Closes.f k a0).bind fun t250 => ((names_Walls.f k a0).bind fun t253 => ((build_found.f l1 t250 t253).bind fun t256 => (some (decide (t256 < 0))))))))) = some r := by first | (rw [hy243]; with_reducible exact H) | (have H2_ := (Option.bind_some _ _).symm.trans H; rw [hy243]; with_reducible exact H2_) | (have H2_ := (Option.bind_some _ _).symm.trans H; with_reducible exact H2_) | with_reducible exact H | (rw [hy243]; exact H) | exact H
  have Ny243 := Aside0.mk hy243
  clear hy243
  replace H := Option.bind_eq_some_iff.mp H
  obtain ⟨t246, A50, H⟩ := H
  replace H : ((build_found.f l1 y243 t246).bind fun t249 => (if t249 ≥ 0 then (some false) else ((names_Closes.f k a0).bind fun t250 => ((names_Walls.f k a0).bind fun t253 => ((build_found.f l1 t250 t253).bind fun t256 => (some (decide (t256 < 0)))))))) = some r := H
  have A5 := Aside0.mk A50
  clear A50
  replace H := Option.bind_eq_some_iff.mp H
  obtain ⟨t249, A60, H⟩ := H
  replace H : (if t249 ≥ 0 then (some false) else ((names_Closes.f k a0).bind fun t250 => ((names_Walls.f k a0).bind fun t253 => ((build_found.f l1 t250 t253).bind fun t256 => (some (decide (t256 < 0))))))) = some r := H
  have A6 := Aside0.mk A60
  clear A60
  by_cases c7 : t249 ≥ 0
  ·rw [if_pos c7] at H
   have c7b0 : decide (0 ≤ t249) = true := decide_eq_true c7
   clear c7
   obtain rfl := Option.some.inj H
   go_enter Tryd.func65, Tryd.ntmps65
   go_wp2_with (first | ((with_reducible refine gate_callee (f := 86) rfl ?_); refine goesL_ (some 7) rfl rfl Tryd.func86 (by kernel_rfl) rfl #[.string a0] rfl (by (try simp only [List.map_toArray, List.map_cons, List.map_nil]); first | done | rfl | (simp only [List.length_drop, List.length_take]; rfl)) ?_; (with_reducible refine (build_paragraph.calls a0 true _ A3.out).mono ?_); rintro e w' ⟨rfl, ⟨nd, rfl⟩⟩; refine ⟨_, rfl, ?_⟩) | ((with_reducible refine gate_dst (N := 10) rfl ?_); (try (refine gate_guard (by rfl) ?_; dsimp only)); refine Kd.R_lit Kd.string _ 9 ?hg (N := 10) ?hd (xs := ([(⟨#[112]⟩ : ByteArray)] : List ByteArray)) (inner := [.string (⟨#[112]⟩ : ByteArray)]) (ok := fun _ => True) (okp := fun _ => True) ?hr ?hp (fun _ hk => hk) trivial (Below.refl _ _) (Nat.le_refl _) (by simp) ?_; (case hd => rfl); (case hg => rfl); (case hr => first | (go_simp; done) | (go_simp; rfl)); (case hp => exact (Reps.one (show Kd.M Kd.string _ _ _ (⟨#[112]⟩ : ByteArray) [.string (⟨#[112]⟩ : ByteArray)] from rfl) (Reps.none _ _))); intro v244 w8 ho9 hb hg_ hnew_; clear hg_ hnew_; (first | rw [← Ny243.out] at ho9 | (simp only [Int.reduceToNat] at ho9; rw [← Ny243.out] at ho9)); have n0_ := Aside0.mk (Kd.R_lower ho9 (below_size bz)); have n1_ := Aside0.mk (below_step bz hb); clear HB; have HO245 := n0_; have HB := n1_; clear n0_ n1_; clear hb ho9) | (go_at_call 88; (fail_if_success (have zz_ := Ao12)); (with_reducible refine (names_Walls.calls k (⟨#[112]⟩ : ByteArray) t246 _ A5.out).mono ?_); rintro e w10 ⟨v247, rfl, ho0, hb⟩; have n0_ := Aside0.mk (Kd.R_elder' (rz HO245.out) (Kd.R_base ho0) hb); have n1_ := Aside0.mk (Kd.R_lower (Kd.R_new' ho0 (Kd.R_lt (rz HO245.out))) (below_size bz)); have n2_ := Aside0.mk (below_step bz hb); clear HO245; clear HB; have HO245 := n0_; have HO248 := n1_; have HB := n2_; clear n0_ n1_ n2_; (try clear hb); (try clear hb2); (try clear hk); (try clear hi); (try clear ho0); obtain ⟨Ao11, co11, eo11⟩ := Kd.R_slice HO245.out; subst eo11; obtain ⟨Ao12, co12, eo12⟩ := Kd.R_slice HO248.out; subst eo12) | (go_at_call 87; (with_reducible refine (build_found.calls _ _ l1 _ _ y243 _ _ t246 t249 _ ?side1 ?side2 ?side3 ?side4 ?side5 ?side6 A6.out).mono ?_); (case side1 => exact cz (Kd.C_below HR1.out HB.out)); (case side2 => exact HC1.out); (case side3 => exact cz (Kd.R_reads' HO245.out).2.2); (case side4 => exact (Kd.R_reads' HO245.out).2.1); (case side5 => exact cz (Kd.R_reads' HO248.out).2.2); (case side6 => exact (Kd.R_reads' HO248.out).2.1); rintro e w13 ⟨rfl, hb⟩; have n0_ := Aside0.mk (Kd.R_below (rz HO245.out) hb); have n1_ := Aside0.mk (Kd.R_below (rz HO248.out) hb); have n2_ := Aside0.mk (below_step bz hb); clear HO245; clear HO248; clear HB; have HO245 := n0_; have HO248 := n1_; have HB := n2_; clear n0_ n1_ n2_; (try clear hb); (try clear hb2); (try clear hk); (try clear hi)))
   go_ret
   exact ⟨by first | rfl | (simp [errW_none, errW_some] <;> rfl) | (simp [*, errW_none, errW_some] <;> rfl), bz⟩
  ·rw [if_neg c7] at H
   have c7b0 : decide (0 ≤ t249) = false := decide_eq_false c7
   clear c7
   replace H := Option.bind_eq_some_iff.mp H
   obtain ⟨t250, A140, H⟩ := H
   replace H : ((names_Walls.f k a0).bind fun t253 => ((build_found.f l1 t250 t253).bind fun t256 => (some (decide (t256 < 0))))) = some r := H
   have A14 := Aside0.mk A140
   clear A140
   replace H := Option.bind_eq_some_iff.mp H
   obtain ⟨t253, A150, H⟩ := H
   replace H : ((build_found.f l1 t250 t253).bind fun t256 => (some (decide (t256 < 0)))) = some r := H
   have A15 := Aside0.mk A150
   clear A150
   replace H := Option.bind_eq_some_iff.mp H
   obtain ⟨t256, A160, H⟩ := H
   replace H : (some (decide (t256 < 0))) = some r := H
   have A16 := Aside0.mk A160
   clear A160
   obtain rfl := Option.some.inj H
   go_enter Tryd.func65, Tryd.ntmps65
   go_wp2_with (first | ((with_reducible refine gate_callee (f := 86) rfl ?_); refine goesL_ (some 7) rfl rfl Tryd.func86 (by kernel_rfl) rfl #[.string a0] rfl (by (try simp only [List.map_toArray, List.map_cons, List.map_nil]); first | done | rfl | (simp only [List.length_drop, List.length_take]; rfl)) ?_; (with_reducible refine (build_paragraph.calls a0 true _ A3.out).mono ?_); rintro e w' ⟨rfl, ⟨nd, rfl⟩⟩; refine ⟨_, rfl, ?_⟩) | ((with_reducible refine gate_dst (N := 10) rfl ?_); (try (refine gate_guard (by rfl) ?_; dsimp only)); refine Kd.R_lit Kd.string _ 9 ?hg (N := 10) ?hd (xs := ([(⟨#[112]⟩ : ByteArray)] : List ByteArray)) (inner := [.string (⟨#[112]⟩ : ByteArray)]) (ok := fun _ => True) (okp := fun _ => True) ?hr ?hp (fun _ hk => hk) trivial (Below.refl _ _) (Nat.le_refl _) (by simp) ?_; (case hd => rfl); (case hg => rfl); (case hr => first | (go_simp; done) | (go_simp; rfl)); (case hp => exact (Reps.one (show Kd.M Kd.string _ _ _ (⟨#[112]⟩ : ByteArray) [.string (⟨#[112]⟩ : ByteArray)] from rfl) (Reps.none _ _))); intro v244 w17 ho18 hb hg_ hnew_; clear hg_ hnew_; (first | rw [← Ny243.out] at ho18 | (simp only [Int.reduceToNat] at ho18; rw [← Ny243.out] at ho18)); have n0_ := Aside0.mk (Kd.R_lower ho18 (below_size bz)); have n1_ := Aside0.mk (below_step bz hb); clear HB; have HO245 := n0_; have HB := n1_; clear n0_ n1_; clear hb ho18) | (go_at_call 88; (fail_if_success (have zz_ := Ao21)); (with_reducible refine (names_Walls.calls k (⟨#[112]⟩ : ByteArray) t246 _ A5.out).mono ?_); rintro e w19 ⟨v247, rfl, ho0, hb⟩; have n0_ := Aside0.mk (Kd.R_elder' (rz HO245.out) (Kd.R_base ho0) hb); have n1_ := Aside0.mk (Kd.R_lower (Kd.R_new' ho0 (Kd.R_lt (rz HO245.out))) (below_size bz)); have n2_ := Aside0.mk (below_step bz hb); clear HO245; clear HB; have HO245 := n0_; have HO248 := n1_; have HB := n2_; clear n0_ n1_ n2_; (try clear hb); (try clear hb2); (try clear hk); (try clear hi); (try clear ho0); obtain ⟨Ao20, co20, eo20⟩ := Kd.R_slice HO245.out; subst eo20; obtain ⟨Ao21, co21, eo21⟩ := Kd.R_slice HO248.out; subst eo21) | (go_at_call 87; (with_reducible refine (build_found.calls _ _ l1 _ _ y243 _ _ t246 t249 _ ?side1 ?side2 ?side3 ?side4 ?side5 ?side6 A6.out).mono ?_); (case side1 => exact cz (Kd.C_below HR1.out HB.out)); (case side2 => exact HC1.out); (case side3 => exact cz (Kd.R_reads' HO245.out).2.2); (case side4 => exact (Kd.R_reads' HO245.out).2.1); (case side5 => exact cz (Kd.R_reads' HO248.out).2.2); (case side6 => exact (Kd.R_reads' HO248.out).2.1); rintro e w22 ⟨rfl, hb⟩; have n0_ := Aside0.mk (Kd.R_below (rz HO245.out) hb); have n1_ := Aside0.mk (Kd.R_below (rz HO248.out) hb); have n2_ := Aside0.mk (below_step bz hb); clear HO245; clear HO248; clear HB; have HO245 := n0_; have HO248 := n1_; have HB := n2_; clear n0_ n1_ n2_; (try clear hb); (try clear hb2); (try clear hk); (try clear hi)) | (go_at_call 89; (with_reducible refine (names_Closes.calls k a0 t250 _ A14.out).mono ?_); rintro e w23 ⟨v251, rfl, ho0, hb⟩; have n0_ := Aside0.mk (Kd.R_elder' (rz HO245.out) (Kd.R_base ho0) hb); have n1_ := Aside0.mk (Kd.R_elder' (rz HO248.out) (Kd.R_base ho0) hb); have n2_ := Aside0.mk (Kd.R_lower (Kd.R_new' (Kd.R_new' ho0 (Kd.R_lt (rz HO245.out))) (Kd.R_lt (rz HO248.out))) (below_size bz)); have n3_ := Aside0.mk (below_step bz hb); clear HO245; clear HO248; clear HB; have HO245 := n0_; have HO248 := n1_; have HO252 := n2_; have HB := n3_; clear n0_ n1_ n2_ n3_; (try clear hb); (try clear hb2); (try clear hk); (try clear hi); (try clear ho0)) | (go_at_call 88; (fail_if_success (have zz_ := Ao26)); (with_reducible refine (names_Walls.calls k a0 t253 _ A15.out).mono ?_); rintro e w24 ⟨v254, rfl, ho0, hb⟩; have n0_ := Aside0.mk (Kd.R_elder' (rz HO245.out) (Kd.R_base ho0) hb); have n1_ := Aside0.mk (Kd.R_elder' (rz HO248.out) (Kd.R_base ho0) hb); have n2_ := Aside0.mk (Kd.R_elder' (rz HO252.out) (Kd.R_base ho0) hb); have n3_ := Aside0.mk (Kd.R_lower (Kd.R_new' (Kd.R_new' (Kd.R_new' ho0 (Kd.R_lt (rz HO245.out))) (Kd.R_lt (rz HO248.out))) (Kd.R_lt (rz HO252.out))) (below_size bz)); have n4_ := Aside0.mk (below_step bz hb); clear HO245; clear HO248; clear HO252; clear HB; have HO245 := n0_; have HO248 := n1_; have HO252 := n2_; have HO255 := n3_; have HB := n4_; clear n0_ n1_ n2_ n3_ n4_; (try clear hb); (try clear hb2); (try clear hk); (try clear hi); (try clear ho0); obtain ⟨Ao25, co25, eo25⟩ := Kd.R_slice HO252.out; subst eo25; obtain ⟨Ao26, co26, eo26⟩ := Kd.R_slice HO255.out; subst eo26) | (go_at_call 87; (with_reducible refine (build_found.calls _ _ l1 _ _ t250 _ _ t253 t256 _ ?side1 ?side2 ?side3 ?side4 ?side5 ?side6 A16.out).mono ?_); (case side1 => exact cz (Kd.C_below HR1.out HB.out)); (case side2 => exact HC1.out); (case side3 => exact cz (Kd.R_reads' HO252.out).2.2); (case side4 => exact (Kd.R_reads' HO252.out).2.1); (case side5 => exact cz (Kd.R_reads' HO255.out).2.2); (case side6 => exact (Kd.R_reads' HO255.out).2.1); rintro e w27 ⟨rfl, hb⟩; have n0_ := Aside0.mk (Kd.R_below (rz HO245.out) hb); have n1_ := Aside0.mk (Kd.R_below (rz HO248.out) hb); have n2_ := Aside0.mk (Kd.R_below (rz HO252.out) hb); have n3_ := Aside0.mk (Kd.R_below (rz HO255.out) hb); have n4_ := Aside0.mk (below_step bz hb); clear HO245; clear HO248; clear HO252; clear HO255; clear HB; have HO245 := n0_; have HO248 := n1_; have HO252 := n2_; have HO255 := n3_; have HB := n4_; clear n0_ n1_ n2_ n3_ n4_; (try clear hb); (try clear hb2); (try clear hk); (try clear hi)))
   go_ret
   exact ⟨by first | rfl | (simp [errW_none, errW_some] <;> rfl) | (simp [*, errW_none, errW_some] <;> rfl), bz⟩
 ·replace c4 := Bool.eq_false_iff.mpr c4
  subst c4
  have H1 : ((names_Closes.f k a0).bind fun t257 => ((names_Walls.f k a0).bind fun t260 => ((build_found.f l1 t257 t260).bind fun t263 => (some (decide (t263 < 0)))))) = some r := by rw [if_neg (show ¬ (false = true) by decide)] at H; first | exact H | (simp only [eq_self] at H ⊢; exact H) | (simp only [eq_self, if_true] at H ⊢; exact H)
  clear H
  have H := H1
  clear H1
  replace H := Option.bind_eq_some_iff.mp H
  obtain ⟨t257, A280, H⟩ := H
  replace H : ((names_Walls.f k a0).bind fun t260 => ((build_found.f l1 t257 t260).bind fun t263 => (some (decide (t263 < 0))))) = some r := H
  have A28 := Aside0.mk A280
  clear A280
  replace H := Option.bind_eq_some_iff.mp H
  obtain ⟨t260, A290, H⟩ := H
  replace H : ((build_found.f l1 t257 t260).bind fun t263 => (some (decide (t263 < 0)))) = some r := H
  have A29 := Aside0.mk A290
  clear A290
  replace H := Option.bind_eq_some_iff.mp H
  obtain ⟨t263, A300, H⟩ := H
  replace H : (some (decide (t263 < 0))) = some r := H
  have A30 := Aside0.mk A300
  clear A300
  obtain rfl := Option.some.inj H
  go_enter Tryd.func65, Tryd.ntmps65
  go_wp2_with (first | ((with_reducible refine gate_callee (f := 86) rfl ?_); refine goesL_ (some 7) rfl rfl Tryd.func86 (by kernel_rfl) rfl #[.string a0] rfl (by (try simp only [List.map_toArray, List.map_cons, List.map_nil]); first | done | rfl | (simp only [List.length_drop, List.length_take]; rfl)) ?_; (with_reducible refine (build_paragraph.calls a0 false _ A3.out).mono ?_); rintro e w' ⟨rfl, ⟨nd, rfl⟩⟩; refine ⟨_, rfl, ?_⟩) | (go_at_call 89; (with_reducible refine (names_Closes.calls k a0 t257 _ A28.out).mono ?_); rintro e w31 ⟨v258, rfl, ho0, hb⟩; have n0_ := Aside0.mk (Kd.R_lower ho0 (below_size bz)); have n1_ := Aside0.mk (below_step bz hb); clear HB; have HO259 := n0_; have HB := n1_; clear n0_ n1_; (try clear hb); (try clear hb2); (try clear hk); (try clear hi); (try clear ho0)) | (go_at_call 88; (fail_if_success (have zz_ := Ao34)); (with_reducible refine (names_Walls.calls k a0 t260 _ A29.out).mono ?_); rintro e w32 ⟨v261, rfl, ho0, hb⟩; have n0_ := Aside0.mk (Kd.R_elder' (rz HO259.out) (Kd.R_base ho0) hb); have n1_ := Aside0.mk (Kd.R_lower (Kd.R_new' ho0 (Kd.R_lt (rz HO259.out))) (below_size bz)); have n2_ := Aside0.mk (below_step bz hb); clear HO259; clear HB; have HO259 := n0_; have HO262 := n1_; have HB := n2_; clear n0_ n1_ n2_; (try clear hb); (try clear hb2); (try clear hk); (try clear hi); (try clear ho0); obtain ⟨Ao33, co33, eo33⟩ := Kd.R_slice HO259.out; subst eo33; obtain ⟨Ao34, co34, eo34⟩ := Kd.R_slice HO262.out; subst eo34) | (go_at_call 87; (with_reducible refine (build_found.calls _ _ l1 _ _ t257 _ _ t260 t263 _ ?side1 ?side2 ?side3 ?side4 ?side5 ?side6 A30.out).mono ?_); (case side1 => exact cz (Kd.C_below HR1.out HB.out)); (case side2 => exact HC1.out); (case side3 => exact cz (Kd.R_reads' HO259.out).2.2); (case side4 => exact (Kd.R_reads' HO259.out).2.1); (case side5 => exact cz (Kd.R_reads' HO262.out).2.2); (case side6 => exact (Kd.R_reads' HO262.out).2.1); rintro e w35 ⟨rfl, hb⟩; have n0_ := Aside0.mk (Kd.R_below (rz HO259.out) hb); have n1_ := Aside0.mk (Kd.R_below (rz HO262.out) hb); have n2_ := Aside0.mk (below_step bz hb); clear HO259; clear HO262; clear HB; have HO259 := n0_; have HO262 := n1_; have HB := n2_; clear n0_ n1_ n2_; (try clear hb); (try clear hb2); (try clear hk); (try clear hi)))
  go_ret
  exact ⟨by first | rfl | (simp [errW_none, errW_some] <;> rfl) | (simp [*, errW_none, errW_some] <;> rfl), bz⟩
end Go.Proofs.YtdnbaliibiginaaDoorH.W8

/- Words and walks used below. -/
namespace Go.Proofs.YtdnbaliibiginaaDoorH.W8
open Go.RowKit Go.Proofs.YtdnbaliibiginaaDoorW.PrintWords Go.Proofs.YtdnbaliibiginaaDoorW.PrintLast Go.Proofs.YtdnbaliibiginaaDoorW.PrintMore
attribute [local go_sem] max2_int min2_int max_two min_two max_three min_three max_four min_four   -- for this text's walks alone
def names_Attr.f (k : Nat) (a0 : ByteArray) : Option (Bool) := (names_plain.f k a0 (⟨#[47, 62, 34, 39, 60, 61]⟩ : ByteArray)).bind fun t264 => (some t264)
set_option maxHeartbeats 8000000 in
set_option maxRecDepth 100000 in
theorem names_Attr.calls (k : Nat) (a0 : ByteArray) (r : Bool) (w : World) (h : names_Attr.f k a0 = some r) :
  Calls Tryd.prog 66 #[.string a0] w fun e w' => e = .returned (.bool r) ∧ Drawn0 w w' := by
 have H : ((names_plain.f k a0 (⟨#[47, 62, 34, 39, 60, 61]⟩ : ByteArray)).bind fun t264 => (some t264)) = some r := h
 clear h
 replace H := Option.bind_eq_some_iff.mp H
 obtain ⟨t264, A20, H⟩ := H
 replace H : (some t264) = some r := H
 have A2 := Aside0.mk A20
 clear A20
 obtain rfl := Option.some.inj H
 go_enter Tryd.func66, Tryd.ntmps66
 go_wp2_with (first | ((with_reducible refine gate_callee (f := 84) rfl ?_); refine goesL_ (some 4) rfl rfl Tryd.func84 (by kernel_rfl) rfl #[.string a0, .string (⟨#[47, 62, 34, 39, 60, 61]⟩ : ByteArray)] rfl (by (try simp only [List.map_toArray, List.map_cons, List.map_nil]); first | done | rfl | (simp only [List.length_drop, List.length_take]; rfl)) ?_; (with_reducible refine (names_plain.calls k a0 (⟨#[47, 62, 34, 39, 60, 61]⟩ : ByteArray) t264 _ A2.out).mono ?_); rintro e w' ⟨rfl, ⟨nd, rfl⟩⟩; refine ⟨_, rfl, ?_⟩))
 go_ret
 exact ⟨by first | rfl | (simp; done) | (simp [*]; done) | (simp; generalize ByteArray.toList _ = l_; cases l_ <;> rfl), by repeat (first | exact Drawn0.refl _ | apply Drawn0.step)⟩
end Go.Proofs.YtdnbaliibiginaaDoorH.W8
