/- Lemmas and walks, part 3: QWN, QWFootNe, QWAt, QWEqStruct, QWRepsOne, QWInv, QWInvWords, QWGuard, QWNEv, QWMore, QPW7x0, QBase, QRefsB. -/
import Derived.Test.YtkcmghlhpbepcaaGreatDoorN82
import Derived.Test.YtkcmghlhpbepcaaGreatDoorN81
import Derived.Laws.StructEq
import Derived.Test.YtkcmghlhpbepcaaGreatDoorProg
import Derived.Below
import Derived.Deep.Draws
import Derived.Deep.AppendLies
import Derived.Maps.AppendAt
import Derived.OwnWalk
import Derived.Laws.BytesArg
import Derived.Laws.MakeOwn
import Derived.Laws.OwnMore
import Derived.Deep.OwnRows
import Derived.Tactics
import Derived.Lib.ConvBytes
import Derived.Laws.Slices
import Derived.WalkKit
import Derived.KernelRfl
import Derived.RowKit3
import Derived.Deep.LoopGhost
import Derived.Deep.QuietTactic
import Derived.BigQuiet
import Derived.WideLaws
import Derived.Deep.DeepCutAuto
import Derived.Deep.CutBlock
import Derived.Deep.RegionHeld3
import Derived.Laws.Rows
import Derived.Lib.AppendStr
import Derived.ArgAppend
import Derived.Laws.IdiomCopy
import Derived.OrdersHeld
import Derived.Laws.BitsLemmas
import Derived.RowKit
import Derived.Lib.Strings
import Derived.Lib.OthersKept
import Derived.Laws.RangeAny
import Derived.Lib.Hide
import Derived.BigGuard
import Derived.BigGuardPart
set_option linter.unusedVariables false
set_option linter.unusedSimpArgs false

/- Words and walks used below. -/
namespace Go.Proofs.YtkcmghlhpbepcaaGreatDoorW.PrintWords
open Go.RowKit
namespace Kd
def chunks (sz : Nat) (n : Nat) (inner : List Value) : List (List Value) := (List.range n).map fun j => (inner.drop (j * sz)).take sz
theorem chunks_length (sz n : Nat) (inner : List Value) : (chunks sz n inner).length = n := by simp [chunks]
theorem chunks_at {sz n : Nat} {inner : List Value} {j : Nat} (hj : j < n) : (chunks sz n inner)[j]? = some ((inner.drop (j * sz)).take sz) := by simp [chunks, hj]
theorem chunks_get {sz n : Nat} {inner : List Value} {j : Nat} {c : List Value} (h : (chunks sz n inner)[j]? = some c) : c = (inner.drop (j * sz)).take sz := by
 have hj : j < n := by have := (List.getElem?_eq_some_iff.1 h).1; rwa [chunks_length] at this
 rw [chunks_at hj] at h
 injection h with h
 exact h.symm
theorem reps_raw {α : Type} {Rr : α → List Value → Prop} {sz : Nat} {xs : List α} {inner : List Value} (h : Reps Rr sz xs inner) (hR : ∀ x c, Rr x c → c.length = sz ∧ ∀ u ∈ c, u.oneCell' = true) : Reps (fun x cs => cs = x ∧ cs.length = sz ∧ ∀ u ∈ cs, u.oneCell' = true) sz (chunks sz xs.length inner) inner := by
 refine ⟨by rw [chunks_length]; exact h.1, fun j p hj => ?_⟩
 have hjl : j < xs.length := by have := (List.getElem?_eq_some_iff.1 hj).1; rwa [chunks_length] at this
 have hp := chunks_get hj
 exact ⟨hp.symm, hR _ _ (h.2 j _ (List.getElem?_eq_getElem hjl))⟩
section
variable {α : Type} {d : Kd α} {e base n cc g : Nat} {ok ok' okp S : Nat → Prop} {w w1 W W1 : World} {A : Option Addr} {u v v1 : Value} {xs : List α} {x : α} {c : List Value}
def N {α : Type} (d : Kd α) (e : Nat) (w : World) (base : Nat) (ok : Nat → Prop) (v : Value) (xs : List α) : Prop :=
 (∀ k, v.ownBlock = some k → ok k) ∧ ∃ rows : List (List Value), rows.length = xs.length ∧ (raw d.sz).R e w base (fun k => some k = v.ownBlock) v rows ∧ ∀ (j : Nat) (x : α) (c : List Value), xs[j]? = some x → rows[j]? = some c → FK d w (fun k => ok k ∧ some k ≠ v.ownBlock) x c
theorem R_N (h : d.R e w base ok v xs) : N d e w base ok v xs := by
 obtain ⟨h0, inner, ho, hr⟩ := h
 refine ⟨h0, chunks d.sz xs.length inner, chunks_length _ _ _, ⟨fun k hk => hk.symm, inner, by rw [chunks_length]; exact ho, reps_raw hr (fun x c hp => ⟨d.K_len (d.K_of_M hp), d.K_one (d.K_of_M hp)⟩)⟩, fun j x c hx hc => ?_⟩
 rw [chunks_get hc]
 exact FK_of_M (hr.2 j x hx)
theorem N_nil (d : Kd α) (e : Nat) (w : World) (base : Nat) (ok : Nat → Prop) : N d e w base ok (.slice none 0 0) [] := R_N (R_nil _ _ _ _ _)
end
end Kd
end Go.Proofs.YtkcmghlhpbepcaaGreatDoorW.PrintWords

/- Words and walks used below. -/
namespace Go.Proofs.YtkcmghlhpbepcaaGreatDoorW.PrintWords
open Go.RowKit
namespace Kd
section
variable {α : Type} {d : Kd α} {W : World} {g n : Nat} {S ok : Nat → Prop} {A : Option Addr} {ad : Addr} {xs : List α}
end
end Kd
end Go.Proofs.YtkcmghlhpbepcaaGreatDoorW.PrintWords

/- Words and walks used below. -/
namespace Go.Proofs.YtkcmghlhpbepcaaGreatDoorW.PrintWords
open Go.RowKit
section
variable {w w' u : World} {m B g : Nat} {o : Obj} {row : Option Nat} {S : Nat → Prop} {a : Addr} {v : Value}
end
namespace Kd
section
variable {α : Type} {d : Kd α} {e base n m : Nat} {ok : Nat → Prop} {w w' : World} {v : Value} {A : Option Addr} {xs : List α}
end
end Kd
end Go.Proofs.YtkcmghlhpbepcaaGreatDoorW.PrintWords

/- Words and walks used below. -/
namespace Go.Proofs.YtkcmghlhpbepcaaGreatDoorW.PrintWords
open Go.RowKit
section
variable {P : Program} {d : Nat} {xs ys : Array Value} {f : Field} {fs : List Field} {a b : Value} {r s : Bool} {w : World}
theorem eqf_last (hn : (f.name == "_") = false) (ha : (part f.type xs f.offset).run P w = .ok a w) (hb : (part f.type ys f.offset).run P w = .ok b w) (he : (Op.equalIn d f.type a b).run P w = .ok r w) : (Op.eqFields d xs ys [f]).run P w = .ok r w := by
 have hn' : f.name ≠ "_" := by simpa using hn
 simp only [Op.eqFields, if_pos hn', Sem.run_bind, ha, hb, he, Result.andThen_ok]
 cases r <;> simp
theorem eqf_cons (hn : (f.name == "_") = false) (ha : (part f.type xs f.offset).run P w = .ok a w) (hb : (part f.type ys f.offset).run P w = .ok b w) (he : (Op.equalIn d f.type a b).run P w = .ok r w) (hr : (Op.eqFields d xs ys fs).run P w = .ok s w) : (Op.eqFields d xs ys (f :: fs)).run P w = .ok (r && s) w := by
 have hn' : f.name ≠ "_" := by simpa using hn
 rw [Op.eqFields]
 simp only [if_pos hn', Sem.run_bind, ha, hb, he, Result.andThen_ok]
 cases r
 ·simp
 ·simpa using hr
theorem eqA_of {t : TypeId} {fs : Array Field} (hu : P.underlying t = some (.struct fs)) (hp : P.stoodInHeld t = false) (h : (Op.eqFields d xs ys fs.toList).run P w = .ok r w) : (Op.equalIn (d + 1) t (.agg xs) (.agg ys)).run P w = .ok r w := by
 have hf : P.fieldsOf t = fs := by simp [Program.fieldsOf, hu]
 rw [run_equalIn_struct (P := P) w d t xs ys (by rw [hf]; exact hu) hp, hf]
 exact h
end
end Go.Proofs.YtkcmghlhpbepcaaGreatDoorW.PrintWords

/- Words and walks used below. -/
namespace Go.Proofs.YtkcmghlhpbepcaaGreatDoorW.PrintWords
theorem Reps.one {α : Type} {R : α → List Value → Prop} {ps : List α} {cs : List Value} {p : α} {v : Value} (hp : R p [v]) (h : Reps R 1 ps cs) : Reps R 1 (p :: ps) (v :: cs) := by
 refine ⟨by simp [h.1], fun j q hq => ?_⟩
 cases j with
 | zero =>
   simp only [List.getElem?_cons_zero, Option.some.injEq] at hq
   subst hq
   simpa using hp
 | succ j =>
   simp only [List.getElem?_cons_succ] at hq
   have h1 := h.2 j q hq
   simpa [Nat.mul_one] using h1
theorem Reps.front {α : Type} {R : α → List Value → Prop} {size : Nat} {ps : List α} {cs c all : List Value} {p : α} (hp : R p c) (hc : c.length = size) (h : Reps R size ps cs) (ha : c ++ cs = all) : Reps R size (p :: ps) all := by
 subst ha
 refine ⟨by rw [List.length_append, hc, h.1, List.length_cons, Nat.succ_mul, Nat.add_comm], fun j q hq => ?_⟩
 cases j with
 | zero =>
   simp only [List.getElem?_cons_zero, Option.some.injEq] at hq
   subst hq
   rw [Nat.zero_mul, List.drop_zero, List.take_append_of_le_length (by omega), List.take_of_length_le (by omega)]
   exact hp
 | succ j =>
   simp only [List.getElem?_cons_succ] at hq
   have h1 := h.2 j q hq
   rw [Nat.succ_mul, List.drop_append, List.drop_of_length_le (by rw [hc]; exact Nat.le_add_left _ _), List.nil_append, hc, Nat.add_sub_cancel]
   exact h1
theorem Reps.c2 {α : Type} {R : α → List Value → Prop} {ps : List α} {cs : List Value} {p : α} {va vb : Value} (hp : R p [va, vb]) (h : Reps R 2 ps cs) : Reps R 2 (p :: ps) (va :: vb :: cs) := Reps.front hp rfl h rfl
theorem Reps.c3 {α : Type} {R : α → List Value → Prop} {ps : List α} {cs : List Value} {p : α} {va vb vc : Value} (hp : R p [va, vb, vc]) (h : Reps R 3 ps cs) : Reps R 3 (p :: ps) (va :: vb :: vc :: cs) := Reps.front hp rfl h rfl
theorem Reps.c4 {α : Type} {R : α → List Value → Prop} {ps : List α} {cs : List Value} {p : α} {va vb vc vd : Value} (hp : R p [va, vb, vc, vd]) (h : Reps R 4 ps cs) : Reps R 4 (p :: ps) (va :: vb :: vc :: vd :: cs) := Reps.front hp rfl h rfl
theorem Reps.c5 {α : Type} {R : α → List Value → Prop} {ps : List α} {cs : List Value} {p : α} {va vb vc vd ve : Value} (hp : R p [va, vb, vc, vd, ve]) (h : Reps R 5 ps cs) : Reps R 5 (p :: ps) (va :: vb :: vc :: vd :: ve :: cs) := Reps.front hp rfl h rfl
theorem Reps.c6 {α : Type} {R : α → List Value → Prop} {ps : List α} {cs : List Value} {p : α} {va vb vc vd ve vf : Value} (hp : R p [va, vb, vc, vd, ve, vf]) (h : Reps R 6 ps cs) : Reps R 6 (p :: ps) (va :: vb :: vc :: vd :: ve :: vf :: cs) := Reps.front hp rfl h rfl
theorem Reps.c7 {α : Type} {R : α → List Value → Prop} {ps : List α} {cs : List Value} {p : α} {va vb vc vd ve vf vg : Value} (hp : R p [va, vb, vc, vd, ve, vf, vg]) (h : Reps R 7 ps cs) : Reps R 7 (p :: ps) (va :: vb :: vc :: vd :: ve :: vf :: vg :: cs) := Reps.front hp rfl h rfl
theorem Reps.c8 {α : Type} {R : α → List Value → Prop} {ps : List α} {cs : List Value} {p : α} {va vb vc vd ve vf vg vh : Value} (hp : R p [va, vb, vc, vd, ve, vf, vg, vh]) (h : Reps R 8 ps cs) : Reps R 8 (p :: ps) (va :: vb :: vc :: vd :: ve :: vf :: vg :: vh :: cs) := Reps.front hp rfl h rfl
theorem Reps.c9 {α : Type} {R : α → List Value → Prop} {ps : List α} {cs : List Value} {p : α} {va vb vc vd ve vf vg vh vi : Value} (hp : R p [va, vb, vc, vd, ve, vf, vg, vh, vi]) (h : Reps R 9 ps cs) : Reps R 9 (p :: ps) (va :: vb :: vc :: vd :: ve :: vf :: vg :: vh :: vi :: cs) := Reps.front hp rfl h rfl
theorem Reps.c10 {α : Type} {R : α → List Value → Prop} {ps : List α} {cs : List Value} {p : α} {va vb vc vd ve vf vg vh vi vj : Value} (hp : R p [va, vb, vc, vd, ve, vf, vg, vh, vi, vj]) (h : Reps R 10 ps cs) : Reps R 10 (p :: ps) (va :: vb :: vc :: vd :: ve :: vf :: vg :: vh :: vi :: vj :: cs) := Reps.front hp rfl h rfl
end Go.Proofs.YtkcmghlhpbepcaaGreatDoorW.PrintWords

/- Words and walks used below. -/
namespace Go.Proofs.YtkcmghlhpbepcaaGreatDoorW.PrintLast
def up (b : Nat → Bool) (i : Nat) : Nat → Bool := fun j => if j = i then true else b j
def lof (n : Nat) (O : List Nat) (b : Nat → Bool) : List Bool := (List.range n).map fun j => if O.contains j then b j else true
def putSel (a : Act) (b : Nat → Bool) : List (Nat × Tmp × Value) → Act
 | [] => a
 | e :: r => putSel (if b e.1 = true then a.put (some e.2.1) e.2.2 else a) b r
section
variable {P : Program} {ops : Array Oper} {Q : Exit → Act → World → Prop} {md : Region.Mode} {T : Bool × List (List Nat × List Nat)} {B : List Nat} {O : List Nat} {b : Nat → Bool} {i j n : Nat}
def StepAt (P : Program) (ops : Array Oper) (Q : Exit → Act → World → Prop) (B : List Nat) (O : List Nat) (I : (Nat → Bool) → Act → World → Prop) (i : Nat) : Prop :=
 ∀ b a w, I b a w → b i = false → (∀ j, (O.contains j && (B.getD i 0).testBit j) = true → b j = true) → (∀ d, (O.contains d && (B.getD d 0).testBit i) = true → b d = false) →
  ∃ oi, ops[i]? = some oi ∧ ∀ K : Act → World → Prop, Shut (∀ a' w', I (up b i) a' w' → K a' w') → if Region.wanted oi (yielded ops a.tmps) = true then Oper.wp P oi a w K Q else K (a.put oi.dst undef) w
def baseOk (T : List (List Nat × List Nat)) (O : List Nat) : Bool :=
 (List.range T.length).all (fun d => match T[d]? with
   | some r => (O.contains d || r.1.all fun n => !O.contains n) && r.1.all fun n => decide (n < d)
   | none => false) && O.all (fun i => decide (i < T.length)) && decide O.Nodup
def Closed (T : List (List Nat × List Nat)) (O : List Nat) (b : Nat → Bool) : Prop := ∀ d r, T[d]? = some r → O.contains d = true → b d = true → ∀ n ∈ r.1, O.contains n = true → b n = true
end
end Go.Proofs.YtkcmghlhpbepcaaGreatDoorW.PrintLast

/- Words and walks used below. -/
namespace Go.Proofs.YtkcmghlhpbepcaaGreatDoorW.PrintWords
open Go.RowKit
theorem own_apart {v1 v2 : Value} {n : Nat} (hlt : ∀ k, v1.ownBlock = some k → k < n) (hge : ∀ k, v2.ownBlock = some k → n ≤ k) : v1.ownBlock = none ∨ v1.ownBlock ≠ v2.ownBlock := by
 cases h : v1.ownBlock with
 | none => exact .inl rfl
 | some k => exact .inr (fun e => by have := hlt k h; have := hge k e.symm; omega)
end Go.Proofs.YtkcmghlhpbepcaaGreatDoorW.PrintWords
namespace Go.Proofs.YtkcmghlhpbepcaaGreatDoorW.PrintLast
section
variable {ops : Array Oper} {a : Act} {o og : Oper} {g : Nat} {t : Tmp} {u : Bool}
end
end Go.Proofs.YtkcmghlhpbepcaaGreatDoorW.PrintLast

/- Words and walks used below. -/
namespace Go.Proofs.YtkcmghlhpbepcaaGreatDoorW.PrintWords
open Go.RowKit
section
variable {P : Program} {ops : Array Oper} {rest : List Oper} {o : Oper} {a : Act} {Q : Exit → Act → World → Prop} {W : World}
theorem gate_guard (hw : Region.wanted o (yielded ops a.tmps) = true) (h : wpList P ops Q ({ o with guard := none } :: rest) a W) : wpList P ops Q (o :: rest) a W := by
 have h1 : Region.wanted { o with guard := none } (yielded ops a.tmps) = true := rfl
 unfold wpList at h ⊢
 rw [if_pos h1] at h
 rw [if_pos hw]
 exact h
end
end Go.Proofs.YtkcmghlhpbepcaaGreatDoorW.PrintWords

/- Words and walks used below. -/
namespace Go.Proofs.YtkcmghlhpbepcaaGreatDoorW.PrintWords
open Go.RowKit
namespace Kd
section
variable {α : Type} {d : Kd α} {e base n cap g : Nat} {ok ok' okp : Nat → Prop} {w w1 W : World} {v v1 : Value} {xs ys : List α}
end
section
variable {P : Program} {ops : Array Oper} {rest : List Oper} {o : Oper} {a : Act} {Q : Exit → Act → World → Prop} {Kc : Act → World → Prop} {α : Type}
end
end Kd
end Go.Proofs.YtkcmghlhpbepcaaGreatDoorW.PrintWords

/- Words and walks used below. -/
namespace Go.Proofs.YtkcmghlhpbepcaaGreatDoorW.PrintMore
open Go.RowKit Go.Proofs.YtkcmghlhpbepcaaGreatDoorW.PrintWords
namespace Kd
open Go.Proofs.YtkcmghlhpbepcaaGreatDoorW.PrintWords.Kd
end Kd
namespace Kd
open Go.Proofs.YtkcmghlhpbepcaaGreatDoorW.PrintWords.Kd
section
variable {α : Type} {d : Kd α} {e base g N : Nat} {ok : Nat → Prop} {W w1 : World} {u v : Value} {xs : List α}
end
end Kd
theorem max2_int (k k' : IntKind) (x y : Int) : Builtin.max2 (.int k x) (.int k' y) = pure (.int k (if x < y then y else x)) := by simp only [Builtin.max2, gt_iff_lt]
theorem min2_int (k k' : IntKind) (x y : Int) : Builtin.min2 (.int k x) (.int k' y) = pure (.int k (if y < x then y else x)) := by simp only [Builtin.min2]
theorem max_two (ats : Array TypeId) (ty : TypeId) (a b : Value) : Builtin.max_ ats ty #[a, b] = (Builtin.max2 a b >>= fun s => pure s) := by simp only [Builtin.max_, List.foldlM_cons, List.foldlM_nil]
theorem min_two (ats : Array TypeId) (ty : TypeId) (a b : Value) : Builtin.min_ ats ty #[a, b] = (Builtin.min2 a b >>= fun s => pure s) := by simp only [Builtin.min_, List.foldlM_cons, List.foldlM_nil]
theorem max_three (ats : Array TypeId) (ty : TypeId) (a b c : Value) : Builtin.max_ ats ty #[a, b, c] = (Builtin.max2 a b >>= fun s => Builtin.max2 s c >>= fun s => pure s) := by simp only [Builtin.max_, List.foldlM_cons, List.foldlM_nil]
theorem min_three (ats : Array TypeId) (ty : TypeId) (a b c : Value) : Builtin.min_ ats ty #[a, b, c] = (Builtin.min2 a b >>= fun s => Builtin.min2 s c >>= fun s => pure s) := by simp only [Builtin.min_, List.foldlM_cons, List.foldlM_nil]
theorem max_four (ats : Array TypeId) (ty : TypeId) (a b c d : Value) : Builtin.max_ ats ty #[a, b, c, d] = (Builtin.max2 a b >>= fun s => Builtin.max2 s c >>= fun s => Builtin.max2 s d >>= fun s => pure s) := by simp only [Builtin.max_, List.foldlM_cons, List.foldlM_nil]
theorem min_four (ats : Array TypeId) (ty : TypeId) (a b c d : Value) : Builtin.min_ ats ty #[a, b, c, d] = (Builtin.min2 a b >>= fun s => Builtin.min2 s c >>= fun s => Builtin.min2 s d >>= fun s => pure s) := by simp only [Builtin.min_, List.foldlM_cons, List.foldlM_nil]
end Go.Proofs.YtkcmghlhpbepcaaGreatDoorW.PrintMore
namespace Go.Proofs.YtkcmghlhpbepcaaGreatDoorW.PrintWords
open Go.RowKit
section
variable {P : Program} {ops : Array Oper} {rest : List Oper} {o : Oper} {a : Act} {Q : Exit → Act → World → Prop} {W : World}
theorem gate_callee {f : FuncId} {as_ : Array Operand} {ts : Array TypeId} (_ho : o.op = .call { callee := .value (.func f), args := as_, argTypes := ts }) (h : wpList P ops Q (o :: rest) a W) : wpList P ops Q (o :: rest) a W := h
theorem gate_builtin {b : Builtin} {xs : Array Operand} {ts : Array TypeId} (_ho : o.op = .call { callee := .builtin b, args := xs, argTypes := ts }) (h : wpList P ops Q (o :: rest) a W) : wpList P ops Q (o :: rest) a W := h
end
def mx (a b : Int) : Int := if a < b then b else a
def mn (a b : Int) : Int := if b < a then b else a
def shl (k : IntKind) (x y : Int) : Int := k.wrap (x * 2 ^ min y.toNat k.bits)
def shr (k : IntKind) (x y : Int) : Int := x / 2 ^ min y.toNat k.bits
namespace Kd
section
variable {α : Type} {d : Kd α} {e base : Nat} {ok : Nat → Prop} {W w1 : World} {v : Value} {xs : List α}
end
section
variable {α : Type} {d : Kd α} {e base g n cap : Nat} {ok oki okp : Nat → Prop} {W : World} {xs : List α} {i : Int} {c : List Value}
end
section
variable {α : Type} {d : Kd α} {e base b b' g N : Nat} {ok ok1 : Nat → Prop} {W W2 w1 : World} {u v : Value} {xs ys : List α} {S : Nat → Prop}
end
end Kd
end Go.Proofs.YtkcmghlhpbepcaaGreatDoorW.PrintWords
namespace Go.Proofs.YtkcmghlhpbepcaaGreatDoorW.PrintWords
open Go.RowKit
namespace Kd
def V {α : Type} (d : Kd α) (_e : Nat) (W : World) (_base : Nat) (ok : Nat → Prop) (v : Value) (xs : List α) : Prop := ∃ A c, v = .slice A xs.length c ∧ xs.length ≤ c ∧ F d W ok A xs.length xs
section
variable {α β : Type} {d : Kd α} {e base base' n m c g N' lo hi : Nat} {ok ok' S : Nat → Prop} {w W w1 : World} {A : Option Addr} {ad : Addr} {u v v1 : Value} {xs : List α}
theorem V_nil (d : Kd α) (e : Nat) (W : World) (base : Nat) (ok : Nat → Prop) : V d e W base ok (.slice none 0 0) [] := ⟨none, 0, rfl, Nat.le_refl _, F_nil d W ok⟩
end
end Kd
end Go.Proofs.YtkcmghlhpbepcaaGreatDoorW.PrintWords

/- Words and walks used below. -/
namespace Go.Proofs.YtkcmghlhpbepcaaGreatDoorH.W7
open Go.RowKit Go.Proofs.YtkcmghlhpbepcaaGreatDoorW.PrintWords Go.Proofs.YtkcmghlhpbepcaaGreatDoorW.PrintLast Go.Proofs.YtkcmghlhpbepcaaGreatDoorW.PrintMore
attribute [local go_sem] max2_int min2_int max_two min_two max_three min_three max_four min_four   -- for this text's walks alone
def errW : Option Int → Value
 | none => .nilIface
 | some c => .iface 0 (.int .i64 c)
theorem errW_none : errW none = .nilIface := rfl
theorem errW_some (c : Int) : errW (some c) = .iface 0 (.int .i64 c) := rfl
theorem info9 : (Tryz.prog.info? 9).map (fun i => (i.zero, i.size, i.bytes)) = some (some (.string ⟨#[]⟩), 1, 16) := by kernel_rfl
theorem info34 : (Tryz.prog.info? 34).map (fun i => (i.zero, i.size, i.bytes)) = some (some (.agg #[(.int .i64 0), (.int .i64 0), (.string ⟨#[]⟩), (.string ⟨#[]⟩), (.slice none 0 0)]), 5, 72) := by kernel_rfl
theorem info36 : (Tryz.prog.info? 36).map (fun i => (i.zero, i.size, i.bytes)) = some (some (.agg #[(.string ⟨#[]⟩), (.string ⟨#[]⟩)]), 2, 32) := by kernel_rfl
structure S36 where
 f0 : ByteArray
 f1 : ByteArray
def z36 : S36 := ⟨(⟨#[]⟩ : ByteArray), (⟨#[]⟩ : ByteArray)⟩
def k36 : Kd S36 := Kd.iso (Kd.pair Kd.string Kd.string) (fun x : S36 => (x.f0, x.f1))
theorem k36_open {w : World} {x : S36} {cs : List Value} (h : k36.K w x cs) : cs = [.string x.f0, .string x.f1] := by
 obtain ⟨_, _, rfl, rfl, rfl⟩ := h
 exact rfl
theorem k36_mkM (w : World) (base : Nat) (ok : Nat → Prop) (x : S36)  : k36.M w base ok x [.string x.f0, .string x.f1] := ⟨[.string x.f0], [.string x.f1], rfl, rfl, rfl⟩
def rd_T36 (xs : List S36) (i : Int) : S36 := xs.getD i.toNat z36
theorem at_T36 {w : World} {A : Option Addr} {n : Nat} {xs : List S36} (h : Kd.C k36 w A n xs) (i : Int) (h0 : 0 ≤ i) (h1 : i < n) : ∃ ad , A = some ad ∧ w.cell? (ad.add (i.toNat * 2)) = some (.string (rd_T36 xs i).f0) ∧ w.cell? ⟨(ad.add (i.toNat * 2)).block, (ad.add (i.toNat * 2)).off + 1, none⟩ = some (.string (rd_T36 xs i).f1) := by
 obtain ⟨ad, c, e, _, hK, hc0⟩ := Kd.C_get h z36 i h0 h1
 have hc : ∀ j u, c[j]? = some u → w.cell? (ad.add (i.toNat * 2 + j)) = some u := hc0
 obtain rfl := k36_open hK
 exact ⟨ad, e, hc 0 _ rfl, by rw [← add_field _ _ 1 (by omega)]; exact hc 1 _ rfl⟩
def rd_L3 (xs : List (List S36)) (i : Int) : (List S36) := xs.getD i.toNat ([] : List S36)
structure S34 where
 f0 : Int
 f1 : Int
 f2 : ByteArray
 f3 : ByteArray
 f4 : (List S36)
def z34 : S34 := ⟨(0 : Int), (0 : Int), (⟨#[]⟩ : ByteArray), (⟨#[]⟩ : ByteArray), ([] : List S36)⟩
def k34 : Kd S34 := Kd.iso (Kd.pair (Kd.int .i64) (Kd.pair (Kd.int .i64) (Kd.pair Kd.string (Kd.pair Kd.string (Kd.slice 36 k36))))) (fun x : S34 => (x.f0, x.f1, x.f2, x.f3, x.f4))
theorem k34_open {w : World} {x : S34} {cs : List Value} (h : k34.K w x cs) : ∃ A4 c4, cs = [.int .i64 x.f0, .int .i64 x.f1, .string x.f2, .string x.f3, .slice A4 x.f4.length c4] ∧ x.f4.length ≤ c4 ∧ k36.C w A4 x.f4.length x.f4 := by
 obtain ⟨_, _, rfl, rfl, ⟨_, _, rfl, rfl, ⟨_, _, rfl, rfl, ⟨_, _, rfl, rfl, ⟨A4, c4, rfl, l4, g4⟩⟩⟩⟩⟩ := h
 exact ⟨A4, c4, rfl, l4, g4⟩
theorem k34_openM {w : World} {base : Nat} {ok : Nat → Prop} {x : S34} {cs : List Value} (h : k34.M w base ok x cs) : ∃ v4, cs = [.int .i64 x.f0, .int .i64 x.f1, .string x.f2, .string x.f3, v4] ∧ k36.R 36 w base ok v4 x.f4 := by
 obtain ⟨_, _, rfl, rfl, ⟨_, _, rfl, rfl, ⟨_, _, rfl, rfl, ⟨_, _, rfl, rfl, ⟨v4, rfl, g4⟩⟩⟩⟩⟩ := h
 exact ⟨v4, rfl, g4⟩
theorem k34_mk (w : World) (x : S34) {A4 : Option Addr} {c4 : Nat} (l4 : x.f4.length ≤ c4) (g4 : k36.C w A4 x.f4.length x.f4) : k34.K w x [.int .i64 x.f0, .int .i64 x.f1, .string x.f2, .string x.f3, .slice A4 x.f4.length c4] := ⟨[.int .i64 x.f0], [.int .i64 x.f1, .string x.f2, .string x.f3, .slice A4 x.f4.length c4], rfl, rfl, ⟨[.int .i64 x.f1], [.string x.f2, .string x.f3, .slice A4 x.f4.length c4], rfl, rfl, ⟨[.string x.f2], [.string x.f3, .slice A4 x.f4.length c4], rfl, rfl, ⟨[.string x.f3], [.slice A4 x.f4.length c4], rfl, rfl, ⟨A4, c4, rfl, l4, g4⟩⟩⟩⟩⟩
theorem k34_mkM (w : World) (base : Nat) (ok : Nat → Prop) (x : S34) {v4 : Value} (g4 : k36.R 36 w base ok v4 x.f4) : k34.M w base ok x [.int .i64 x.f0, .int .i64 x.f1, .string x.f2, .string x.f3, v4] := ⟨[.int .i64 x.f0], [.int .i64 x.f1, .string x.f2, .string x.f3, v4], rfl, rfl, ⟨[.int .i64 x.f1], [.string x.f2, .string x.f3, v4], rfl, rfl, ⟨[.string x.f2], [.string x.f3, v4], rfl, rfl, ⟨[.string x.f3], [v4], rfl, rfl, ⟨v4, rfl, g4⟩⟩⟩⟩⟩
def rd_T34 (xs : List S34) (i : Int) : S34 := xs.getD i.toNat z34
theorem at_T34 {w : World} {A : Option Addr} {n : Nat} {xs : List S34} (h : Kd.C k34 w A n xs) (i : Int) (h0 : 0 ≤ i) (h1 : i < n) : ∃ ad A4 c4, A = some ad ∧ w.cell? (ad.add (i.toNat * 5)) = some (.int .i64 (rd_T34 xs i).f0) ∧ w.cell? ⟨(ad.add (i.toNat * 5)).block, (ad.add (i.toNat * 5)).off + 1, none⟩ = some (.int .i64 (rd_T34 xs i).f1) ∧ w.cell? ⟨(ad.add (i.toNat * 5)).block, (ad.add (i.toNat * 5)).off + 2, none⟩ = some (.string (rd_T34 xs i).f2) ∧ w.cell? ⟨(ad.add (i.toNat * 5)).block, (ad.add (i.toNat * 5)).off + 3, none⟩ = some (.string (rd_T34 xs i).f3) ∧ w.cell? ⟨(ad.add (i.toNat * 5)).block, (ad.add (i.toNat * 5)).off + 4, none⟩ = some (.slice A4 (rd_T34 xs i).f4.length c4) ∧ (rd_T34 xs i).f4.length ≤ c4 ∧ k36.C w A4 (rd_T34 xs i).f4.length (rd_T34 xs i).f4 := by
 obtain ⟨ad, c, e, _, hK, hc0⟩ := Kd.C_get h z34 i h0 h1
 have hc : ∀ j u, c[j]? = some u → w.cell? (ad.add (i.toNat * 5 + j)) = some u := hc0
 obtain ⟨A4, c4, rfl, l4, g4⟩ := k34_open hK
 exact ⟨ad, A4, c4, e, hc 0 _ rfl, by rw [← add_field _ _ 1 (by omega)]; exact hc 1 _ rfl, by rw [← add_field _ _ 2 (by omega)]; exact hc 2 _ rfl, by rw [← add_field _ _ 3 (by omega)]; exact hc 3 _ rfl, by rw [← add_field _ _ 4 (by omega)]; exact hc 4 _ rfl, l4, g4⟩
structure S65 where
 f0 : Int
 f1 : ByteArray
 f2 : ByteArray
 f3 : (List S36)
 f4 : Bool
def z65 : S65 := ⟨(0 : Int), (⟨#[]⟩ : ByteArray), (⟨#[]⟩ : ByteArray), ([] : List S36), false⟩
def k65 : Kd S65 := Kd.iso (Kd.pair (Kd.int .i64) (Kd.pair Kd.string (Kd.pair Kd.string (Kd.pair (Kd.slice 36 k36) Kd.bool)))) (fun x : S65 => (x.f0, x.f1, x.f2, x.f3, x.f4))
theorem k65_open {w : World} {x : S65} {cs : List Value} (h : k65.K w x cs) : ∃ A3 c3, cs = [.int .i64 x.f0, .string x.f1, .string x.f2, .slice A3 x.f3.length c3, .bool x.f4] ∧ x.f3.length ≤ c3 ∧ k36.C w A3 x.f3.length x.f3 := by
 obtain ⟨_, _, rfl, rfl, ⟨_, _, rfl, rfl, ⟨_, _, rfl, rfl, ⟨_, _, rfl, ⟨A3, c3, rfl, l3, g3⟩, rfl⟩⟩⟩⟩ := h
 exact ⟨A3, c3, rfl, l3, g3⟩
theorem k65_mkM (w : World) (base : Nat) (ok : Nat → Prop) (x : S65) {v3 : Value} (g3 : k36.R 36 w base ok v3 x.f3) : k65.M w base ok x [.int .i64 x.f0, .string x.f1, .string x.f2, v3, .bool x.f4] := ⟨[.int .i64 x.f0], [.string x.f1, .string x.f2, v3, .bool x.f4], rfl, rfl, ⟨[.string x.f1], [.string x.f2, v3, .bool x.f4], rfl, rfl, ⟨[.string x.f2], [v3, .bool x.f4], rfl, rfl, ⟨[v3], [.bool x.f4], rfl, ⟨v3, rfl, g3⟩, rfl⟩⟩⟩⟩
def rd_T65 (xs : List S65) (i : Int) : S65 := xs.getD i.toNat z65
theorem at_T65 {w : World} {A : Option Addr} {n : Nat} {xs : List S65} (h : Kd.C k65 w A n xs) (i : Int) (h0 : 0 ≤ i) (h1 : i < n) : ∃ ad A3 c3, A = some ad ∧ w.cell? (ad.add (i.toNat * 5)) = some (.int .i64 (rd_T65 xs i).f0) ∧ w.cell? ⟨(ad.add (i.toNat * 5)).block, (ad.add (i.toNat * 5)).off + 1, none⟩ = some (.string (rd_T65 xs i).f1) ∧ w.cell? ⟨(ad.add (i.toNat * 5)).block, (ad.add (i.toNat * 5)).off + 2, none⟩ = some (.string (rd_T65 xs i).f2) ∧ w.cell? ⟨(ad.add (i.toNat * 5)).block, (ad.add (i.toNat * 5)).off + 3, none⟩ = some (.slice A3 (rd_T65 xs i).f3.length c3) ∧ w.cell? ⟨(ad.add (i.toNat * 5)).block, (ad.add (i.toNat * 5)).off + 4, none⟩ = some (.bool (rd_T65 xs i).f4) ∧ (rd_T65 xs i).f3.length ≤ c3 ∧ k36.C w A3 (rd_T65 xs i).f3.length (rd_T65 xs i).f3 := by
 obtain ⟨ad, c, e, _, hK, hc0⟩ := Kd.C_get h z65 i h0 h1
 have hc : ∀ j u, c[j]? = some u → w.cell? (ad.add (i.toNat * 5 + j)) = some u := hc0
 obtain ⟨A3, c3, rfl, l3, g3⟩ := k65_open hK
 exact ⟨ad, A3, c3, e, hc 0 _ rfl, by rw [← add_field _ _ 1 (by omega)]; exact hc 1 _ rfl, by rw [← add_field _ _ 2 (by omega)]; exact hc 2 _ rfl, by rw [← add_field _ _ 3 (by omega)]; exact hc 3 _ rfl, by rw [← add_field _ _ 4 (by omega)]; exact hc 4 _ rfl, l3, g3⟩
end Go.Proofs.YtkcmghlhpbepcaaGreatDoorH.W7

/- Small closing lemmas for walks: endings compared part by part. No condition. -/
namespace Go.Proofs.YtkcmghlhpbepcaaGreatDoor
open Go.RowKit Go.Proofs
theorem ba_ext {a b : ByteArray} (h : a.data.toList = b.data.toList) : a = b := by
 cases a; cases b; congr; exact Array.toList_inj.mp h
theorem ret_i32 {a b : Int} (h : a = b) : Ending.returned (.int .i32 a) = .returned (.int .i32 b) := by rw [h]
theorem ret_i64 {a b : Int} (h : a = b) : Ending.returned (.int .i64 a) = .returned (.int .i64 b) := by rw [h]
theorem ret_b {a b : Bool} (h : a = b) : Ending.returned (.bool a) = .returned (.bool b) := by rw [h]
theorem ret_s {a b : ByteArray} (h : a.data.toList = b.data.toList) : Ending.returned (.string a) = .returned (.string b) := by rw [ba_ext h]
theorem ret_sb {a b : ByteArray} {x y : Bool} (h : a.data.toList = b.data.toList) (k : x = y) : Ending.returned (.tuple #[.string a, .bool x]) = .returned (.tuple #[.string b, .bool y]) := by rw [ba_ext h, k]
theorem below_drewN {B : Nat} {w W : World} (h : Below B w W) (n : Nat) : Below B w (W.drewN n) := ⟨h.os, h.tape, h.output, h.size, h.block⟩
theorem below_then {B : Nat} {w w1 w2 : World} (h : Below B w w1) (hB : B ≤ w1.heap.size) (k : Below w1.heap.size w1 w2) : Below B w w2 :=
 h.trans ⟨k.os, k.tape, k.output, k.size, fun i hi => k.block i (Nat.lt_of_lt_of_le hi hB)⟩
theorem below_seq {w w1 w2 : World} (h : Below w.heap.size w w1) (k : Below w1.heap.size w1 w2) : Below w.heap.size w w2 := below_then h h.size k
theorem mk_data_list (l : List UInt8) : (⟨l.toArray⟩ : ByteArray).data.toList = l := by simp
theorem mk_size (l : List UInt8) : (⟨l.toArray⟩ : ByteArray).size = l.length := by rw [Lib.size_eq, mk_data_list]
@[go_sem] theorem ext_end (l : List UInt8) (a : Nat) : (⟨l.toArray⟩ : ByteArray).extract a l.length = ⟨(l.drop a).toArray⟩ := by
 rw [Lib.extract_eq, mk_data_list, List.take_of_length_le (by simp)]
@[go_sem] theorem ext_take (l : List UInt8) (n : Nat) : (⟨l.toArray⟩ : ByteArray).extract 0 n = ⟨(l.take n).toArray⟩ := by
 rw [Lib.extract_eq, mk_data_list]
 simp
@[go_sem] theorem get_mk (l : List UInt8) (k : Nat) (h : k < (⟨l.toArray⟩ : ByteArray).size) : (⟨l.toArray⟩ : ByteArray)[k]'h = l[k]'(by rwa [mk_size] at h) := by
 rw [ByteArray.getElem_eq_getElem_data]
 simp
end Go.Proofs.YtkcmghlhpbepcaaGreatDoor

/- Contract of refs.digits at the bases 10 and 16: whether all bytes are digits of the base, and there is one; nothing that lay in memory turns. -/
namespace Go.Proofs.YtkcmghlhpbepcaaGreatDoor
open Go.RowKit Go.Proofs
def digN (base c : Nat) : Bool := decide ((48 ≤ c ∧ c ≤ 57) ∨ (base = 16 ∧ ((97 ≤ c ∧ c ≤ 102) ∨ (65 ≤ c ∧ c ≤ 70))))
theorem digN_no {base c : Nat} (h : ¬ ((48 ≤ c ∧ c ≤ 57) ∨ (base = 16 ∧ ((97 ≤ c ∧ c ≤ 102) ∨ (65 ≤ c ∧ c ≤ 70))))) : digN base c = false := decide_eq_false h
theorem digN_yes {base c : Nat} (h : (48 ≤ c ∧ c ≤ 57) ∨ (base = 16 ∧ ((97 ≤ c ∧ c ≤ 102) ∨ (65 ≤ c ∧ c ≤ 70)))) : digN base c = true := decide_eq_true h
def digitsL (base : Nat) (l : List UInt8) : Bool := l.all (fun c => digN base c.toNat) && !l.isEmpty
theorem all_of_get {s : ByteArray} {p : UInt8 → Bool} (h : ∀ j (hj : j < s.size), p (s[j]'hj) = true) : s.toList.all p = true := by
 rw [Lib.toList_data, List.all_eq_true]
 intro x hx
 obtain ⟨j, hj, e⟩ := List.getElem_of_mem hx
 have hj' : j < s.size := by simpa using hj
 have := h j hj'
 rw [← e]
 simpa [ByteArray.getElem_eq_getElem_data] using this
theorem not_all_of_get {s : ByteArray} {p : UInt8 → Bool} {j : Nat} (hj : j < s.size) (h : p (s[j]'hj) = false) : s.toList.all p = false := by
 rw [Lib.toList_data, List.all_eq_false]
 exact ⟨s[j], by simp [ByteArray.getElem_eq_getElem_data], by simp [h]⟩
theorem digits_no {base : Nat} {s : ByteArray} {j : Nat} (hj : j < s.size) (h : digN base (s[j]'hj).toNat = false) : digitsL base s.toList = false := by
 unfold digitsL
 rw [not_all_of_get hj h]
 rfl
theorem digits_yes {base : Nat} {s : ByteArray} (h : ∀ j (hj : j < s.size), digN base (s[j]'hj).toNat = true) : digitsL base s.toList = !s.toList.isEmpty := by
 unfold digitsL
 rw [all_of_get h]
 rfl
theorem digits_step {base pos : Nat} {s : ByteArray} (h : ∀ j (hj : j < s.size), j < pos → digN base (s[j]'hj).toNat = true) (hp : pos < s.size) (hd : digN base (s[pos]'hp).toNat = true) :
 ∀ j (hj : j < s.size), j < pos + 1 → digN base (s[j]'hj).toNat = true := by
 intro j hj hlt
 by_cases e : j = pos
 ·subst e; exact hd
 ·exact h j hj (by omega)
set_option maxHeartbeats 4000000 in
set_option maxRecDepth 100000 in
theorem digits_c (base : Nat) (hb : base = 10 ∨ base = 16) (s : ByteArray) (w : World) (hs : s.size ≤ 9223372036854775807) :
 Calls Tryz.prog 225 #[.string s, .int .i64 base] w fun e w' => e = .returned (.bool (digitsL base s.toList)) ∧ Below w.heap.size w w' := by
 go_enter Tryz.func225, Tryz.ntmps225
 go_wp2
 go_loopw [] (fun wr => ∃ (pos : Nat), pos ≤ s.size ∧ wr.heap[w.heap.size]? = some (.stringIter s pos) ∧ Below w.heap.size w wr ∧ Hid (∀ j (hj : j < s.size), j < pos → digN base (s[j]'hj).toNat = true)) (fun wr => s.size - wr.iterPos w.heap.size)
 case atStart =>
  refine ⟨0, by omega, by simpa using World.iter_heap w s 0, (Below.refl _ w).alloc (Nat.le_refl _) _, fun j _ h => by omega⟩
 case round =>
  obtain ⟨pos, hp, hit, hbw, hall⟩ := hrel
  by_cases hlt : pos < s.size
  ·by_cases ha : (s[pos]'hlt).toNat < 128
   ·have hnx : ∀ ty, (Instr.next (.pointer (some ⟨w.heap.size, 0, none⟩)) true ty).run Tryz.prog wr = _ := fun ty => Lib.run_next_ascii_at wr w.heap.size s pos ty hit hlt ha
    generalize hc : (s[pos]'hlt).toNat = c at *
    have hc' := Lib.hid hc
    clear hc
    rcases hb with rfl | rfl
    all_goals
     go_wp2
     all_goals (try simp only [Bool.not_eq_true', Bool.not_eq_false', Bool.not_true, Bool.not_false, decide_eq_true_eq, decide_eq_false_iff_not] at *)
     all_goals first
      | (go_ret; refine ⟨ret_b (digits_no hlt ?_).symm, Lib.below_iterAt hbw (Nat.le_refl _) _ _⟩; rw [hc'.out]; refine digN_no ?_; omega)
      | (refine ⟨⟨pos + 1, ?_, Lib.iterAt_heap _ _ _ _ _ hit, Lib.below_iterAt hbw (Nat.le_refl _) _ _, digits_step hall.out hlt ?_⟩, ?_⟩; omega; rw [hc'.out]; refine digN_yes ?_; omega; simp only [World.iterPos, Lib.iterAt_heap _ _ _ _ _ hit, hit]; omega)
      | skip
   ·have hh := decode_high s pos hlt (by omega)
    obtain ⟨hh1, hh2⟩ := hh
    have hnx : ∀ ty, (Instr.next (.pointer (some ⟨w.heap.size, 0, none⟩)) true ty).run Tryz.prog wr = _ := fun ty => Lib.run_next_any_at wr w.heap.size s pos ty hit hlt
    have h64 : (128 : Int) ≤ (Utf8.decode s pos).1 := by omega
    have hle := decode_le s pos
    generalize (Utf8.decode s pos).1 = c at *
    generalize (Utf8.decode s pos).2 = d at *
    have hno : digN base (s[pos]'hlt).toNat = false := by
     refine digN_no ?_; omega
    have hno := Lib.hid hno
    rename_i hno0 
    clear hno0
    rcases hb with rfl | rfl
    all_goals
     go_wp2
     all_goals (try simp only [Bool.not_eq_true', Bool.not_eq_false', Bool.not_true, Bool.not_false, decide_eq_true_eq, decide_eq_false_iff_not] at *)
     all_goals first
      | (go_ret; refine ⟨ret_b (digits_no hlt hno.out).symm, Lib.below_iterAt hbw (Nat.le_refl _) _ _⟩)
      | (exfalso; omega)
  ·have hnx : ∀ ty, (Instr.next (.pointer (some ⟨w.heap.size, 0, none⟩)) true ty).run Tryz.prog wr = _ := fun ty => Lib.run_next_end_at wr w.heap.size s pos ty hit hlt
   have hy := Lib.hid (digits_yes fun j hj => hall.out j hj (by omega))
   go_wp2
   go_ret
   refine ⟨ret_b ?_, hbw⟩
   rw [hy.out]
end Go.Proofs.YtkcmghlhpbepcaaGreatDoor
