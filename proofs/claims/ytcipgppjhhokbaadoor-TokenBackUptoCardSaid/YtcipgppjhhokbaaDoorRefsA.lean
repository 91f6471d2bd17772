/- Contracts of package refs: number, Named, Code: what each returns, whatever it is given; nothing that lay in memory turns. -/
import Derived.Test.YtcipgppjhhokbaaDoorProg
import Derived.Test.YtcipgppjhhokbaaDoorBase
import Derived.WalkKit
import Derived.Laws.Runes
import Derived.WalkLawsBesides
set_option linter.unusedVariables false
set_option linter.unusedSimpArgs false
namespace Go.Proofs.YtcipgppjhhokbaaDoor
open Go.RowKit Go.Proofs

def numberL (l : List UInt8) : Int :=
  if l = [97, 109, 112] then 38 else if l = [108, 116] then 60 else if l = [103, 116] then 62 else if l = [113, 117, 111, 116] then 34
  else if l = [97, 112, 111, 115] then 39 else if l = [110, 98, 115, 112] then 160 else if l = [99, 111, 112, 121] then 169 else if l = [114, 101, 103] then 174
  else if l = [112, 97, 114, 97] then 182 else if l = [109, 105, 100, 100, 111, 116] then 183 else if l = [101, 97, 99, 117, 116, 101] then 233
  else if l = [97, 117, 109, 108] then 228 else if l = [111, 117, 109, 108] then 246 else if l = [117, 117, 109, 108] then 252 else if l = [115, 122, 108, 105, 103] then 223
  else if l = [101, 117, 114, 111] then 8364 else if l = [104, 101, 108, 108, 105, 112] then 8230 else if l = [110, 100, 97, 115, 104] then 8211
  else if l = [109, 100, 97, 115, 104] then 8212 else if l = [98, 117, 108, 108] then 8226 else if l = [84, 97, 98] then 9 else if l = [78, 101, 119, 76, 105, 110, 101] then 10
  else if l = [99, 111, 108, 111, 110] then 58 else if l = [108, 112, 97, 114] then 40 else 0

set_option maxHeartbeats 4000000 in
set_option maxRecDepth 100000 in
theorem number_c (s : ByteArray) (w : World) :
    Calls Tryd.prog 72 #[.string s] w fun e w' => e = .returned (.int .i32 (numberL s.toList)) ∧ w = w' := by
  go_enter Tryd.func72, Tryd.ntmps72
  go_wp2
  all_goals go_ret
  all_goals (refine ⟨ret_i32 ?_, rfl⟩; simp_all [numberL])

/-- Named's answer: the character's bytes, and whether there is a name. -/
def namedL (l : List UInt8) : List UInt8 × Bool := if numberL l = 0 then ([], false) else ((Utf8.encode (numberL l)).data.toList, true)

set_option maxHeartbeats 4000000 in
set_option maxRecDepth 100000 in
theorem named_c (s : ByteArray) (w : World) :
    Calls Tryd.prog 65 #[.string s] w fun e w' => e = .returned (.tuple #[.string ⟨(namedL s.toList).1.toArray⟩, .bool (namedL s.toList).2]) ∧ w = w' := by
  go_enter Tryd.func65, Tryd.ntmps65
  go_wp2_with (go_at_call 72; refine (number_c _ _).mono ?_; rintro e w' ⟨rfl, rfl⟩)
  all_goals go_ret2
  all_goals (refine ⟨ret_sb ?_ ?_, rfl⟩ <;> simp_all [namedL])

def codeI (n : Int) : Int := if n < 1 ∨ 1114111 < n ∨ (55296 ≤ n ∧ n ≤ 57343) then 65533 else if n = 13 then 10 else n
def codeL (n : Int) : List UInt8 := (Utf8.encode (codeI n)).data.toList

set_option maxHeartbeats 4000000 in
set_option maxRecDepth 100000 in
theorem code_c (n : Int) (w : World) (h0 : -9223372036854775808 ≤ n) (h1 : n ≤ 9223372036854775807) :
    Calls Tryd.prog 71 #[.int .i64 n] w fun e w' => e = .returned (.string ⟨(codeL n).toArray⟩) ∧ w = w' := by
  go_enter Tryd.func71, Tryd.ntmps71
  go_wp2
  all_goals go_ret
  all_goals (refine ⟨ret_s ?_, rfl⟩)
  all_goals (simp only [codeL, codeI]; try simp only [beq_iff_eq, beq_eq_false_iff_ne] at *)
  all_goals first
    | (rw [if_pos (by omega)]; decide)
    | (rw [if_neg (by omega), if_pos (by omega)])
    | (rw [if_neg (by omega), if_neg (by omega)])
end Go.Proofs.YtcipgppjhhokbaaDoor
