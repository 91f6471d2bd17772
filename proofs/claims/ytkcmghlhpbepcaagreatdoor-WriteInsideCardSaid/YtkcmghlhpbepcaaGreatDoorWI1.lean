/- Lemmas and walks, part 1. -/
import Derived.RowKit
set_option linter.unusedVariables false
set_option linter.unusedSimpArgs false
namespace Go.Proofs
theorem q'a{p:Prop}(h:p:=by(try simp only[List.map_toArray,List.map_cons,List.map_nil]);first|done|rfl|(simp only[List.length_drop,List.length_take];rfl)):p:=h
theorem q'b{p:Prop}(h:p:=by first|exact of_decide_eq_true (by first|(with_reducible assumption)|assumption)|assumption|omega):p:=h
theorem q'c{p:Prop}(h:p:=by first|rfl|(simp;done)|(simp[*];done)|(simp;generalize ByteArray.toList _=l_;cases l_<;>rfl)):p:=h
theorem q'd{p:Prop}(h:p:=by first|(with_reducible assumption)|assumption):p:=h
abbrev Bt:=ByteArray
end Go.Proofs
