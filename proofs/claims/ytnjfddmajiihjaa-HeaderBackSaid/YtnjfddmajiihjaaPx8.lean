import Derived.Test.YtnjfddmajiihjaaPx0
import Derived.Test.YtnjfddmajiihjaaPx7
namespace Go.Proofs.Ytnjfddmajiihjaa.P
open Go.RowKit Go.Proofs.YtnjfddmajiihjaaW.PrintWords Go.Proofs.YtnjfddmajiihjaaW.PrintLast Go.Proofs.YtnjfddmajiihjaaW.PrintMore
attribute [local go_sem] max2_int min2_int max_two min_two max_three min_three max_four min_four
attribute [local go_sem] Go.Proofs.Ytnjfddmajiihjaa.Mx.max_five Go.Proofs.Ytnjfddmajiihjaa.Mx.max_six Go.Proofs.Ytnjfddmajiihjaa.Mx.max_seven
set_option linter.unusedVariables false
set_option linter.unusedSimpArgs false
def portmanteauref17_Print.l0 : Nat → List Int → ByteArray → List Int → Int → Int → Option (ByteArray)
  | 0, _, _, _, _, _ => none
  | k + 1, x0, x5, x8, x9, x10 => if x10 < x9 then (if 0 ≤ x10 then (if x10 < (x8.length : Int) then (if x10 < (x0.length : Int) then ((portmanteauref01_Of.f k (rd x0 x10) (rd x8 x10)).bind fun t166 => (if x5.size + t166.size ≤ 9223372036854775807 then (portmanteauref17_Print.l0 k x0 (x5 ++ t166) x8 x9 (wrap64 (x10 + 1))) else (none))) else (none)) else (none)) else (none)) else (some x5)
def portmanteauref17_Print.f (k : Nat) (l0 : List Int) (l1 : List Int) : Option (ByteArray) := portmanteauref17_Print.l0 k l0 (⟨#[]⟩ : ByteArray) l1 (l1.length : Int) 0
def portmanteaulaw17_locals.f (a0_0 : Int) (a0_1 : Int) (a0_2 : Int) (a0_3 : Int) (a0_4 : Int) (a0_5 : Int) (a0_6 : Int) (a0_7 : ByteArray) (a0_8 : ByteArray) : Option (List Int) := some (([67324752, IntKind.u64.wrap (a0_0), IntKind.u64.wrap (a0_1), IntKind.u64.wrap (a0_2), IntKind.u64.wrap (a0_3), IntKind.u64.wrap (a0_4), IntKind.u64.wrap (a0_5), IntKind.u64.wrap (a0_6), IntKind.u64.wrap ((a0_7.size : Int)), IntKind.u64.wrap ((a0_8.size : Int))] : List Int))
def portmanteaulaw17_centrals.f (a0_0 : Int) (a0_1 : Int) (a0_2 : Int) (a0_3 : Int) (a0_4 : Int) (a0_5 : Int) (a0_6 : Int) (a0_7 : Int) (a0_8 : Int) (a0_9 : Int) (a0_10 : Int) (a0_11 : Int) (a0_12 : ByteArray) (a0_13 : ByteArray) (a0_14 : ByteArray) : Option (List Int) := some (([33639248, IntKind.u64.wrap (a0_0), IntKind.u64.wrap (a0_1), IntKind.u64.wrap (a0_2), IntKind.u64.wrap (a0_3), IntKind.u64.wrap (a0_4), IntKind.u64.wrap (a0_5), IntKind.u64.wrap (a0_6), IntKind.u64.wrap (a0_7), IntKind.u64.wrap ((a0_12.size : Int)), IntKind.u64.wrap ((a0_13.size : Int)), IntKind.u64.wrap ((a0_14.size : Int)), IntKind.u64.wrap (a0_8), IntKind.u64.wrap (a0_9), IntKind.u64.wrap (a0_10), IntKind.u64.wrap (a0_11)] : List Int))
def portmanteaulaw17_descriptors.f (a0_0 : Int) (a0_1 : Int) (a0_2 : Int) : Option (List Int) := some (([134695760, IntKind.u64.wrap (a0_0), a0_1, a0_2] : List Int))
def portmanteauref17_Descriptors.f (a0 : Bool) : Option (List Int) := if a0 = true then (some (([4, 4, 8, 8] : List Int))) else (some (([4, 4, 4, 4] : List Int)))
end Go.Proofs.Ytnjfddmajiihjaa.P
