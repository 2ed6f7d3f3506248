/-
  No cell of these rows narrows 'for every input' (looked for: loops, veiled, ifaces, maps, wideKeys, modest, calm, conditions, laid).
  DERIVED. THE GIVEN ROWS OF THIS SEAT. 6 by the template 'for every input the law returns true; each argument reads behind the call as it read before'; 0 by the template 'total and deterministic' (their statements: YtgpmhdefpbmhjaaTotals.lean).
  GIVEN WITH THE SEED: the statements are not yours to turn. If you find one false, say at which input.
  Laid BY PROGRAM, IN A SANDBOX (cutbox-rows.mjs): the forced cells as the released guide's own fill.sh prints them over the translation d4aa8c6a18374d3b… (all of the seat's roots in one cut). By AI agents, Wed Nov 11 2026. No macro, syntax, notation, axiom, sorry.
-/
import Derived.Test.YtgpmhdefpbmhjaaChecked
import GoSem.Claim
import GoSem.ClaimJoined
import GoSem.ClaimMapViews
import Derived.JoinedTies
import Derived.KernelRfl
namespace Go.Proofs.Ytgpmhdefpbmhjaa
/- THE CELL 'sum', in the pinned program and in every row, IS THE sha256 OF THE DUMP (.gsa) THAT YtgpmhdefpbmhjaaProg.lean LOADS. Nothing in Lean hashes anything: it is a label: what it is worth is what the hold of that sum in a sandbox is worth. -/
noncomputable def Try.pinned : Pinned := { name := "ytgpmhdefpbmhjaa", sum := "d4aa8c6a18374d3bd6a33a42fc0b4723c196ad3556b699f408a1e997e321f857", checked := Try.checked }
namespace Rows
def none {H : Type} : Left H := { results := [], args := [] }

/-- 'portmanteaulaw07.MatchExpands': WHATEVER THE INPUT: true; the input reads as it did. -/
def matchExpandsSpec : ChangeSpec := { name := "matchExpands", fn := fun _ => fun
  | [d1, d2] => { results := [.lit (.bool true)], args := [d1, d2] }
  | _ => none }
def matchExpandsRow : OpenClaim := { program := "ytgpmhdefpbmhjaa", sum := "d4aa8c6a18374d3bd6a33a42fc0b4723c196ad3556b699f408a1e997e321f857", func := "portmanteau/portmanteaulaw07.MatchExpands", spec := "matchExpands", plainKeys := false, apart := false }
def MatchExpandsSaid : Prop := matchExpandsRow.holds Try.pinned (OpenSpec.ofChange matchExpandsSpec)

/-- ITS FALSE NEIGHBOUR: 'it returns false'. Refute it at one input. -/
def matchExpandsWrong : ChangeSpec := { name := "matchExpands", fn := fun _ => fun
  | [d1, d2] => { results := [.lit (.bool false)], args := [d1, d2] }
  | _ => none }
def MatchExpandsWrongFalsely : Prop := matchExpandsRow.holds Try.pinned (OpenSpec.ofChange matchExpandsWrong)

/-- 'portmanteaulaw07.MatchChains': WHATEVER THE INPUT: true; the input reads as it did. -/
def matchChainsSpec : ChangeSpec := { name := "matchChains", fn := fun _ => fun
  | [d1, d2, d3, d4] => { results := [.lit (.bool true)], args := [d1, d2, d3, d4] }
  | _ => none }
def matchChainsRow : OpenClaim := { program := "ytgpmhdefpbmhjaa", sum := "d4aa8c6a18374d3bd6a33a42fc0b4723c196ad3556b699f408a1e997e321f857", func := "portmanteau/portmanteaulaw07.MatchChains", spec := "matchChains", plainKeys := false, apart := false }
def MatchChainsSaid : Prop := matchChainsRow.holds Try.pinned (OpenSpec.ofChange matchChainsSpec)

/-- ITS FALSE NEIGHBOUR: 'it returns false'. Refute it at one input. -/
def matchChainsWrong : ChangeSpec := { name := "matchChains", fn := fun _ => fun
  | [d1, d2, d3, d4] => { results := [.lit (.bool false)], args := [d1, d2, d3, d4] }
  | _ => none }
def MatchChainsWrongFalsely : Prop := matchChainsRow.holds Try.pinned (OpenSpec.ofChange matchChainsWrong)

/-- 'portmanteaulaw07.MatchFinds': WHATEVER THE INPUT: true; the input reads as it did. -/
def matchFindsSpec : ChangeSpec := { name := "matchFinds", fn := fun _ => fun
  | [d1, d2] => { results := [.lit (.bool true)], args := [d1, d2] }
  | _ => none }
def matchFindsRow : OpenClaim := { program := "ytgpmhdefpbmhjaa", sum := "d4aa8c6a18374d3bd6a33a42fc0b4723c196ad3556b699f408a1e997e321f857", func := "portmanteau/portmanteaulaw07.MatchFinds", spec := "matchFinds", plainKeys := false, apart := false }
def MatchFindsSaid : Prop := matchFindsRow.holds Try.pinned (OpenSpec.ofChange matchFindsSpec)

/-- ITS FALSE NEIGHBOUR: 'it returns false'. Refute it at one input. -/
def matchFindsWrong : ChangeSpec := { name := "matchFinds", fn := fun _ => fun
  | [d1, d2] => { results := [.lit (.bool false)], args := [d1, d2] }
  | _ => none }
def MatchFindsWrongFalsely : Prop := matchFindsRow.holds Try.pinned (OpenSpec.ofChange matchFindsWrong)

/-- 'portmanteaulaw07.MatchCopies': WHATEVER THE INPUT: true; the input reads as it did. -/
def matchCopiesSpec : ChangeSpec := { name := "matchCopies", fn := fun _ => fun
  | [d1, d2, d3, d4, d5] => { results := [.lit (.bool true)], args := [d1, d2, d3, d4, d5] }
  | _ => none }
def matchCopiesRow : OpenClaim := { program := "ytgpmhdefpbmhjaa", sum := "d4aa8c6a18374d3bd6a33a42fc0b4723c196ad3556b699f408a1e997e321f857", func := "portmanteau/portmanteaulaw07.MatchCopies", spec := "matchCopies", plainKeys := false, apart := false }
def MatchCopiesSaid : Prop := matchCopiesRow.holds Try.pinned (OpenSpec.ofChange matchCopiesSpec)

/-- ITS FALSE NEIGHBOUR: 'it returns false'. Refute it at one input. -/
def matchCopiesWrong : ChangeSpec := { name := "matchCopies", fn := fun _ => fun
  | [d1, d2, d3, d4, d5] => { results := [.lit (.bool false)], args := [d1, d2, d3, d4, d5] }
  | _ => none }
def MatchCopiesWrongFalsely : Prop := matchCopiesRow.holds Try.pinned (OpenSpec.ofChange matchCopiesWrong)

/-- 'portmanteaulaw07.MatchSame': WHATEVER THE INPUT: true; the input reads as it did. -/
def matchSameSpec : ChangeSpec := { name := "matchSame", fn := fun _ => fun
  | [d1, d2, d3] => { results := [.lit (.bool true)], args := [d1, d2, d3] }
  | _ => none }
def matchSameRow : OpenClaim := { program := "ytgpmhdefpbmhjaa", sum := "d4aa8c6a18374d3bd6a33a42fc0b4723c196ad3556b699f408a1e997e321f857", func := "portmanteau/portmanteaulaw07.MatchSame", spec := "matchSame", plainKeys := false, apart := false }
def MatchSameSaid : Prop := matchSameRow.holds Try.pinned (OpenSpec.ofChange matchSameSpec)

/-- ITS FALSE NEIGHBOUR: 'it returns false'. Refute it at one input. -/
def matchSameWrong : ChangeSpec := { name := "matchSame", fn := fun _ => fun
  | [d1, d2, d3] => { results := [.lit (.bool false)], args := [d1, d2, d3] }
  | _ => none }
def MatchSameWrongFalsely : Prop := matchSameRow.holds Try.pinned (OpenSpec.ofChange matchSameWrong)

/-- 'portmanteaulaw07.MatchLong': WHATEVER THE INPUT: true; the input reads as it did. -/
def matchLongSpec : ChangeSpec := { name := "matchLong", fn := fun _ => fun
  | [] => { results := [.lit (.bool true)], args := [] }
  | _ => none }
def matchLongRow : OpenClaim := { program := "ytgpmhdefpbmhjaa", sum := "d4aa8c6a18374d3bd6a33a42fc0b4723c196ad3556b699f408a1e997e321f857", func := "portmanteau/portmanteaulaw07.MatchLong", spec := "matchLong", plainKeys := false, apart := false }
def MatchLongSaid : Prop := matchLongRow.holds Try.pinned (OpenSpec.ofChange matchLongSpec)

/-- ITS FALSE NEIGHBOUR: 'it returns false'. Refute it at one input. -/
def matchLongWrong : ChangeSpec := { name := "matchLong", fn := fun _ => fun
  | [] => { results := [.lit (.bool false)], args := [] }
  | _ => none }
def MatchLongWrongFalsely : Prop := matchLongRow.holds Try.pinned (OpenSpec.ofChange matchLongWrong)

/- THE SECOND FORM. 'bulk': how many values and letters a reading holds, each counted each time it is reached (what is shared counts as often as it is met; a slice's spare places count too). A statement '..UptoSaid' is the law's where the arguments, and the package variables that the reading takes, are together of bulk at most 1048576: NARROWER than '..Said'. Prove '..Said' where nothing that the law and all that it calls make is longer than what came in: it says more and counts as full. Else prove '..UptoSaid'. A law counts once. -/
mutual
def uptoBulk {H : Type} : DataW H → Nat
  | .lit (.string bytes) => bytes.length + 1
  | .lit _ => 1
  | .nil => 1
  | .ptr d => uptoBulk d + 1
  | .slice elems spare => uptoBulkAll elems + uptoBulkAll spare + 1
  | .agg parts => uptoBulkAll parts + 1
  | .iface _ d => uptoBulk d + 1
  | .map entries => uptoBulkEntries entries + 1
  | .held _ => 1
def uptoBulkAll {H : Type} : List (DataW H) → Nat
  | [] => 0
  | d :: r => uptoBulk d + uptoBulkAll r
def uptoBulkEntries {H : Type} : List (Lit × DataW H) → Nat
  | [] => 0
  | x :: r => uptoBulkEntry x + uptoBulkEntries r
def uptoBulkEntry {H : Type} : Lit × DataW H → Nat
  | (.string bytes, d) => bytes.length + uptoBulk d + 1
  | (_, d) => uptoBulk d + 1
 end
def uptoSmall : (H : Type) → List (DataW H) → Bool := fun _ ds => decide (uptoBulkAll ds ≤ 1048576)
def OpenSpec.upto (s : _root_.Go.ChangeSpec) : _root_.Go.OpenSpec := { _root_.Go.OpenSpec.ofChange s with cond := some uptoSmall }

/-- 'portmanteaulaw07.MatchExpands', WHERE WHAT IT READS IS OF BULK AT MOST 1048576: true; the input reads as it did. -/
def matchExpandsUptoRow : OpenClaim := { program := "ytgpmhdefpbmhjaa", sum := "d4aa8c6a18374d3bd6a33a42fc0b4723c196ad3556b699f408a1e997e321f857", func := "portmanteau/portmanteaulaw07.MatchExpands", spec := "matchExpands", plainKeys := false, apart := false, narrowed := true }
def MatchExpandsUptoSaid : Prop := matchExpandsUptoRow.holds Try.pinned (OpenSpec.upto matchExpandsSpec)

/-- 'portmanteaulaw07.MatchChains', WHERE WHAT IT READS IS OF BULK AT MOST 1048576: true; the input reads as it did. -/
def matchChainsUptoRow : OpenClaim := { program := "ytgpmhdefpbmhjaa", sum := "d4aa8c6a18374d3bd6a33a42fc0b4723c196ad3556b699f408a1e997e321f857", func := "portmanteau/portmanteaulaw07.MatchChains", spec := "matchChains", plainKeys := false, apart := false, narrowed := true }
def MatchChainsUptoSaid : Prop := matchChainsUptoRow.holds Try.pinned (OpenSpec.upto matchChainsSpec)

/-- 'portmanteaulaw07.MatchFinds', WHERE WHAT IT READS IS OF BULK AT MOST 1048576: true; the input reads as it did. -/
def matchFindsUptoRow : OpenClaim := { program := "ytgpmhdefpbmhjaa", sum := "d4aa8c6a18374d3bd6a33a42fc0b4723c196ad3556b699f408a1e997e321f857", func := "portmanteau/portmanteaulaw07.MatchFinds", spec := "matchFinds", plainKeys := false, apart := false, narrowed := true }
def MatchFindsUptoSaid : Prop := matchFindsUptoRow.holds Try.pinned (OpenSpec.upto matchFindsSpec)

/-- 'portmanteaulaw07.MatchCopies', WHERE WHAT IT READS IS OF BULK AT MOST 1048576: true; the input reads as it did. -/
def matchCopiesUptoRow : OpenClaim := { program := "ytgpmhdefpbmhjaa", sum := "d4aa8c6a18374d3bd6a33a42fc0b4723c196ad3556b699f408a1e997e321f857", func := "portmanteau/portmanteaulaw07.MatchCopies", spec := "matchCopies", plainKeys := false, apart := false, narrowed := true }
def MatchCopiesUptoSaid : Prop := matchCopiesUptoRow.holds Try.pinned (OpenSpec.upto matchCopiesSpec)

/-- 'portmanteaulaw07.MatchSame', WHERE WHAT IT READS IS OF BULK AT MOST 1048576: true; the input reads as it did. -/
def matchSameUptoRow : OpenClaim := { program := "ytgpmhdefpbmhjaa", sum := "d4aa8c6a18374d3bd6a33a42fc0b4723c196ad3556b699f408a1e997e321f857", func := "portmanteau/portmanteaulaw07.MatchSame", spec := "matchSame", plainKeys := false, apart := false, narrowed := true }
def MatchSameUptoSaid : Prop := matchSameUptoRow.holds Try.pinned (OpenSpec.upto matchSameSpec)

/-- 'portmanteaulaw07.MatchLong', WHERE WHAT IT READS IS OF BULK AT MOST 1048576: true; the input reads as it did. -/
def matchLongUptoRow : OpenClaim := { program := "ytgpmhdefpbmhjaa", sum := "d4aa8c6a18374d3bd6a33a42fc0b4723c196ad3556b699f408a1e997e321f857", func := "portmanteau/portmanteaulaw07.MatchLong", spec := "matchLong", plainKeys := false, apart := false, narrowed := true }
def MatchLongUptoSaid : Prop := matchLongUptoRow.holds Try.pinned (OpenSpec.upto matchLongSpec)

end Rows
end Go.Proofs.Ytgpmhdefpbmhjaa
