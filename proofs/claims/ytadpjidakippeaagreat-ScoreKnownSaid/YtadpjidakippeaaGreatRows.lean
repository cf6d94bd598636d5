/-
  No cell of these rows narrows 'for every input' (looked for: loops, veiled, ifaces, maps, wideKeys, modest, calm, conditions, laid).
  DERIVED. THE GIVEN ROWS OF THIS SEAT. 2 by the template 'for every input the law returns true; each argument reads behind the call as it read before'; 0 by the template 'total and deterministic' (their statements: YtadpjidakippeaaGreatTotals.lean).
  GIVEN WITH THE SEED: the statements are not yours to turn. If you find one false, say at which input.
  Laid BY PROGRAM, IN A SANDBOX (cutbox-rows.mjs): the forced cells as the released guide's own fill.sh prints them over the translation f4e93b4a3be36a84… (all of the seat's roots in one cut). By AI agents, Wed Nov 11 2026. No macro, syntax, notation, axiom, sorry.
-/
import Derived.Test.YtadpjidakippeaaGreatChecked
import GoSem.Claim
import GoSem.ClaimJoined
import GoSem.ClaimMapViews
import Derived.JoinedTies
import Derived.KernelRfl
namespace Go.Proofs.YtadpjidakippeaaGreat
/- THE CELL 'sum', in the pinned program and in every row, IS THE sha256 OF THE DUMP (.gsa) THAT YtadpjidakippeaaGreatProg.lean LOADS. Nothing in Lean hashes anything: it is a label: what it is worth is what the hold of that sum in a sandbox is worth. -/
noncomputable def Tryz.pinned : Pinned := { name := "ytadpjidakippeaagreat", sum := "f4e93b4a3be36a84fad65e821401b7724a864e841ebaae47fc23627d4577c603", checked := Tryz.checked }
namespace Rows
def none {H : Type} : Left H := { results := [], args := [] }

/-- 'abaculuslaw9.ScoreClasses': WHATEVER THE INPUT: true; the input reads as it did. -/
def scoreClassesSpec : ChangeSpec := { name := "scoreClasses", fn := fun _ => fun
  | [d1, d2, d3, d4, d5, d6] => { results := [.lit (.bool true)], args := [d1, d2, d3, d4, d5, d6] }
  | _ => none }
def scoreClassesRow : OpenClaim := { program := "ytadpjidakippeaagreat", sum := "f4e93b4a3be36a84fad65e821401b7724a864e841ebaae47fc23627d4577c603", func := "abaculus/abaculuslaw9.ScoreClasses", spec := "scoreClasses", inPlace := ["math/bits.Add64", "math/bits.Sub64"], unfollowed := true, recurses := true, named := ["math/bits.divideError", "math/bits.overflowError"], apart := false }
def ScoreClassesSaid : Prop := scoreClassesRow.holds Tryz.pinned (OpenSpec.ofChange scoreClassesSpec)

/-- ITS FALSE NEIGHBOUR: 'it returns false'. Refute it at one input. -/
def scoreClassesWrong : ChangeSpec := { name := "scoreClasses", fn := fun _ => fun
  | [d1, d2, d3, d4, d5, d6] => { results := [.lit (.bool false)], args := [d1, d2, d3, d4, d5, d6] }
  | _ => none }
def ScoreClassesWrongFalsely : Prop := scoreClassesRow.holds Tryz.pinned (OpenSpec.ofChange scoreClassesWrong)

/-- 'abaculuslaw9.ScoreKnown': WHATEVER THE INPUT: true; the input reads as it did. -/
def scoreKnownSpec : ChangeSpec := { name := "scoreKnown", fn := fun _ => fun
  | [] => { results := [.lit (.bool true)], args := [] }
  | _ => none }
def scoreKnownRow : OpenClaim := { program := "ytadpjidakippeaagreat", sum := "f4e93b4a3be36a84fad65e821401b7724a864e841ebaae47fc23627d4577c603", func := "abaculus/abaculuslaw9.ScoreKnown", spec := "scoreKnown", inPlace := ["math/bits.Add64", "math/bits.Sub64"], unfollowed := true, recurses := true, named := ["math/bits.divideError", "math/bits.overflowError"], apart := false }
def ScoreKnownSaid : Prop := scoreKnownRow.holds Tryz.pinned (OpenSpec.ofChange scoreKnownSpec)

/-- ITS FALSE NEIGHBOUR: 'it returns false'. Refute it at one input. -/
def scoreKnownWrong : ChangeSpec := { name := "scoreKnown", fn := fun _ => fun
  | [] => { results := [.lit (.bool false)], args := [] }
  | _ => none }
def ScoreKnownWrongFalsely : Prop := scoreKnownRow.holds Tryz.pinned (OpenSpec.ofChange scoreKnownWrong)

/- THE SECOND FORM. 'bulk': how many values and letters a reading holds, each counted each time it is reached (what is shared counts as often as it is met; a slice's spare places count too). A statement '..UptoSaid' is the law's where the arguments, and the package variables that the reading takes, are together of bulk at most 1048576: NARROWER than '..Said'. Prove '..Said' where nothing that the law and all that it calls make is longer than what came in: it says more and counts as full. Else prove '..UptoSaid'. A law counts once. -/
mutual
def uptoBulk {H : Type} : DataW H → Nat
  | .lit (.string bytes) => bytes.length + 1
  | .lit _ => 1
  | .nil => 1
  | .ptr d => uptoBulk d + 1
  | .slice elems spare => uptoBulkAll elems + uptoBulkAll spare + 1
  | .agg parts => uptoBulkAll parts + 1
  | .iface _ d => uptoBulk d + 1
  | .map entries => uptoBulkEntries entries + 1
  | .held _ => 1
def uptoBulkAll {H : Type} : List (DataW H) → Nat
  | [] => 0
  | d :: r => uptoBulk d + uptoBulkAll r
def uptoBulkEntries {H : Type} : List (Lit × DataW H) → Nat
  | [] => 0
  | x :: r => uptoBulkEntry x + uptoBulkEntries r
def uptoBulkEntry {H : Type} : Lit × DataW H → Nat
  | (.string bytes, d) => bytes.length + uptoBulk d + 1
  | (_, d) => uptoBulk d + 1
 end
def uptoSmall : (H : Type) → List (DataW H) → Bool := fun _ ds => decide (uptoBulkAll ds ≤ 1048576)
def OpenSpec.upto (s : _root_.Go.ChangeSpec) : _root_.Go.OpenSpec := { _root_.Go.OpenSpec.ofChange s with cond := some uptoSmall }

/-- 'abaculuslaw9.ScoreClasses', WHERE WHAT IT READS IS OF BULK AT MOST 1048576: true; the input reads as it did. -/
def scoreClassesUptoRow : OpenClaim := { program := "ytadpjidakippeaagreat", sum := "f4e93b4a3be36a84fad65e821401b7724a864e841ebaae47fc23627d4577c603", func := "abaculus/abaculuslaw9.ScoreClasses", spec := "scoreClasses", inPlace := ["math/bits.Add64", "math/bits.Sub64"], unfollowed := true, recurses := true, named := ["math/bits.divideError", "math/bits.overflowError"], apart := false, narrowed := true }
def ScoreClassesUptoSaid : Prop := scoreClassesUptoRow.holds Tryz.pinned (OpenSpec.upto scoreClassesSpec)

/-- 'abaculuslaw9.ScoreKnown', WHERE WHAT IT READS IS OF BULK AT MOST 1048576: true; the input reads as it did. -/
def scoreKnownUptoRow : OpenClaim := { program := "ytadpjidakippeaagreat", sum := "f4e93b4a3be36a84fad65e821401b7724a864e841ebaae47fc23627d4577c603", func := "abaculus/abaculuslaw9.ScoreKnown", spec := "scoreKnown", inPlace := ["math/bits.Add64", "math/bits.Sub64"], unfollowed := true, recurses := true, named := ["math/bits.divideError", "math/bits.overflowError"], apart := false, narrowed := true }
def ScoreKnownUptoSaid : Prop := scoreKnownUptoRow.holds Tryz.pinned (OpenSpec.upto scoreKnownSpec)

end Rows
end Go.Proofs.YtadpjidakippeaaGreat
