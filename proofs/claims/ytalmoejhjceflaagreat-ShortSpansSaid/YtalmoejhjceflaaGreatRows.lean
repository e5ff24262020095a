/-
  No cell of these rows narrows 'for every input' (looked for: loops, veiled, ifaces, maps, wideKeys, modest, calm, conditions, laid).
  DERIVED. THE GIVEN ROWS OF THIS SEAT. 11 by the template 'for every input the law returns true; each argument reads behind the call as it read before'; 0 by the template 'total and deterministic' (their statements: YtalmoejhjceflaaGreatTotals.lean).
  GIVEN WITH THE SEED: the statements are not yours to turn. If you find one false, say at which input.
  Laid BY PROGRAM, IN A SANDBOX (cutbox-rows.mjs): the forced cells as the released guide's own fill.sh prints them over the translation 336a4ccd2eec9487… (all of the seat's roots in one cut). By AI agents, Wed Nov 11 2026. No macro, syntax, notation, axiom, sorry.
-/
import Derived.Test.YtalmoejhjceflaaGreatChecked
import GoSem.Claim
import GoSem.ClaimJoined
import GoSem.ClaimMapViews
import Derived.JoinedTies
import Derived.KernelRfl
namespace Go.Proofs.YtalmoejhjceflaaGreat
/- THE CELL 'sum', in the pinned program and in every row, IS THE sha256 OF THE DUMP (.gsa) THAT YtalmoejhjceflaaGreatProg.lean LOADS. Nothing in Lean hashes anything: it is a label: what it is worth is what the hold of that sum in a sandbox is worth. -/
noncomputable def Tryz.pinned : Pinned := { name := "ytalmoejhjceflaagreat", sum := "336a4ccd2eec948713145b0894506185fede55fa67c43e000afc6183ad3374e3", checked := Tryz.checked }
namespace Rows
def none {H : Type} : Left H := { results := [], args := [] }

/-- 'quadformlaw13.ShortMinimum': WHATEVER THE INPUT: true; the input reads as it did. -/
def shortMinimumSpec : ChangeSpec := { name := "shortMinimum", fn := fun _ => fun
  | [d1, d2] => { results := [.lit (.bool true)], args := [d1, d2] }
  | _ => none }
def shortMinimumRow : OpenClaim := { program := "ytalmoejhjceflaagreat", sum := "336a4ccd2eec948713145b0894506185fede55fa67c43e000afc6183ad3374e3", func := "quadform/quadformlaw13.ShortMinimum", spec := "shortMinimum", inPlace := ["math/bits.Add64", "math/bits.Sub64"], unfollowed := true, recurses := true, apart := false }
def ShortMinimumSaid : Prop := shortMinimumRow.holds Tryz.pinned (OpenSpec.ofChange shortMinimumSpec)

/-- ITS FALSE NEIGHBOUR: 'it returns false'. Refute it at one input. -/
def shortMinimumWrong : ChangeSpec := { name := "shortMinimum", fn := fun _ => fun
  | [d1, d2] => { results := [.lit (.bool false)], args := [d1, d2] }
  | _ => none }
def ShortMinimumWrongFalsely : Prop := shortMinimumRow.holds Tryz.pinned (OpenSpec.ofChange shortMinimumWrong)

/-- 'quadformlaw13.ShortTheta': WHATEVER THE INPUT: true; the input reads as it did. -/
def shortThetaSpec : ChangeSpec := { name := "shortTheta", fn := fun _ => fun
  | [d1, d2, d3] => { results := [.lit (.bool true)], args := [d1, d2, d3] }
  | _ => none }
def shortThetaRow : OpenClaim := { program := "ytalmoejhjceflaagreat", sum := "336a4ccd2eec948713145b0894506185fede55fa67c43e000afc6183ad3374e3", func := "quadform/quadformlaw13.ShortTheta", spec := "shortTheta", inPlace := ["math/bits.Add64", "math/bits.Sub64"], unfollowed := true, recurses := true, apart := false }
def ShortThetaSaid : Prop := shortThetaRow.holds Tryz.pinned (OpenSpec.ofChange shortThetaSpec)

/-- ITS FALSE NEIGHBOUR: 'it returns false'. Refute it at one input. -/
def shortThetaWrong : ChangeSpec := { name := "shortTheta", fn := fun _ => fun
  | [d1, d2, d3] => { results := [.lit (.bool false)], args := [d1, d2, d3] }
  | _ => none }
def ShortThetaWrongFalsely : Prop := shortThetaRow.holds Tryz.pinned (OpenSpec.ofChange shortThetaWrong)

/-- 'quadformlaw13.ShortLong': WHATEVER THE INPUT: true; the input reads as it did. -/
def shortLongSpec : ChangeSpec := { name := "shortLong", fn := fun _ => fun
  | [d] => { results := [.lit (.bool true)], args := [d] }
  | _ => none }
def shortLongRow : OpenClaim := { program := "ytalmoejhjceflaagreat", sum := "336a4ccd2eec948713145b0894506185fede55fa67c43e000afc6183ad3374e3", func := "quadform/quadformlaw13.ShortLong", spec := "shortLong", inPlace := ["math/bits.Add64", "math/bits.Sub64"], unfollowed := true, recurses := true, apart := false }
def ShortLongSaid : Prop := shortLongRow.holds Tryz.pinned (OpenSpec.ofChange shortLongSpec)

/-- ITS FALSE NEIGHBOUR: 'it returns false'. Refute it at one input. -/
def shortLongWrong : ChangeSpec := { name := "shortLong", fn := fun _ => fun
  | [d] => { results := [.lit (.bool false)], args := [d] }
  | _ => none }
def ShortLongWrongFalsely : Prop := shortLongRow.holds Tryz.pinned (OpenSpec.ofChange shortLongWrong)

/-- 'quadformlaw13.ShortEven': WHATEVER THE INPUT: true; the input reads as it did. -/
def shortEvenSpec : ChangeSpec := { name := "shortEven", fn := fun _ => fun
  | [d1, d2] => { results := [.lit (.bool true)], args := [d1, d2] }
  | _ => none }
def shortEvenRow : OpenClaim := { program := "ytalmoejhjceflaagreat", sum := "336a4ccd2eec948713145b0894506185fede55fa67c43e000afc6183ad3374e3", func := "quadform/quadformlaw13.ShortEven", spec := "shortEven", inPlace := ["math/bits.Add64", "math/bits.Sub64"], unfollowed := true, recurses := true, apart := false }
def ShortEvenSaid : Prop := shortEvenRow.holds Tryz.pinned (OpenSpec.ofChange shortEvenSpec)

/-- ITS FALSE NEIGHBOUR: 'it returns false'. Refute it at one input. -/
def shortEvenWrong : ChangeSpec := { name := "shortEven", fn := fun _ => fun
  | [d1, d2] => { results := [.lit (.bool false)], args := [d1, d2] }
  | _ => none }
def ShortEvenWrongFalsely : Prop := shortEvenRow.holds Tryz.pinned (OpenSpec.ofChange shortEvenWrong)

/-- 'quadformlaw13.ShortSums': WHATEVER THE INPUT: true; the input reads as it did. -/
def shortSumsSpec : ChangeSpec := { name := "shortSums", fn := fun _ => fun
  | [d1, d2, d3] => { results := [.lit (.bool true)], args := [d1, d2, d3] }
  | _ => none }
def shortSumsRow : OpenClaim := { program := "ytalmoejhjceflaagreat", sum := "336a4ccd2eec948713145b0894506185fede55fa67c43e000afc6183ad3374e3", func := "quadform/quadformlaw13.ShortSums", spec := "shortSums", inPlace := ["math/bits.Add64", "math/bits.Sub64"], unfollowed := true, recurses := true, apart := false }
def ShortSumsSaid : Prop := shortSumsRow.holds Tryz.pinned (OpenSpec.ofChange shortSumsSpec)

/-- ITS FALSE NEIGHBOUR: 'it returns false'. Refute it at one input. -/
def shortSumsWrong : ChangeSpec := { name := "shortSums", fn := fun _ => fun
  | [d1, d2, d3] => { results := [.lit (.bool false)], args := [d1, d2, d3] }
  | _ => none }
def ShortSumsWrongFalsely : Prop := shortSumsRow.holds Tryz.pinned (OpenSpec.ofChange shortSumsWrong)

/-- 'quadformlaw13.ShortRanks': WHATEVER THE INPUT: true; the input reads as it did. -/
def shortRanksSpec : ChangeSpec := { name := "shortRanks", fn := fun _ => fun
  | [d1, d2, d3, d4] => { results := [.lit (.bool true)], args := [d1, d2, d3, d4] }
  | _ => none }
def shortRanksRow : OpenClaim := { program := "ytalmoejhjceflaagreat", sum := "336a4ccd2eec948713145b0894506185fede55fa67c43e000afc6183ad3374e3", func := "quadform/quadformlaw13.ShortRanks", spec := "shortRanks", inPlace := ["math/bits.Add64", "math/bits.Sub64"], unfollowed := true, recurses := true, apart := false }
def ShortRanksSaid : Prop := shortRanksRow.holds Tryz.pinned (OpenSpec.ofChange shortRanksSpec)

/-- ITS FALSE NEIGHBOUR: 'it returns false'. Refute it at one input. -/
def shortRanksWrong : ChangeSpec := { name := "shortRanks", fn := fun _ => fun
  | [d1, d2, d3, d4] => { results := [.lit (.bool false)], args := [d1, d2, d3, d4] }
  | _ => none }
def ShortRanksWrongFalsely : Prop := shortRanksRow.holds Tryz.pinned (OpenSpec.ofChange shortRanksWrong)

/-- 'quadformlaw13.ShortMinima': WHATEVER THE INPUT: true; the input reads as it did. -/
def shortMinimaSpec : ChangeSpec := { name := "shortMinima", fn := fun _ => fun
  | [d1, d2] => { results := [.lit (.bool true)], args := [d1, d2] }
  | _ => none }
def shortMinimaRow : OpenClaim := { program := "ytalmoejhjceflaagreat", sum := "336a4ccd2eec948713145b0894506185fede55fa67c43e000afc6183ad3374e3", func := "quadform/quadformlaw13.ShortMinima", spec := "shortMinima", inPlace := ["math/bits.Add64", "math/bits.Sub64"], unfollowed := true, recurses := true, apart := false }
def ShortMinimaSaid : Prop := shortMinimaRow.holds Tryz.pinned (OpenSpec.ofChange shortMinimaSpec)

/-- ITS FALSE NEIGHBOUR: 'it returns false'. Refute it at one input. -/
def shortMinimaWrong : ChangeSpec := { name := "shortMinima", fn := fun _ => fun
  | [d1, d2] => { results := [.lit (.bool false)], args := [d1, d2] }
  | _ => none }
def ShortMinimaWrongFalsely : Prop := shortMinimaRow.holds Tryz.pinned (OpenSpec.ofChange shortMinimaWrong)

/-- 'quadformlaw13.ShortErrors': WHATEVER THE INPUT: true; the input reads as it did. -/
def shortErrorsSpec : ChangeSpec := { name := "shortErrors", fn := fun _ => fun
  | [d1, d2, d3, d4] => { results := [.lit (.bool true)], args := [d1, d2, d3, d4] }
  | _ => none }
def shortErrorsRow : OpenClaim := { program := "ytalmoejhjceflaagreat", sum := "336a4ccd2eec948713145b0894506185fede55fa67c43e000afc6183ad3374e3", func := "quadform/quadformlaw13.ShortErrors", spec := "shortErrors", inPlace := ["math/bits.Add64", "math/bits.Sub64"], unfollowed := true, recurses := true, apart := false }
def ShortErrorsSaid : Prop := shortErrorsRow.holds Tryz.pinned (OpenSpec.ofChange shortErrorsSpec)

/-- ITS FALSE NEIGHBOUR: 'it returns false'. Refute it at one input. -/
def shortErrorsWrong : ChangeSpec := { name := "shortErrors", fn := fun _ => fun
  | [d1, d2, d3, d4] => { results := [.lit (.bool false)], args := [d1, d2, d3, d4] }
  | _ => none }
def ShortErrorsWrongFalsely : Prop := shortErrorsRow.holds Tryz.pinned (OpenSpec.ofChange shortErrorsWrong)

/-- 'quadformlaw13.ShortBases': WHATEVER THE INPUT: true; the input reads as it did. -/
def shortBasesSpec : ChangeSpec := { name := "shortBases", fn := fun _ => fun
  | [d1, d2] => { results := [.lit (.bool true)], args := [d1, d2] }
  | _ => none }
def shortBasesRow : OpenClaim := { program := "ytalmoejhjceflaagreat", sum := "336a4ccd2eec948713145b0894506185fede55fa67c43e000afc6183ad3374e3", func := "quadform/quadformlaw13.ShortBases", spec := "shortBases", inPlace := ["math/bits.Add64", "math/bits.Sub64"], unfollowed := true, recurses := true, apart := false }
def ShortBasesSaid : Prop := shortBasesRow.holds Tryz.pinned (OpenSpec.ofChange shortBasesSpec)

/-- ITS FALSE NEIGHBOUR: 'it returns false'. Refute it at one input. -/
def shortBasesWrong : ChangeSpec := { name := "shortBases", fn := fun _ => fun
  | [d1, d2] => { results := [.lit (.bool false)], args := [d1, d2] }
  | _ => none }
def ShortBasesWrongFalsely : Prop := shortBasesRow.holds Tryz.pinned (OpenSpec.ofChange shortBasesWrong)

/-- 'quadformlaw13.ShortSpans': WHATEVER THE INPUT: true; the input reads as it did. -/
def shortSpansSpec : ChangeSpec := { name := "shortSpans", fn := fun _ => fun
  | [d] => { results := [.lit (.bool true)], args := [d] }
  | _ => none }
def shortSpansRow : OpenClaim := { program := "ytalmoejhjceflaagreat", sum := "336a4ccd2eec948713145b0894506185fede55fa67c43e000afc6183ad3374e3", func := "quadform/quadformlaw13.ShortSpans", spec := "shortSpans", inPlace := ["math/bits.Add64", "math/bits.Sub64"], unfollowed := true, recurses := true, apart := false }
def ShortSpansSaid : Prop := shortSpansRow.holds Tryz.pinned (OpenSpec.ofChange shortSpansSpec)

/-- ITS FALSE NEIGHBOUR: 'it returns false'. Refute it at one input. -/
def shortSpansWrong : ChangeSpec := { name := "shortSpans", fn := fun _ => fun
  | [d] => { results := [.lit (.bool false)], args := [d] }
  | _ => none }
def ShortSpansWrongFalsely : Prop := shortSpansRow.holds Tryz.pinned (OpenSpec.ofChange shortSpansWrong)

/-- 'quadformlaw13.ShortBounds': WHATEVER THE INPUT: true; the input reads as it did. -/
def shortBoundsSpec : ChangeSpec := { name := "shortBounds", fn := fun _ => fun
  | [d] => { results := [.lit (.bool true)], args := [d] }
  | _ => none }
def shortBoundsRow : OpenClaim := { program := "ytalmoejhjceflaagreat", sum := "336a4ccd2eec948713145b0894506185fede55fa67c43e000afc6183ad3374e3", func := "quadform/quadformlaw13.ShortBounds", spec := "shortBounds", inPlace := ["math/bits.Add64", "math/bits.Sub64"], unfollowed := true, recurses := true, apart := false }
def ShortBoundsSaid : Prop := shortBoundsRow.holds Tryz.pinned (OpenSpec.ofChange shortBoundsSpec)

/-- ITS FALSE NEIGHBOUR: 'it returns false'. Refute it at one input. -/
def shortBoundsWrong : ChangeSpec := { name := "shortBounds", fn := fun _ => fun
  | [d] => { results := [.lit (.bool false)], args := [d] }
  | _ => none }
def ShortBoundsWrongFalsely : Prop := shortBoundsRow.holds Tryz.pinned (OpenSpec.ofChange shortBoundsWrong)

/- THE SECOND FORM. 'bulk': how many values and letters a reading holds, each counted each time it is reached (what is shared counts as often as it is met; a slice's spare places count too). A statement '..UptoSaid' is the law's where the arguments, and the package variables that the reading takes, are together of bulk at most 1048576: NARROWER than '..Said'. Prove '..Said' where nothing that the law and all that it calls make is longer than what came in: it says more and counts as full. Else prove '..UptoSaid'. A law counts once. -/
mutual
def uptoBulk {H : Type} : DataW H → Nat
  | .lit (.string bytes) => bytes.length + 1
  | .lit _ => 1
  | .nil => 1
  | .ptr d => uptoBulk d + 1
  | .slice elems spare => uptoBulkAll elems + uptoBulkAll spare + 1
  | .agg parts => uptoBulkAll parts + 1
  | .iface _ d => uptoBulk d + 1
  | .map entries => uptoBulkEntries entries + 1
  | .held _ => 1
def uptoBulkAll {H : Type} : List (DataW H) → Nat
  | [] => 0
  | d :: r => uptoBulk d + uptoBulkAll r
def uptoBulkEntries {H : Type} : List (Lit × DataW H) → Nat
  | [] => 0
  | x :: r => uptoBulkEntry x + uptoBulkEntries r
def uptoBulkEntry {H : Type} : Lit × DataW H → Nat
  | (.string bytes, d) => bytes.length + uptoBulk d + 1
  | (_, d) => uptoBulk d + 1
 end
def uptoSmall : (H : Type) → List (DataW H) → Bool := fun _ ds => decide (uptoBulkAll ds ≤ 1048576)
def OpenSpec.upto (s : _root_.Go.ChangeSpec) : _root_.Go.OpenSpec := { _root_.Go.OpenSpec.ofChange s with cond := some uptoSmall }

/-- 'quadformlaw13.ShortMinimum', WHERE WHAT IT READS IS OF BULK AT MOST 1048576: true; the input reads as it did. -/
def shortMinimumUptoRow : OpenClaim := { program := "ytalmoejhjceflaagreat", sum := "336a4ccd2eec948713145b0894506185fede55fa67c43e000afc6183ad3374e3", func := "quadform/quadformlaw13.ShortMinimum", spec := "shortMinimum", inPlace := ["math/bits.Add64", "math/bits.Sub64"], unfollowed := true, recurses := true, apart := false, narrowed := true }
def ShortMinimumUptoSaid : Prop := shortMinimumUptoRow.holds Tryz.pinned (OpenSpec.upto shortMinimumSpec)

/-- 'quadformlaw13.ShortTheta', WHERE WHAT IT READS IS OF BULK AT MOST 1048576: true; the input reads as it did. -/
def shortThetaUptoRow : OpenClaim := { program := "ytalmoejhjceflaagreat", sum := "336a4ccd2eec948713145b0894506185fede55fa67c43e000afc6183ad3374e3", func := "quadform/quadformlaw13.ShortTheta", spec := "shortTheta", inPlace := ["math/bits.Add64", "math/bits.Sub64"], unfollowed := true, recurses := true, apart := false, narrowed := true }
def ShortThetaUptoSaid : Prop := shortThetaUptoRow.holds Tryz.pinned (OpenSpec.upto shortThetaSpec)

/-- 'quadformlaw13.ShortLong', WHERE WHAT IT READS IS OF BULK AT MOST 1048576: true; the input reads as it did. -/
def shortLongUptoRow : OpenClaim := { program := "ytalmoejhjceflaagreat", sum := "336a4ccd2eec948713145b0894506185fede55fa67c43e000afc6183ad3374e3", func := "quadform/quadformlaw13.ShortLong", spec := "shortLong", inPlace := ["math/bits.Add64", "math/bits.Sub64"], unfollowed := true, recurses := true, apart := false, narrowed := true }
def ShortLongUptoSaid : Prop := shortLongUptoRow.holds Tryz.pinned (OpenSpec.upto shortLongSpec)

/-- 'quadformlaw13.ShortEven', WHERE WHAT IT READS IS OF BULK AT MOST 1048576: true; the input reads as it did. -/
def shortEvenUptoRow : OpenClaim := { program := "ytalmoejhjceflaagreat", sum := "336a4ccd2eec948713145b0894506185fede55fa67c43e000afc6183ad3374e3", func := "quadform/quadformlaw13.ShortEven", spec := "shortEven", inPlace := ["math/bits.Add64", "math/bits.Sub64"], unfollowed := true, recurses := true, apart := false, narrowed := true }
def ShortEvenUptoSaid : Prop := shortEvenUptoRow.holds Tryz.pinned (OpenSpec.upto shortEvenSpec)

/-- 'quadformlaw13.ShortSums', WHERE WHAT IT READS IS OF BULK AT MOST 1048576: true; the input reads as it did. -/
def shortSumsUptoRow : OpenClaim := { program := "ytalmoejhjceflaagreat", sum := "336a4ccd2eec948713145b0894506185fede55fa67c43e000afc6183ad3374e3", func := "quadform/quadformlaw13.ShortSums", spec := "shortSums", inPlace := ["math/bits.Add64", "math/bits.Sub64"], unfollowed := true, recurses := true, apart := false, narrowed := true }
def ShortSumsUptoSaid : Prop := shortSumsUptoRow.holds Tryz.pinned (OpenSpec.upto shortSumsSpec)

/-- 'quadformlaw13.ShortRanks', WHERE WHAT IT READS IS OF BULK AT MOST 1048576: true; the input reads as it did. -/
def shortRanksUptoRow : OpenClaim := { program := "ytalmoejhjceflaagreat", sum := "336a4ccd2eec948713145b0894506185fede55fa67c43e000afc6183ad3374e3", func := "quadform/quadformlaw13.ShortRanks", spec := "shortRanks", inPlace := ["math/bits.Add64", "math/bits.Sub64"], unfollowed := true, recurses := true, apart := false, narrowed := true }
def ShortRanksUptoSaid : Prop := shortRanksUptoRow.holds Tryz.pinned (OpenSpec.upto shortRanksSpec)

/-- 'quadformlaw13.ShortMinima', WHERE WHAT IT READS IS OF BULK AT MOST 1048576: true; the input reads as it did. -/
def shortMinimaUptoRow : OpenClaim := { program := "ytalmoejhjceflaagreat", sum := "336a4ccd2eec948713145b0894506185fede55fa67c43e000afc6183ad3374e3", func := "quadform/quadformlaw13.ShortMinima", spec := "shortMinima", inPlace := ["math/bits.Add64", "math/bits.Sub64"], unfollowed := true, recurses := true, apart := false, narrowed := true }
def ShortMinimaUptoSaid : Prop := shortMinimaUptoRow.holds Tryz.pinned (OpenSpec.upto shortMinimaSpec)

/-- 'quadformlaw13.ShortErrors', WHERE WHAT IT READS IS OF BULK AT MOST 1048576: true; the input reads as it did. -/
def shortErrorsUptoRow : OpenClaim := { program := "ytalmoejhjceflaagreat", sum := "336a4ccd2eec948713145b0894506185fede55fa67c43e000afc6183ad3374e3", func := "quadform/quadformlaw13.ShortErrors", spec := "shortErrors", inPlace := ["math/bits.Add64", "math/bits.Sub64"], unfollowed := true, recurses := true, apart := false, narrowed := true }
def ShortErrorsUptoSaid : Prop := shortErrorsUptoRow.holds Tryz.pinned (OpenSpec.upto shortErrorsSpec)

/-- 'quadformlaw13.ShortBases', WHERE WHAT IT READS IS OF BULK AT MOST 1048576: true; the input reads as it did. -/
def shortBasesUptoRow : OpenClaim := { program := "ytalmoejhjceflaagreat", sum := "336a4ccd2eec948713145b0894506185fede55fa67c43e000afc6183ad3374e3", func := "quadform/quadformlaw13.ShortBases", spec := "shortBases", inPlace := ["math/bits.Add64", "math/bits.Sub64"], unfollowed := true, recurses := true, apart := false, narrowed := true }
def ShortBasesUptoSaid : Prop := shortBasesUptoRow.holds Tryz.pinned (OpenSpec.upto shortBasesSpec)

/-- 'quadformlaw13.ShortSpans', WHERE WHAT IT READS IS OF BULK AT MOST 1048576: true; the input reads as it did. -/
def shortSpansUptoRow : OpenClaim := { program := "ytalmoejhjceflaagreat", sum := "336a4ccd2eec948713145b0894506185fede55fa67c43e000afc6183ad3374e3", func := "quadform/quadformlaw13.ShortSpans", spec := "shortSpans", inPlace := ["math/bits.Add64", "math/bits.Sub64"], unfollowed := true, recurses := true, apart := false, narrowed := true }
def ShortSpansUptoSaid : Prop := shortSpansUptoRow.holds Tryz.pinned (OpenSpec.upto shortSpansSpec)

/-- 'quadformlaw13.ShortBounds', WHERE WHAT IT READS IS OF BULK AT MOST 1048576: true; the input reads as it did. -/
def shortBoundsUptoRow : OpenClaim := { program := "ytalmoejhjceflaagreat", sum := "336a4ccd2eec948713145b0894506185fede55fa67c43e000afc6183ad3374e3", func := "quadform/quadformlaw13.ShortBounds", spec := "shortBounds", inPlace := ["math/bits.Add64", "math/bits.Sub64"], unfollowed := true, recurses := true, apart := false, narrowed := true }
def ShortBoundsUptoSaid : Prop := shortBoundsUptoRow.holds Tryz.pinned (OpenSpec.upto shortBoundsSpec)

end Rows
end Go.Proofs.YtalmoejhjceflaaGreat
