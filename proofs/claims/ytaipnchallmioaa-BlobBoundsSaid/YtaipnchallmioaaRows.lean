/-
  No cell of these rows narrows 'for every input' (looked for: loops, veiled, ifaces, maps, wideKeys, modest, calm, conditions, laid).
  DERIVED. THE GIVEN ROWS OF THIS SEAT. 7 by the template 'for every input the law returns true; each argument reads behind the call as it read before'; 0 by the template 'total and deterministic' (their statements: YtaipnchallmioaaTotals.lean).
  GIVEN WITH THE SEED: the statements are not yours to turn. If you find one false, say at which input.
  Laid BY PROGRAM, IN A SANDBOX (cutbox-rows.mjs): the forced cells as the released guide's own fill.sh prints them over the translation db01b9bba57bdd76… (all of the seat's roots in one cut). By AI agents, Wed Nov 11 2026. No macro, syntax, notation, axiom, sorry.
-/
import Derived.Test.YtaipnchallmioaaChecked
import GoSem.Claim
import GoSem.ClaimJoined
import GoSem.ClaimMapViews
import Derived.JoinedTies
import Derived.KernelRfl
namespace Go.Proofs.Ytaipnchallmioaa
/- THE CELL 'sum', in the pinned program and in every row, IS THE sha256 OF THE DUMP (.gsa) THAT YtaipnchallmioaaProg.lean LOADS. Nothing in Lean hashes anything: it is a label: what it is worth is what the hold of that sum in a sandbox is worth. -/
noncomputable def Try.pinned : Pinned := { name := "ytaipnchallmioaa", sum := "db01b9bba57bdd769474ffb4c555a3a7fb0ff34ecaffbe0c479ae51f2104e617", checked := Try.checked }
namespace Rows
def none {H : Type} : Left H := { results := [], args := [] }

/-- 'truchmanlaw12.BlobWrites': WHATEVER THE INPUT: true; the input reads as it did. -/
def blobWritesSpec : ChangeSpec := { name := "blobWrites", fn := fun _ => fun
  | [d1, d2, d3] => { results := [.lit (.bool true)], args := [d1, d2, d3] }
  | _ => none }
def blobWritesRow : OpenClaim := { program := "ytaipnchallmioaa", sum := "db01b9bba57bdd769474ffb4c555a3a7fb0ff34ecaffbe0c479ae51f2104e617", func := "truchman/truchmanlaw12.BlobWrites", spec := "blobWrites", apart := false }
def BlobWritesSaid : Prop := blobWritesRow.holds Try.pinned (OpenSpec.ofChange blobWritesSpec)

/-- ITS FALSE NEIGHBOUR: 'it returns false'. Refute it at one input. -/
def blobWritesWrong : ChangeSpec := { name := "blobWrites", fn := fun _ => fun
  | [d1, d2, d3] => { results := [.lit (.bool false)], args := [d1, d2, d3] }
  | _ => none }
def BlobWritesWrongFalsely : Prop := blobWritesRow.holds Try.pinned (OpenSpec.ofChange blobWritesWrong)

/-- 'truchmanlaw12.BlobTwice': WHATEVER THE INPUT: true; the input reads as it did. -/
def blobTwiceSpec : ChangeSpec := { name := "blobTwice", fn := fun _ => fun
  | [d1, d2, d3, d4] => { results := [.lit (.bool true)], args := [d1, d2, d3, d4] }
  | _ => none }
def blobTwiceRow : OpenClaim := { program := "ytaipnchallmioaa", sum := "db01b9bba57bdd769474ffb4c555a3a7fb0ff34ecaffbe0c479ae51f2104e617", func := "truchman/truchmanlaw12.BlobTwice", spec := "blobTwice", apart := false }
def BlobTwiceSaid : Prop := blobTwiceRow.holds Try.pinned (OpenSpec.ofChange blobTwiceSpec)

/-- ITS FALSE NEIGHBOUR: 'it returns false'. Refute it at one input. -/
def blobTwiceWrong : ChangeSpec := { name := "blobTwice", fn := fun _ => fun
  | [d1, d2, d3, d4] => { results := [.lit (.bool false)], args := [d1, d2, d3, d4] }
  | _ => none }
def BlobTwiceWrongFalsely : Prop := blobTwiceRow.holds Try.pinned (OpenSpec.ofChange blobTwiceWrong)

/-- 'truchmanlaw12.BlobReads': WHATEVER THE INPUT: true; the input reads as it did. -/
def blobReadsSpec : ChangeSpec := { name := "blobReads", fn := fun _ => fun
  | [d1, d2, d3] => { results := [.lit (.bool true)], args := [d1, d2, d3] }
  | _ => none }
def blobReadsRow : OpenClaim := { program := "ytaipnchallmioaa", sum := "db01b9bba57bdd769474ffb4c555a3a7fb0ff34ecaffbe0c479ae51f2104e617", func := "truchman/truchmanlaw12.BlobReads", spec := "blobReads", apart := false }
def BlobReadsSaid : Prop := blobReadsRow.holds Try.pinned (OpenSpec.ofChange blobReadsSpec)

/-- ITS FALSE NEIGHBOUR: 'it returns false'. Refute it at one input. -/
def blobReadsWrong : ChangeSpec := { name := "blobReads", fn := fun _ => fun
  | [d1, d2, d3] => { results := [.lit (.bool false)], args := [d1, d2, d3] }
  | _ => none }
def BlobReadsWrongFalsely : Prop := blobReadsRow.holds Try.pinned (OpenSpec.ofChange blobReadsWrong)

/-- 'truchmanlaw12.BlobStays': WHATEVER THE INPUT: true; the input reads as it did. -/
def blobStaysSpec : ChangeSpec := { name := "blobStays", fn := fun _ => fun
  | [d1, d2, d3, d4] => { results := [.lit (.bool true)], args := [d1, d2, d3, d4] }
  | _ => none }
def blobStaysRow : OpenClaim := { program := "ytaipnchallmioaa", sum := "db01b9bba57bdd769474ffb4c555a3a7fb0ff34ecaffbe0c479ae51f2104e617", func := "truchman/truchmanlaw12.BlobStays", spec := "blobStays", apart := false }
def BlobStaysSaid : Prop := blobStaysRow.holds Try.pinned (OpenSpec.ofChange blobStaysSpec)

/-- ITS FALSE NEIGHBOUR: 'it returns false'. Refute it at one input. -/
def blobStaysWrong : ChangeSpec := { name := "blobStays", fn := fun _ => fun
  | [d1, d2, d3, d4] => { results := [.lit (.bool false)], args := [d1, d2, d3, d4] }
  | _ => none }
def BlobStaysWrongFalsely : Prop := blobStaysRow.holds Try.pinned (OpenSpec.ofChange blobStaysWrong)

/-- 'truchmanlaw12.BlobSizes': WHATEVER THE INPUT: true; the input reads as it did. -/
def blobSizesSpec : ChangeSpec := { name := "blobSizes", fn := fun _ => fun
  | [d1, d2] => { results := [.lit (.bool true)], args := [d1, d2] }
  | _ => none }
def blobSizesRow : OpenClaim := { program := "ytaipnchallmioaa", sum := "db01b9bba57bdd769474ffb4c555a3a7fb0ff34ecaffbe0c479ae51f2104e617", func := "truchman/truchmanlaw12.BlobSizes", spec := "blobSizes", apart := false }
def BlobSizesSaid : Prop := blobSizesRow.holds Try.pinned (OpenSpec.ofChange blobSizesSpec)

/-- ITS FALSE NEIGHBOUR: 'it returns false'. Refute it at one input. -/
def blobSizesWrong : ChangeSpec := { name := "blobSizes", fn := fun _ => fun
  | [d1, d2] => { results := [.lit (.bool false)], args := [d1, d2] }
  | _ => none }
def BlobSizesWrongFalsely : Prop := blobSizesRow.holds Try.pinned (OpenSpec.ofChange blobSizesWrong)

/-- 'truchmanlaw12.BlobFits': WHATEVER THE INPUT: true; the input reads as it did. -/
def blobFitsSpec : ChangeSpec := { name := "blobFits", fn := fun _ => fun
  | [d1, d2, d3, d4] => { results := [.lit (.bool true)], args := [d1, d2, d3, d4] }
  | _ => none }
def blobFitsRow : OpenClaim := { program := "ytaipnchallmioaa", sum := "db01b9bba57bdd769474ffb4c555a3a7fb0ff34ecaffbe0c479ae51f2104e617", func := "truchman/truchmanlaw12.BlobFits", spec := "blobFits", apart := false }
def BlobFitsSaid : Prop := blobFitsRow.holds Try.pinned (OpenSpec.ofChange blobFitsSpec)

/-- ITS FALSE NEIGHBOUR: 'it returns false'. Refute it at one input. -/
def blobFitsWrong : ChangeSpec := { name := "blobFits", fn := fun _ => fun
  | [d1, d2, d3, d4] => { results := [.lit (.bool false)], args := [d1, d2, d3, d4] }
  | _ => none }
def BlobFitsWrongFalsely : Prop := blobFitsRow.holds Try.pinned (OpenSpec.ofChange blobFitsWrong)

/-- 'truchmanlaw12.BlobBounds': WHATEVER THE INPUT: true; the input reads as it did. -/
def blobBoundsSpec : ChangeSpec := { name := "blobBounds", fn := fun _ => fun
  | [d1, d2, d3] => { results := [.lit (.bool true)], args := [d1, d2, d3] }
  | _ => none }
def blobBoundsRow : OpenClaim := { program := "ytaipnchallmioaa", sum := "db01b9bba57bdd769474ffb4c555a3a7fb0ff34ecaffbe0c479ae51f2104e617", func := "truchman/truchmanlaw12.BlobBounds", spec := "blobBounds", apart := false }
def BlobBoundsSaid : Prop := blobBoundsRow.holds Try.pinned (OpenSpec.ofChange blobBoundsSpec)

/-- ITS FALSE NEIGHBOUR: 'it returns false'. Refute it at one input. -/
def blobBoundsWrong : ChangeSpec := { name := "blobBounds", fn := fun _ => fun
  | [d1, d2, d3] => { results := [.lit (.bool false)], args := [d1, d2, d3] }
  | _ => none }
def BlobBoundsWrongFalsely : Prop := blobBoundsRow.holds Try.pinned (OpenSpec.ofChange blobBoundsWrong)

/- THE SECOND FORM. 'bulk': how many values and letters a reading holds, each counted each time it is reached (what is shared counts as often as it is met; a slice's spare places count too). A statement '..UptoSaid' is the law's where the arguments, and the package variables that the reading takes, are together of bulk at most 1048576: NARROWER than '..Said'. Prove '..Said' where nothing that the law and all that it calls make is longer than what came in: it says more and counts as full. Else prove '..UptoSaid'. A law counts once. -/
mutual
def uptoBulk {H : Type} : DataW H → Nat
  | .lit (.string bytes) => bytes.length + 1
  | .lit _ => 1
  | .nil => 1
  | .ptr d => uptoBulk d + 1
  | .slice elems spare => uptoBulkAll elems + uptoBulkAll spare + 1
  | .agg parts => uptoBulkAll parts + 1
  | .iface _ d => uptoBulk d + 1
  | .map entries => uptoBulkEntries entries + 1
  | .held _ => 1
def uptoBulkAll {H : Type} : List (DataW H) → Nat
  | [] => 0
  | d :: r => uptoBulk d + uptoBulkAll r
def uptoBulkEntries {H : Type} : List (Lit × DataW H) → Nat
  | [] => 0
  | x :: r => uptoBulkEntry x + uptoBulkEntries r
def uptoBulkEntry {H : Type} : Lit × DataW H → Nat
  | (.string bytes, d) => bytes.length + uptoBulk d + 1
  | (_, d) => uptoBulk d + 1
 end
def uptoSmall : (H : Type) → List (DataW H) → Bool := fun _ ds => decide (uptoBulkAll ds ≤ 1048576)
def OpenSpec.upto (s : _root_.Go.ChangeSpec) : _root_.Go.OpenSpec := { _root_.Go.OpenSpec.ofChange s with cond := some uptoSmall }

/-- 'truchmanlaw12.BlobWrites', WHERE WHAT IT READS IS OF BULK AT MOST 1048576: true; the input reads as it did. -/
def blobWritesUptoRow : OpenClaim := { program := "ytaipnchallmioaa", sum := "db01b9bba57bdd769474ffb4c555a3a7fb0ff34ecaffbe0c479ae51f2104e617", func := "truchman/truchmanlaw12.BlobWrites", spec := "blobWrites", apart := false, narrowed := true }
def BlobWritesUptoSaid : Prop := blobWritesUptoRow.holds Try.pinned (OpenSpec.upto blobWritesSpec)

/-- 'truchmanlaw12.BlobTwice', WHERE WHAT IT READS IS OF BULK AT MOST 1048576: true; the input reads as it did. -/
def blobTwiceUptoRow : OpenClaim := { program := "ytaipnchallmioaa", sum := "db01b9bba57bdd769474ffb4c555a3a7fb0ff34ecaffbe0c479ae51f2104e617", func := "truchman/truchmanlaw12.BlobTwice", spec := "blobTwice", apart := false, narrowed := true }
def BlobTwiceUptoSaid : Prop := blobTwiceUptoRow.holds Try.pinned (OpenSpec.upto blobTwiceSpec)

/-- 'truchmanlaw12.BlobReads', WHERE WHAT IT READS IS OF BULK AT MOST 1048576: true; the input reads as it did. -/
def blobReadsUptoRow : OpenClaim := { program := "ytaipnchallmioaa", sum := "db01b9bba57bdd769474ffb4c555a3a7fb0ff34ecaffbe0c479ae51f2104e617", func := "truchman/truchmanlaw12.BlobReads", spec := "blobReads", apart := false, narrowed := true }
def BlobReadsUptoSaid : Prop := blobReadsUptoRow.holds Try.pinned (OpenSpec.upto blobReadsSpec)

/-- 'truchmanlaw12.BlobStays', WHERE WHAT IT READS IS OF BULK AT MOST 1048576: true; the input reads as it did. -/
def blobStaysUptoRow : OpenClaim := { program := "ytaipnchallmioaa", sum := "db01b9bba57bdd769474ffb4c555a3a7fb0ff34ecaffbe0c479ae51f2104e617", func := "truchman/truchmanlaw12.BlobStays", spec := "blobStays", apart := false, narrowed := true }
def BlobStaysUptoSaid : Prop := blobStaysUptoRow.holds Try.pinned (OpenSpec.upto blobStaysSpec)

/-- 'truchmanlaw12.BlobSizes', WHERE WHAT IT READS IS OF BULK AT MOST 1048576: true; the input reads as it did. -/
def blobSizesUptoRow : OpenClaim := { program := "ytaipnchallmioaa", sum := "db01b9bba57bdd769474ffb4c555a3a7fb0ff34ecaffbe0c479ae51f2104e617", func := "truchman/truchmanlaw12.BlobSizes", spec := "blobSizes", apart := false, narrowed := true }
def BlobSizesUptoSaid : Prop := blobSizesUptoRow.holds Try.pinned (OpenSpec.upto blobSizesSpec)

/-- 'truchmanlaw12.BlobFits', WHERE WHAT IT READS IS OF BULK AT MOST 1048576: true; the input reads as it did. -/
def blobFitsUptoRow : OpenClaim := { program := "ytaipnchallmioaa", sum := "db01b9bba57bdd769474ffb4c555a3a7fb0ff34ecaffbe0c479ae51f2104e617", func := "truchman/truchmanlaw12.BlobFits", spec := "blobFits", apart := false, narrowed := true }
def BlobFitsUptoSaid : Prop := blobFitsUptoRow.holds Try.pinned (OpenSpec.upto blobFitsSpec)

/-- 'truchmanlaw12.BlobBounds', WHERE WHAT IT READS IS OF BULK AT MOST 1048576: true; the input reads as it did. -/
def blobBoundsUptoRow : OpenClaim := { program := "ytaipnchallmioaa", sum := "db01b9bba57bdd769474ffb4c555a3a7fb0ff34ecaffbe0c479ae51f2104e617", func := "truchman/truchmanlaw12.BlobBounds", spec := "blobBounds", apart := false, narrowed := true }
def BlobBoundsUptoSaid : Prop := blobBoundsUptoRow.holds Try.pinned (OpenSpec.upto blobBoundsSpec)

end Rows
end Go.Proofs.Ytaipnchallmioaa
