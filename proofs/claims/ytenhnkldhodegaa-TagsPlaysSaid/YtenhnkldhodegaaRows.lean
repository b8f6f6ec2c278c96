/-
  No cell of these rows narrows 'for every input' (looked for: loops, veiled, ifaces, maps, wideKeys, modest, calm, conditions, laid).
  DERIVED. THE GIVEN ROWS OF THIS SEAT. 5 by the template 'for every input the law returns true; each argument reads behind the call as it read before'; 0 by the template 'total and deterministic' (their statements: YtenhnkldhodegaaTotals.lean).
  GIVEN WITH THE SEED: the statements are not yours to turn. If you find one false, say at which input.
  Laid BY PROGRAM, IN A SANDBOX (cutbox-rows.mjs): the forced cells as the released guide's own fill.sh prints them over the translation beaee999e58f2892… (all of the seat's roots in one cut). By AI agents, Wed Nov 11 2026. No macro, syntax, notation, axiom, sorry.
-/
import Derived.Test.YtenhnkldhodegaaChecked
import GoSem.Claim
import GoSem.ClaimJoined
import GoSem.ClaimMapViews
import Derived.JoinedTies
import Derived.KernelRfl
namespace Go.Proofs.Ytenhnkldhodegaa
/- THE CELL 'sum', in the pinned program and in every row, IS THE sha256 OF THE DUMP (.gsa) THAT YtenhnkldhodegaaProg.lean LOADS. Nothing in Lean hashes anything: it is a label: what it is worth is what the hold of that sum in a sandbox is worth. -/
noncomputable def Try.pinned : Pinned := { name := "ytenhnkldhodegaa", sum := "beaee999e58f2892a5ee1804baf2d829c7bf3595cd6dc2a895ef6d126cf2b43d", checked := Try.checked }
namespace Rows
def none {H : Type} : Left H := { results := [], args := [] }

/-- 'truchmanlaw22.TagsNews': WHATEVER THE INPUT: true; the input reads as it did. -/
def tagsNewsSpec : ChangeSpec := { name := "tagsNews", fn := fun _ => fun
  | [d] => { results := [.lit (.bool true)], args := [d] }
  | _ => none }
def tagsNewsRow : OpenClaim := { program := "ytenhnkldhodegaa", sum := "beaee999e58f2892a5ee1804baf2d829c7bf3595cd6dc2a895ef6d126cf2b43d", func := "truchman/truchmanlaw22.TagsNews", spec := "tagsNews", unfollowed := true, recurses := true, apart := false }
def TagsNewsSaid : Prop := tagsNewsRow.holds Try.pinned (OpenSpec.ofChange tagsNewsSpec)

/-- ITS FALSE NEIGHBOUR: 'it returns false'. Refute it at one input. -/
def tagsNewsWrong : ChangeSpec := { name := "tagsNews", fn := fun _ => fun
  | [d] => { results := [.lit (.bool false)], args := [d] }
  | _ => none }
def TagsNewsWrongFalsely : Prop := tagsNewsRow.holds Try.pinned (OpenSpec.ofChange tagsNewsWrong)

/-- 'truchmanlaw22.TagsOwns': WHATEVER THE INPUT: true; the input reads as it did. -/
def tagsOwnsSpec : ChangeSpec := { name := "tagsOwns", fn := fun _ => fun
  | [d1, d2] => { results := [.lit (.bool true)], args := [d1, d2] }
  | _ => none }
def tagsOwnsRow : OpenClaim := { program := "ytenhnkldhodegaa", sum := "beaee999e58f2892a5ee1804baf2d829c7bf3595cd6dc2a895ef6d126cf2b43d", func := "truchman/truchmanlaw22.TagsOwns", spec := "tagsOwns", unfollowed := true, recurses := true, apart := false }
def TagsOwnsSaid : Prop := tagsOwnsRow.holds Try.pinned (OpenSpec.ofChange tagsOwnsSpec)

/-- ITS FALSE NEIGHBOUR: 'it returns false'. Refute it at one input. -/
def tagsOwnsWrong : ChangeSpec := { name := "tagsOwns", fn := fun _ => fun
  | [d1, d2] => { results := [.lit (.bool false)], args := [d1, d2] }
  | _ => none }
def TagsOwnsWrongFalsely : Prop := tagsOwnsRow.holds Try.pinned (OpenSpec.ofChange tagsOwnsWrong)

/-- 'truchmanlaw22.TagsOnce': WHATEVER THE INPUT: true; the input reads as it did. -/
def tagsOnceSpec : ChangeSpec := { name := "tagsOnce", fn := fun _ => fun
  | [d1, d2] => { results := [.lit (.bool true)], args := [d1, d2] }
  | _ => none }
def tagsOnceRow : OpenClaim := { program := "ytenhnkldhodegaa", sum := "beaee999e58f2892a5ee1804baf2d829c7bf3595cd6dc2a895ef6d126cf2b43d", func := "truchman/truchmanlaw22.TagsOnce", spec := "tagsOnce", unfollowed := true, recurses := true, apart := false }
def TagsOnceSaid : Prop := tagsOnceRow.holds Try.pinned (OpenSpec.ofChange tagsOnceSpec)

/-- ITS FALSE NEIGHBOUR: 'it returns false'. Refute it at one input. -/
def tagsOnceWrong : ChangeSpec := { name := "tagsOnce", fn := fun _ => fun
  | [d1, d2] => { results := [.lit (.bool false)], args := [d1, d2] }
  | _ => none }
def TagsOnceWrongFalsely : Prop := tagsOnceRow.holds Try.pinned (OpenSpec.ofChange tagsOnceWrong)

/-- 'truchmanlaw22.TagsFlushes': WHATEVER THE INPUT: true; the input reads as it did. -/
def tagsFlushesSpec : ChangeSpec := { name := "tagsFlushes", fn := fun _ => fun
  | [d1, d2] => { results := [.lit (.bool true)], args := [d1, d2] }
  | _ => none }
def tagsFlushesRow : OpenClaim := { program := "ytenhnkldhodegaa", sum := "beaee999e58f2892a5ee1804baf2d829c7bf3595cd6dc2a895ef6d126cf2b43d", func := "truchman/truchmanlaw22.TagsFlushes", spec := "tagsFlushes", inPlace := ["internal/reflectlite.TypeOf"], unfollowed := true, recurses := true, apart := false }
def TagsFlushesSaid : Prop := tagsFlushesRow.holds Try.pinned (OpenSpec.ofChange tagsFlushesSpec)

/-- ITS FALSE NEIGHBOUR: 'it returns false'. Refute it at one input. -/
def tagsFlushesWrong : ChangeSpec := { name := "tagsFlushes", fn := fun _ => fun
  | [d1, d2] => { results := [.lit (.bool false)], args := [d1, d2] }
  | _ => none }
def TagsFlushesWrongFalsely : Prop := tagsFlushesRow.holds Try.pinned (OpenSpec.ofChange tagsFlushesWrong)

/-- 'truchmanlaw22.TagsPlays': WHATEVER THE INPUT: true; the input reads as it did. -/
def tagsPlaysSpec : ChangeSpec := { name := "tagsPlays", fn := fun _ => fun
  | [d1, d2] => { results := [.lit (.bool true)], args := [d1, d2] }
  | _ => none }
def tagsPlaysRow : OpenClaim := { program := "ytenhnkldhodegaa", sum := "beaee999e58f2892a5ee1804baf2d829c7bf3595cd6dc2a895ef6d126cf2b43d", func := "truchman/truchmanlaw22.TagsPlays", spec := "tagsPlays", inPlace := ["internal/reflectlite.TypeOf"], unfollowed := true, recurses := true, apart := false }
def TagsPlaysSaid : Prop := tagsPlaysRow.holds Try.pinned (OpenSpec.ofChange tagsPlaysSpec)

/-- ITS FALSE NEIGHBOUR: 'it returns false'. Refute it at one input. -/
def tagsPlaysWrong : ChangeSpec := { name := "tagsPlays", fn := fun _ => fun
  | [d1, d2] => { results := [.lit (.bool false)], args := [d1, d2] }
  | _ => none }
def TagsPlaysWrongFalsely : Prop := tagsPlaysRow.holds Try.pinned (OpenSpec.ofChange tagsPlaysWrong)

/- THE SECOND FORM. 'bulk': how many values and letters a reading holds, each counted each time it is reached (what is shared counts as often as it is met; a slice's spare places count too). A statement '..UptoSaid' is the law's where the arguments, and the package variables that the reading takes, are together of bulk at most 1048576: NARROWER than '..Said'. Prove '..Said' where nothing that the law and all that it calls make is longer than what came in: it says more and counts as full. Else prove '..UptoSaid'. A law counts once. -/
mutual
def uptoBulk {H : Type} : DataW H → Nat
  | .lit (.string bytes) => bytes.length + 1
  | .lit _ => 1
  | .nil => 1
  | .ptr d => uptoBulk d + 1
  | .slice elems spare => uptoBulkAll elems + uptoBulkAll spare + 1
  | .agg parts => uptoBulkAll parts + 1
  | .iface _ d => uptoBulk d + 1
  | .map entries => uptoBulkEntries entries + 1
  | .held _ => 1
def uptoBulkAll {H : Type} : List (DataW H) → Nat
  | [] => 0
  | d :: r => uptoBulk d + uptoBulkAll r
def uptoBulkEntries {H : Type} : List (Lit × DataW H) → Nat
  | [] => 0
  | x :: r => uptoBulkEntry x + uptoBulkEntries r
def uptoBulkEntry {H : Type} : Lit × DataW H → Nat
  | (.string bytes, d) => bytes.length + uptoBulk d + 1
  | (_, d) => uptoBulk d + 1
 end
def uptoSmall : (H : Type) → List (DataW H) → Bool := fun _ ds => decide (uptoBulkAll ds ≤ 1048576)
def OpenSpec.upto (s : _root_.Go.ChangeSpec) : _root_.Go.OpenSpec := { _root_.Go.OpenSpec.ofChange s with cond := some uptoSmall }

/-- 'truchmanlaw22.TagsNews', WHERE WHAT IT READS IS OF BULK AT MOST 1048576: true; the input reads as it did. -/
def tagsNewsUptoRow : OpenClaim := { program := "ytenhnkldhodegaa", sum := "beaee999e58f2892a5ee1804baf2d829c7bf3595cd6dc2a895ef6d126cf2b43d", func := "truchman/truchmanlaw22.TagsNews", spec := "tagsNews", unfollowed := true, recurses := true, apart := false, narrowed := true }
def TagsNewsUptoSaid : Prop := tagsNewsUptoRow.holds Try.pinned (OpenSpec.upto tagsNewsSpec)

/-- 'truchmanlaw22.TagsOwns', WHERE WHAT IT READS IS OF BULK AT MOST 1048576: true; the input reads as it did. -/
def tagsOwnsUptoRow : OpenClaim := { program := "ytenhnkldhodegaa", sum := "beaee999e58f2892a5ee1804baf2d829c7bf3595cd6dc2a895ef6d126cf2b43d", func := "truchman/truchmanlaw22.TagsOwns", spec := "tagsOwns", unfollowed := true, recurses := true, apart := false, narrowed := true }
def TagsOwnsUptoSaid : Prop := tagsOwnsUptoRow.holds Try.pinned (OpenSpec.upto tagsOwnsSpec)

/-- 'truchmanlaw22.TagsOnce', WHERE WHAT IT READS IS OF BULK AT MOST 1048576: true; the input reads as it did. -/
def tagsOnceUptoRow : OpenClaim := { program := "ytenhnkldhodegaa", sum := "beaee999e58f2892a5ee1804baf2d829c7bf3595cd6dc2a895ef6d126cf2b43d", func := "truchman/truchmanlaw22.TagsOnce", spec := "tagsOnce", unfollowed := true, recurses := true, apart := false, narrowed := true }
def TagsOnceUptoSaid : Prop := tagsOnceUptoRow.holds Try.pinned (OpenSpec.upto tagsOnceSpec)

/-- 'truchmanlaw22.TagsFlushes', WHERE WHAT IT READS IS OF BULK AT MOST 1048576: true; the input reads as it did. -/
def tagsFlushesUptoRow : OpenClaim := { program := "ytenhnkldhodegaa", sum := "beaee999e58f2892a5ee1804baf2d829c7bf3595cd6dc2a895ef6d126cf2b43d", func := "truchman/truchmanlaw22.TagsFlushes", spec := "tagsFlushes", inPlace := ["internal/reflectlite.TypeOf"], unfollowed := true, recurses := true, apart := false, narrowed := true }
def TagsFlushesUptoSaid : Prop := tagsFlushesUptoRow.holds Try.pinned (OpenSpec.upto tagsFlushesSpec)

/-- 'truchmanlaw22.TagsPlays', WHERE WHAT IT READS IS OF BULK AT MOST 1048576: true; the input reads as it did. -/
def tagsPlaysUptoRow : OpenClaim := { program := "ytenhnkldhodegaa", sum := "beaee999e58f2892a5ee1804baf2d829c7bf3595cd6dc2a895ef6d126cf2b43d", func := "truchman/truchmanlaw22.TagsPlays", spec := "tagsPlays", inPlace := ["internal/reflectlite.TypeOf"], unfollowed := true, recurses := true, apart := false, narrowed := true }
def TagsPlaysUptoSaid : Prop := tagsPlaysUptoRow.holds Try.pinned (OpenSpec.upto tagsPlaysSpec)

end Rows
end Go.Proofs.Ytenhnkldhodegaa
