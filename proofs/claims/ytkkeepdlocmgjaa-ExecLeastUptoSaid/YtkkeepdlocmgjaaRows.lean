/-
  No cell of these rows narrows 'for every input' (looked for: loops, veiled, ifaces, maps, wideKeys, modest, calm, conditions, laid).
  DERIVED. THE GIVEN ROWS OF THIS SEAT. 6 by the template 'for every input the law returns true; each argument reads behind the call as it read before'; 0 by the template 'total and deterministic' (their statements: YtkkeepdlocmgjaaTotals.lean).
  GIVEN WITH THE SEED: the statements are not yours to turn. If you find one false, say at which input.
  Laid BY PROGRAM, IN A SANDBOX (cutbox-rows.mjs): the forced cells as the released guide's own fill.sh prints them over the translation 977ae2088dff8d53… (all of the seat's roots in one cut). By AI agents, Wed Nov 11 2026. No macro, syntax, notation, axiom, sorry.
-/
import Derived.Test.YtkkeepdlocmgjaaChecked
import GoSem.Claim
import GoSem.ClaimJoined
import GoSem.ClaimMapViews
import Derived.JoinedTies
import Derived.KernelRfl
namespace Go.Proofs.Ytkkeepdlocmgjaa
/- THE CELL 'sum', in the pinned program and in every row, IS THE sha256 OF THE DUMP (.gsa) THAT YtkkeepdlocmgjaaProg.lean LOADS. Nothing in Lean hashes anything: it is a label: what it is worth is what the hold of that sum in a sandbox is worth. -/
noncomputable def Try.pinned : Pinned := { name := "ytkkeepdlocmgjaa", sum := "977ae2088dff8d53c94b5ad09133acdbd532fdd75d2119c25e9ae78f83eb61b1", checked := Try.checked }
namespace Rows
def none {H : Type} : Left H := { results := [], args := [] }

/-- 'tammylaw20.ExecLeast': WHATEVER THE INPUT: true; the input reads as it did. -/
def execLeastSpec : ChangeSpec := { name := "execLeast", fn := fun _ => fun
  | [d1, d2] => { results := [.lit (.bool true)], args := [d1, d2] }
  | _ => none }
def execLeastRow : OpenClaim := { program := "ytkkeepdlocmgjaa", sum := "977ae2088dff8d53c94b5ad09133acdbd532fdd75d2119c25e9ae78f83eb61b1", func := "tammy/tammylaw20.ExecLeast", spec := "execLeast", unfollowed := true, recurses := true, apart := false }
def ExecLeastSaid : Prop := execLeastRow.holds Try.pinned (OpenSpec.ofChange execLeastSpec)

/-- ITS FALSE NEIGHBOUR: 'it returns false'. Refute it at one input. -/
def execLeastWrong : ChangeSpec := { name := "execLeast", fn := fun _ => fun
  | [d1, d2] => { results := [.lit (.bool false)], args := [d1, d2] }
  | _ => none }
def ExecLeastWrongFalsely : Prop := execLeastRow.holds Try.pinned (OpenSpec.ofChange execLeastWrong)

/-- 'tammylaw20.ExecStays': WHATEVER THE INPUT: true; the input reads as it did. -/
def execStaysSpec : ChangeSpec := { name := "execStays", fn := fun _ => fun
  | [d1, d2, d3] => { results := [.lit (.bool true)], args := [d1, d2, d3] }
  | _ => none }
def execStaysRow : OpenClaim := { program := "ytkkeepdlocmgjaa", sum := "977ae2088dff8d53c94b5ad09133acdbd532fdd75d2119c25e9ae78f83eb61b1", func := "tammy/tammylaw20.ExecStays", spec := "execStays", unfollowed := true, recurses := true, apart := false }
def ExecStaysSaid : Prop := execStaysRow.holds Try.pinned (OpenSpec.ofChange execStaysSpec)

/-- ITS FALSE NEIGHBOUR: 'it returns false'. Refute it at one input. -/
def execStaysWrong : ChangeSpec := { name := "execStays", fn := fun _ => fun
  | [d1, d2, d3] => { results := [.lit (.bool false)], args := [d1, d2, d3] }
  | _ => none }
def ExecStaysWrongFalsely : Prop := execStaysRow.holds Try.pinned (OpenSpec.ofChange execStaysWrong)

/-- 'tammylaw20.ExecPieces': WHATEVER THE INPUT: true; the input reads as it did. -/
def execPiecesSpec : ChangeSpec := { name := "execPieces", fn := fun _ => fun
  | [d1, d2, d3] => { results := [.lit (.bool true)], args := [d1, d2, d3] }
  | _ => none }
def execPiecesRow : OpenClaim := { program := "ytkkeepdlocmgjaa", sum := "977ae2088dff8d53c94b5ad09133acdbd532fdd75d2119c25e9ae78f83eb61b1", func := "tammy/tammylaw20.ExecPieces", spec := "execPieces", unfollowed := true, recurses := true, apart := false }
def ExecPiecesSaid : Prop := execPiecesRow.holds Try.pinned (OpenSpec.ofChange execPiecesSpec)

/-- ITS FALSE NEIGHBOUR: 'it returns false'. Refute it at one input. -/
def execPiecesWrong : ChangeSpec := { name := "execPieces", fn := fun _ => fun
  | [d1, d2, d3] => { results := [.lit (.bool false)], args := [d1, d2, d3] }
  | _ => none }
def ExecPiecesWrongFalsely : Prop := execPiecesRow.holds Try.pinned (OpenSpec.ofChange execPiecesWrong)

/-- 'tammylaw20.ExecSkips': WHATEVER THE INPUT: true; the input reads as it did. -/
def execSkipsSpec : ChangeSpec := { name := "execSkips", fn := fun _ => fun
  | [d1, d2] => { results := [.lit (.bool true)], args := [d1, d2] }
  | _ => none }
def execSkipsRow : OpenClaim := { program := "ytkkeepdlocmgjaa", sum := "977ae2088dff8d53c94b5ad09133acdbd532fdd75d2119c25e9ae78f83eb61b1", func := "tammy/tammylaw20.ExecSkips", spec := "execSkips", unfollowed := true, recurses := true, apart := false }
def ExecSkipsSaid : Prop := execSkipsRow.holds Try.pinned (OpenSpec.ofChange execSkipsSpec)

/-- ITS FALSE NEIGHBOUR: 'it returns false'. Refute it at one input. -/
def execSkipsWrong : ChangeSpec := { name := "execSkips", fn := fun _ => fun
  | [d1, d2] => { results := [.lit (.bool false)], args := [d1, d2] }
  | _ => none }
def ExecSkipsWrongFalsely : Prop := execSkipsRow.holds Try.pinned (OpenSpec.ofChange execSkipsWrong)

/-- 'tammylaw20.ExecEdges': WHATEVER THE INPUT: true; the input reads as it did. -/
def execEdgesSpec : ChangeSpec := { name := "execEdges", fn := fun _ => fun
  | [d1, d2] => { results := [.lit (.bool true)], args := [d1, d2] }
  | _ => none }
def execEdgesRow : OpenClaim := { program := "ytkkeepdlocmgjaa", sum := "977ae2088dff8d53c94b5ad09133acdbd532fdd75d2119c25e9ae78f83eb61b1", func := "tammy/tammylaw20.ExecEdges", spec := "execEdges", unfollowed := true, recurses := true, apart := false }
def ExecEdgesSaid : Prop := execEdgesRow.holds Try.pinned (OpenSpec.ofChange execEdgesSpec)

/-- ITS FALSE NEIGHBOUR: 'it returns false'. Refute it at one input. -/
def execEdgesWrong : ChangeSpec := { name := "execEdges", fn := fun _ => fun
  | [d1, d2] => { results := [.lit (.bool false)], args := [d1, d2] }
  | _ => none }
def ExecEdgesWrongFalsely : Prop := execEdgesRow.holds Try.pinned (OpenSpec.ofChange execEdgesWrong)

/-- 'tammylaw20.ExecCells': WHATEVER THE INPUT: true; the input reads as it did. -/
def execCellsSpec : ChangeSpec := { name := "execCells", fn := fun _ => fun
  | [d1, d2, d3] => { results := [.lit (.bool true)], args := [d1, d2, d3] }
  | _ => none }
def execCellsRow : OpenClaim := { program := "ytkkeepdlocmgjaa", sum := "977ae2088dff8d53c94b5ad09133acdbd532fdd75d2119c25e9ae78f83eb61b1", func := "tammy/tammylaw20.ExecCells", spec := "execCells", unfollowed := true, recurses := true, apart := false }
def ExecCellsSaid : Prop := execCellsRow.holds Try.pinned (OpenSpec.ofChange execCellsSpec)

/-- ITS FALSE NEIGHBOUR: 'it returns false'. Refute it at one input. -/
def execCellsWrong : ChangeSpec := { name := "execCells", fn := fun _ => fun
  | [d1, d2, d3] => { results := [.lit (.bool false)], args := [d1, d2, d3] }
  | _ => none }
def ExecCellsWrongFalsely : Prop := execCellsRow.holds Try.pinned (OpenSpec.ofChange execCellsWrong)

/- THE SECOND FORM. 'bulk': how many values and letters a reading holds, each counted each time it is reached (what is shared counts as often as it is met; a slice's spare places count too). A statement '..UptoSaid' is the law's where the arguments, and the package variables that the reading takes, are together of bulk at most 1048576: NARROWER than '..Said'. Prove '..Said' where nothing that the law and all that it calls make is longer than what came in: it says more and counts as full. Else prove '..UptoSaid'. A law counts once. -/
mutual
def uptoBulk {H : Type} : DataW H → Nat
  | .lit (.string bytes) => bytes.length + 1
  | .lit _ => 1
  | .nil => 1
  | .ptr d => uptoBulk d + 1
  | .slice elems spare => uptoBulkAll elems + uptoBulkAll spare + 1
  | .agg parts => uptoBulkAll parts + 1
  | .iface _ d => uptoBulk d + 1
  | .map entries => uptoBulkEntries entries + 1
  | .held _ => 1
def uptoBulkAll {H : Type} : List (DataW H) → Nat
  | [] => 0
  | d :: r => uptoBulk d + uptoBulkAll r
def uptoBulkEntries {H : Type} : List (Lit × DataW H) → Nat
  | [] => 0
  | x :: r => uptoBulkEntry x + uptoBulkEntries r
def uptoBulkEntry {H : Type} : Lit × DataW H → Nat
  | (.string bytes, d) => bytes.length + uptoBulk d + 1
  | (_, d) => uptoBulk d + 1
 end
def uptoSmall : (H : Type) → List (DataW H) → Bool := fun _ ds => decide (uptoBulkAll ds ≤ 1048576)
def OpenSpec.upto (s : _root_.Go.ChangeSpec) : _root_.Go.OpenSpec := { _root_.Go.OpenSpec.ofChange s with cond := some uptoSmall }

/-- 'tammylaw20.ExecLeast', WHERE WHAT IT READS IS OF BULK AT MOST 1048576: true; the input reads as it did. -/
def execLeastUptoRow : OpenClaim := { program := "ytkkeepdlocmgjaa", sum := "977ae2088dff8d53c94b5ad09133acdbd532fdd75d2119c25e9ae78f83eb61b1", func := "tammy/tammylaw20.ExecLeast", spec := "execLeast", unfollowed := true, recurses := true, apart := false, narrowed := true }
def ExecLeastUptoSaid : Prop := execLeastUptoRow.holds Try.pinned (OpenSpec.upto execLeastSpec)

/-- 'tammylaw20.ExecStays', WHERE WHAT IT READS IS OF BULK AT MOST 1048576: true; the input reads as it did. -/
def execStaysUptoRow : OpenClaim := { program := "ytkkeepdlocmgjaa", sum := "977ae2088dff8d53c94b5ad09133acdbd532fdd75d2119c25e9ae78f83eb61b1", func := "tammy/tammylaw20.ExecStays", spec := "execStays", unfollowed := true, recurses := true, apart := false, narrowed := true }
def ExecStaysUptoSaid : Prop := execStaysUptoRow.holds Try.pinned (OpenSpec.upto execStaysSpec)

/-- 'tammylaw20.ExecPieces', WHERE WHAT IT READS IS OF BULK AT MOST 1048576: true; the input reads as it did. -/
def execPiecesUptoRow : OpenClaim := { program := "ytkkeepdlocmgjaa", sum := "977ae2088dff8d53c94b5ad09133acdbd532fdd75d2119c25e9ae78f83eb61b1", func := "tammy/tammylaw20.ExecPieces", spec := "execPieces", unfollowed := true, recurses := true, apart := false, narrowed := true }
def ExecPiecesUptoSaid : Prop := execPiecesUptoRow.holds Try.pinned (OpenSpec.upto execPiecesSpec)

/-- 'tammylaw20.ExecSkips', WHERE WHAT IT READS IS OF BULK AT MOST 1048576: true; the input reads as it did. -/
def execSkipsUptoRow : OpenClaim := { program := "ytkkeepdlocmgjaa", sum := "977ae2088dff8d53c94b5ad09133acdbd532fdd75d2119c25e9ae78f83eb61b1", func := "tammy/tammylaw20.ExecSkips", spec := "execSkips", unfollowed := true, recurses := true, apart := false, narrowed := true }
def ExecSkipsUptoSaid : Prop := execSkipsUptoRow.holds Try.pinned (OpenSpec.upto execSkipsSpec)

/-- 'tammylaw20.ExecEdges', WHERE WHAT IT READS IS OF BULK AT MOST 1048576: true; the input reads as it did. -/
def execEdgesUptoRow : OpenClaim := { program := "ytkkeepdlocmgjaa", sum := "977ae2088dff8d53c94b5ad09133acdbd532fdd75d2119c25e9ae78f83eb61b1", func := "tammy/tammylaw20.ExecEdges", spec := "execEdges", unfollowed := true, recurses := true, apart := false, narrowed := true }
def ExecEdgesUptoSaid : Prop := execEdgesUptoRow.holds Try.pinned (OpenSpec.upto execEdgesSpec)

/-- 'tammylaw20.ExecCells', WHERE WHAT IT READS IS OF BULK AT MOST 1048576: true; the input reads as it did. -/
def execCellsUptoRow : OpenClaim := { program := "ytkkeepdlocmgjaa", sum := "977ae2088dff8d53c94b5ad09133acdbd532fdd75d2119c25e9ae78f83eb61b1", func := "tammy/tammylaw20.ExecCells", spec := "execCells", unfollowed := true, recurses := true, apart := false, narrowed := true }
def ExecCellsUptoSaid : Prop := execCellsUptoRow.holds Try.pinned (OpenSpec.upto execCellsSpec)

end Rows
end Go.Proofs.Ytkkeepdlocmgjaa
