/-
  NARROWER THAN 'FOR EVERY INPUT', by the rows' own cells (each row's printed sentence says how): SigAdds: laid · SigStays: laid · SigVaries: laid · SigNames: laid · SigSames: laid.
  DERIVED. THE GIVEN ROWS OF THIS SEAT. 5 by the template 'for every input the law returns true; each argument reads behind the call as it read before'; 0 by the template 'total and deterministic' (their statements: YtpdhpjgdboillaaDoorTotals.lean).
  GIVEN WITH THE SEED: the statements are not yours to turn. If you find one false, say at which input.
  Laid BY PROGRAM, IN A SANDBOX (cutbox-rows.mjs): the forced cells as the released guide's own fill.sh prints them over the translation bdbc60085bcd88b8… (all of the seat's roots in one cut). By AI agents, Wed Nov 11 2026. No macro, syntax, notation, axiom, sorry.
-/
import Derived.Test.YtpdhpjgdboillaaDoorChecked
import GoSem.PinnedTables
import GoSem.Claim
import GoSem.ClaimJoined
import GoSem.ClaimMapViews
import Derived.JoinedTies
import Derived.KernelRfl
namespace Go.Proofs.YtpdhpjgdboillaaDoor
/- THE CELL 'sum', in the pinned program and in every row, IS THE sha256 OF THE DUMP (.gsa) THAT YtpdhpjgdboillaaDoorProg.lean LOADS. Nothing in Lean hashes anything: it is a label: what it is worth is what the hold of that sum in a sandbox is worth. -/
noncomputable def Tryd.pinned : Pinned := { name := "ytpdhpjgdboillaadoor", sum := "bdbc60085bcd88b86ce3568a8f9a42f7a8d65507cf8f618c80137651a6f416b7", checked := Tryd.checked }
namespace Rows
def none {H : Type} : Left H := { results := [], args := [] }

/- WHAT THE LISTED PACKAGE-LEVEL VARIABLES READ AS WHEN THE CALL BEGINS. Each datum BY PROGRAM (the guide's laid-datum.mjs) off the statement by which the dump's own 'gosem.cut.vars' lays the variable. In a bare row this is a premise. The card (YtpdhpjgdboillaaDoorCards.lean) ties it to the program's text. -/
def laid_unicode_utf8_acceptRanges {H : Type} : DataW H := .agg [.agg [.lit (.int .u8 128), .lit (.int .u8 191)], .agg [.lit (.int .u8 160), .lit (.int .u8 191)], .agg [.lit (.int .u8 128), .lit (.int .u8 159)], .agg [.lit (.int .u8 144), .lit (.int .u8 191)], .agg [.lit (.int .u8 128), .lit (.int .u8 143)], .agg [.lit (.int .u8 0), .lit (.int .u8 0)], .agg [.lit (.int .u8 0), .lit (.int .u8 0)], .agg [.lit (.int .u8 0), .lit (.int .u8 0)], .agg [.lit (.int .u8 0), .lit (.int .u8 0)], .agg [.lit (.int .u8 0), .lit (.int .u8 0)], .agg [.lit (.int .u8 0), .lit (.int .u8 0)], .agg [.lit (.int .u8 0), .lit (.int .u8 0)], .agg [.lit (.int .u8 0), .lit (.int .u8 0)], .agg [.lit (.int .u8 0), .lit (.int .u8 0)], .agg [.lit (.int .u8 0), .lit (.int .u8 0)], .agg [.lit (.int .u8 0), .lit (.int .u8 0)]]
/-- One of Go's own tables, pinned by name: the form's constant. -/
def laid_unicode_utf8_first : DataW Unit := Go.Pinned.utf8First

/-- 'tammylaw01.SigAdds': WHATEVER THE INPUT: true; the input reads as it did. -/
def sigAddsSpec : ChangeSpec := { name := "sigAdds", fn := fun _ => fun
  | [d1, d2] => { results := [.lit (.bool true)], args := [d1, d2] }
  | _ => none }
def sigAddsRow : OpenClaim := { program := "ytpdhpjgdboillaadoor", sum := "bdbc60085bcd88b86ce3568a8f9a42f7a8d65507cf8f618c80137651a6f416b7", func := "tammy/tammylaw01.SigAdds", spec := "sigAdds", inPlace := ["internal/bytealg.IndexByteString", "internal/bytealg.IndexString"], unfollowed := true, recurses := true, named := ["unicode/utf8.first", "unicode/utf8.acceptRanges", "internal/bytealg.MaxLen"], apart := false, laid := [("unicode/utf8.acceptRanges", laid_unicode_utf8_acceptRanges), ("unicode/utf8.first", laid_unicode_utf8_first)] }
def SigAddsSaid : Prop := sigAddsRow.holds Tryd.pinned (OpenSpec.ofChange sigAddsSpec)

/-- ITS FALSE NEIGHBOUR: 'it returns false'. Refute it at one input. -/
def sigAddsWrong : ChangeSpec := { name := "sigAdds", fn := fun _ => fun
  | [d1, d2] => { results := [.lit (.bool false)], args := [d1, d2] }
  | _ => none }
def SigAddsWrongFalsely : Prop := sigAddsRow.holds Tryd.pinned (OpenSpec.ofChange sigAddsWrong)

/-- 'tammylaw01.SigStays': WHATEVER THE INPUT: true; the input reads as it did. -/
def sigStaysSpec : ChangeSpec := { name := "sigStays", fn := fun _ => fun
  | [d1, d2] => { results := [.lit (.bool true)], args := [d1, d2] }
  | _ => none }
def sigStaysRow : OpenClaim := { program := "ytpdhpjgdboillaadoor", sum := "bdbc60085bcd88b86ce3568a8f9a42f7a8d65507cf8f618c80137651a6f416b7", func := "tammy/tammylaw01.SigStays", spec := "sigStays", inPlace := ["internal/bytealg.IndexByteString", "internal/bytealg.IndexString"], unfollowed := true, recurses := true, named := ["unicode/utf8.first", "unicode/utf8.acceptRanges", "internal/bytealg.MaxLen"], apart := false, laid := [("unicode/utf8.acceptRanges", laid_unicode_utf8_acceptRanges), ("unicode/utf8.first", laid_unicode_utf8_first)] }
def SigStaysSaid : Prop := sigStaysRow.holds Tryd.pinned (OpenSpec.ofChange sigStaysSpec)

/-- ITS FALSE NEIGHBOUR: 'it returns false'. Refute it at one input. -/
def sigStaysWrong : ChangeSpec := { name := "sigStays", fn := fun _ => fun
  | [d1, d2] => { results := [.lit (.bool false)], args := [d1, d2] }
  | _ => none }
def SigStaysWrongFalsely : Prop := sigStaysRow.holds Tryd.pinned (OpenSpec.ofChange sigStaysWrong)

/-- 'tammylaw01.SigVaries': WHATEVER THE INPUT: true; the input reads as it did. -/
def sigVariesSpec : ChangeSpec := { name := "sigVaries", fn := fun _ => fun
  | [d1, d2, d3] => { results := [.lit (.bool true)], args := [d1, d2, d3] }
  | _ => none }
def sigVariesRow : OpenClaim := { program := "ytpdhpjgdboillaadoor", sum := "bdbc60085bcd88b86ce3568a8f9a42f7a8d65507cf8f618c80137651a6f416b7", func := "tammy/tammylaw01.SigVaries", spec := "sigVaries", inPlace := ["internal/bytealg.IndexByteString", "internal/bytealg.IndexString"], unfollowed := true, recurses := true, named := ["unicode/utf8.first", "unicode/utf8.acceptRanges", "internal/bytealg.MaxLen"], apart := false, laid := [("unicode/utf8.acceptRanges", laid_unicode_utf8_acceptRanges), ("unicode/utf8.first", laid_unicode_utf8_first)] }
def SigVariesSaid : Prop := sigVariesRow.holds Tryd.pinned (OpenSpec.ofChange sigVariesSpec)

/-- ITS FALSE NEIGHBOUR: 'it returns false'. Refute it at one input. -/
def sigVariesWrong : ChangeSpec := { name := "sigVaries", fn := fun _ => fun
  | [d1, d2, d3] => { results := [.lit (.bool false)], args := [d1, d2, d3] }
  | _ => none }
def SigVariesWrongFalsely : Prop := sigVariesRow.holds Tryd.pinned (OpenSpec.ofChange sigVariesWrong)

/-- 'tammylaw01.SigNames': WHATEVER THE INPUT: true; the input reads as it did. -/
def sigNamesSpec : ChangeSpec := { name := "sigNames", fn := fun _ => fun
  | [d1, d2] => { results := [.lit (.bool true)], args := [d1, d2] }
  | _ => none }
def sigNamesRow : OpenClaim := { program := "ytpdhpjgdboillaadoor", sum := "bdbc60085bcd88b86ce3568a8f9a42f7a8d65507cf8f618c80137651a6f416b7", func := "tammy/tammylaw01.SigNames", spec := "sigNames", inPlace := ["internal/bytealg.IndexByteString", "internal/bytealg.IndexString"], unfollowed := true, recurses := true, named := ["unicode/utf8.first", "unicode/utf8.acceptRanges", "internal/bytealg.MaxLen"], apart := false, laid := [("unicode/utf8.acceptRanges", laid_unicode_utf8_acceptRanges), ("unicode/utf8.first", laid_unicode_utf8_first)] }
def SigNamesSaid : Prop := sigNamesRow.holds Tryd.pinned (OpenSpec.ofChange sigNamesSpec)

/-- ITS FALSE NEIGHBOUR: 'it returns false'. Refute it at one input. -/
def sigNamesWrong : ChangeSpec := { name := "sigNames", fn := fun _ => fun
  | [d1, d2] => { results := [.lit (.bool false)], args := [d1, d2] }
  | _ => none }
def SigNamesWrongFalsely : Prop := sigNamesRow.holds Tryd.pinned (OpenSpec.ofChange sigNamesWrong)

/-- 'tammylaw01.SigSames': WHATEVER THE INPUT: true; the input reads as it did. -/
def sigSamesSpec : ChangeSpec := { name := "sigSames", fn := fun _ => fun
  | [d1, d2, d3] => { results := [.lit (.bool true)], args := [d1, d2, d3] }
  | _ => none }
def sigSamesRow : OpenClaim := { program := "ytpdhpjgdboillaadoor", sum := "bdbc60085bcd88b86ce3568a8f9a42f7a8d65507cf8f618c80137651a6f416b7", func := "tammy/tammylaw01.SigSames", spec := "sigSames", inPlace := ["internal/bytealg.IndexByteString", "internal/bytealg.IndexString"], unfollowed := true, recurses := true, named := ["unicode/utf8.first", "unicode/utf8.acceptRanges", "internal/bytealg.MaxLen"], apart := false, laid := [("unicode/utf8.acceptRanges", laid_unicode_utf8_acceptRanges), ("unicode/utf8.first", laid_unicode_utf8_first)] }
def SigSamesSaid : Prop := sigSamesRow.holds Tryd.pinned (OpenSpec.ofChange sigSamesSpec)

/-- ITS FALSE NEIGHBOUR: 'it returns false'. Refute it at one input. -/
def sigSamesWrong : ChangeSpec := { name := "sigSames", fn := fun _ => fun
  | [d1, d2, d3] => { results := [.lit (.bool false)], args := [d1, d2, d3] }
  | _ => none }
def SigSamesWrongFalsely : Prop := sigSamesRow.holds Tryd.pinned (OpenSpec.ofChange sigSamesWrong)

/- THE SECOND FORM. 'bulk': how many values and letters a reading holds, each counted each time it is reached (what is shared counts as often as it is met; a slice's spare places count too). A statement '..UptoSaid' is the law's where the arguments, and the package variables that the reading takes, are together of bulk at most 1048576: NARROWER than '..Said'. Prove '..Said' where nothing that the law and all that it calls make is longer than what came in: it says more and counts as full. Else prove '..UptoSaid'. A law counts once. -/
mutual
def uptoBulk {H : Type} : DataW H → Nat
  | .lit (.string bytes) => bytes.length + 1
  | .lit _ => 1
  | .nil => 1
  | .ptr d => uptoBulk d + 1
  | .slice elems spare => uptoBulkAll elems + uptoBulkAll spare + 1
  | .agg parts => uptoBulkAll parts + 1
  | .iface _ d => uptoBulk d + 1
  | .map entries => uptoBulkEntries entries + 1
  | .held _ => 1
def uptoBulkAll {H : Type} : List (DataW H) → Nat
  | [] => 0
  | d :: r => uptoBulk d + uptoBulkAll r
def uptoBulkEntries {H : Type} : List (Lit × DataW H) → Nat
  | [] => 0
  | x :: r => uptoBulkEntry x + uptoBulkEntries r
def uptoBulkEntry {H : Type} : Lit × DataW H → Nat
  | (.string bytes, d) => bytes.length + uptoBulk d + 1
  | (_, d) => uptoBulk d + 1
 end
def uptoSmall : (H : Type) → List (DataW H) → Bool := fun _ ds => decide (uptoBulkAll ds ≤ 1048576)
def OpenSpec.upto (s : _root_.Go.ChangeSpec) : _root_.Go.OpenSpec := { _root_.Go.OpenSpec.ofChange s with cond := some uptoSmall }

/-- 'tammylaw01.SigAdds', WHERE WHAT IT READS IS OF BULK AT MOST 1048576: true; the input reads as it did. -/
def sigAddsUptoRow : OpenClaim := { program := "ytpdhpjgdboillaadoor", sum := "bdbc60085bcd88b86ce3568a8f9a42f7a8d65507cf8f618c80137651a6f416b7", func := "tammy/tammylaw01.SigAdds", spec := "sigAdds", inPlace := ["internal/bytealg.IndexByteString", "internal/bytealg.IndexString"], unfollowed := true, recurses := true, named := ["unicode/utf8.first", "unicode/utf8.acceptRanges", "internal/bytealg.MaxLen"], apart := false, laid := [("unicode/utf8.acceptRanges", laid_unicode_utf8_acceptRanges), ("unicode/utf8.first", laid_unicode_utf8_first)], narrowed := true }
def SigAddsUptoSaid : Prop := sigAddsUptoRow.holds Tryd.pinned (OpenSpec.upto sigAddsSpec)

/-- 'tammylaw01.SigStays', WHERE WHAT IT READS IS OF BULK AT MOST 1048576: true; the input reads as it did. -/
def sigStaysUptoRow : OpenClaim := { program := "ytpdhpjgdboillaadoor", sum := "bdbc60085bcd88b86ce3568a8f9a42f7a8d65507cf8f618c80137651a6f416b7", func := "tammy/tammylaw01.SigStays", spec := "sigStays", inPlace := ["internal/bytealg.IndexByteString", "internal/bytealg.IndexString"], unfollowed := true, recurses := true, named := ["unicode/utf8.first", "unicode/utf8.acceptRanges", "internal/bytealg.MaxLen"], apart := false, laid := [("unicode/utf8.acceptRanges", laid_unicode_utf8_acceptRanges), ("unicode/utf8.first", laid_unicode_utf8_first)], narrowed := true }
def SigStaysUptoSaid : Prop := sigStaysUptoRow.holds Tryd.pinned (OpenSpec.upto sigStaysSpec)

/-- 'tammylaw01.SigVaries', WHERE WHAT IT READS IS OF BULK AT MOST 1048576: true; the input reads as it did. -/
def sigVariesUptoRow : OpenClaim := { program := "ytpdhpjgdboillaadoor", sum := "bdbc60085bcd88b86ce3568a8f9a42f7a8d65507cf8f618c80137651a6f416b7", func := "tammy/tammylaw01.SigVaries", spec := "sigVaries", inPlace := ["internal/bytealg.IndexByteString", "internal/bytealg.IndexString"], unfollowed := true, recurses := true, named := ["unicode/utf8.first", "unicode/utf8.acceptRanges", "internal/bytealg.MaxLen"], apart := false, laid := [("unicode/utf8.acceptRanges", laid_unicode_utf8_acceptRanges), ("unicode/utf8.first", laid_unicode_utf8_first)], narrowed := true }
def SigVariesUptoSaid : Prop := sigVariesUptoRow.holds Tryd.pinned (OpenSpec.upto sigVariesSpec)

/-- 'tammylaw01.SigNames', WHERE WHAT IT READS IS OF BULK AT MOST 1048576: true; the input reads as it did. -/
def sigNamesUptoRow : OpenClaim := { program := "ytpdhpjgdboillaadoor", sum := "bdbc60085bcd88b86ce3568a8f9a42f7a8d65507cf8f618c80137651a6f416b7", func := "tammy/tammylaw01.SigNames", spec := "sigNames", inPlace := ["internal/bytealg.IndexByteString", "internal/bytealg.IndexString"], unfollowed := true, recurses := true, named := ["unicode/utf8.first", "unicode/utf8.acceptRanges", "internal/bytealg.MaxLen"], apart := false, laid := [("unicode/utf8.acceptRanges", laid_unicode_utf8_acceptRanges), ("unicode/utf8.first", laid_unicode_utf8_first)], narrowed := true }
def SigNamesUptoSaid : Prop := sigNamesUptoRow.holds Tryd.pinned (OpenSpec.upto sigNamesSpec)

/-- 'tammylaw01.SigSames', WHERE WHAT IT READS IS OF BULK AT MOST 1048576: true; the input reads as it did. -/
def sigSamesUptoRow : OpenClaim := { program := "ytpdhpjgdboillaadoor", sum := "bdbc60085bcd88b86ce3568a8f9a42f7a8d65507cf8f618c80137651a6f416b7", func := "tammy/tammylaw01.SigSames", spec := "sigSames", inPlace := ["internal/bytealg.IndexByteString", "internal/bytealg.IndexString"], unfollowed := true, recurses := true, named := ["unicode/utf8.first", "unicode/utf8.acceptRanges", "internal/bytealg.MaxLen"], apart := false, laid := [("unicode/utf8.acceptRanges", laid_unicode_utf8_acceptRanges), ("unicode/utf8.first", laid_unicode_utf8_first)], narrowed := true }
def SigSamesUptoSaid : Prop := sigSamesUptoRow.holds Tryd.pinned (OpenSpec.upto sigSamesSpec)

end Rows
end Go.Proofs.YtpdhpjgdboillaaDoor
