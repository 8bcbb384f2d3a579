/-
  No cell of these rows narrows 'for every input' (looked for: loops, veiled, ifaces, maps, wideKeys, modest, calm, conditions, laid).
  DERIVED. THE GIVEN ROWS OF THIS SEAT. 8 by the template 'for every input the law returns true; each argument reads behind the call as it read before'; 0 by the template 'total and deterministic' (their statements: YtpdjffpdanmoeaaGreatTotals.lean).
  GIVEN WITH THE SEED: the statements are not yours to turn. If you find one false, say at which input.
  Laid BY PROGRAM, IN A SANDBOX (cutbox-rows.mjs): the forced cells as the released guide's own fill.sh prints them over the translation b7869e9b7e328af3… (all of the seat's roots in one cut). By AI agents, Wed Nov 11 2026. No macro, syntax, notation, axiom, sorry.
-/
import Derived.Test.YtpdjffpdanmoeaaGreatChecked
import GoSem.Claim
import GoSem.ClaimJoined
import GoSem.ClaimMapViews
import Derived.JoinedTies
import Derived.KernelRfl
namespace Go.Proofs.YtpdjffpdanmoeaaGreat
/- THE CELL 'sum', in the pinned program and in every row, IS THE sha256 OF THE DUMP (.gsa) THAT YtpdjffpdanmoeaaGreatProg.lean LOADS. Nothing in Lean hashes anything: it is a label: what it is worth is what the hold of that sum in a sandbox is worth. -/
noncomputable def Tryz.pinned : Pinned := { name := "ytpdjffpdanmoeaagreat", sum := "b7869e9b7e328af302b0e54f3b504e7b666e1f2e28b92cb41f59287bfa4d25f8", checked := Tryz.checked }
namespace Rows
def none {H : Type} : Left H := { results := [], args := [] }

/-- 'tammylaw15.LeastTells': WHATEVER THE INPUT: true; the input reads as it did. -/
def leastTellsSpec : ChangeSpec := { name := "leastTells", fn := fun _ => fun
  | [d1, d2, d3] => { results := [.lit (.bool true)], args := [d1, d2, d3] }
  | _ => none }
def leastTellsRow : OpenClaim := { program := "ytpdjffpdanmoeaagreat", sum := "b7869e9b7e328af302b0e54f3b504e7b666e1f2e28b92cb41f59287bfa4d25f8", func := "tammy/tammylaw15.LeastTells", spec := "leastTells", unfollowed := true, recurses := true, apart := false }
def LeastTellsSaid : Prop := leastTellsRow.holds Tryz.pinned (OpenSpec.ofChange leastTellsSpec)

/-- ITS FALSE NEIGHBOUR: 'it returns false'. Refute it at one input. -/
def leastTellsWrong : ChangeSpec := { name := "leastTells", fn := fun _ => fun
  | [d1, d2, d3] => { results := [.lit (.bool false)], args := [d1, d2, d3] }
  | _ => none }
def LeastTellsWrongFalsely : Prop := leastTellsRow.holds Tryz.pinned (OpenSpec.ofChange leastTellsWrong)

/-- 'tammylaw15.LeastIs': WHATEVER THE INPUT: true; the input reads as it did. -/
def leastIsSpec : ChangeSpec := { name := "leastIs", fn := fun _ => fun
  | [d] => { results := [.lit (.bool true)], args := [d] }
  | _ => none }
def leastIsRow : OpenClaim := { program := "ytpdjffpdanmoeaagreat", sum := "b7869e9b7e328af302b0e54f3b504e7b666e1f2e28b92cb41f59287bfa4d25f8", func := "tammy/tammylaw15.LeastIs", spec := "leastIs", unfollowed := true, recurses := true, apart := false }
def LeastIsSaid : Prop := leastIsRow.holds Tryz.pinned (OpenSpec.ofChange leastIsSpec)

/-- ITS FALSE NEIGHBOUR: 'it returns false'. Refute it at one input. -/
def leastIsWrong : ChangeSpec := { name := "leastIs", fn := fun _ => fun
  | [d] => { results := [.lit (.bool false)], args := [d] }
  | _ => none }
def LeastIsWrongFalsely : Prop := leastIsRow.holds Tryz.pinned (OpenSpec.ofChange leastIsWrong)

/-- 'tammylaw15.LeastAny': WHATEVER THE INPUT: true; the input reads as it did. -/
def leastAnySpec : ChangeSpec := { name := "leastAny", fn := fun _ => fun
  | [d1, d2, d3] => { results := [.lit (.bool true)], args := [d1, d2, d3] }
  | _ => none }
def leastAnyRow : OpenClaim := { program := "ytpdjffpdanmoeaagreat", sum := "b7869e9b7e328af302b0e54f3b504e7b666e1f2e28b92cb41f59287bfa4d25f8", func := "tammy/tammylaw15.LeastAny", spec := "leastAny", unfollowed := true, recurses := true, apart := false }
def LeastAnySaid : Prop := leastAnyRow.holds Tryz.pinned (OpenSpec.ofChange leastAnySpec)

/-- ITS FALSE NEIGHBOUR: 'it returns false'. Refute it at one input. -/
def leastAnyWrong : ChangeSpec := { name := "leastAny", fn := fun _ => fun
  | [d1, d2, d3] => { results := [.lit (.bool false)], args := [d1, d2, d3] }
  | _ => none }
def LeastAnyWrongFalsely : Prop := leastAnyRow.holds Tryz.pinned (OpenSpec.ofChange leastAnyWrong)

/-- 'tammylaw15.LeastOrder': WHATEVER THE INPUT: true; the input reads as it did. -/
def leastOrderSpec : ChangeSpec := { name := "leastOrder", fn := fun _ => fun
  | [d] => { results := [.lit (.bool true)], args := [d] }
  | _ => none }
def leastOrderRow : OpenClaim := { program := "ytpdjffpdanmoeaagreat", sum := "b7869e9b7e328af302b0e54f3b504e7b666e1f2e28b92cb41f59287bfa4d25f8", func := "tammy/tammylaw15.LeastOrder", spec := "leastOrder", unfollowed := true, recurses := true, apart := false }
def LeastOrderSaid : Prop := leastOrderRow.holds Tryz.pinned (OpenSpec.ofChange leastOrderSpec)

/-- ITS FALSE NEIGHBOUR: 'it returns false'. Refute it at one input. -/
def leastOrderWrong : ChangeSpec := { name := "leastOrder", fn := fun _ => fun
  | [d] => { results := [.lit (.bool false)], args := [d] }
  | _ => none }
def LeastOrderWrongFalsely : Prop := leastOrderRow.holds Tryz.pinned (OpenSpec.ofChange leastOrderWrong)

/-- 'tammylaw15.LeastClass': WHATEVER THE INPUT: true; the input reads as it did. -/
def leastClassSpec : ChangeSpec := { name := "leastClass", fn := fun _ => fun
  | [d1, d2, d3] => { results := [.lit (.bool true)], args := [d1, d2, d3] }
  | _ => none }
def leastClassRow : OpenClaim := { program := "ytpdjffpdanmoeaagreat", sum := "b7869e9b7e328af302b0e54f3b504e7b666e1f2e28b92cb41f59287bfa4d25f8", func := "tammy/tammylaw15.LeastClass", spec := "leastClass", unfollowed := true, recurses := true, apart := false }
def LeastClassSaid : Prop := leastClassRow.holds Tryz.pinned (OpenSpec.ofChange leastClassSpec)

/-- ITS FALSE NEIGHBOUR: 'it returns false'. Refute it at one input. -/
def leastClassWrong : ChangeSpec := { name := "leastClass", fn := fun _ => fun
  | [d1, d2, d3] => { results := [.lit (.bool false)], args := [d1, d2, d3] }
  | _ => none }
def LeastClassWrongFalsely : Prop := leastClassRow.holds Tryz.pinned (OpenSpec.ofChange leastClassWrong)

/-- 'tammylaw15.LeastPut': WHATEVER THE INPUT: true; the input reads as it did. -/
def leastPutSpec : ChangeSpec := { name := "leastPut", fn := fun _ => fun
  | [d] => { results := [.lit (.bool true)], args := [d] }
  | _ => none }
def leastPutRow : OpenClaim := { program := "ytpdjffpdanmoeaagreat", sum := "b7869e9b7e328af302b0e54f3b504e7b666e1f2e28b92cb41f59287bfa4d25f8", func := "tammy/tammylaw15.LeastPut", spec := "leastPut", unfollowed := true, recurses := true, apart := false }
def LeastPutSaid : Prop := leastPutRow.holds Tryz.pinned (OpenSpec.ofChange leastPutSpec)

/-- ITS FALSE NEIGHBOUR: 'it returns false'. Refute it at one input. -/
def leastPutWrong : ChangeSpec := { name := "leastPut", fn := fun _ => fun
  | [d] => { results := [.lit (.bool false)], args := [d] }
  | _ => none }
def LeastPutWrongFalsely : Prop := leastPutRow.holds Tryz.pinned (OpenSpec.ofChange leastPutWrong)

/-- 'tammylaw15.LeastMore': WHATEVER THE INPUT: true; the input reads as it did. -/
def leastMoreSpec : ChangeSpec := { name := "leastMore", fn := fun _ => fun
  | [d1, d2] => { results := [.lit (.bool true)], args := [d1, d2] }
  | _ => none }
def leastMoreRow : OpenClaim := { program := "ytpdjffpdanmoeaagreat", sum := "b7869e9b7e328af302b0e54f3b504e7b666e1f2e28b92cb41f59287bfa4d25f8", func := "tammy/tammylaw15.LeastMore", spec := "leastMore", unfollowed := true, recurses := true, apart := false }
def LeastMoreSaid : Prop := leastMoreRow.holds Tryz.pinned (OpenSpec.ofChange leastMoreSpec)

/-- ITS FALSE NEIGHBOUR: 'it returns false'. Refute it at one input. -/
def leastMoreWrong : ChangeSpec := { name := "leastMore", fn := fun _ => fun
  | [d1, d2] => { results := [.lit (.bool false)], args := [d1, d2] }
  | _ => none }
def LeastMoreWrongFalsely : Prop := leastMoreRow.holds Tryz.pinned (OpenSpec.ofChange leastMoreWrong)

/-- 'tammylaw15.LeastBoth': WHATEVER THE INPUT: true; the input reads as it did. -/
def leastBothSpec : ChangeSpec := { name := "leastBoth", fn := fun _ => fun
  | [d1, d2] => { results := [.lit (.bool true)], args := [d1, d2] }
  | _ => none }
def leastBothRow : OpenClaim := { program := "ytpdjffpdanmoeaagreat", sum := "b7869e9b7e328af302b0e54f3b504e7b666e1f2e28b92cb41f59287bfa4d25f8", func := "tammy/tammylaw15.LeastBoth", spec := "leastBoth", unfollowed := true, recurses := true, apart := false }
def LeastBothSaid : Prop := leastBothRow.holds Tryz.pinned (OpenSpec.ofChange leastBothSpec)

/-- ITS FALSE NEIGHBOUR: 'it returns false'. Refute it at one input. -/
def leastBothWrong : ChangeSpec := { name := "leastBoth", fn := fun _ => fun
  | [d1, d2] => { results := [.lit (.bool false)], args := [d1, d2] }
  | _ => none }
def LeastBothWrongFalsely : Prop := leastBothRow.holds Tryz.pinned (OpenSpec.ofChange leastBothWrong)

/- THE SECOND FORM. 'bulk': how many values and letters a reading holds, each counted each time it is reached (what is shared counts as often as it is met; a slice's spare places count too). A statement '..UptoSaid' is the law's where the arguments, and the package variables that the reading takes, are together of bulk at most 1048576: NARROWER than '..Said'. Prove '..Said' where nothing that the law and all that it calls make is longer than what came in: it says more and counts as full. Else prove '..UptoSaid'. A law counts once. -/
mutual
def uptoBulk {H : Type} : DataW H → Nat
  | .lit (.string bytes) => bytes.length + 1
  | .lit _ => 1
  | .nil => 1
  | .ptr d => uptoBulk d + 1
  | .slice elems spare => uptoBulkAll elems + uptoBulkAll spare + 1
  | .agg parts => uptoBulkAll parts + 1
  | .iface _ d => uptoBulk d + 1
  | .map entries => uptoBulkEntries entries + 1
  | .held _ => 1
def uptoBulkAll {H : Type} : List (DataW H) → Nat
  | [] => 0
  | d :: r => uptoBulk d + uptoBulkAll r
def uptoBulkEntries {H : Type} : List (Lit × DataW H) → Nat
  | [] => 0
  | x :: r => uptoBulkEntry x + uptoBulkEntries r
def uptoBulkEntry {H : Type} : Lit × DataW H → Nat
  | (.string bytes, d) => bytes.length + uptoBulk d + 1
  | (_, d) => uptoBulk d + 1
 end
def uptoSmall : (H : Type) → List (DataW H) → Bool := fun _ ds => decide (uptoBulkAll ds ≤ 1048576)
def OpenSpec.upto (s : _root_.Go.ChangeSpec) : _root_.Go.OpenSpec := { _root_.Go.OpenSpec.ofChange s with cond := some uptoSmall }

/-- 'tammylaw15.LeastTells', WHERE WHAT IT READS IS OF BULK AT MOST 1048576: true; the input reads as it did. -/
def leastTellsUptoRow : OpenClaim := { program := "ytpdjffpdanmoeaagreat", sum := "b7869e9b7e328af302b0e54f3b504e7b666e1f2e28b92cb41f59287bfa4d25f8", func := "tammy/tammylaw15.LeastTells", spec := "leastTells", unfollowed := true, recurses := true, apart := false, narrowed := true }
def LeastTellsUptoSaid : Prop := leastTellsUptoRow.holds Tryz.pinned (OpenSpec.upto leastTellsSpec)

/-- 'tammylaw15.LeastIs', WHERE WHAT IT READS IS OF BULK AT MOST 1048576: true; the input reads as it did. -/
def leastIsUptoRow : OpenClaim := { program := "ytpdjffpdanmoeaagreat", sum := "b7869e9b7e328af302b0e54f3b504e7b666e1f2e28b92cb41f59287bfa4d25f8", func := "tammy/tammylaw15.LeastIs", spec := "leastIs", unfollowed := true, recurses := true, apart := false, narrowed := true }
def LeastIsUptoSaid : Prop := leastIsUptoRow.holds Tryz.pinned (OpenSpec.upto leastIsSpec)

/-- 'tammylaw15.LeastAny', WHERE WHAT IT READS IS OF BULK AT MOST 1048576: true; the input reads as it did. -/
def leastAnyUptoRow : OpenClaim := { program := "ytpdjffpdanmoeaagreat", sum := "b7869e9b7e328af302b0e54f3b504e7b666e1f2e28b92cb41f59287bfa4d25f8", func := "tammy/tammylaw15.LeastAny", spec := "leastAny", unfollowed := true, recurses := true, apart := false, narrowed := true }
def LeastAnyUptoSaid : Prop := leastAnyUptoRow.holds Tryz.pinned (OpenSpec.upto leastAnySpec)

/-- 'tammylaw15.LeastOrder', WHERE WHAT IT READS IS OF BULK AT MOST 1048576: true; the input reads as it did. -/
def leastOrderUptoRow : OpenClaim := { program := "ytpdjffpdanmoeaagreat", sum := "b7869e9b7e328af302b0e54f3b504e7b666e1f2e28b92cb41f59287bfa4d25f8", func := "tammy/tammylaw15.LeastOrder", spec := "leastOrder", unfollowed := true, recurses := true, apart := false, narrowed := true }
def LeastOrderUptoSaid : Prop := leastOrderUptoRow.holds Tryz.pinned (OpenSpec.upto leastOrderSpec)

/-- 'tammylaw15.LeastClass', WHERE WHAT IT READS IS OF BULK AT MOST 1048576: true; the input reads as it did. -/
def leastClassUptoRow : OpenClaim := { program := "ytpdjffpdanmoeaagreat", sum := "b7869e9b7e328af302b0e54f3b504e7b666e1f2e28b92cb41f59287bfa4d25f8", func := "tammy/tammylaw15.LeastClass", spec := "leastClass", unfollowed := true, recurses := true, apart := false, narrowed := true }
def LeastClassUptoSaid : Prop := leastClassUptoRow.holds Tryz.pinned (OpenSpec.upto leastClassSpec)

/-- 'tammylaw15.LeastPut', WHERE WHAT IT READS IS OF BULK AT MOST 1048576: true; the input reads as it did. -/
def leastPutUptoRow : OpenClaim := { program := "ytpdjffpdanmoeaagreat", sum := "b7869e9b7e328af302b0e54f3b504e7b666e1f2e28b92cb41f59287bfa4d25f8", func := "tammy/tammylaw15.LeastPut", spec := "leastPut", unfollowed := true, recurses := true, apart := false, narrowed := true }
def LeastPutUptoSaid : Prop := leastPutUptoRow.holds Tryz.pinned (OpenSpec.upto leastPutSpec)

/-- 'tammylaw15.LeastMore', WHERE WHAT IT READS IS OF BULK AT MOST 1048576: true; the input reads as it did. -/
def leastMoreUptoRow : OpenClaim := { program := "ytpdjffpdanmoeaagreat", sum := "b7869e9b7e328af302b0e54f3b504e7b666e1f2e28b92cb41f59287bfa4d25f8", func := "tammy/tammylaw15.LeastMore", spec := "leastMore", unfollowed := true, recurses := true, apart := false, narrowed := true }
def LeastMoreUptoSaid : Prop := leastMoreUptoRow.holds Tryz.pinned (OpenSpec.upto leastMoreSpec)

/-- 'tammylaw15.LeastBoth', WHERE WHAT IT READS IS OF BULK AT MOST 1048576: true; the input reads as it did. -/
def leastBothUptoRow : OpenClaim := { program := "ytpdjffpdanmoeaagreat", sum := "b7869e9b7e328af302b0e54f3b504e7b666e1f2e28b92cb41f59287bfa4d25f8", func := "tammy/tammylaw15.LeastBoth", spec := "leastBoth", unfollowed := true, recurses := true, apart := false, narrowed := true }
def LeastBothUptoSaid : Prop := leastBothUptoRow.holds Tryz.pinned (OpenSpec.upto leastBothSpec)

end Rows
end Go.Proofs.YtpdjffpdanmoeaaGreat
