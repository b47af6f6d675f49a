/-
  NARROWER THAN 'FOR EVERY INPUT', by the rows' own cells (each row's printed sentence says how): ClientSubmits: laid · ClientNew: laid · ClusterNew: laid.
  DERIVED. THE GIVEN ROWS OF THIS SEAT. 3 by the template 'for every input the law returns true; each argument reads behind the call as it read before'; 0 by the template 'total and deterministic' (their statements: YtebdmlmbdfnkfaaGreatDoorTotals.lean).
  GIVEN WITH THE SEED: the statements are not yours to turn. If you find one false, say at which input.
  Laid BY PROGRAM, IN A SANDBOX (cutbox-rows.mjs): the forced cells as the released guide's own fill.sh prints them over the translation 24a038ad534adb1c… (all of the seat's roots in one cut). By AI agents, Wed Nov 11 2026. No macro, syntax, notation, axiom, sorry.
-/
import Derived.Test.YtebdmlmbdfnkfaaGreatDoorChecked
import GoSem.Claim
import GoSem.ClaimJoined
import GoSem.ClaimMapViews
import Derived.JoinedTies
import Derived.KernelRfl
namespace Go.Proofs.YtebdmlmbdfnkfaaGreatDoor
/- THE CELL 'sum', in the pinned program and in every row, IS THE sha256 OF THE DUMP (.gsa) THAT YtebdmlmbdfnkfaaGreatDoorProg.lean LOADS. Nothing in Lean hashes anything: it is a label: what it is worth is what the hold of that sum in a sandbox is worth. -/
noncomputable def Tryz.pinned : Pinned := { name := "ytebdmlmbdfnkfaagreatdoor", sum := "24a038ad534adb1c3ce2548142773fece4d276a377c7c8bd568955a4e395937e", checked := Tryz.checked }
namespace Rows
def none {H : Type} : Left H := { results := [], args := [] }

/- WHAT THE LISTED PACKAGE-LEVEL VARIABLES READ AS WHEN THE CALL BEGINS. Each datum BY PROGRAM (the guide's laid-datum.mjs) off the statement by which the dump's own 'gosem.cut.vars' lays the variable. In a bare row this is a premise. The card (YtebdmlmbdfnkfaaGreatDoorCards.lean) ties it to the program's text. -/
def laid_bodega_hashindex_none {H : Type} : DataW H := .agg [.lit (.int .i64 0), .lit (.int .i64 0)]
def laid_bodega_btree_none {H : Type} : DataW H := .agg [.lit (.int .i64 0), .lit (.int .i64 0)]

/-- 'bodegalaw32.ClientSubmits': WHATEVER THE INPUT: true; the input reads as it did. -/
def clientSubmitsSpec : ChangeSpec := { name := "clientSubmits", fn := fun _ => fun
  | [d1, d2, d3, d4] => { results := [.lit (.bool true)], args := [d1, d2, d3, d4] }
  | _ => none }
def clientSubmitsRow : OpenClaim := { program := "ytebdmlmbdfnkfaagreatdoor", sum := "24a038ad534adb1c3ce2548142773fece4d276a377c7c8bd568955a4e395937e", func := "bodega/bodegalaw32.ClientSubmits", spec := "clientSubmits", inPlace := ["internal/abi.NoEscape", "internal/bytealg.MakeNoZero", "slices.overlaps[bodega/hashindex.Entry]", "math/bits.Add64", "slices.overlaps[bodega/api.Page]", "internal/bytealg.IndexByteString", "internal/bytealg.IndexString"], unfollowed := true, recurses := true, named := ["bodega/hashindex.none", "bodega/btree.none", "internal/bytealg.MaxLen"], apart := false, laid := [("bodega/hashindex.none", laid_bodega_hashindex_none), ("bodega/btree.none", laid_bodega_btree_none)] }
def ClientSubmitsSaid : Prop := clientSubmitsRow.holds Tryz.pinned (OpenSpec.ofChange clientSubmitsSpec)

/-- ITS FALSE NEIGHBOUR: 'it returns false'. Refute it at one input. -/
def clientSubmitsWrong : ChangeSpec := { name := "clientSubmits", fn := fun _ => fun
  | [d1, d2, d3, d4] => { results := [.lit (.bool false)], args := [d1, d2, d3, d4] }
  | _ => none }
def ClientSubmitsWrongFalsely : Prop := clientSubmitsRow.holds Tryz.pinned (OpenSpec.ofChange clientSubmitsWrong)

/-- 'bodegalaw32.ClientNew': WHATEVER THE INPUT: true; the input reads as it did. -/
def clientNewSpec : ChangeSpec := { name := "clientNew", fn := fun _ => fun
  | [d1, d2, d3] => { results := [.lit (.bool true)], args := [d1, d2, d3] }
  | _ => none }
def clientNewRow : OpenClaim := { program := "ytebdmlmbdfnkfaagreatdoor", sum := "24a038ad534adb1c3ce2548142773fece4d276a377c7c8bd568955a4e395937e", func := "bodega/bodegalaw32.ClientNew", spec := "clientNew", inPlace := ["internal/abi.NoEscape", "internal/bytealg.MakeNoZero", "slices.overlaps[bodega/hashindex.Entry]", "math/bits.Add64", "slices.overlaps[bodega/api.Page]", "internal/bytealg.IndexByteString", "internal/bytealg.IndexString"], unfollowed := true, recurses := true, named := ["bodega/hashindex.none", "bodega/btree.none", "internal/bytealg.MaxLen"], apart := false, laid := [("bodega/hashindex.none", laid_bodega_hashindex_none), ("bodega/btree.none", laid_bodega_btree_none)] }
def ClientNewSaid : Prop := clientNewRow.holds Tryz.pinned (OpenSpec.ofChange clientNewSpec)

/-- ITS FALSE NEIGHBOUR: 'it returns false'. Refute it at one input. -/
def clientNewWrong : ChangeSpec := { name := "clientNew", fn := fun _ => fun
  | [d1, d2, d3] => { results := [.lit (.bool false)], args := [d1, d2, d3] }
  | _ => none }
def ClientNewWrongFalsely : Prop := clientNewRow.holds Tryz.pinned (OpenSpec.ofChange clientNewWrong)

/-- 'bodegalaw33.ClusterNew': WHATEVER THE INPUT: true; the input reads as it did. -/
def clusterNewSpec : ChangeSpec := { name := "clusterNew", fn := fun _ => fun
  | [d1, d2] => { results := [.lit (.bool true)], args := [d1, d2] }
  | _ => none }
def clusterNewRow : OpenClaim := { program := "ytebdmlmbdfnkfaagreatdoor", sum := "24a038ad534adb1c3ce2548142773fece4d276a377c7c8bd568955a4e395937e", func := "bodega/bodegalaw33.ClusterNew", spec := "clusterNew", inPlace := ["internal/abi.NoEscape", "internal/bytealg.MakeNoZero", "slices.overlaps[bodega/hashindex.Entry]", "math/bits.Add64", "slices.overlaps[bodega/api.Page]", "internal/bytealg.IndexByteString", "internal/bytealg.IndexString"], unfollowed := true, recurses := true, named := ["bodega/hashindex.none", "bodega/btree.none", "internal/bytealg.MaxLen"], apart := false, laid := [("bodega/hashindex.none", laid_bodega_hashindex_none), ("bodega/btree.none", laid_bodega_btree_none)] }
def ClusterNewSaid : Prop := clusterNewRow.holds Tryz.pinned (OpenSpec.ofChange clusterNewSpec)

/-- ITS FALSE NEIGHBOUR: 'it returns false'. Refute it at one input. -/
def clusterNewWrong : ChangeSpec := { name := "clusterNew", fn := fun _ => fun
  | [d1, d2] => { results := [.lit (.bool false)], args := [d1, d2] }
  | _ => none }
def ClusterNewWrongFalsely : Prop := clusterNewRow.holds Tryz.pinned (OpenSpec.ofChange clusterNewWrong)

/- THE SECOND FORM. 'bulk': how many values and letters a reading holds, each counted each time it is reached (what is shared counts as often as it is met; a slice's spare places count too). A statement '..UptoSaid' is the law's where the arguments, and the package variables that the reading takes, are together of bulk at most 1048576: NARROWER than '..Said'. Prove '..Said' where nothing that the law and all that it calls make is longer than what came in: it says more and counts as full. Else prove '..UptoSaid'. A law counts once. -/
mutual
def uptoBulk {H : Type} : DataW H → Nat
  | .lit (.string bytes) => bytes.length + 1
  | .lit _ => 1
  | .nil => 1
  | .ptr d => uptoBulk d + 1
  | .slice elems spare => uptoBulkAll elems + uptoBulkAll spare + 1
  | .agg parts => uptoBulkAll parts + 1
  | .iface _ d => uptoBulk d + 1
  | .map entries => uptoBulkEntries entries + 1
  | .held _ => 1
def uptoBulkAll {H : Type} : List (DataW H) → Nat
  | [] => 0
  | d :: r => uptoBulk d + uptoBulkAll r
def uptoBulkEntries {H : Type} : List (Lit × DataW H) → Nat
  | [] => 0
  | x :: r => uptoBulkEntry x + uptoBulkEntries r
def uptoBulkEntry {H : Type} : Lit × DataW H → Nat
  | (.string bytes, d) => bytes.length + uptoBulk d + 1
  | (_, d) => uptoBulk d + 1
 end
def uptoSmall : (H : Type) → List (DataW H) → Bool := fun _ ds => decide (uptoBulkAll ds ≤ 1048576)
def OpenSpec.upto (s : _root_.Go.ChangeSpec) : _root_.Go.OpenSpec := { _root_.Go.OpenSpec.ofChange s with cond := some uptoSmall }

/-- 'bodegalaw32.ClientSubmits', WHERE WHAT IT READS IS OF BULK AT MOST 1048576: true; the input reads as it did. -/
def clientSubmitsUptoRow : OpenClaim := { program := "ytebdmlmbdfnkfaagreatdoor", sum := "24a038ad534adb1c3ce2548142773fece4d276a377c7c8bd568955a4e395937e", func := "bodega/bodegalaw32.ClientSubmits", spec := "clientSubmits", inPlace := ["internal/abi.NoEscape", "internal/bytealg.MakeNoZero", "slices.overlaps[bodega/hashindex.Entry]", "math/bits.Add64", "slices.overlaps[bodega/api.Page]", "internal/bytealg.IndexByteString", "internal/bytealg.IndexString"], unfollowed := true, recurses := true, named := ["bodega/hashindex.none", "bodega/btree.none", "internal/bytealg.MaxLen"], apart := false, laid := [("bodega/hashindex.none", laid_bodega_hashindex_none), ("bodega/btree.none", laid_bodega_btree_none)], narrowed := true }
def ClientSubmitsUptoSaid : Prop := clientSubmitsUptoRow.holds Tryz.pinned (OpenSpec.upto clientSubmitsSpec)

/-- 'bodegalaw32.ClientNew', WHERE WHAT IT READS IS OF BULK AT MOST 1048576: true; the input reads as it did. -/
def clientNewUptoRow : OpenClaim := { program := "ytebdmlmbdfnkfaagreatdoor", sum := "24a038ad534adb1c3ce2548142773fece4d276a377c7c8bd568955a4e395937e", func := "bodega/bodegalaw32.ClientNew", spec := "clientNew", inPlace := ["internal/abi.NoEscape", "internal/bytealg.MakeNoZero", "slices.overlaps[bodega/hashindex.Entry]", "math/bits.Add64", "slices.overlaps[bodega/api.Page]", "internal/bytealg.IndexByteString", "internal/bytealg.IndexString"], unfollowed := true, recurses := true, named := ["bodega/hashindex.none", "bodega/btree.none", "internal/bytealg.MaxLen"], apart := false, laid := [("bodega/hashindex.none", laid_bodega_hashindex_none), ("bodega/btree.none", laid_bodega_btree_none)], narrowed := true }
def ClientNewUptoSaid : Prop := clientNewUptoRow.holds Tryz.pinned (OpenSpec.upto clientNewSpec)

/-- 'bodegalaw33.ClusterNew', WHERE WHAT IT READS IS OF BULK AT MOST 1048576: true; the input reads as it did. -/
def clusterNewUptoRow : OpenClaim := { program := "ytebdmlmbdfnkfaagreatdoor", sum := "24a038ad534adb1c3ce2548142773fece4d276a377c7c8bd568955a4e395937e", func := "bodega/bodegalaw33.ClusterNew", spec := "clusterNew", inPlace := ["internal/abi.NoEscape", "internal/bytealg.MakeNoZero", "slices.overlaps[bodega/hashindex.Entry]", "math/bits.Add64", "slices.overlaps[bodega/api.Page]", "internal/bytealg.IndexByteString", "internal/bytealg.IndexString"], unfollowed := true, recurses := true, named := ["bodega/hashindex.none", "bodega/btree.none", "internal/bytealg.MaxLen"], apart := false, laid := [("bodega/hashindex.none", laid_bodega_hashindex_none), ("bodega/btree.none", laid_bodega_btree_none)], narrowed := true }
def ClusterNewUptoSaid : Prop := clusterNewUptoRow.holds Tryz.pinned (OpenSpec.upto clusterNewSpec)

end Rows
end Go.Proofs.YtebdmlmbdfnkfaaGreatDoor
