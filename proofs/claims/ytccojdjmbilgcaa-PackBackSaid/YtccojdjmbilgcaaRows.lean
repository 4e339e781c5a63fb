/-
  No cell of these rows narrows 'for every input' (looked for: loops, veiled, ifaces, maps, wideKeys, modest, calm, conditions, laid).
  DERIVED. THE GIVEN ROWS OF THIS SEAT. 10 by the template 'for every input the law returns true; each argument reads behind the call as it read before'; 0 by the template 'total and deterministic' (their statements: YtccojdjmbilgcaaTotals.lean).
  GIVEN WITH THE SEED: the statements are not yours to turn. If you find one false, say at which input.
  Laid BY PROGRAM, IN A SANDBOX (cutbox-rows.mjs): the forced cells as the released guide's own fill.sh prints them over the translation de8e8a3c19ad6af7… (all of the seat's roots in one cut). By AI agents, Wed Nov 11 2026. No macro, syntax, notation, axiom, sorry.
-/
import Derived.Test.YtccojdjmbilgcaaChecked
import GoSem.Claim
import GoSem.ClaimJoined
import GoSem.ClaimMapViews
import Derived.JoinedTies
import Derived.KernelRfl
namespace Go.Proofs.Ytccojdjmbilgcaa
/- THE CELL 'sum', in the pinned program and in every row, IS THE sha256 OF THE DUMP (.gsa) THAT YtccojdjmbilgcaaProg.lean LOADS. Nothing in Lean hashes anything: it is a label: what it is worth is what the hold of that sum in a sandbox is worth. -/
noncomputable def Try.pinned : Pinned := { name := "ytccojdjmbilgcaa", sum := "de8e8a3c19ad6af7789eb035cba54d1008fd1fd5b75e0f804fb6c89f5fcb44a2", checked := Try.checked }
namespace Rows
def none {H : Type} : Left H := { results := [], args := [] }

/-- 'isoglosslaw03.PackOrders': WHATEVER THE INPUT: true; the input reads as it did. -/
def packOrdersSpec : ChangeSpec := { name := "packOrders", fn := fun _ => fun
  | [d1, d2] => { results := [.lit (.bool true)], args := [d1, d2] }
  | _ => none }
def packOrdersRow : OpenClaim := { program := "ytccojdjmbilgcaa", sum := "de8e8a3c19ad6af7789eb035cba54d1008fd1fd5b75e0f804fb6c89f5fcb44a2", func := "isogloss/isoglosslaw03.PackOrders", spec := "packOrders", unfollowed := true, recurses := true, apart := false }
def PackOrdersSaid : Prop := packOrdersRow.holds Try.pinned (OpenSpec.ofChange packOrdersSpec)

/-- ITS FALSE NEIGHBOUR: 'it returns false'. Refute it at one input. -/
def packOrdersWrong : ChangeSpec := { name := "packOrders", fn := fun _ => fun
  | [d1, d2] => { results := [.lit (.bool false)], args := [d1, d2] }
  | _ => none }
def PackOrdersWrongFalsely : Prop := packOrdersRow.holds Try.pinned (OpenSpec.ofChange packOrdersWrong)

/-- 'isoglosslaw03.PackStands': WHATEVER THE INPUT: true; the input reads as it did. -/
def packStandsSpec : ChangeSpec := { name := "packStands", fn := fun _ => fun
  | [d1, d2] => { results := [.lit (.bool true)], args := [d1, d2] }
  | _ => none }
def packStandsRow : OpenClaim := { program := "ytccojdjmbilgcaa", sum := "de8e8a3c19ad6af7789eb035cba54d1008fd1fd5b75e0f804fb6c89f5fcb44a2", func := "isogloss/isoglosslaw03.PackStands", spec := "packStands", unfollowed := true, recurses := true, apart := false }
def PackStandsSaid : Prop := packStandsRow.holds Try.pinned (OpenSpec.ofChange packStandsSpec)

/-- ITS FALSE NEIGHBOUR: 'it returns false'. Refute it at one input. -/
def packStandsWrong : ChangeSpec := { name := "packStands", fn := fun _ => fun
  | [d1, d2] => { results := [.lit (.bool false)], args := [d1, d2] }
  | _ => none }
def PackStandsWrongFalsely : Prop := packStandsRow.holds Try.pinned (OpenSpec.ofChange packStandsWrong)

/-- 'isoglosslaw02.AsciiOrders': WHATEVER THE INPUT: true; the input reads as it did. -/
def asciiOrdersSpec : ChangeSpec := { name := "asciiOrders", fn := fun _ => fun
  | [d1, d2, d3] => { results := [.lit (.bool true)], args := [d1, d2, d3] }
  | _ => none }
def asciiOrdersRow : OpenClaim := { program := "ytccojdjmbilgcaa", sum := "de8e8a3c19ad6af7789eb035cba54d1008fd1fd5b75e0f804fb6c89f5fcb44a2", func := "isogloss/isoglosslaw02.AsciiOrders", spec := "asciiOrders", unfollowed := true, recurses := true, apart := false }
def AsciiOrdersSaid : Prop := asciiOrdersRow.holds Try.pinned (OpenSpec.ofChange asciiOrdersSpec)

/-- ITS FALSE NEIGHBOUR: 'it returns false'. Refute it at one input. -/
def asciiOrdersWrong : ChangeSpec := { name := "asciiOrders", fn := fun _ => fun
  | [d1, d2, d3] => { results := [.lit (.bool false)], args := [d1, d2, d3] }
  | _ => none }
def AsciiOrdersWrongFalsely : Prop := asciiOrdersRow.holds Try.pinned (OpenSpec.ofChange asciiOrdersWrong)

/-- 'isoglosslaw02.AsciiCompares': WHATEVER THE INPUT: true; the input reads as it did. -/
def asciiComparesSpec : ChangeSpec := { name := "asciiCompares", fn := fun _ => fun
  | [d1, d2] => { results := [.lit (.bool true)], args := [d1, d2] }
  | _ => none }
def asciiComparesRow : OpenClaim := { program := "ytccojdjmbilgcaa", sum := "de8e8a3c19ad6af7789eb035cba54d1008fd1fd5b75e0f804fb6c89f5fcb44a2", func := "isogloss/isoglosslaw02.AsciiCompares", spec := "asciiCompares", unfollowed := true, recurses := true, apart := false }
def AsciiComparesSaid : Prop := asciiComparesRow.holds Try.pinned (OpenSpec.ofChange asciiComparesSpec)

/-- ITS FALSE NEIGHBOUR: 'it returns false'. Refute it at one input. -/
def asciiComparesWrong : ChangeSpec := { name := "asciiCompares", fn := fun _ => fun
  | [d1, d2] => { results := [.lit (.bool false)], args := [d1, d2] }
  | _ => none }
def AsciiComparesWrongFalsely : Prop := asciiComparesRow.holds Try.pinned (OpenSpec.ofChange asciiComparesWrong)

/-- 'isoglosslaw02.AsciiCases': WHATEVER THE INPUT: true; the input reads as it did. -/
def asciiCasesSpec : ChangeSpec := { name := "asciiCases", fn := fun _ => fun
  | [d] => { results := [.lit (.bool true)], args := [d] }
  | _ => none }
def asciiCasesRow : OpenClaim := { program := "ytccojdjmbilgcaa", sum := "de8e8a3c19ad6af7789eb035cba54d1008fd1fd5b75e0f804fb6c89f5fcb44a2", func := "isogloss/isoglosslaw02.AsciiCases", spec := "asciiCases", unfollowed := true, recurses := true, apart := false }
def AsciiCasesSaid : Prop := asciiCasesRow.holds Try.pinned (OpenSpec.ofChange asciiCasesSpec)

/-- ITS FALSE NEIGHBOUR: 'it returns false'. Refute it at one input. -/
def asciiCasesWrong : ChangeSpec := { name := "asciiCases", fn := fun _ => fun
  | [d] => { results := [.lit (.bool false)], args := [d] }
  | _ => none }
def AsciiCasesWrongFalsely : Prop := asciiCasesRow.holds Try.pinned (OpenSpec.ofChange asciiCasesWrong)

/-- 'isoglosslaw02.AsciiBytes': WHATEVER THE INPUT: true; the input reads as it did. -/
def asciiBytesSpec : ChangeSpec := { name := "asciiBytes", fn := fun _ => fun
  | [d1, d2] => { results := [.lit (.bool true)], args := [d1, d2] }
  | _ => none }
def asciiBytesRow : OpenClaim := { program := "ytccojdjmbilgcaa", sum := "de8e8a3c19ad6af7789eb035cba54d1008fd1fd5b75e0f804fb6c89f5fcb44a2", func := "isogloss/isoglosslaw02.AsciiBytes", spec := "asciiBytes", unfollowed := true, recurses := true, apart := false }
def AsciiBytesSaid : Prop := asciiBytesRow.holds Try.pinned (OpenSpec.ofChange asciiBytesSpec)

/-- ITS FALSE NEIGHBOUR: 'it returns false'. Refute it at one input. -/
def asciiBytesWrong : ChangeSpec := { name := "asciiBytes", fn := fun _ => fun
  | [d1, d2] => { results := [.lit (.bool false)], args := [d1, d2] }
  | _ => none }
def AsciiBytesWrongFalsely : Prop := asciiBytesRow.holds Try.pinned (OpenSpec.ofChange asciiBytesWrong)

/-- 'isoglosslaw02.AsciiJoins': WHATEVER THE INPUT: true; the input reads as it did. -/
def asciiJoinsSpec : ChangeSpec := { name := "asciiJoins", fn := fun _ => fun
  | [d1, d2] => { results := [.lit (.bool true)], args := [d1, d2] }
  | _ => none }
def asciiJoinsRow : OpenClaim := { program := "ytccojdjmbilgcaa", sum := "de8e8a3c19ad6af7789eb035cba54d1008fd1fd5b75e0f804fb6c89f5fcb44a2", func := "isogloss/isoglosslaw02.AsciiJoins", spec := "asciiJoins", unfollowed := true, recurses := true, apart := false }
def AsciiJoinsSaid : Prop := asciiJoinsRow.holds Try.pinned (OpenSpec.ofChange asciiJoinsSpec)

/-- ITS FALSE NEIGHBOUR: 'it returns false'. Refute it at one input. -/
def asciiJoinsWrong : ChangeSpec := { name := "asciiJoins", fn := fun _ => fun
  | [d1, d2] => { results := [.lit (.bool false)], args := [d1, d2] }
  | _ => none }
def AsciiJoinsWrongFalsely : Prop := asciiJoinsRow.holds Try.pinned (OpenSpec.ofChange asciiJoinsWrong)

/-- 'isoglosslaw02.AsciiTells': WHATEVER THE INPUT: true; the input reads as it did. -/
def asciiTellsSpec : ChangeSpec := { name := "asciiTells", fn := fun _ => fun
  | [d] => { results := [.lit (.bool true)], args := [d] }
  | _ => none }
def asciiTellsRow : OpenClaim := { program := "ytccojdjmbilgcaa", sum := "de8e8a3c19ad6af7789eb035cba54d1008fd1fd5b75e0f804fb6c89f5fcb44a2", func := "isogloss/isoglosslaw02.AsciiTells", spec := "asciiTells", unfollowed := true, recurses := true, apart := false }
def AsciiTellsSaid : Prop := asciiTellsRow.holds Try.pinned (OpenSpec.ofChange asciiTellsSpec)

/-- ITS FALSE NEIGHBOUR: 'it returns false'. Refute it at one input. -/
def asciiTellsWrong : ChangeSpec := { name := "asciiTells", fn := fun _ => fun
  | [d] => { results := [.lit (.bool false)], args := [d] }
  | _ => none }
def AsciiTellsWrongFalsely : Prop := asciiTellsRow.holds Try.pinned (OpenSpec.ofChange asciiTellsWrong)

/-- 'isoglosslaw03.PackTells': WHATEVER THE INPUT: true; the input reads as it did. -/
def packTellsSpec : ChangeSpec := { name := "packTells", fn := fun _ => fun
  | [d1, d2, d3] => { results := [.lit (.bool true)], args := [d1, d2, d3] }
  | _ => none }
def packTellsRow : OpenClaim := { program := "ytccojdjmbilgcaa", sum := "de8e8a3c19ad6af7789eb035cba54d1008fd1fd5b75e0f804fb6c89f5fcb44a2", func := "isogloss/isoglosslaw03.PackTells", spec := "packTells", unfollowed := true, recurses := true, apart := false }
def PackTellsSaid : Prop := packTellsRow.holds Try.pinned (OpenSpec.ofChange packTellsSpec)

/-- ITS FALSE NEIGHBOUR: 'it returns false'. Refute it at one input. -/
def packTellsWrong : ChangeSpec := { name := "packTells", fn := fun _ => fun
  | [d1, d2, d3] => { results := [.lit (.bool false)], args := [d1, d2, d3] }
  | _ => none }
def PackTellsWrongFalsely : Prop := packTellsRow.holds Try.pinned (OpenSpec.ofChange packTellsWrong)

/-- 'isoglosslaw03.PackBack': WHATEVER THE INPUT: true; the input reads as it did. -/
def packBackSpec : ChangeSpec := { name := "packBack", fn := fun _ => fun
  | [d1, d2] => { results := [.lit (.bool true)], args := [d1, d2] }
  | _ => none }
def packBackRow : OpenClaim := { program := "ytccojdjmbilgcaa", sum := "de8e8a3c19ad6af7789eb035cba54d1008fd1fd5b75e0f804fb6c89f5fcb44a2", func := "isogloss/isoglosslaw03.PackBack", spec := "packBack", unfollowed := true, recurses := true, apart := false }
def PackBackSaid : Prop := packBackRow.holds Try.pinned (OpenSpec.ofChange packBackSpec)

/-- ITS FALSE NEIGHBOUR: 'it returns false'. Refute it at one input. -/
def packBackWrong : ChangeSpec := { name := "packBack", fn := fun _ => fun
  | [d1, d2] => { results := [.lit (.bool false)], args := [d1, d2] }
  | _ => none }
def PackBackWrongFalsely : Prop := packBackRow.holds Try.pinned (OpenSpec.ofChange packBackWrong)

/- THE SECOND FORM. 'bulk': how many values and letters a reading holds, each counted each time it is reached (what is shared counts as often as it is met; a slice's spare places count too). A statement '..UptoSaid' is the law's where the arguments, and the package variables that the reading takes, are together of bulk at most 1048576: NARROWER than '..Said'. Prove '..Said' where nothing that the law and all that it calls make is longer than what came in: it says more and counts as full. Else prove '..UptoSaid'. A law counts once. -/
mutual
def uptoBulk {H : Type} : DataW H → Nat
  | .lit (.string bytes) => bytes.length + 1
  | .lit _ => 1
  | .nil => 1
  | .ptr d => uptoBulk d + 1
  | .slice elems spare => uptoBulkAll elems + uptoBulkAll spare + 1
  | .agg parts => uptoBulkAll parts + 1
  | .iface _ d => uptoBulk d + 1
  | .map entries => uptoBulkEntries entries + 1
  | .held _ => 1
def uptoBulkAll {H : Type} : List (DataW H) → Nat
  | [] => 0
  | d :: r => uptoBulk d + uptoBulkAll r
def uptoBulkEntries {H : Type} : List (Lit × DataW H) → Nat
  | [] => 0
  | x :: r => uptoBulkEntry x + uptoBulkEntries r
def uptoBulkEntry {H : Type} : Lit × DataW H → Nat
  | (.string bytes, d) => bytes.length + uptoBulk d + 1
  | (_, d) => uptoBulk d + 1
 end
def uptoSmall : (H : Type) → List (DataW H) → Bool := fun _ ds => decide (uptoBulkAll ds ≤ 1048576)
def OpenSpec.upto (s : _root_.Go.ChangeSpec) : _root_.Go.OpenSpec := { _root_.Go.OpenSpec.ofChange s with cond := some uptoSmall }

/-- 'isoglosslaw03.PackOrders', WHERE WHAT IT READS IS OF BULK AT MOST 1048576: true; the input reads as it did. -/
def packOrdersUptoRow : OpenClaim := { program := "ytccojdjmbilgcaa", sum := "de8e8a3c19ad6af7789eb035cba54d1008fd1fd5b75e0f804fb6c89f5fcb44a2", func := "isogloss/isoglosslaw03.PackOrders", spec := "packOrders", unfollowed := true, recurses := true, apart := false, narrowed := true }
def PackOrdersUptoSaid : Prop := packOrdersUptoRow.holds Try.pinned (OpenSpec.upto packOrdersSpec)

/-- 'isoglosslaw03.PackStands', WHERE WHAT IT READS IS OF BULK AT MOST 1048576: true; the input reads as it did. -/
def packStandsUptoRow : OpenClaim := { program := "ytccojdjmbilgcaa", sum := "de8e8a3c19ad6af7789eb035cba54d1008fd1fd5b75e0f804fb6c89f5fcb44a2", func := "isogloss/isoglosslaw03.PackStands", spec := "packStands", unfollowed := true, recurses := true, apart := false, narrowed := true }
def PackStandsUptoSaid : Prop := packStandsUptoRow.holds Try.pinned (OpenSpec.upto packStandsSpec)

/-- 'isoglosslaw02.AsciiOrders', WHERE WHAT IT READS IS OF BULK AT MOST 1048576: true; the input reads as it did. -/
def asciiOrdersUptoRow : OpenClaim := { program := "ytccojdjmbilgcaa", sum := "de8e8a3c19ad6af7789eb035cba54d1008fd1fd5b75e0f804fb6c89f5fcb44a2", func := "isogloss/isoglosslaw02.AsciiOrders", spec := "asciiOrders", unfollowed := true, recurses := true, apart := false, narrowed := true }
def AsciiOrdersUptoSaid : Prop := asciiOrdersUptoRow.holds Try.pinned (OpenSpec.upto asciiOrdersSpec)

/-- 'isoglosslaw02.AsciiCompares', WHERE WHAT IT READS IS OF BULK AT MOST 1048576: true; the input reads as it did. -/
def asciiComparesUptoRow : OpenClaim := { program := "ytccojdjmbilgcaa", sum := "de8e8a3c19ad6af7789eb035cba54d1008fd1fd5b75e0f804fb6c89f5fcb44a2", func := "isogloss/isoglosslaw02.AsciiCompares", spec := "asciiCompares", unfollowed := true, recurses := true, apart := false, narrowed := true }
def AsciiComparesUptoSaid : Prop := asciiComparesUptoRow.holds Try.pinned (OpenSpec.upto asciiComparesSpec)

/-- 'isoglosslaw02.AsciiCases', WHERE WHAT IT READS IS OF BULK AT MOST 1048576: true; the input reads as it did. -/
def asciiCasesUptoRow : OpenClaim := { program := "ytccojdjmbilgcaa", sum := "de8e8a3c19ad6af7789eb035cba54d1008fd1fd5b75e0f804fb6c89f5fcb44a2", func := "isogloss/isoglosslaw02.AsciiCases", spec := "asciiCases", unfollowed := true, recurses := true, apart := false, narrowed := true }
def AsciiCasesUptoSaid : Prop := asciiCasesUptoRow.holds Try.pinned (OpenSpec.upto asciiCasesSpec)

/-- 'isoglosslaw02.AsciiBytes', WHERE WHAT IT READS IS OF BULK AT MOST 1048576: true; the input reads as it did. -/
def asciiBytesUptoRow : OpenClaim := { program := "ytccojdjmbilgcaa", sum := "de8e8a3c19ad6af7789eb035cba54d1008fd1fd5b75e0f804fb6c89f5fcb44a2", func := "isogloss/isoglosslaw02.AsciiBytes", spec := "asciiBytes", unfollowed := true, recurses := true, apart := false, narrowed := true }
def AsciiBytesUptoSaid : Prop := asciiBytesUptoRow.holds Try.pinned (OpenSpec.upto asciiBytesSpec)

/-- 'isoglosslaw02.AsciiJoins', WHERE WHAT IT READS IS OF BULK AT MOST 1048576: true; the input reads as it did. -/
def asciiJoinsUptoRow : OpenClaim := { program := "ytccojdjmbilgcaa", sum := "de8e8a3c19ad6af7789eb035cba54d1008fd1fd5b75e0f804fb6c89f5fcb44a2", func := "isogloss/isoglosslaw02.AsciiJoins", spec := "asciiJoins", unfollowed := true, recurses := true, apart := false, narrowed := true }
def AsciiJoinsUptoSaid : Prop := asciiJoinsUptoRow.holds Try.pinned (OpenSpec.upto asciiJoinsSpec)

/-- 'isoglosslaw02.AsciiTells', WHERE WHAT IT READS IS OF BULK AT MOST 1048576: true; the input reads as it did. -/
def asciiTellsUptoRow : OpenClaim := { program := "ytccojdjmbilgcaa", sum := "de8e8a3c19ad6af7789eb035cba54d1008fd1fd5b75e0f804fb6c89f5fcb44a2", func := "isogloss/isoglosslaw02.AsciiTells", spec := "asciiTells", unfollowed := true, recurses := true, apart := false, narrowed := true }
def AsciiTellsUptoSaid : Prop := asciiTellsUptoRow.holds Try.pinned (OpenSpec.upto asciiTellsSpec)

/-- 'isoglosslaw03.PackTells', WHERE WHAT IT READS IS OF BULK AT MOST 1048576: true; the input reads as it did. -/
def packTellsUptoRow : OpenClaim := { program := "ytccojdjmbilgcaa", sum := "de8e8a3c19ad6af7789eb035cba54d1008fd1fd5b75e0f804fb6c89f5fcb44a2", func := "isogloss/isoglosslaw03.PackTells", spec := "packTells", unfollowed := true, recurses := true, apart := false, narrowed := true }
def PackTellsUptoSaid : Prop := packTellsUptoRow.holds Try.pinned (OpenSpec.upto packTellsSpec)

/-- 'isoglosslaw03.PackBack', WHERE WHAT IT READS IS OF BULK AT MOST 1048576: true; the input reads as it did. -/
def packBackUptoRow : OpenClaim := { program := "ytccojdjmbilgcaa", sum := "de8e8a3c19ad6af7789eb035cba54d1008fd1fd5b75e0f804fb6c89f5fcb44a2", func := "isogloss/isoglosslaw03.PackBack", spec := "packBack", unfollowed := true, recurses := true, apart := false, narrowed := true }
def PackBackUptoSaid : Prop := packBackUptoRow.holds Try.pinned (OpenSpec.upto packBackSpec)

end Rows
end Go.Proofs.Ytccojdjmbilgcaa
