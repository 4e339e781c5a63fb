/-
  No cell of these rows narrows 'for every input' (looked for: loops, veiled, ifaces, maps, wideKeys, modest, calm, conditions, laid).
  DERIVED. THE GIVEN ROWS OF THIS SEAT. 5 by the template 'for every input the law returns true; each argument reads behind the call as it read before'; 0 by the template 'total and deterministic' (their statements: YtdjbanhoejegjaaTotals.lean).
  GIVEN WITH THE SEED: the statements are not yours to turn. If you find one false, say at which input.
  Laid BY PROGRAM, IN A SANDBOX (cutbox-rows.mjs): the forced cells as the released guide's own fill.sh prints them over the translation cbba47c4e9b151ee… (all of the seat's roots in one cut). By AI agents, Wed Nov 11 2026. No macro, syntax, notation, axiom, sorry.
-/
import Derived.Test.YtdjbanhoejegjaaChecked
import GoSem.Claim
import GoSem.ClaimJoined
import GoSem.ClaimMapViews
import Derived.JoinedTies
import Derived.KernelRfl
namespace Go.Proofs.Ytdjbanhoejegjaa
/- THE CELL 'sum', in the pinned program and in every row, IS THE sha256 OF THE DUMP (.gsa) THAT YtdjbanhoejegjaaProg.lean LOADS. Nothing in Lean hashes anything: it is a label: what it is worth is what the hold of that sum in a sandbox is worth. -/
noncomputable def Try.pinned : Pinned := { name := "ytdjbanhoejegjaa", sum := "cbba47c4e9b151eebdd3e5b01bfe03f5563091bea2cd95a9ca0a5c311e8d5010", checked := Try.checked }
namespace Rows
def none {H : Type} : Left H := { results := [], args := [] }

/-- 'isoglosslaw22.DistanceSums': WHATEVER THE INPUT: true; the input reads as it did. -/
def distanceSumsSpec : ChangeSpec := { name := "distanceSums", fn := fun _ => fun
  | [d1, d2, d3] => { results := [.lit (.bool true)], args := [d1, d2, d3] }
  | _ => none }
def distanceSumsRow : OpenClaim := { program := "ytdjbanhoejegjaa", sum := "cbba47c4e9b151eebdd3e5b01bfe03f5563091bea2cd95a9ca0a5c311e8d5010", func := "isogloss/isoglosslaw22.DistanceSums", spec := "distanceSums", unfollowed := true, recurses := true, plainKeys := false, apart := false }
def DistanceSumsSaid : Prop := distanceSumsRow.holds Try.pinned (OpenSpec.ofChange distanceSumsSpec)

/-- ITS FALSE NEIGHBOUR: 'it returns false'. Refute it at one input. -/
def distanceSumsWrong : ChangeSpec := { name := "distanceSums", fn := fun _ => fun
  | [d1, d2, d3] => { results := [.lit (.bool false)], args := [d1, d2, d3] }
  | _ => none }
def DistanceSumsWrongFalsely : Prop := distanceSumsRow.holds Try.pinned (OpenSpec.ofChange distanceSumsWrong)

/-- 'isoglosslaw22.DistanceSelf': WHATEVER THE INPUT: true; the input reads as it did. -/
def distanceSelfSpec : ChangeSpec := { name := "distanceSelf", fn := fun _ => fun
  | [d1, d2] => { results := [.lit (.bool true)], args := [d1, d2] }
  | _ => none }
def distanceSelfRow : OpenClaim := { program := "ytdjbanhoejegjaa", sum := "cbba47c4e9b151eebdd3e5b01bfe03f5563091bea2cd95a9ca0a5c311e8d5010", func := "isogloss/isoglosslaw22.DistanceSelf", spec := "distanceSelf", unfollowed := true, recurses := true, plainKeys := false, apart := false }
def DistanceSelfSaid : Prop := distanceSelfRow.holds Try.pinned (OpenSpec.ofChange distanceSelfSpec)

/-- ITS FALSE NEIGHBOUR: 'it returns false'. Refute it at one input. -/
def distanceSelfWrong : ChangeSpec := { name := "distanceSelf", fn := fun _ => fun
  | [d1, d2] => { results := [.lit (.bool false)], args := [d1, d2] }
  | _ => none }
def DistanceSelfWrongFalsely : Prop := distanceSelfRow.holds Try.pinned (OpenSpec.ofChange distanceSelfWrong)

/-- 'isoglosslaw22.DistanceBack': WHATEVER THE INPUT: true; the input reads as it did. -/
def distanceBackSpec : ChangeSpec := { name := "distanceBack", fn := fun _ => fun
  | [d1, d2, d3] => { results := [.lit (.bool true)], args := [d1, d2, d3] }
  | _ => none }
def distanceBackRow : OpenClaim := { program := "ytdjbanhoejegjaa", sum := "cbba47c4e9b151eebdd3e5b01bfe03f5563091bea2cd95a9ca0a5c311e8d5010", func := "isogloss/isoglosslaw22.DistanceBack", spec := "distanceBack", unfollowed := true, recurses := true, plainKeys := false, apart := false }
def DistanceBackSaid : Prop := distanceBackRow.holds Try.pinned (OpenSpec.ofChange distanceBackSpec)

/-- ITS FALSE NEIGHBOUR: 'it returns false'. Refute it at one input. -/
def distanceBackWrong : ChangeSpec := { name := "distanceBack", fn := fun _ => fun
  | [d1, d2, d3] => { results := [.lit (.bool false)], args := [d1, d2, d3] }
  | _ => none }
def DistanceBackWrongFalsely : Prop := distanceBackRow.holds Try.pinned (OpenSpec.ofChange distanceBackWrong)

/-- 'isoglosslaw22.DistanceFirst': WHATEVER THE INPUT: true; the input reads as it did. -/
def distanceFirstSpec : ChangeSpec := { name := "distanceFirst", fn := fun _ => fun
  | [d1, d2] => { results := [.lit (.bool true)], args := [d1, d2] }
  | _ => none }
def distanceFirstRow : OpenClaim := { program := "ytdjbanhoejegjaa", sum := "cbba47c4e9b151eebdd3e5b01bfe03f5563091bea2cd95a9ca0a5c311e8d5010", func := "isogloss/isoglosslaw22.DistanceFirst", spec := "distanceFirst", unfollowed := true, recurses := true, plainKeys := false, apart := false }
def DistanceFirstSaid : Prop := distanceFirstRow.holds Try.pinned (OpenSpec.ofChange distanceFirstSpec)

/-- ITS FALSE NEIGHBOUR: 'it returns false'. Refute it at one input. -/
def distanceFirstWrong : ChangeSpec := { name := "distanceFirst", fn := fun _ => fun
  | [d1, d2] => { results := [.lit (.bool false)], args := [d1, d2] }
  | _ => none }
def DistanceFirstWrongFalsely : Prop := distanceFirstRow.holds Try.pinned (OpenSpec.ofChange distanceFirstWrong)

/-- 'isoglosslaw22.DistanceParts': WHATEVER THE INPUT: true; the input reads as it did. -/
def distancePartsSpec : ChangeSpec := { name := "distanceParts", fn := fun _ => fun
  | [d1, d2] => { results := [.lit (.bool true)], args := [d1, d2] }
  | _ => none }
def distancePartsRow : OpenClaim := { program := "ytdjbanhoejegjaa", sum := "cbba47c4e9b151eebdd3e5b01bfe03f5563091bea2cd95a9ca0a5c311e8d5010", func := "isogloss/isoglosslaw22.DistanceParts", spec := "distanceParts", unfollowed := true, recurses := true, plainKeys := false, apart := false }
def DistancePartsSaid : Prop := distancePartsRow.holds Try.pinned (OpenSpec.ofChange distancePartsSpec)

/-- ITS FALSE NEIGHBOUR: 'it returns false'. Refute it at one input. -/
def distancePartsWrong : ChangeSpec := { name := "distanceParts", fn := fun _ => fun
  | [d1, d2] => { results := [.lit (.bool false)], args := [d1, d2] }
  | _ => none }
def DistancePartsWrongFalsely : Prop := distancePartsRow.holds Try.pinned (OpenSpec.ofChange distancePartsWrong)

/- THE SECOND FORM. 'bulk': how many values and letters a reading holds, each counted each time it is reached (what is shared counts as often as it is met; a slice's spare places count too). A statement '..UptoSaid' is the law's where the arguments, and the package variables that the reading takes, are together of bulk at most 1048576: NARROWER than '..Said'. Prove '..Said' where nothing that the law and all that it calls make is longer than what came in: it says more and counts as full. Else prove '..UptoSaid'. A law counts once. -/
mutual
def uptoBulk {H : Type} : DataW H → Nat
  | .lit (.string bytes) => bytes.length + 1
  | .lit _ => 1
  | .nil => 1
  | .ptr d => uptoBulk d + 1
  | .slice elems spare => uptoBulkAll elems + uptoBulkAll spare + 1
  | .agg parts => uptoBulkAll parts + 1
  | .iface _ d => uptoBulk d + 1
  | .map entries => uptoBulkEntries entries + 1
  | .held _ => 1
def uptoBulkAll {H : Type} : List (DataW H) → Nat
  | [] => 0
  | d :: r => uptoBulk d + uptoBulkAll r
def uptoBulkEntries {H : Type} : List (Lit × DataW H) → Nat
  | [] => 0
  | x :: r => uptoBulkEntry x + uptoBulkEntries r
def uptoBulkEntry {H : Type} : Lit × DataW H → Nat
  | (.string bytes, d) => bytes.length + uptoBulk d + 1
  | (_, d) => uptoBulk d + 1
 end
def uptoSmall : (H : Type) → List (DataW H) → Bool := fun _ ds => decide (uptoBulkAll ds ≤ 1048576)
def OpenSpec.upto (s : _root_.Go.ChangeSpec) : _root_.Go.OpenSpec := { _root_.Go.OpenSpec.ofChange s with cond := some uptoSmall }

/-- 'isoglosslaw22.DistanceSums', WHERE WHAT IT READS IS OF BULK AT MOST 1048576: true; the input reads as it did. -/
def distanceSumsUptoRow : OpenClaim := { program := "ytdjbanhoejegjaa", sum := "cbba47c4e9b151eebdd3e5b01bfe03f5563091bea2cd95a9ca0a5c311e8d5010", func := "isogloss/isoglosslaw22.DistanceSums", spec := "distanceSums", unfollowed := true, recurses := true, plainKeys := false, apart := false, narrowed := true }
def DistanceSumsUptoSaid : Prop := distanceSumsUptoRow.holds Try.pinned (OpenSpec.upto distanceSumsSpec)

/-- 'isoglosslaw22.DistanceSelf', WHERE WHAT IT READS IS OF BULK AT MOST 1048576: true; the input reads as it did. -/
def distanceSelfUptoRow : OpenClaim := { program := "ytdjbanhoejegjaa", sum := "cbba47c4e9b151eebdd3e5b01bfe03f5563091bea2cd95a9ca0a5c311e8d5010", func := "isogloss/isoglosslaw22.DistanceSelf", spec := "distanceSelf", unfollowed := true, recurses := true, plainKeys := false, apart := false, narrowed := true }
def DistanceSelfUptoSaid : Prop := distanceSelfUptoRow.holds Try.pinned (OpenSpec.upto distanceSelfSpec)

/-- 'isoglosslaw22.DistanceBack', WHERE WHAT IT READS IS OF BULK AT MOST 1048576: true; the input reads as it did. -/
def distanceBackUptoRow : OpenClaim := { program := "ytdjbanhoejegjaa", sum := "cbba47c4e9b151eebdd3e5b01bfe03f5563091bea2cd95a9ca0a5c311e8d5010", func := "isogloss/isoglosslaw22.DistanceBack", spec := "distanceBack", unfollowed := true, recurses := true, plainKeys := false, apart := false, narrowed := true }
def DistanceBackUptoSaid : Prop := distanceBackUptoRow.holds Try.pinned (OpenSpec.upto distanceBackSpec)

/-- 'isoglosslaw22.DistanceFirst', WHERE WHAT IT READS IS OF BULK AT MOST 1048576: true; the input reads as it did. -/
def distanceFirstUptoRow : OpenClaim := { program := "ytdjbanhoejegjaa", sum := "cbba47c4e9b151eebdd3e5b01bfe03f5563091bea2cd95a9ca0a5c311e8d5010", func := "isogloss/isoglosslaw22.DistanceFirst", spec := "distanceFirst", unfollowed := true, recurses := true, plainKeys := false, apart := false, narrowed := true }
def DistanceFirstUptoSaid : Prop := distanceFirstUptoRow.holds Try.pinned (OpenSpec.upto distanceFirstSpec)

/-- 'isoglosslaw22.DistanceParts', WHERE WHAT IT READS IS OF BULK AT MOST 1048576: true; the input reads as it did. -/
def distancePartsUptoRow : OpenClaim := { program := "ytdjbanhoejegjaa", sum := "cbba47c4e9b151eebdd3e5b01bfe03f5563091bea2cd95a9ca0a5c311e8d5010", func := "isogloss/isoglosslaw22.DistanceParts", spec := "distanceParts", unfollowed := true, recurses := true, plainKeys := false, apart := false, narrowed := true }
def DistancePartsUptoSaid : Prop := distancePartsUptoRow.holds Try.pinned (OpenSpec.upto distancePartsSpec)

end Rows
end Go.Proofs.Ytdjbanhoejegjaa
