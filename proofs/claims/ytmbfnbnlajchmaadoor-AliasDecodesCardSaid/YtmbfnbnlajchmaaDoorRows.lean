/-
  NARROWER THAN 'FOR EVERY INPUT', by the rows' own cells (each row's printed sentence says how): GrandFinds: laid · GrandAll: laid · GrandCases: laid · GrandNames: laid · GrandTags: laid · AliasTells: laid · AliasSmall: laid · AliasKeys: laid · AliasOrders: laid · AliasDecodes: laid · AliasBack: laid.
  DERIVED. THE GIVEN ROWS OF THIS SEAT. 11 by the template 'for every input the law returns true; each argument reads behind the call as it read before'; 0 by the template 'total and deterministic' (their statements: YtmbfnbnlajchmaaDoorTotals.lean).
  GIVEN WITH THE SEED: the statements are not yours to turn. If you find one false, say at which input.
  Laid BY PROGRAM, IN A SANDBOX (cutbox-rows.mjs): the forced cells as the released guide's own fill.sh prints them over the translation abfa36a8641cbedb… (all of the seat's roots in one cut). By AI agents, Wed Nov 11 2026. No macro, syntax, notation, axiom, sorry.
-/
import Derived.Test.YtmbfnbnlajchmaaDoorChecked
import GoSem.Claim
import GoSem.ClaimJoined
import GoSem.ClaimMapViews
import Derived.JoinedTies
import Derived.KernelRfl
namespace Go.Proofs.YtmbfnbnlajchmaaDoor
/- THE CELL 'sum', in the pinned program and in every row, IS THE sha256 OF THE DUMP (.gsa) THAT YtmbfnbnlajchmaaDoorProg.lean LOADS. Nothing in Lean hashes anything: it is a label: what it is worth is what the hold of that sum in a sandbox is worth. -/
noncomputable def Tryd.pinned : Pinned := { name := "ytmbfnbnlajchmaadoor", sum := "abfa36a8641cbedb23e9f58fa58babb084e496d0c8cb22956cc2d1ab5dadee46", checked := Tryd.checked }
namespace Rows
def none {H : Type} : Left H := { results := [], args := [] }

/- WHAT THE LISTED PACKAGE-LEVEL VARIABLES READ AS WHEN THE CALL BEGINS. Each datum BY PROGRAM (the guide's laid-datum.mjs) off the statement by which the dump's own 'gosem.cut.vars' lays the variable. In a bare row this is a premise. The card (YtmbfnbnlajchmaaDoorCards.lean) ties it to the program's text. -/
def laid_isogloss_grand_names {H : Type} : DataW H := .agg [.lit (.string [97, 114, 116, 45, 108, 111, 106, 98, 97, 110]), .lit (.string [99, 101, 108, 45, 103, 97, 117, 108, 105, 115, 104]), .lit (.string [101, 110, 45, 103, 98, 45, 111, 101, 100]), .lit (.string [105, 45, 97, 109, 105]), .lit (.string [105, 45, 98, 110, 110]), .lit (.string [105, 45, 100, 101, 102, 97, 117, 108, 116]), .lit (.string [105, 45, 101, 110, 111, 99, 104, 105, 97, 110]), .lit (.string [105, 45, 104, 97, 107]), .lit (.string [105, 45, 107, 108, 105, 110, 103, 111, 110]), .lit (.string [105, 45, 108, 117, 120]), .lit (.string [105, 45, 109, 105, 110, 103, 111]), .lit (.string [105, 45, 110, 97, 118, 97, 106, 111]), .lit (.string [105, 45, 112, 119, 110]), .lit (.string [105, 45, 116, 97, 111]), .lit (.string [105, 45, 116, 97, 121]), .lit (.string [105, 45, 116, 115, 117]), .lit (.string [110, 111, 45, 98, 111, 107]), .lit (.string [110, 111, 45, 110, 121, 110]), .lit (.string [115, 103, 110, 45, 98, 101, 45, 102, 114]), .lit (.string [115, 103, 110, 45, 98, 101, 45, 110, 108]), .lit (.string [115, 103, 110, 45, 99, 104, 45, 100, 101]), .lit (.string [122, 104, 45, 103, 117, 111, 121, 117]), .lit (.string [122, 104, 45, 104, 97, 107, 107, 97]), .lit (.string [122, 104, 45, 109, 105, 110]), .lit (.string [122, 104, 45, 109, 105, 110, 45, 110, 97, 110]), .lit (.string [122, 104, 45, 120, 105, 97, 110, 103])]

/-- 'isoglosslaw05.GrandFinds': WHATEVER THE INPUT: true; the input reads as it did. -/
def grandFindsSpec : ChangeSpec := { name := "grandFinds", fn := fun _ => fun
  | [d1, d2, d3] => { results := [.lit (.bool true)], args := [d1, d2, d3] }
  | _ => none }
def grandFindsRow : OpenClaim := { program := "ytmbfnbnlajchmaadoor", sum := "abfa36a8641cbedb23e9f58fa58babb084e496d0c8cb22956cc2d1ab5dadee46", func := "isogloss/isoglosslaw05.GrandFinds", spec := "grandFinds", unfollowed := true, recurses := true, named := ["isogloss/grand.names"], apart := false, laid := [("isogloss/grand.names", laid_isogloss_grand_names)] }
def GrandFindsSaid : Prop := grandFindsRow.holds Tryd.pinned (OpenSpec.ofChange grandFindsSpec)

/-- ITS FALSE NEIGHBOUR: 'it returns false'. Refute it at one input. -/
def grandFindsWrong : ChangeSpec := { name := "grandFinds", fn := fun _ => fun
  | [d1, d2, d3] => { results := [.lit (.bool false)], args := [d1, d2, d3] }
  | _ => none }
def GrandFindsWrongFalsely : Prop := grandFindsRow.holds Tryd.pinned (OpenSpec.ofChange grandFindsWrong)

/-- 'isoglosslaw05.GrandAll': WHATEVER THE INPUT: true; the input reads as it did. -/
def grandAllSpec : ChangeSpec := { name := "grandAll", fn := fun _ => fun
  | [d] => { results := [.lit (.bool true)], args := [d] }
  | _ => none }
def grandAllRow : OpenClaim := { program := "ytmbfnbnlajchmaadoor", sum := "abfa36a8641cbedb23e9f58fa58babb084e496d0c8cb22956cc2d1ab5dadee46", func := "isogloss/isoglosslaw05.GrandAll", spec := "grandAll", unfollowed := true, recurses := true, named := ["isogloss/grand.names"], apart := false, laid := [("isogloss/grand.names", laid_isogloss_grand_names)] }
def GrandAllSaid : Prop := grandAllRow.holds Tryd.pinned (OpenSpec.ofChange grandAllSpec)

/-- ITS FALSE NEIGHBOUR: 'it returns false'. Refute it at one input. -/
def grandAllWrong : ChangeSpec := { name := "grandAll", fn := fun _ => fun
  | [d] => { results := [.lit (.bool false)], args := [d] }
  | _ => none }
def GrandAllWrongFalsely : Prop := grandAllRow.holds Tryd.pinned (OpenSpec.ofChange grandAllWrong)

/-- 'isoglosslaw05.GrandCases': WHATEVER THE INPUT: true; the input reads as it did. -/
def grandCasesSpec : ChangeSpec := { name := "grandCases", fn := fun _ => fun
  | [d1, d2] => { results := [.lit (.bool true)], args := [d1, d2] }
  | _ => none }
def grandCasesRow : OpenClaim := { program := "ytmbfnbnlajchmaadoor", sum := "abfa36a8641cbedb23e9f58fa58babb084e496d0c8cb22956cc2d1ab5dadee46", func := "isogloss/isoglosslaw05.GrandCases", spec := "grandCases", unfollowed := true, recurses := true, named := ["isogloss/grand.names"], apart := false, laid := [("isogloss/grand.names", laid_isogloss_grand_names)] }
def GrandCasesSaid : Prop := grandCasesRow.holds Tryd.pinned (OpenSpec.ofChange grandCasesSpec)

/-- ITS FALSE NEIGHBOUR: 'it returns false'. Refute it at one input. -/
def grandCasesWrong : ChangeSpec := { name := "grandCases", fn := fun _ => fun
  | [d1, d2] => { results := [.lit (.bool false)], args := [d1, d2] }
  | _ => none }
def GrandCasesWrongFalsely : Prop := grandCasesRow.holds Tryd.pinned (OpenSpec.ofChange grandCasesWrong)

/-- 'isoglosslaw05.GrandNames': WHATEVER THE INPUT: true; the input reads as it did. -/
def grandNamesSpec : ChangeSpec := { name := "grandNames", fn := fun _ => fun
  | [d] => { results := [.lit (.bool true)], args := [d] }
  | _ => none }
def grandNamesRow : OpenClaim := { program := "ytmbfnbnlajchmaadoor", sum := "abfa36a8641cbedb23e9f58fa58babb084e496d0c8cb22956cc2d1ab5dadee46", func := "isogloss/isoglosslaw05.GrandNames", spec := "grandNames", unfollowed := true, recurses := true, named := ["isogloss/grand.names"], apart := false, laid := [("isogloss/grand.names", laid_isogloss_grand_names)] }
def GrandNamesSaid : Prop := grandNamesRow.holds Tryd.pinned (OpenSpec.ofChange grandNamesSpec)

/-- ITS FALSE NEIGHBOUR: 'it returns false'. Refute it at one input. -/
def grandNamesWrong : ChangeSpec := { name := "grandNames", fn := fun _ => fun
  | [d] => { results := [.lit (.bool false)], args := [d] }
  | _ => none }
def GrandNamesWrongFalsely : Prop := grandNamesRow.holds Tryd.pinned (OpenSpec.ofChange grandNamesWrong)

/-- 'isoglosslaw05.GrandTags': WHATEVER THE INPUT: true; the input reads as it did. -/
def grandTagsSpec : ChangeSpec := { name := "grandTags", fn := fun _ => fun
  | [d] => { results := [.lit (.bool true)], args := [d] }
  | _ => none }
def grandTagsRow : OpenClaim := { program := "ytmbfnbnlajchmaadoor", sum := "abfa36a8641cbedb23e9f58fa58babb084e496d0c8cb22956cc2d1ab5dadee46", func := "isogloss/isoglosslaw05.GrandTags", spec := "grandTags", unfollowed := true, recurses := true, named := ["isogloss/grand.names"], apart := false, laid := [("isogloss/grand.names", laid_isogloss_grand_names)] }
def GrandTagsSaid : Prop := grandTagsRow.holds Tryd.pinned (OpenSpec.ofChange grandTagsSpec)

/-- ITS FALSE NEIGHBOUR: 'it returns false'. Refute it at one input. -/
def grandTagsWrong : ChangeSpec := { name := "grandTags", fn := fun _ => fun
  | [d] => { results := [.lit (.bool false)], args := [d] }
  | _ => none }
def GrandTagsWrongFalsely : Prop := grandTagsRow.holds Tryd.pinned (OpenSpec.ofChange grandTagsWrong)

/-- 'isoglosslaw12.AliasTells': WHATEVER THE INPUT: true; the input reads as it did. -/
def aliasTellsSpec : ChangeSpec := { name := "aliasTells", fn := fun _ => fun
  | [d1, d2] => { results := [.lit (.bool true)], args := [d1, d2] }
  | _ => none }
def aliasTellsRow : OpenClaim := { program := "ytmbfnbnlajchmaadoor", sum := "abfa36a8641cbedb23e9f58fa58babb084e496d0c8cb22956cc2d1ab5dadee46", func := "isogloss/isoglosslaw12.AliasTells", spec := "aliasTells", unfollowed := true, recurses := true, named := ["isogloss/grand.names"], apart := false, laid := [("isogloss/grand.names", laid_isogloss_grand_names)] }
def AliasTellsSaid : Prop := aliasTellsRow.holds Tryd.pinned (OpenSpec.ofChange aliasTellsSpec)

/-- ITS FALSE NEIGHBOUR: 'it returns false'. Refute it at one input. -/
def aliasTellsWrong : ChangeSpec := { name := "aliasTells", fn := fun _ => fun
  | [d1, d2] => { results := [.lit (.bool false)], args := [d1, d2] }
  | _ => none }
def AliasTellsWrongFalsely : Prop := aliasTellsRow.holds Tryd.pinned (OpenSpec.ofChange aliasTellsWrong)

/-- 'isoglosslaw12.AliasSmall': WHATEVER THE INPUT: true; the input reads as it did. -/
def aliasSmallSpec : ChangeSpec := { name := "aliasSmall", fn := fun _ => fun
  | [d1, d2] => { results := [.lit (.bool true)], args := [d1, d2] }
  | _ => none }
def aliasSmallRow : OpenClaim := { program := "ytmbfnbnlajchmaadoor", sum := "abfa36a8641cbedb23e9f58fa58babb084e496d0c8cb22956cc2d1ab5dadee46", func := "isogloss/isoglosslaw12.AliasSmall", spec := "aliasSmall", unfollowed := true, recurses := true, named := ["isogloss/grand.names"], apart := false, laid := [("isogloss/grand.names", laid_isogloss_grand_names)] }
def AliasSmallSaid : Prop := aliasSmallRow.holds Tryd.pinned (OpenSpec.ofChange aliasSmallSpec)

/-- ITS FALSE NEIGHBOUR: 'it returns false'. Refute it at one input. -/
def aliasSmallWrong : ChangeSpec := { name := "aliasSmall", fn := fun _ => fun
  | [d1, d2] => { results := [.lit (.bool false)], args := [d1, d2] }
  | _ => none }
def AliasSmallWrongFalsely : Prop := aliasSmallRow.holds Tryd.pinned (OpenSpec.ofChange aliasSmallWrong)

/-- 'isoglosslaw12.AliasKeys': WHATEVER THE INPUT: true; the input reads as it did. -/
def aliasKeysSpec : ChangeSpec := { name := "aliasKeys", fn := fun _ => fun
  | [d1, d2, d3] => { results := [.lit (.bool true)], args := [d1, d2, d3] }
  | _ => none }
def aliasKeysRow : OpenClaim := { program := "ytmbfnbnlajchmaadoor", sum := "abfa36a8641cbedb23e9f58fa58babb084e496d0c8cb22956cc2d1ab5dadee46", func := "isogloss/isoglosslaw12.AliasKeys", spec := "aliasKeys", unfollowed := true, recurses := true, named := ["isogloss/grand.names"], apart := false, laid := [("isogloss/grand.names", laid_isogloss_grand_names)] }
def AliasKeysSaid : Prop := aliasKeysRow.holds Tryd.pinned (OpenSpec.ofChange aliasKeysSpec)

/-- ITS FALSE NEIGHBOUR: 'it returns false'. Refute it at one input. -/
def aliasKeysWrong : ChangeSpec := { name := "aliasKeys", fn := fun _ => fun
  | [d1, d2, d3] => { results := [.lit (.bool false)], args := [d1, d2, d3] }
  | _ => none }
def AliasKeysWrongFalsely : Prop := aliasKeysRow.holds Tryd.pinned (OpenSpec.ofChange aliasKeysWrong)

/-- 'isoglosslaw12.AliasOrders': WHATEVER THE INPUT: true; the input reads as it did. -/
def aliasOrdersSpec : ChangeSpec := { name := "aliasOrders", fn := fun _ => fun
  | [d1, d2] => { results := [.lit (.bool true)], args := [d1, d2] }
  | _ => none }
def aliasOrdersRow : OpenClaim := { program := "ytmbfnbnlajchmaadoor", sum := "abfa36a8641cbedb23e9f58fa58babb084e496d0c8cb22956cc2d1ab5dadee46", func := "isogloss/isoglosslaw12.AliasOrders", spec := "aliasOrders", unfollowed := true, recurses := true, named := ["isogloss/grand.names"], apart := false, laid := [("isogloss/grand.names", laid_isogloss_grand_names)] }
def AliasOrdersSaid : Prop := aliasOrdersRow.holds Tryd.pinned (OpenSpec.ofChange aliasOrdersSpec)

/-- ITS FALSE NEIGHBOUR: 'it returns false'. Refute it at one input. -/
def aliasOrdersWrong : ChangeSpec := { name := "aliasOrders", fn := fun _ => fun
  | [d1, d2] => { results := [.lit (.bool false)], args := [d1, d2] }
  | _ => none }
def AliasOrdersWrongFalsely : Prop := aliasOrdersRow.holds Tryd.pinned (OpenSpec.ofChange aliasOrdersWrong)

/-- 'isoglosslaw12.AliasDecodes': WHATEVER THE INPUT: true; the input reads as it did. -/
def aliasDecodesSpec : ChangeSpec := { name := "aliasDecodes", fn := fun _ => fun
  | [d1, d2, d3] => { results := [.lit (.bool true)], args := [d1, d2, d3] }
  | _ => none }
def aliasDecodesRow : OpenClaim := { program := "ytmbfnbnlajchmaadoor", sum := "abfa36a8641cbedb23e9f58fa58babb084e496d0c8cb22956cc2d1ab5dadee46", func := "isogloss/isoglosslaw12.AliasDecodes", spec := "aliasDecodes", unfollowed := true, recurses := true, named := ["isogloss/grand.names"], apart := false, laid := [("isogloss/grand.names", laid_isogloss_grand_names)] }
def AliasDecodesSaid : Prop := aliasDecodesRow.holds Tryd.pinned (OpenSpec.ofChange aliasDecodesSpec)

/-- ITS FALSE NEIGHBOUR: 'it returns false'. Refute it at one input. -/
def aliasDecodesWrong : ChangeSpec := { name := "aliasDecodes", fn := fun _ => fun
  | [d1, d2, d3] => { results := [.lit (.bool false)], args := [d1, d2, d3] }
  | _ => none }
def AliasDecodesWrongFalsely : Prop := aliasDecodesRow.holds Tryd.pinned (OpenSpec.ofChange aliasDecodesWrong)

/-- 'isoglosslaw12.AliasBack': WHATEVER THE INPUT: true; the input reads as it did. -/
def aliasBackSpec : ChangeSpec := { name := "aliasBack", fn := fun _ => fun
  | [d1, d2] => { results := [.lit (.bool true)], args := [d1, d2] }
  | _ => none }
def aliasBackRow : OpenClaim := { program := "ytmbfnbnlajchmaadoor", sum := "abfa36a8641cbedb23e9f58fa58babb084e496d0c8cb22956cc2d1ab5dadee46", func := "isogloss/isoglosslaw12.AliasBack", spec := "aliasBack", unfollowed := true, recurses := true, named := ["isogloss/grand.names"], apart := false, laid := [("isogloss/grand.names", laid_isogloss_grand_names)] }
def AliasBackSaid : Prop := aliasBackRow.holds Tryd.pinned (OpenSpec.ofChange aliasBackSpec)

/-- ITS FALSE NEIGHBOUR: 'it returns false'. Refute it at one input. -/
def aliasBackWrong : ChangeSpec := { name := "aliasBack", fn := fun _ => fun
  | [d1, d2] => { results := [.lit (.bool false)], args := [d1, d2] }
  | _ => none }
def AliasBackWrongFalsely : Prop := aliasBackRow.holds Tryd.pinned (OpenSpec.ofChange aliasBackWrong)

/- THE SECOND FORM. 'bulk': how many values and letters a reading holds, each counted each time it is reached (what is shared counts as often as it is met; a slice's spare places count too). A statement '..UptoSaid' is the law's where the arguments, and the package variables that the reading takes, are together of bulk at most 1048576: NARROWER than '..Said'. Prove '..Said' where nothing that the law and all that it calls make is longer than what came in: it says more and counts as full. Else prove '..UptoSaid'. A law counts once. -/
mutual
def uptoBulk {H : Type} : DataW H → Nat
  | .lit (.string bytes) => bytes.length + 1
  | .lit _ => 1
  | .nil => 1
  | .ptr d => uptoBulk d + 1
  | .slice elems spare => uptoBulkAll elems + uptoBulkAll spare + 1
  | .agg parts => uptoBulkAll parts + 1
  | .iface _ d => uptoBulk d + 1
  | .map entries => uptoBulkEntries entries + 1
  | .held _ => 1
def uptoBulkAll {H : Type} : List (DataW H) → Nat
  | [] => 0
  | d :: r => uptoBulk d + uptoBulkAll r
def uptoBulkEntries {H : Type} : List (Lit × DataW H) → Nat
  | [] => 0
  | x :: r => uptoBulkEntry x + uptoBulkEntries r
def uptoBulkEntry {H : Type} : Lit × DataW H → Nat
  | (.string bytes, d) => bytes.length + uptoBulk d + 1
  | (_, d) => uptoBulk d + 1
 end
def uptoSmall : (H : Type) → List (DataW H) → Bool := fun _ ds => decide (uptoBulkAll ds ≤ 1048576)
def OpenSpec.upto (s : _root_.Go.ChangeSpec) : _root_.Go.OpenSpec := { _root_.Go.OpenSpec.ofChange s with cond := some uptoSmall }

/-- 'isoglosslaw05.GrandFinds', WHERE WHAT IT READS IS OF BULK AT MOST 1048576: true; the input reads as it did. -/
def grandFindsUptoRow : OpenClaim := { program := "ytmbfnbnlajchmaadoor", sum := "abfa36a8641cbedb23e9f58fa58babb084e496d0c8cb22956cc2d1ab5dadee46", func := "isogloss/isoglosslaw05.GrandFinds", spec := "grandFinds", unfollowed := true, recurses := true, named := ["isogloss/grand.names"], apart := false, laid := [("isogloss/grand.names", laid_isogloss_grand_names)], narrowed := true }
def GrandFindsUptoSaid : Prop := grandFindsUptoRow.holds Tryd.pinned (OpenSpec.upto grandFindsSpec)

/-- 'isoglosslaw05.GrandAll', WHERE WHAT IT READS IS OF BULK AT MOST 1048576: true; the input reads as it did. -/
def grandAllUptoRow : OpenClaim := { program := "ytmbfnbnlajchmaadoor", sum := "abfa36a8641cbedb23e9f58fa58babb084e496d0c8cb22956cc2d1ab5dadee46", func := "isogloss/isoglosslaw05.GrandAll", spec := "grandAll", unfollowed := true, recurses := true, named := ["isogloss/grand.names"], apart := false, laid := [("isogloss/grand.names", laid_isogloss_grand_names)], narrowed := true }
def GrandAllUptoSaid : Prop := grandAllUptoRow.holds Tryd.pinned (OpenSpec.upto grandAllSpec)

/-- 'isoglosslaw05.GrandCases', WHERE WHAT IT READS IS OF BULK AT MOST 1048576: true; the input reads as it did. -/
def grandCasesUptoRow : OpenClaim := { program := "ytmbfnbnlajchmaadoor", sum := "abfa36a8641cbedb23e9f58fa58babb084e496d0c8cb22956cc2d1ab5dadee46", func := "isogloss/isoglosslaw05.GrandCases", spec := "grandCases", unfollowed := true, recurses := true, named := ["isogloss/grand.names"], apart := false, laid := [("isogloss/grand.names", laid_isogloss_grand_names)], narrowed := true }
def GrandCasesUptoSaid : Prop := grandCasesUptoRow.holds Tryd.pinned (OpenSpec.upto grandCasesSpec)

/-- 'isoglosslaw05.GrandNames', WHERE WHAT IT READS IS OF BULK AT MOST 1048576: true; the input reads as it did. -/
def grandNamesUptoRow : OpenClaim := { program := "ytmbfnbnlajchmaadoor", sum := "abfa36a8641cbedb23e9f58fa58babb084e496d0c8cb22956cc2d1ab5dadee46", func := "isogloss/isoglosslaw05.GrandNames", spec := "grandNames", unfollowed := true, recurses := true, named := ["isogloss/grand.names"], apart := false, laid := [("isogloss/grand.names", laid_isogloss_grand_names)], narrowed := true }
def GrandNamesUptoSaid : Prop := grandNamesUptoRow.holds Tryd.pinned (OpenSpec.upto grandNamesSpec)

/-- 'isoglosslaw05.GrandTags', WHERE WHAT IT READS IS OF BULK AT MOST 1048576: true; the input reads as it did. -/
def grandTagsUptoRow : OpenClaim := { program := "ytmbfnbnlajchmaadoor", sum := "abfa36a8641cbedb23e9f58fa58babb084e496d0c8cb22956cc2d1ab5dadee46", func := "isogloss/isoglosslaw05.GrandTags", spec := "grandTags", unfollowed := true, recurses := true, named := ["isogloss/grand.names"], apart := false, laid := [("isogloss/grand.names", laid_isogloss_grand_names)], narrowed := true }
def GrandTagsUptoSaid : Prop := grandTagsUptoRow.holds Tryd.pinned (OpenSpec.upto grandTagsSpec)

/-- 'isoglosslaw12.AliasTells', WHERE WHAT IT READS IS OF BULK AT MOST 1048576: true; the input reads as it did. -/
def aliasTellsUptoRow : OpenClaim := { program := "ytmbfnbnlajchmaadoor", sum := "abfa36a8641cbedb23e9f58fa58babb084e496d0c8cb22956cc2d1ab5dadee46", func := "isogloss/isoglosslaw12.AliasTells", spec := "aliasTells", unfollowed := true, recurses := true, named := ["isogloss/grand.names"], apart := false, laid := [("isogloss/grand.names", laid_isogloss_grand_names)], narrowed := true }
def AliasTellsUptoSaid : Prop := aliasTellsUptoRow.holds Tryd.pinned (OpenSpec.upto aliasTellsSpec)

/-- 'isoglosslaw12.AliasSmall', WHERE WHAT IT READS IS OF BULK AT MOST 1048576: true; the input reads as it did. -/
def aliasSmallUptoRow : OpenClaim := { program := "ytmbfnbnlajchmaadoor", sum := "abfa36a8641cbedb23e9f58fa58babb084e496d0c8cb22956cc2d1ab5dadee46", func := "isogloss/isoglosslaw12.AliasSmall", spec := "aliasSmall", unfollowed := true, recurses := true, named := ["isogloss/grand.names"], apart := false, laid := [("isogloss/grand.names", laid_isogloss_grand_names)], narrowed := true }
def AliasSmallUptoSaid : Prop := aliasSmallUptoRow.holds Tryd.pinned (OpenSpec.upto aliasSmallSpec)

/-- 'isoglosslaw12.AliasKeys', WHERE WHAT IT READS IS OF BULK AT MOST 1048576: true; the input reads as it did. -/
def aliasKeysUptoRow : OpenClaim := { program := "ytmbfnbnlajchmaadoor", sum := "abfa36a8641cbedb23e9f58fa58babb084e496d0c8cb22956cc2d1ab5dadee46", func := "isogloss/isoglosslaw12.AliasKeys", spec := "aliasKeys", unfollowed := true, recurses := true, named := ["isogloss/grand.names"], apart := false, laid := [("isogloss/grand.names", laid_isogloss_grand_names)], narrowed := true }
def AliasKeysUptoSaid : Prop := aliasKeysUptoRow.holds Tryd.pinned (OpenSpec.upto aliasKeysSpec)

/-- 'isoglosslaw12.AliasOrders', WHERE WHAT IT READS IS OF BULK AT MOST 1048576: true; the input reads as it did. -/
def aliasOrdersUptoRow : OpenClaim := { program := "ytmbfnbnlajchmaadoor", sum := "abfa36a8641cbedb23e9f58fa58babb084e496d0c8cb22956cc2d1ab5dadee46", func := "isogloss/isoglosslaw12.AliasOrders", spec := "aliasOrders", unfollowed := true, recurses := true, named := ["isogloss/grand.names"], apart := false, laid := [("isogloss/grand.names", laid_isogloss_grand_names)], narrowed := true }
def AliasOrdersUptoSaid : Prop := aliasOrdersUptoRow.holds Tryd.pinned (OpenSpec.upto aliasOrdersSpec)

/-- 'isoglosslaw12.AliasDecodes', WHERE WHAT IT READS IS OF BULK AT MOST 1048576: true; the input reads as it did. -/
def aliasDecodesUptoRow : OpenClaim := { program := "ytmbfnbnlajchmaadoor", sum := "abfa36a8641cbedb23e9f58fa58babb084e496d0c8cb22956cc2d1ab5dadee46", func := "isogloss/isoglosslaw12.AliasDecodes", spec := "aliasDecodes", unfollowed := true, recurses := true, named := ["isogloss/grand.names"], apart := false, laid := [("isogloss/grand.names", laid_isogloss_grand_names)], narrowed := true }
def AliasDecodesUptoSaid : Prop := aliasDecodesUptoRow.holds Tryd.pinned (OpenSpec.upto aliasDecodesSpec)

/-- 'isoglosslaw12.AliasBack', WHERE WHAT IT READS IS OF BULK AT MOST 1048576: true; the input reads as it did. -/
def aliasBackUptoRow : OpenClaim := { program := "ytmbfnbnlajchmaadoor", sum := "abfa36a8641cbedb23e9f58fa58babb084e496d0c8cb22956cc2d1ab5dadee46", func := "isogloss/isoglosslaw12.AliasBack", spec := "aliasBack", unfollowed := true, recurses := true, named := ["isogloss/grand.names"], apart := false, laid := [("isogloss/grand.names", laid_isogloss_grand_names)], narrowed := true }
def AliasBackUptoSaid : Prop := aliasBackUptoRow.holds Tryd.pinned (OpenSpec.upto aliasBackSpec)

end Rows
end Go.Proofs.YtmbfnbnlajchmaaDoor
