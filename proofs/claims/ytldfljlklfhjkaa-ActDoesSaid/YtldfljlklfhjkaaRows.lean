/-
  No cell of these rows narrows 'for every input' (looked for: loops, veiled, ifaces, maps, wideKeys, modest, calm, conditions, laid).
  DERIVED. THE GIVEN ROWS OF THIS SEAT. 14 by the template 'for every input the law returns true; each argument reads behind the call as it read before'; 0 by the template 'total and deterministic' (their statements: YtldfljlklfhjkaaTotals.lean).
  GIVEN WITH THE SEED: the statements are not yours to turn. If you find one false, say at which input.
  Laid BY PROGRAM, IN A SANDBOX (cutbox-rows.mjs): the forced cells as the released guide's own fill.sh prints them over the translation 68de93a16e5b9ca5… (all of the seat's roots in one cut). By AI agents, Wed Nov 11 2026. No macro, syntax, notation, axiom, sorry.
-/
import Derived.Test.YtldfljlklfhjkaaChecked
import GoSem.Claim
import GoSem.ClaimJoined
import GoSem.ClaimMapViews
import Derived.JoinedTies
import Derived.KernelRfl
namespace Go.Proofs.Ytldfljlklfhjkaa
/- THE CELL 'sum', in the pinned program and in every row, IS THE sha256 OF THE DUMP (.gsa) THAT YtldfljlklfhjkaaProg.lean LOADS. Nothing in Lean hashes anything: it is a label: what it is worth is what the hold of that sum in a sandbox is worth. -/
noncomputable def Try.pinned : Pinned := { name := "ytldfljlklfhjkaa", sum := "68de93a16e5b9ca51751b3f2b8f660a8957f38f8aad3de0113fd9252ec5b8593", checked := Try.checked }
namespace Rows
def none {H : Type} : Left H := { results := [], args := [] }

/-- 'interlocutorlaw8.ActDoes': WHATEVER THE INPUT: true; the input reads as it did. -/
def actDoesSpec : ChangeSpec := { name := "actDoes", fn := fun _ => fun
  | [d1, d2, d3, d4] => { results := [.lit (.bool true)], args := [d1, d2, d3, d4] }
  | _ => none }
def actDoesRow : OpenClaim := { program := "ytldfljlklfhjkaa", sum := "68de93a16e5b9ca51751b3f2b8f660a8957f38f8aad3de0113fd9252ec5b8593", func := "interlocutor/interlocutorlaw8.ActDoes", spec := "actDoes", unfollowed := true, recurses := true, apart := false }
def ActDoesSaid : Prop := actDoesRow.holds Try.pinned (OpenSpec.ofChange actDoesSpec)

/-- ITS FALSE NEIGHBOUR: 'it returns false'. Refute it at one input. -/
def actDoesWrong : ChangeSpec := { name := "actDoes", fn := fun _ => fun
  | [d1, d2, d3, d4] => { results := [.lit (.bool false)], args := [d1, d2, d3, d4] }
  | _ => none }
def ActDoesWrongFalsely : Prop := actDoesRow.holds Try.pinned (OpenSpec.ofChange actDoesWrong)

/-- 'interlocutorlaw8.ActFits': WHATEVER THE INPUT: true; the input reads as it did. -/
def actFitsSpec : ChangeSpec := { name := "actFits", fn := fun _ => fun
  | [d1, d2, d3, d4, d5] => { results := [.lit (.bool true)], args := [d1, d2, d3, d4, d5] }
  | _ => none }
def actFitsRow : OpenClaim := { program := "ytldfljlklfhjkaa", sum := "68de93a16e5b9ca51751b3f2b8f660a8957f38f8aad3de0113fd9252ec5b8593", func := "interlocutor/interlocutorlaw8.ActFits", spec := "actFits", unfollowed := true, recurses := true, apart := false }
def ActFitsSaid : Prop := actFitsRow.holds Try.pinned (OpenSpec.ofChange actFitsSpec)

/-- ITS FALSE NEIGHBOUR: 'it returns false'. Refute it at one input. -/
def actFitsWrong : ChangeSpec := { name := "actFits", fn := fun _ => fun
  | [d1, d2, d3, d4, d5] => { results := [.lit (.bool false)], args := [d1, d2, d3, d4, d5] }
  | _ => none }
def ActFitsWrongFalsely : Prop := actFitsRow.holds Try.pinned (OpenSpec.ofChange actFitsWrong)

/-- 'interlocutorlaw8.ActRight': WHATEVER THE INPUT: true; the input reads as it did. -/
def actRightSpec : ChangeSpec := { name := "actRight", fn := fun _ => fun
  | [d1, d2, d3, d4, d5, d6, d7] => { results := [.lit (.bool true)], args := [d1, d2, d3, d4, d5, d6, d7] }
  | _ => none }
def actRightRow : OpenClaim := { program := "ytldfljlklfhjkaa", sum := "68de93a16e5b9ca51751b3f2b8f660a8957f38f8aad3de0113fd9252ec5b8593", func := "interlocutor/interlocutorlaw8.ActRight", spec := "actRight", unfollowed := true, recurses := true, apart := false }
def ActRightSaid : Prop := actRightRow.holds Try.pinned (OpenSpec.ofChange actRightSpec)

/-- ITS FALSE NEIGHBOUR: 'it returns false'. Refute it at one input. -/
def actRightWrong : ChangeSpec := { name := "actRight", fn := fun _ => fun
  | [d1, d2, d3, d4, d5, d6, d7] => { results := [.lit (.bool false)], args := [d1, d2, d3, d4, d5, d6, d7] }
  | _ => none }
def ActRightWrongFalsely : Prop := actRightRow.holds Try.pinned (OpenSpec.ofChange actRightWrong)

/-- 'interlocutorlaw8.ActMoves': WHATEVER THE INPUT: true; the input reads as it did. -/
def actMovesSpec : ChangeSpec := { name := "actMoves", fn := fun _ => fun
  | [d1, d2, d3, d4] => { results := [.lit (.bool true)], args := [d1, d2, d3, d4] }
  | _ => none }
def actMovesRow : OpenClaim := { program := "ytldfljlklfhjkaa", sum := "68de93a16e5b9ca51751b3f2b8f660a8957f38f8aad3de0113fd9252ec5b8593", func := "interlocutor/interlocutorlaw8.ActMoves", spec := "actMoves", unfollowed := true, recurses := true, apart := false }
def ActMovesSaid : Prop := actMovesRow.holds Try.pinned (OpenSpec.ofChange actMovesSpec)

/-- ITS FALSE NEIGHBOUR: 'it returns false'. Refute it at one input. -/
def actMovesWrong : ChangeSpec := { name := "actMoves", fn := fun _ => fun
  | [d1, d2, d3, d4] => { results := [.lit (.bool false)], args := [d1, d2, d3, d4] }
  | _ => none }
def ActMovesWrongFalsely : Prop := actMovesRow.holds Try.pinned (OpenSpec.ofChange actMovesWrong)

/-- 'interlocutorlaw8.ActNext': WHATEVER THE INPUT: true; the input reads as it did. -/
def actNextSpec : ChangeSpec := { name := "actNext", fn := fun _ => fun
  | [d1, d2] => { results := [.lit (.bool true)], args := [d1, d2] }
  | _ => none }
def actNextRow : OpenClaim := { program := "ytldfljlklfhjkaa", sum := "68de93a16e5b9ca51751b3f2b8f660a8957f38f8aad3de0113fd9252ec5b8593", func := "interlocutor/interlocutorlaw8.ActNext", spec := "actNext", unfollowed := true, recurses := true, apart := false }
def ActNextSaid : Prop := actNextRow.holds Try.pinned (OpenSpec.ofChange actNextSpec)

/-- ITS FALSE NEIGHBOUR: 'it returns false'. Refute it at one input. -/
def actNextWrong : ChangeSpec := { name := "actNext", fn := fun _ => fun
  | [d1, d2] => { results := [.lit (.bool false)], args := [d1, d2] }
  | _ => none }
def ActNextWrongFalsely : Prop := actNextRow.holds Try.pinned (OpenSpec.ofChange actNextWrong)

/-- 'interlocutorlaw8.ActSigns': WHATEVER THE INPUT: true; the input reads as it did. -/
def actSignsSpec : ChangeSpec := { name := "actSigns", fn := fun _ => fun
  | [d1, d2, d3] => { results := [.lit (.bool true)], args := [d1, d2, d3] }
  | _ => none }
def actSignsRow : OpenClaim := { program := "ytldfljlklfhjkaa", sum := "68de93a16e5b9ca51751b3f2b8f660a8957f38f8aad3de0113fd9252ec5b8593", func := "interlocutor/interlocutorlaw8.ActSigns", spec := "actSigns", unfollowed := true, recurses := true, apart := false }
def ActSignsSaid : Prop := actSignsRow.holds Try.pinned (OpenSpec.ofChange actSignsSpec)

/-- ITS FALSE NEIGHBOUR: 'it returns false'. Refute it at one input. -/
def actSignsWrong : ChangeSpec := { name := "actSigns", fn := fun _ => fun
  | [d1, d2, d3] => { results := [.lit (.bool false)], args := [d1, d2, d3] }
  | _ => none }
def ActSignsWrongFalsely : Prop := actSignsRow.holds Try.pinned (OpenSpec.ofChange actSignsWrong)

/-- 'interlocutorlaw8.ActGroups': WHATEVER THE INPUT: true; the input reads as it did. -/
def actGroupsSpec : ChangeSpec := { name := "actGroups", fn := fun _ => fun
  | [d1, d2, d3] => { results := [.lit (.bool true)], args := [d1, d2, d3] }
  | _ => none }
def actGroupsRow : OpenClaim := { program := "ytldfljlklfhjkaa", sum := "68de93a16e5b9ca51751b3f2b8f660a8957f38f8aad3de0113fd9252ec5b8593", func := "interlocutor/interlocutorlaw8.ActGroups", spec := "actGroups", unfollowed := true, recurses := true, apart := false }
def ActGroupsSaid : Prop := actGroupsRow.holds Try.pinned (OpenSpec.ofChange actGroupsSpec)

/-- ITS FALSE NEIGHBOUR: 'it returns false'. Refute it at one input. -/
def actGroupsWrong : ChangeSpec := { name := "actGroups", fn := fun _ => fun
  | [d1, d2, d3] => { results := [.lit (.bool false)], args := [d1, d2, d3] }
  | _ => none }
def ActGroupsWrongFalsely : Prop := actGroupsRow.holds Try.pinned (OpenSpec.ofChange actGroupsWrong)

/-- 'interlocutorlaw8.ActMoney': WHATEVER THE INPUT: true; the input reads as it did. -/
def actMoneySpec : ChangeSpec := { name := "actMoney", fn := fun _ => fun
  | [d1, d2, d3] => { results := [.lit (.bool true)], args := [d1, d2, d3] }
  | _ => none }
def actMoneyRow : OpenClaim := { program := "ytldfljlklfhjkaa", sum := "68de93a16e5b9ca51751b3f2b8f660a8957f38f8aad3de0113fd9252ec5b8593", func := "interlocutor/interlocutorlaw8.ActMoney", spec := "actMoney", unfollowed := true, recurses := true, apart := false }
def ActMoneySaid : Prop := actMoneyRow.holds Try.pinned (OpenSpec.ofChange actMoneySpec)

/-- ITS FALSE NEIGHBOUR: 'it returns false'. Refute it at one input. -/
def actMoneyWrong : ChangeSpec := { name := "actMoney", fn := fun _ => fun
  | [d1, d2, d3] => { results := [.lit (.bool false)], args := [d1, d2, d3] }
  | _ => none }
def ActMoneyWrongFalsely : Prop := actMoneyRow.holds Try.pinned (OpenSpec.ofChange actMoneyWrong)

/-- 'interlocutorlaw8.ActHalves': WHATEVER THE INPUT: true; the input reads as it did. -/
def actHalvesSpec : ChangeSpec := { name := "actHalves", fn := fun _ => fun
  | [d1, d2, d3, d4] => { results := [.lit (.bool true)], args := [d1, d2, d3, d4] }
  | _ => none }
def actHalvesRow : OpenClaim := { program := "ytldfljlklfhjkaa", sum := "68de93a16e5b9ca51751b3f2b8f660a8957f38f8aad3de0113fd9252ec5b8593", func := "interlocutor/interlocutorlaw8.ActHalves", spec := "actHalves", unfollowed := true, recurses := true, apart := false }
def ActHalvesSaid : Prop := actHalvesRow.holds Try.pinned (OpenSpec.ofChange actHalvesSpec)

/-- ITS FALSE NEIGHBOUR: 'it returns false'. Refute it at one input. -/
def actHalvesWrong : ChangeSpec := { name := "actHalves", fn := fun _ => fun
  | [d1, d2, d3, d4] => { results := [.lit (.bool false)], args := [d1, d2, d3, d4] }
  | _ => none }
def ActHalvesWrongFalsely : Prop := actHalvesRow.holds Try.pinned (OpenSpec.ofChange actHalvesWrong)

/-- 'interlocutorlaw8.ActPicks': WHATEVER THE INPUT: true; the input reads as it did. -/
def actPicksSpec : ChangeSpec := { name := "actPicks", fn := fun _ => fun
  | [d1, d2, d3] => { results := [.lit (.bool true)], args := [d1, d2, d3] }
  | _ => none }
def actPicksRow : OpenClaim := { program := "ytldfljlklfhjkaa", sum := "68de93a16e5b9ca51751b3f2b8f660a8957f38f8aad3de0113fd9252ec5b8593", func := "interlocutor/interlocutorlaw8.ActPicks", spec := "actPicks", unfollowed := true, recurses := true, apart := false }
def ActPicksSaid : Prop := actPicksRow.holds Try.pinned (OpenSpec.ofChange actPicksSpec)

/-- ITS FALSE NEIGHBOUR: 'it returns false'. Refute it at one input. -/
def actPicksWrong : ChangeSpec := { name := "actPicks", fn := fun _ => fun
  | [d1, d2, d3] => { results := [.lit (.bool false)], args := [d1, d2, d3] }
  | _ => none }
def ActPicksWrongFalsely : Prop := actPicksRow.holds Try.pinned (OpenSpec.ofChange actPicksWrong)

/-- 'interlocutorlaw8.ActDates': WHATEVER THE INPUT: true; the input reads as it did. -/
def actDatesSpec : ChangeSpec := { name := "actDates", fn := fun _ => fun
  | [d1, d2, d3, d4, d5] => { results := [.lit (.bool true)], args := [d1, d2, d3, d4, d5] }
  | _ => none }
def actDatesRow : OpenClaim := { program := "ytldfljlklfhjkaa", sum := "68de93a16e5b9ca51751b3f2b8f660a8957f38f8aad3de0113fd9252ec5b8593", func := "interlocutor/interlocutorlaw8.ActDates", spec := "actDates", unfollowed := true, recurses := true, apart := false }
def ActDatesSaid : Prop := actDatesRow.holds Try.pinned (OpenSpec.ofChange actDatesSpec)

/-- ITS FALSE NEIGHBOUR: 'it returns false'. Refute it at one input. -/
def actDatesWrong : ChangeSpec := { name := "actDates", fn := fun _ => fun
  | [d1, d2, d3, d4, d5] => { results := [.lit (.bool false)], args := [d1, d2, d3, d4, d5] }
  | _ => none }
def ActDatesWrongFalsely : Prop := actDatesRow.holds Try.pinned (OpenSpec.ofChange actDatesWrong)

/-- 'interlocutorlaw8.ActKinds': WHATEVER THE INPUT: true; the input reads as it did. -/
def actKindsSpec : ChangeSpec := { name := "actKinds", fn := fun _ => fun
  | [d1, d2] => { results := [.lit (.bool true)], args := [d1, d2] }
  | _ => none }
def actKindsRow : OpenClaim := { program := "ytldfljlklfhjkaa", sum := "68de93a16e5b9ca51751b3f2b8f660a8957f38f8aad3de0113fd9252ec5b8593", func := "interlocutor/interlocutorlaw8.ActKinds", spec := "actKinds", unfollowed := true, recurses := true, apart := false }
def ActKindsSaid : Prop := actKindsRow.holds Try.pinned (OpenSpec.ofChange actKindsSpec)

/-- ITS FALSE NEIGHBOUR: 'it returns false'. Refute it at one input. -/
def actKindsWrong : ChangeSpec := { name := "actKinds", fn := fun _ => fun
  | [d1, d2] => { results := [.lit (.bool false)], args := [d1, d2] }
  | _ => none }
def ActKindsWrongFalsely : Prop := actKindsRow.holds Try.pinned (OpenSpec.ofChange actKindsWrong)

/-- 'interlocutorlaw8.ActSums': WHATEVER THE INPUT: true; the input reads as it did. -/
def actSumsSpec : ChangeSpec := { name := "actSums", fn := fun _ => fun
  | [d1, d2, d3] => { results := [.lit (.bool true)], args := [d1, d2, d3] }
  | _ => none }
def actSumsRow : OpenClaim := { program := "ytldfljlklfhjkaa", sum := "68de93a16e5b9ca51751b3f2b8f660a8957f38f8aad3de0113fd9252ec5b8593", func := "interlocutor/interlocutorlaw8.ActSums", spec := "actSums", unfollowed := true, recurses := true, apart := false }
def ActSumsSaid : Prop := actSumsRow.holds Try.pinned (OpenSpec.ofChange actSumsSpec)

/-- ITS FALSE NEIGHBOUR: 'it returns false'. Refute it at one input. -/
def actSumsWrong : ChangeSpec := { name := "actSums", fn := fun _ => fun
  | [d1, d2, d3] => { results := [.lit (.bool false)], args := [d1, d2, d3] }
  | _ => none }
def ActSumsWrongFalsely : Prop := actSumsRow.holds Try.pinned (OpenSpec.ofChange actSumsWrong)

/-- 'interlocutorlaw8.ActPoints': WHATEVER THE INPUT: true; the input reads as it did. -/
def actPointsSpec : ChangeSpec := { name := "actPoints", fn := fun _ => fun
  | [d1, d2, d3, d4] => { results := [.lit (.bool true)], args := [d1, d2, d3, d4] }
  | _ => none }
def actPointsRow : OpenClaim := { program := "ytldfljlklfhjkaa", sum := "68de93a16e5b9ca51751b3f2b8f660a8957f38f8aad3de0113fd9252ec5b8593", func := "interlocutor/interlocutorlaw8.ActPoints", spec := "actPoints", unfollowed := true, recurses := true, apart := false }
def ActPointsSaid : Prop := actPointsRow.holds Try.pinned (OpenSpec.ofChange actPointsSpec)

/-- ITS FALSE NEIGHBOUR: 'it returns false'. Refute it at one input. -/
def actPointsWrong : ChangeSpec := { name := "actPoints", fn := fun _ => fun
  | [d1, d2, d3, d4] => { results := [.lit (.bool false)], args := [d1, d2, d3, d4] }
  | _ => none }
def ActPointsWrongFalsely : Prop := actPointsRow.holds Try.pinned (OpenSpec.ofChange actPointsWrong)

/- THE SECOND FORM. 'bulk': how many values and letters a reading holds, each counted each time it is reached (what is shared counts as often as it is met; a slice's spare places count too). A statement '..UptoSaid' is the law's where the arguments, and the package variables that the reading takes, are together of bulk at most 1048576: NARROWER than '..Said'. Prove '..Said' where nothing that the law and all that it calls make is longer than what came in: it says more and counts as full. Else prove '..UptoSaid'. A law counts once. -/
mutual
def uptoBulk {H : Type} : DataW H → Nat
  | .lit (.string bytes) => bytes.length + 1
  | .lit _ => 1
  | .nil => 1
  | .ptr d => uptoBulk d + 1
  | .slice elems spare => uptoBulkAll elems + uptoBulkAll spare + 1
  | .agg parts => uptoBulkAll parts + 1
  | .iface _ d => uptoBulk d + 1
  | .map entries => uptoBulkEntries entries + 1
  | .held _ => 1
def uptoBulkAll {H : Type} : List (DataW H) → Nat
  | [] => 0
  | d :: r => uptoBulk d + uptoBulkAll r
def uptoBulkEntries {H : Type} : List (Lit × DataW H) → Nat
  | [] => 0
  | x :: r => uptoBulkEntry x + uptoBulkEntries r
def uptoBulkEntry {H : Type} : Lit × DataW H → Nat
  | (.string bytes, d) => bytes.length + uptoBulk d + 1
  | (_, d) => uptoBulk d + 1
 end
def uptoSmall : (H : Type) → List (DataW H) → Bool := fun _ ds => decide (uptoBulkAll ds ≤ 1048576)
def OpenSpec.upto (s : _root_.Go.ChangeSpec) : _root_.Go.OpenSpec := { _root_.Go.OpenSpec.ofChange s with cond := some uptoSmall }

/-- 'interlocutorlaw8.ActDoes', WHERE WHAT IT READS IS OF BULK AT MOST 1048576: true; the input reads as it did. -/
def actDoesUptoRow : OpenClaim := { program := "ytldfljlklfhjkaa", sum := "68de93a16e5b9ca51751b3f2b8f660a8957f38f8aad3de0113fd9252ec5b8593", func := "interlocutor/interlocutorlaw8.ActDoes", spec := "actDoes", unfollowed := true, recurses := true, apart := false, narrowed := true }
def ActDoesUptoSaid : Prop := actDoesUptoRow.holds Try.pinned (OpenSpec.upto actDoesSpec)

/-- 'interlocutorlaw8.ActFits', WHERE WHAT IT READS IS OF BULK AT MOST 1048576: true; the input reads as it did. -/
def actFitsUptoRow : OpenClaim := { program := "ytldfljlklfhjkaa", sum := "68de93a16e5b9ca51751b3f2b8f660a8957f38f8aad3de0113fd9252ec5b8593", func := "interlocutor/interlocutorlaw8.ActFits", spec := "actFits", unfollowed := true, recurses := true, apart := false, narrowed := true }
def ActFitsUptoSaid : Prop := actFitsUptoRow.holds Try.pinned (OpenSpec.upto actFitsSpec)

/-- 'interlocutorlaw8.ActRight', WHERE WHAT IT READS IS OF BULK AT MOST 1048576: true; the input reads as it did. -/
def actRightUptoRow : OpenClaim := { program := "ytldfljlklfhjkaa", sum := "68de93a16e5b9ca51751b3f2b8f660a8957f38f8aad3de0113fd9252ec5b8593", func := "interlocutor/interlocutorlaw8.ActRight", spec := "actRight", unfollowed := true, recurses := true, apart := false, narrowed := true }
def ActRightUptoSaid : Prop := actRightUptoRow.holds Try.pinned (OpenSpec.upto actRightSpec)

/-- 'interlocutorlaw8.ActMoves', WHERE WHAT IT READS IS OF BULK AT MOST 1048576: true; the input reads as it did. -/
def actMovesUptoRow : OpenClaim := { program := "ytldfljlklfhjkaa", sum := "68de93a16e5b9ca51751b3f2b8f660a8957f38f8aad3de0113fd9252ec5b8593", func := "interlocutor/interlocutorlaw8.ActMoves", spec := "actMoves", unfollowed := true, recurses := true, apart := false, narrowed := true }
def ActMovesUptoSaid : Prop := actMovesUptoRow.holds Try.pinned (OpenSpec.upto actMovesSpec)

/-- 'interlocutorlaw8.ActNext', WHERE WHAT IT READS IS OF BULK AT MOST 1048576: true; the input reads as it did. -/
def actNextUptoRow : OpenClaim := { program := "ytldfljlklfhjkaa", sum := "68de93a16e5b9ca51751b3f2b8f660a8957f38f8aad3de0113fd9252ec5b8593", func := "interlocutor/interlocutorlaw8.ActNext", spec := "actNext", unfollowed := true, recurses := true, apart := false, narrowed := true }
def ActNextUptoSaid : Prop := actNextUptoRow.holds Try.pinned (OpenSpec.upto actNextSpec)

/-- 'interlocutorlaw8.ActSigns', WHERE WHAT IT READS IS OF BULK AT MOST 1048576: true; the input reads as it did. -/
def actSignsUptoRow : OpenClaim := { program := "ytldfljlklfhjkaa", sum := "68de93a16e5b9ca51751b3f2b8f660a8957f38f8aad3de0113fd9252ec5b8593", func := "interlocutor/interlocutorlaw8.ActSigns", spec := "actSigns", unfollowed := true, recurses := true, apart := false, narrowed := true }
def ActSignsUptoSaid : Prop := actSignsUptoRow.holds Try.pinned (OpenSpec.upto actSignsSpec)

/-- 'interlocutorlaw8.ActGroups', WHERE WHAT IT READS IS OF BULK AT MOST 1048576: true; the input reads as it did. -/
def actGroupsUptoRow : OpenClaim := { program := "ytldfljlklfhjkaa", sum := "68de93a16e5b9ca51751b3f2b8f660a8957f38f8aad3de0113fd9252ec5b8593", func := "interlocutor/interlocutorlaw8.ActGroups", spec := "actGroups", unfollowed := true, recurses := true, apart := false, narrowed := true }
def ActGroupsUptoSaid : Prop := actGroupsUptoRow.holds Try.pinned (OpenSpec.upto actGroupsSpec)

/-- 'interlocutorlaw8.ActMoney', WHERE WHAT IT READS IS OF BULK AT MOST 1048576: true; the input reads as it did. -/
def actMoneyUptoRow : OpenClaim := { program := "ytldfljlklfhjkaa", sum := "68de93a16e5b9ca51751b3f2b8f660a8957f38f8aad3de0113fd9252ec5b8593", func := "interlocutor/interlocutorlaw8.ActMoney", spec := "actMoney", unfollowed := true, recurses := true, apart := false, narrowed := true }
def ActMoneyUptoSaid : Prop := actMoneyUptoRow.holds Try.pinned (OpenSpec.upto actMoneySpec)

/-- 'interlocutorlaw8.ActHalves', WHERE WHAT IT READS IS OF BULK AT MOST 1048576: true; the input reads as it did. -/
def actHalvesUptoRow : OpenClaim := { program := "ytldfljlklfhjkaa", sum := "68de93a16e5b9ca51751b3f2b8f660a8957f38f8aad3de0113fd9252ec5b8593", func := "interlocutor/interlocutorlaw8.ActHalves", spec := "actHalves", unfollowed := true, recurses := true, apart := false, narrowed := true }
def ActHalvesUptoSaid : Prop := actHalvesUptoRow.holds Try.pinned (OpenSpec.upto actHalvesSpec)

/-- 'interlocutorlaw8.ActPicks', WHERE WHAT IT READS IS OF BULK AT MOST 1048576: true; the input reads as it did. -/
def actPicksUptoRow : OpenClaim := { program := "ytldfljlklfhjkaa", sum := "68de93a16e5b9ca51751b3f2b8f660a8957f38f8aad3de0113fd9252ec5b8593", func := "interlocutor/interlocutorlaw8.ActPicks", spec := "actPicks", unfollowed := true, recurses := true, apart := false, narrowed := true }
def ActPicksUptoSaid : Prop := actPicksUptoRow.holds Try.pinned (OpenSpec.upto actPicksSpec)

/-- 'interlocutorlaw8.ActDates', WHERE WHAT IT READS IS OF BULK AT MOST 1048576: true; the input reads as it did. -/
def actDatesUptoRow : OpenClaim := { program := "ytldfljlklfhjkaa", sum := "68de93a16e5b9ca51751b3f2b8f660a8957f38f8aad3de0113fd9252ec5b8593", func := "interlocutor/interlocutorlaw8.ActDates", spec := "actDates", unfollowed := true, recurses := true, apart := false, narrowed := true }
def ActDatesUptoSaid : Prop := actDatesUptoRow.holds Try.pinned (OpenSpec.upto actDatesSpec)

/-- 'interlocutorlaw8.ActKinds', WHERE WHAT IT READS IS OF BULK AT MOST 1048576: true; the input reads as it did. -/
def actKindsUptoRow : OpenClaim := { program := "ytldfljlklfhjkaa", sum := "68de93a16e5b9ca51751b3f2b8f660a8957f38f8aad3de0113fd9252ec5b8593", func := "interlocutor/interlocutorlaw8.ActKinds", spec := "actKinds", unfollowed := true, recurses := true, apart := false, narrowed := true }
def ActKindsUptoSaid : Prop := actKindsUptoRow.holds Try.pinned (OpenSpec.upto actKindsSpec)

/-- 'interlocutorlaw8.ActSums', WHERE WHAT IT READS IS OF BULK AT MOST 1048576: true; the input reads as it did. -/
def actSumsUptoRow : OpenClaim := { program := "ytldfljlklfhjkaa", sum := "68de93a16e5b9ca51751b3f2b8f660a8957f38f8aad3de0113fd9252ec5b8593", func := "interlocutor/interlocutorlaw8.ActSums", spec := "actSums", unfollowed := true, recurses := true, apart := false, narrowed := true }
def ActSumsUptoSaid : Prop := actSumsUptoRow.holds Try.pinned (OpenSpec.upto actSumsSpec)

/-- 'interlocutorlaw8.ActPoints', WHERE WHAT IT READS IS OF BULK AT MOST 1048576: true; the input reads as it did. -/
def actPointsUptoRow : OpenClaim := { program := "ytldfljlklfhjkaa", sum := "68de93a16e5b9ca51751b3f2b8f660a8957f38f8aad3de0113fd9252ec5b8593", func := "interlocutor/interlocutorlaw8.ActPoints", spec := "actPoints", unfollowed := true, recurses := true, apart := false, narrowed := true }
def ActPointsUptoSaid : Prop := actPointsUptoRow.holds Try.pinned (OpenSpec.upto actPointsSpec)

end Rows
end Go.Proofs.Ytldfljlklfhjkaa
