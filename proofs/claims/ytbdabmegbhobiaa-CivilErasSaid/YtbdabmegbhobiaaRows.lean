/-
  No cell of these rows narrows 'for every input' (looked for: loops, veiled, ifaces, maps, wideKeys, modest, calm, conditions, laid).
  DERIVED. THE GIVEN ROWS OF THIS SEAT. 11 by the template 'for every input the law returns true; each argument reads behind the call as it read before'; 0 by the template 'total and deterministic' (their statements: YtbdabmegbhobiaaTotals.lean).
  GIVEN WITH THE SEED: the statements are not yours to turn. If you find one false, say at which input.
  Laid BY PROGRAM, IN A SANDBOX (cutbox-rows.mjs): the forced cells as the released guide's own fill.sh prints them over the translation afb271c2cc80bc6a… (all of the seat's roots in one cut). By AI agents, Wed Nov 11 2026. No macro, syntax, notation, axiom, sorry.
-/
import Derived.Test.YtbdabmegbhobiaaChecked
import GoSem.Claim
import GoSem.ClaimJoined
import GoSem.ClaimMapViews
import Derived.JoinedTies
import Derived.KernelRfl
namespace Go.Proofs.Ytbdabmegbhobiaa
/- THE CELL 'sum', in the pinned program and in every row, IS THE sha256 OF THE DUMP (.gsa) THAT YtbdabmegbhobiaaProg.lean LOADS. Nothing in Lean hashes anything: it is a label: what it is worth is what the hold of that sum in a sandbox is worth. -/
noncomputable def Try.pinned : Pinned := { name := "ytbdabmegbhobiaa", sum := "afb271c2cc80bc6ae21f243391940aa6c56f0daf7c298102796730d0abb70afd", checked := Try.checked }
namespace Rows
def none {H : Type} : Left H := { results := [], args := [] }

/-- 'interlocutorlaw1.CivilDays': WHATEVER THE INPUT: true; the input reads as it did. -/
def civilDaysSpec : ChangeSpec := { name := "civilDays", fn := fun _ => fun
  | [d] => { results := [.lit (.bool true)], args := [d] }
  | _ => none }
def civilDaysRow : OpenClaim := { program := "ytbdabmegbhobiaa", sum := "afb271c2cc80bc6ae21f243391940aa6c56f0daf7c298102796730d0abb70afd", func := "interlocutor/interlocutorlaw1.CivilDays", spec := "civilDays", unfollowed := true, recurses := true, apart := false }
def CivilDaysSaid : Prop := civilDaysRow.holds Try.pinned (OpenSpec.ofChange civilDaysSpec)

/-- ITS FALSE NEIGHBOUR: 'it returns false'. Refute it at one input. -/
def civilDaysWrong : ChangeSpec := { name := "civilDays", fn := fun _ => fun
  | [d] => { results := [.lit (.bool false)], args := [d] }
  | _ => none }
def CivilDaysWrongFalsely : Prop := civilDaysRow.holds Try.pinned (OpenSpec.ofChange civilDaysWrong)

/-- 'interlocutorlaw1.CivilNext': WHATEVER THE INPUT: true; the input reads as it did. -/
def civilNextSpec : ChangeSpec := { name := "civilNext", fn := fun _ => fun
  | [d] => { results := [.lit (.bool true)], args := [d] }
  | _ => none }
def civilNextRow : OpenClaim := { program := "ytbdabmegbhobiaa", sum := "afb271c2cc80bc6ae21f243391940aa6c56f0daf7c298102796730d0abb70afd", func := "interlocutor/interlocutorlaw1.CivilNext", spec := "civilNext", unfollowed := true, recurses := true, apart := false }
def CivilNextSaid : Prop := civilNextRow.holds Try.pinned (OpenSpec.ofChange civilNextSpec)

/-- ITS FALSE NEIGHBOUR: 'it returns false'. Refute it at one input. -/
def civilNextWrong : ChangeSpec := { name := "civilNext", fn := fun _ => fun
  | [d] => { results := [.lit (.bool false)], args := [d] }
  | _ => none }
def CivilNextWrongFalsely : Prop := civilNextRow.holds Try.pinned (OpenSpec.ofChange civilNextWrong)

/-- 'interlocutorlaw1.CivilLengths': WHATEVER THE INPUT: true; the input reads as it did. -/
def civilLengthsSpec : ChangeSpec := { name := "civilLengths", fn := fun _ => fun
  | [d] => { results := [.lit (.bool true)], args := [d] }
  | _ => none }
def civilLengthsRow : OpenClaim := { program := "ytbdabmegbhobiaa", sum := "afb271c2cc80bc6ae21f243391940aa6c56f0daf7c298102796730d0abb70afd", func := "interlocutor/interlocutorlaw1.CivilLengths", spec := "civilLengths", unfollowed := true, recurses := true, apart := false }
def CivilLengthsSaid : Prop := civilLengthsRow.holds Try.pinned (OpenSpec.ofChange civilLengthsSpec)

/-- ITS FALSE NEIGHBOUR: 'it returns false'. Refute it at one input. -/
def civilLengthsWrong : ChangeSpec := { name := "civilLengths", fn := fun _ => fun
  | [d] => { results := [.lit (.bool false)], args := [d] }
  | _ => none }
def CivilLengthsWrongFalsely : Prop := civilLengthsRow.holds Try.pinned (OpenSpec.ofChange civilLengthsWrong)

/-- 'interlocutorlaw1.CivilAdds': WHATEVER THE INPUT: true; the input reads as it did. -/
def civilAddsSpec : ChangeSpec := { name := "civilAdds", fn := fun _ => fun
  | [d1, d2, d3, d4, d5] => { results := [.lit (.bool true)], args := [d1, d2, d3, d4, d5] }
  | _ => none }
def civilAddsRow : OpenClaim := { program := "ytbdabmegbhobiaa", sum := "afb271c2cc80bc6ae21f243391940aa6c56f0daf7c298102796730d0abb70afd", func := "interlocutor/interlocutorlaw1.CivilAdds", spec := "civilAdds", unfollowed := true, recurses := true, apart := false }
def CivilAddsSaid : Prop := civilAddsRow.holds Try.pinned (OpenSpec.ofChange civilAddsSpec)

/-- ITS FALSE NEIGHBOUR: 'it returns false'. Refute it at one input. -/
def civilAddsWrong : ChangeSpec := { name := "civilAdds", fn := fun _ => fun
  | [d1, d2, d3, d4, d5] => { results := [.lit (.bool false)], args := [d1, d2, d3, d4, d5] }
  | _ => none }
def CivilAddsWrongFalsely : Prop := civilAddsRow.holds Try.pinned (OpenSpec.ofChange civilAddsWrong)

/-- 'interlocutorlaw1.CivilKnown': WHATEVER THE INPUT: true; the input reads as it did. -/
def civilKnownSpec : ChangeSpec := { name := "civilKnown", fn := fun _ => fun
  | [d] => { results := [.lit (.bool true)], args := [d] }
  | _ => none }
def civilKnownRow : OpenClaim := { program := "ytbdabmegbhobiaa", sum := "afb271c2cc80bc6ae21f243391940aa6c56f0daf7c298102796730d0abb70afd", func := "interlocutor/interlocutorlaw1.CivilKnown", spec := "civilKnown", unfollowed := true, recurses := true, apart := false }
def CivilKnownSaid : Prop := civilKnownRow.holds Try.pinned (OpenSpec.ofChange civilKnownSpec)

/-- ITS FALSE NEIGHBOUR: 'it returns false'. Refute it at one input. -/
def civilKnownWrong : ChangeSpec := { name := "civilKnown", fn := fun _ => fun
  | [d] => { results := [.lit (.bool false)], args := [d] }
  | _ => none }
def CivilKnownWrongFalsely : Prop := civilKnownRow.holds Try.pinned (OpenSpec.ofChange civilKnownWrong)

/-- 'interlocutorlaw1.CivilMonths': WHATEVER THE INPUT: true; the input reads as it did. -/
def civilMonthsSpec : ChangeSpec := { name := "civilMonths", fn := fun _ => fun
  | [d1, d2] => { results := [.lit (.bool true)], args := [d1, d2] }
  | _ => none }
def civilMonthsRow : OpenClaim := { program := "ytbdabmegbhobiaa", sum := "afb271c2cc80bc6ae21f243391940aa6c56f0daf7c298102796730d0abb70afd", func := "interlocutor/interlocutorlaw1.CivilMonths", spec := "civilMonths", unfollowed := true, recurses := true, apart := false }
def CivilMonthsSaid : Prop := civilMonthsRow.holds Try.pinned (OpenSpec.ofChange civilMonthsSpec)

/-- ITS FALSE NEIGHBOUR: 'it returns false'. Refute it at one input. -/
def civilMonthsWrong : ChangeSpec := { name := "civilMonths", fn := fun _ => fun
  | [d1, d2] => { results := [.lit (.bool false)], args := [d1, d2] }
  | _ => none }
def CivilMonthsWrongFalsely : Prop := civilMonthsRow.holds Try.pinned (OpenSpec.ofChange civilMonthsWrong)

/-- 'interlocutorlaw1.CivilDaysOn': WHATEVER THE INPUT: true; the input reads as it did. -/
def civilDaysOnSpec : ChangeSpec := { name := "civilDaysOn", fn := fun _ => fun
  | [d1, d2] => { results := [.lit (.bool true)], args := [d1, d2] }
  | _ => none }
def civilDaysOnRow : OpenClaim := { program := "ytbdabmegbhobiaa", sum := "afb271c2cc80bc6ae21f243391940aa6c56f0daf7c298102796730d0abb70afd", func := "interlocutor/interlocutorlaw1.CivilDaysOn", spec := "civilDaysOn", unfollowed := true, recurses := true, apart := false }
def CivilDaysOnSaid : Prop := civilDaysOnRow.holds Try.pinned (OpenSpec.ofChange civilDaysOnSpec)

/-- ITS FALSE NEIGHBOUR: 'it returns false'. Refute it at one input. -/
def civilDaysOnWrong : ChangeSpec := { name := "civilDaysOn", fn := fun _ => fun
  | [d1, d2] => { results := [.lit (.bool false)], args := [d1, d2] }
  | _ => none }
def CivilDaysOnWrongFalsely : Prop := civilDaysOnRow.holds Try.pinned (OpenSpec.ofChange civilDaysOnWrong)

/-- 'interlocutorlaw1.CivilEnds': WHATEVER THE INPUT: true; the input reads as it did. -/
def civilEndsSpec : ChangeSpec := { name := "civilEnds", fn := fun _ => fun
  | [d1, d2] => { results := [.lit (.bool true)], args := [d1, d2] }
  | _ => none }
def civilEndsRow : OpenClaim := { program := "ytbdabmegbhobiaa", sum := "afb271c2cc80bc6ae21f243391940aa6c56f0daf7c298102796730d0abb70afd", func := "interlocutor/interlocutorlaw1.CivilEnds", spec := "civilEnds", unfollowed := true, recurses := true, apart := false }
def CivilEndsSaid : Prop := civilEndsRow.holds Try.pinned (OpenSpec.ofChange civilEndsSpec)

/-- ITS FALSE NEIGHBOUR: 'it returns false'. Refute it at one input. -/
def civilEndsWrong : ChangeSpec := { name := "civilEnds", fn := fun _ => fun
  | [d1, d2] => { results := [.lit (.bool false)], args := [d1, d2] }
  | _ => none }
def CivilEndsWrongFalsely : Prop := civilEndsRow.holds Try.pinned (OpenSpec.ofChange civilEndsWrong)

/-- 'interlocutorlaw1.CivilEras': WHATEVER THE INPUT: true; the input reads as it did. -/
def civilErasSpec : ChangeSpec := { name := "civilEras", fn := fun _ => fun
  | [d1, d2] => { results := [.lit (.bool true)], args := [d1, d2] }
  | _ => none }
def civilErasRow : OpenClaim := { program := "ytbdabmegbhobiaa", sum := "afb271c2cc80bc6ae21f243391940aa6c56f0daf7c298102796730d0abb70afd", func := "interlocutor/interlocutorlaw1.CivilEras", spec := "civilEras", unfollowed := true, recurses := true, apart := false }
def CivilErasSaid : Prop := civilErasRow.holds Try.pinned (OpenSpec.ofChange civilErasSpec)

/-- ITS FALSE NEIGHBOUR: 'it returns false'. Refute it at one input. -/
def civilErasWrong : ChangeSpec := { name := "civilEras", fn := fun _ => fun
  | [d1, d2] => { results := [.lit (.bool false)], args := [d1, d2] }
  | _ => none }
def CivilErasWrongFalsely : Prop := civilErasRow.holds Try.pinned (OpenSpec.ofChange civilErasWrong)

/-- 'interlocutorlaw1.CivilOrder': WHATEVER THE INPUT: true; the input reads as it did. -/
def civilOrderSpec : ChangeSpec := { name := "civilOrder", fn := fun _ => fun
  | [d1, d2] => { results := [.lit (.bool true)], args := [d1, d2] }
  | _ => none }
def civilOrderRow : OpenClaim := { program := "ytbdabmegbhobiaa", sum := "afb271c2cc80bc6ae21f243391940aa6c56f0daf7c298102796730d0abb70afd", func := "interlocutor/interlocutorlaw1.CivilOrder", spec := "civilOrder", unfollowed := true, recurses := true, apart := false }
def CivilOrderSaid : Prop := civilOrderRow.holds Try.pinned (OpenSpec.ofChange civilOrderSpec)

/-- ITS FALSE NEIGHBOUR: 'it returns false'. Refute it at one input. -/
def civilOrderWrong : ChangeSpec := { name := "civilOrder", fn := fun _ => fun
  | [d1, d2] => { results := [.lit (.bool false)], args := [d1, d2] }
  | _ => none }
def CivilOrderWrongFalsely : Prop := civilOrderRow.holds Try.pinned (OpenSpec.ofChange civilOrderWrong)

/-- 'interlocutorlaw1.CivilRight': WHATEVER THE INPUT: true; the input reads as it did. -/
def civilRightSpec : ChangeSpec := { name := "civilRight", fn := fun _ => fun
  | [d1, d2, d3, d4, d5] => { results := [.lit (.bool true)], args := [d1, d2, d3, d4, d5] }
  | _ => none }
def civilRightRow : OpenClaim := { program := "ytbdabmegbhobiaa", sum := "afb271c2cc80bc6ae21f243391940aa6c56f0daf7c298102796730d0abb70afd", func := "interlocutor/interlocutorlaw1.CivilRight", spec := "civilRight", unfollowed := true, recurses := true, apart := false }
def CivilRightSaid : Prop := civilRightRow.holds Try.pinned (OpenSpec.ofChange civilRightSpec)

/-- ITS FALSE NEIGHBOUR: 'it returns false'. Refute it at one input. -/
def civilRightWrong : ChangeSpec := { name := "civilRight", fn := fun _ => fun
  | [d1, d2, d3, d4, d5] => { results := [.lit (.bool false)], args := [d1, d2, d3, d4, d5] }
  | _ => none }
def CivilRightWrongFalsely : Prop := civilRightRow.holds Try.pinned (OpenSpec.ofChange civilRightWrong)

/- THE SECOND FORM. 'bulk': how many values and letters a reading holds, each counted each time it is reached (what is shared counts as often as it is met; a slice's spare places count too). A statement '..UptoSaid' is the law's where the arguments, and the package variables that the reading takes, are together of bulk at most 1048576: NARROWER than '..Said'. Prove '..Said' where nothing that the law and all that it calls make is longer than what came in: it says more and counts as full. Else prove '..UptoSaid'. A law counts once. -/
mutual
def uptoBulk {H : Type} : DataW H → Nat
  | .lit (.string bytes) => bytes.length + 1
  | .lit _ => 1
  | .nil => 1
  | .ptr d => uptoBulk d + 1
  | .slice elems spare => uptoBulkAll elems + uptoBulkAll spare + 1
  | .agg parts => uptoBulkAll parts + 1
  | .iface _ d => uptoBulk d + 1
  | .map entries => uptoBulkEntries entries + 1
  | .held _ => 1
def uptoBulkAll {H : Type} : List (DataW H) → Nat
  | [] => 0
  | d :: r => uptoBulk d + uptoBulkAll r
def uptoBulkEntries {H : Type} : List (Lit × DataW H) → Nat
  | [] => 0
  | x :: r => uptoBulkEntry x + uptoBulkEntries r
def uptoBulkEntry {H : Type} : Lit × DataW H → Nat
  | (.string bytes, d) => bytes.length + uptoBulk d + 1
  | (_, d) => uptoBulk d + 1
 end
def uptoSmall : (H : Type) → List (DataW H) → Bool := fun _ ds => decide (uptoBulkAll ds ≤ 1048576)
def OpenSpec.upto (s : _root_.Go.ChangeSpec) : _root_.Go.OpenSpec := { _root_.Go.OpenSpec.ofChange s with cond := some uptoSmall }

/-- 'interlocutorlaw1.CivilDays', WHERE WHAT IT READS IS OF BULK AT MOST 1048576: true; the input reads as it did. -/
def civilDaysUptoRow : OpenClaim := { program := "ytbdabmegbhobiaa", sum := "afb271c2cc80bc6ae21f243391940aa6c56f0daf7c298102796730d0abb70afd", func := "interlocutor/interlocutorlaw1.CivilDays", spec := "civilDays", unfollowed := true, recurses := true, apart := false, narrowed := true }
def CivilDaysUptoSaid : Prop := civilDaysUptoRow.holds Try.pinned (OpenSpec.upto civilDaysSpec)

/-- 'interlocutorlaw1.CivilNext', WHERE WHAT IT READS IS OF BULK AT MOST 1048576: true; the input reads as it did. -/
def civilNextUptoRow : OpenClaim := { program := "ytbdabmegbhobiaa", sum := "afb271c2cc80bc6ae21f243391940aa6c56f0daf7c298102796730d0abb70afd", func := "interlocutor/interlocutorlaw1.CivilNext", spec := "civilNext", unfollowed := true, recurses := true, apart := false, narrowed := true }
def CivilNextUptoSaid : Prop := civilNextUptoRow.holds Try.pinned (OpenSpec.upto civilNextSpec)

/-- 'interlocutorlaw1.CivilLengths', WHERE WHAT IT READS IS OF BULK AT MOST 1048576: true; the input reads as it did. -/
def civilLengthsUptoRow : OpenClaim := { program := "ytbdabmegbhobiaa", sum := "afb271c2cc80bc6ae21f243391940aa6c56f0daf7c298102796730d0abb70afd", func := "interlocutor/interlocutorlaw1.CivilLengths", spec := "civilLengths", unfollowed := true, recurses := true, apart := false, narrowed := true }
def CivilLengthsUptoSaid : Prop := civilLengthsUptoRow.holds Try.pinned (OpenSpec.upto civilLengthsSpec)

/-- 'interlocutorlaw1.CivilAdds', WHERE WHAT IT READS IS OF BULK AT MOST 1048576: true; the input reads as it did. -/
def civilAddsUptoRow : OpenClaim := { program := "ytbdabmegbhobiaa", sum := "afb271c2cc80bc6ae21f243391940aa6c56f0daf7c298102796730d0abb70afd", func := "interlocutor/interlocutorlaw1.CivilAdds", spec := "civilAdds", unfollowed := true, recurses := true, apart := false, narrowed := true }
def CivilAddsUptoSaid : Prop := civilAddsUptoRow.holds Try.pinned (OpenSpec.upto civilAddsSpec)

/-- 'interlocutorlaw1.CivilKnown', WHERE WHAT IT READS IS OF BULK AT MOST 1048576: true; the input reads as it did. -/
def civilKnownUptoRow : OpenClaim := { program := "ytbdabmegbhobiaa", sum := "afb271c2cc80bc6ae21f243391940aa6c56f0daf7c298102796730d0abb70afd", func := "interlocutor/interlocutorlaw1.CivilKnown", spec := "civilKnown", unfollowed := true, recurses := true, apart := false, narrowed := true }
def CivilKnownUptoSaid : Prop := civilKnownUptoRow.holds Try.pinned (OpenSpec.upto civilKnownSpec)

/-- 'interlocutorlaw1.CivilMonths', WHERE WHAT IT READS IS OF BULK AT MOST 1048576: true; the input reads as it did. -/
def civilMonthsUptoRow : OpenClaim := { program := "ytbdabmegbhobiaa", sum := "afb271c2cc80bc6ae21f243391940aa6c56f0daf7c298102796730d0abb70afd", func := "interlocutor/interlocutorlaw1.CivilMonths", spec := "civilMonths", unfollowed := true, recurses := true, apart := false, narrowed := true }
def CivilMonthsUptoSaid : Prop := civilMonthsUptoRow.holds Try.pinned (OpenSpec.upto civilMonthsSpec)

/-- 'interlocutorlaw1.CivilDaysOn', WHERE WHAT IT READS IS OF BULK AT MOST 1048576: true; the input reads as it did. -/
def civilDaysOnUptoRow : OpenClaim := { program := "ytbdabmegbhobiaa", sum := "afb271c2cc80bc6ae21f243391940aa6c56f0daf7c298102796730d0abb70afd", func := "interlocutor/interlocutorlaw1.CivilDaysOn", spec := "civilDaysOn", unfollowed := true, recurses := true, apart := false, narrowed := true }
def CivilDaysOnUptoSaid : Prop := civilDaysOnUptoRow.holds Try.pinned (OpenSpec.upto civilDaysOnSpec)

/-- 'interlocutorlaw1.CivilEnds', WHERE WHAT IT READS IS OF BULK AT MOST 1048576: true; the input reads as it did. -/
def civilEndsUptoRow : OpenClaim := { program := "ytbdabmegbhobiaa", sum := "afb271c2cc80bc6ae21f243391940aa6c56f0daf7c298102796730d0abb70afd", func := "interlocutor/interlocutorlaw1.CivilEnds", spec := "civilEnds", unfollowed := true, recurses := true, apart := false, narrowed := true }
def CivilEndsUptoSaid : Prop := civilEndsUptoRow.holds Try.pinned (OpenSpec.upto civilEndsSpec)

/-- 'interlocutorlaw1.CivilEras', WHERE WHAT IT READS IS OF BULK AT MOST 1048576: true; the input reads as it did. -/
def civilErasUptoRow : OpenClaim := { program := "ytbdabmegbhobiaa", sum := "afb271c2cc80bc6ae21f243391940aa6c56f0daf7c298102796730d0abb70afd", func := "interlocutor/interlocutorlaw1.CivilEras", spec := "civilEras", unfollowed := true, recurses := true, apart := false, narrowed := true }
def CivilErasUptoSaid : Prop := civilErasUptoRow.holds Try.pinned (OpenSpec.upto civilErasSpec)

/-- 'interlocutorlaw1.CivilOrder', WHERE WHAT IT READS IS OF BULK AT MOST 1048576: true; the input reads as it did. -/
def civilOrderUptoRow : OpenClaim := { program := "ytbdabmegbhobiaa", sum := "afb271c2cc80bc6ae21f243391940aa6c56f0daf7c298102796730d0abb70afd", func := "interlocutor/interlocutorlaw1.CivilOrder", spec := "civilOrder", unfollowed := true, recurses := true, apart := false, narrowed := true }
def CivilOrderUptoSaid : Prop := civilOrderUptoRow.holds Try.pinned (OpenSpec.upto civilOrderSpec)

/-- 'interlocutorlaw1.CivilRight', WHERE WHAT IT READS IS OF BULK AT MOST 1048576: true; the input reads as it did. -/
def civilRightUptoRow : OpenClaim := { program := "ytbdabmegbhobiaa", sum := "afb271c2cc80bc6ae21f243391940aa6c56f0daf7c298102796730d0abb70afd", func := "interlocutor/interlocutorlaw1.CivilRight", spec := "civilRight", unfollowed := true, recurses := true, apart := false, narrowed := true }
def CivilRightUptoSaid : Prop := civilRightUptoRow.holds Try.pinned (OpenSpec.upto civilRightSpec)

end Rows
end Go.Proofs.Ytbdabmegbhobiaa
