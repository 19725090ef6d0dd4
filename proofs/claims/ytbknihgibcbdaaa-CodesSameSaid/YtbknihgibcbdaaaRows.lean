/-
  No cell of these rows narrows 'for every input' (looked for: loops, veiled, ifaces, maps, wideKeys, modest, calm, conditions, laid).
  DERIVED. THE GIVEN ROWS OF THIS SEAT. 5 by the template 'for every input the law returns true; each argument reads behind the call as it read before'; 0 by the template 'total and deterministic' (their statements: YtbknihgibcbdaaaTotals.lean).
  GIVEN WITH THE SEED: the statements are not yours to turn. If you find one false, say at which input.
  Laid BY PROGRAM, IN A SANDBOX (cutbox-rows.mjs): the forced cells as the released guide's own fill.sh prints them over the translation f89434a3c48dc93e… (all of the seat's roots in one cut). By AI agents, Wed Nov 11 2026. No macro, syntax, notation, axiom, sorry.
-/
import Derived.Test.YtbknihgibcbdaaaChecked
import GoSem.Claim
import GoSem.ClaimJoined
import GoSem.ClaimMapViews
import Derived.JoinedTies
import Derived.KernelRfl
namespace Go.Proofs.Ytbknihgibcbdaaa
/- THE CELL 'sum', in the pinned program and in every row, IS THE sha256 OF THE DUMP (.gsa) THAT YtbknihgibcbdaaaProg.lean LOADS. Nothing in Lean hashes anything: it is a label: what it is worth is what the hold of that sum in a sandbox is worth. -/
noncomputable def Try.pinned : Pinned := { name := "ytbknihgibcbdaaa", sum := "f89434a3c48dc93e6626927c36b3601489ac0129251deb900c8a0eae75e41252", checked := Try.checked }
namespace Rows
def none {H : Type} : Left H := { results := [], args := [] }

/-- 'groatlaw19.CodesChecks': WHATEVER THE INPUT: true; the input reads as it did. -/
def codesChecksSpec : ChangeSpec := { name := "codesChecks", fn := fun _ => fun
  | [d] => { results := [.lit (.bool true)], args := [d] }
  | _ => none }
def codesChecksRow : OpenClaim := { program := "ytbknihgibcbdaaa", sum := "f89434a3c48dc93e6626927c36b3601489ac0129251deb900c8a0eae75e41252", func := "groat/groatlaw19.CodesChecks", spec := "codesChecks", apart := false }
def CodesChecksSaid : Prop := codesChecksRow.holds Try.pinned (OpenSpec.ofChange codesChecksSpec)

/-- ITS FALSE NEIGHBOUR: 'it returns false'. Refute it at one input. -/
def codesChecksWrong : ChangeSpec := { name := "codesChecks", fn := fun _ => fun
  | [d] => { results := [.lit (.bool false)], args := [d] }
  | _ => none }
def CodesChecksWrongFalsely : Prop := codesChecksRow.holds Try.pinned (OpenSpec.ofChange codesChecksWrong)

/-- 'groatlaw19.CodesApply': WHATEVER THE INPUT: true; the input reads as it did. -/
def codesApplySpec : ChangeSpec := { name := "codesApply", fn := fun _ => fun
  | [d1, d2] => { results := [.lit (.bool true)], args := [d1, d2] }
  | _ => none }
def codesApplyRow : OpenClaim := { program := "ytbknihgibcbdaaa", sum := "f89434a3c48dc93e6626927c36b3601489ac0129251deb900c8a0eae75e41252", func := "groat/groatlaw19.CodesApply", spec := "codesApply", apart := false }
def CodesApplySaid : Prop := codesApplyRow.holds Try.pinned (OpenSpec.ofChange codesApplySpec)

/-- ITS FALSE NEIGHBOUR: 'it returns false'. Refute it at one input. -/
def codesApplyWrong : ChangeSpec := { name := "codesApply", fn := fun _ => fun
  | [d1, d2] => { results := [.lit (.bool false)], args := [d1, d2] }
  | _ => none }
def CodesApplyWrongFalsely : Prop := codesApplyRow.holds Try.pinned (OpenSpec.ofChange codesApplyWrong)

/-- 'groatlaw19.CodesTurns': WHATEVER THE INPUT: true; the input reads as it did. -/
def codesTurnsSpec : ChangeSpec := { name := "codesTurns", fn := fun _ => fun
  | [d] => { results := [.lit (.bool true)], args := [d] }
  | _ => none }
def codesTurnsRow : OpenClaim := { program := "ytbknihgibcbdaaa", sum := "f89434a3c48dc93e6626927c36b3601489ac0129251deb900c8a0eae75e41252", func := "groat/groatlaw19.CodesTurns", spec := "codesTurns", apart := false }
def CodesTurnsSaid : Prop := codesTurnsRow.holds Try.pinned (OpenSpec.ofChange codesTurnsSpec)

/-- ITS FALSE NEIGHBOUR: 'it returns false'. Refute it at one input. -/
def codesTurnsWrong : ChangeSpec := { name := "codesTurns", fn := fun _ => fun
  | [d] => { results := [.lit (.bool false)], args := [d] }
  | _ => none }
def CodesTurnsWrongFalsely : Prop := codesTurnsRow.holds Try.pinned (OpenSpec.ofChange codesTurnsWrong)

/-- 'groatlaw19.CodesBack': WHATEVER THE INPUT: true; the input reads as it did. -/
def codesBackSpec : ChangeSpec := { name := "codesBack", fn := fun _ => fun
  | [d1, d2] => { results := [.lit (.bool true)], args := [d1, d2] }
  | _ => none }
def codesBackRow : OpenClaim := { program := "ytbknihgibcbdaaa", sum := "f89434a3c48dc93e6626927c36b3601489ac0129251deb900c8a0eae75e41252", func := "groat/groatlaw19.CodesBack", spec := "codesBack", apart := false }
def CodesBackSaid : Prop := codesBackRow.holds Try.pinned (OpenSpec.ofChange codesBackSpec)

/-- ITS FALSE NEIGHBOUR: 'it returns false'. Refute it at one input. -/
def codesBackWrong : ChangeSpec := { name := "codesBack", fn := fun _ => fun
  | [d1, d2] => { results := [.lit (.bool false)], args := [d1, d2] }
  | _ => none }
def CodesBackWrongFalsely : Prop := codesBackRow.holds Try.pinned (OpenSpec.ofChange codesBackWrong)

/-- 'groatlaw19.CodesSame': WHATEVER THE INPUT: true; the input reads as it did. -/
def codesSameSpec : ChangeSpec := { name := "codesSame", fn := fun _ => fun
  | [d1, d2, d3] => { results := [.lit (.bool true)], args := [d1, d2, d3] }
  | _ => none }
def codesSameRow : OpenClaim := { program := "ytbknihgibcbdaaa", sum := "f89434a3c48dc93e6626927c36b3601489ac0129251deb900c8a0eae75e41252", func := "groat/groatlaw19.CodesSame", spec := "codesSame", apart := false }
def CodesSameSaid : Prop := codesSameRow.holds Try.pinned (OpenSpec.ofChange codesSameSpec)

/-- ITS FALSE NEIGHBOUR: 'it returns false'. Refute it at one input. -/
def codesSameWrong : ChangeSpec := { name := "codesSame", fn := fun _ => fun
  | [d1, d2, d3] => { results := [.lit (.bool false)], args := [d1, d2, d3] }
  | _ => none }
def CodesSameWrongFalsely : Prop := codesSameRow.holds Try.pinned (OpenSpec.ofChange codesSameWrong)

/- THE SECOND FORM. 'bulk': how many values and letters a reading holds, each counted each time it is reached (what is shared counts as often as it is met; a slice's spare places count too). A statement '..UptoSaid' is the law's where the arguments, and the package variables that the reading takes, are together of bulk at most 1048576: NARROWER than '..Said'. Prove '..Said' where nothing that the law and all that it calls make is longer than what came in: it says more and counts as full. Else prove '..UptoSaid'. A law counts once. -/
mutual
def uptoBulk {H : Type} : DataW H → Nat
  | .lit (.string bytes) => bytes.length + 1
  | .lit _ => 1
  | .nil => 1
  | .ptr d => uptoBulk d + 1
  | .slice elems spare => uptoBulkAll elems + uptoBulkAll spare + 1
  | .agg parts => uptoBulkAll parts + 1
  | .iface _ d => uptoBulk d + 1
  | .map entries => uptoBulkEntries entries + 1
  | .held _ => 1
def uptoBulkAll {H : Type} : List (DataW H) → Nat
  | [] => 0
  | d :: r => uptoBulk d + uptoBulkAll r
def uptoBulkEntries {H : Type} : List (Lit × DataW H) → Nat
  | [] => 0
  | x :: r => uptoBulkEntry x + uptoBulkEntries r
def uptoBulkEntry {H : Type} : Lit × DataW H → Nat
  | (.string bytes, d) => bytes.length + uptoBulk d + 1
  | (_, d) => uptoBulk d + 1
 end
def uptoSmall : (H : Type) → List (DataW H) → Bool := fun _ ds => decide (uptoBulkAll ds ≤ 1048576)
def OpenSpec.upto (s : _root_.Go.ChangeSpec) : _root_.Go.OpenSpec := { _root_.Go.OpenSpec.ofChange s with cond := some uptoSmall }

/-- 'groatlaw19.CodesChecks', WHERE WHAT IT READS IS OF BULK AT MOST 1048576: true; the input reads as it did. -/
def codesChecksUptoRow : OpenClaim := { program := "ytbknihgibcbdaaa", sum := "f89434a3c48dc93e6626927c36b3601489ac0129251deb900c8a0eae75e41252", func := "groat/groatlaw19.CodesChecks", spec := "codesChecks", apart := false, narrowed := true }
def CodesChecksUptoSaid : Prop := codesChecksUptoRow.holds Try.pinned (OpenSpec.upto codesChecksSpec)

/-- 'groatlaw19.CodesApply', WHERE WHAT IT READS IS OF BULK AT MOST 1048576: true; the input reads as it did. -/
def codesApplyUptoRow : OpenClaim := { program := "ytbknihgibcbdaaa", sum := "f89434a3c48dc93e6626927c36b3601489ac0129251deb900c8a0eae75e41252", func := "groat/groatlaw19.CodesApply", spec := "codesApply", apart := false, narrowed := true }
def CodesApplyUptoSaid : Prop := codesApplyUptoRow.holds Try.pinned (OpenSpec.upto codesApplySpec)

/-- 'groatlaw19.CodesTurns', WHERE WHAT IT READS IS OF BULK AT MOST 1048576: true; the input reads as it did. -/
def codesTurnsUptoRow : OpenClaim := { program := "ytbknihgibcbdaaa", sum := "f89434a3c48dc93e6626927c36b3601489ac0129251deb900c8a0eae75e41252", func := "groat/groatlaw19.CodesTurns", spec := "codesTurns", apart := false, narrowed := true }
def CodesTurnsUptoSaid : Prop := codesTurnsUptoRow.holds Try.pinned (OpenSpec.upto codesTurnsSpec)

/-- 'groatlaw19.CodesBack', WHERE WHAT IT READS IS OF BULK AT MOST 1048576: true; the input reads as it did. -/
def codesBackUptoRow : OpenClaim := { program := "ytbknihgibcbdaaa", sum := "f89434a3c48dc93e6626927c36b3601489ac0129251deb900c8a0eae75e41252", func := "groat/groatlaw19.CodesBack", spec := "codesBack", apart := false, narrowed := true }
def CodesBackUptoSaid : Prop := codesBackUptoRow.holds Try.pinned (OpenSpec.upto codesBackSpec)

/-- 'groatlaw19.CodesSame', WHERE WHAT IT READS IS OF BULK AT MOST 1048576: true; the input reads as it did. -/
def codesSameUptoRow : OpenClaim := { program := "ytbknihgibcbdaaa", sum := "f89434a3c48dc93e6626927c36b3601489ac0129251deb900c8a0eae75e41252", func := "groat/groatlaw19.CodesSame", spec := "codesSame", apart := false, narrowed := true }
def CodesSameUptoSaid : Prop := codesSameUptoRow.holds Try.pinned (OpenSpec.upto codesSameSpec)

end Rows
end Go.Proofs.Ytbknihgibcbdaaa
