/-
  No cell of these rows narrows 'for every input' (looked for: loops, veiled, ifaces, maps, wideKeys, modest, calm, conditions, laid).
  DERIVED. THE GIVEN ROWS OF THIS SEAT. 5 by the template 'for every input the law returns true; each argument reads behind the call as it read before'; 0 by the template 'total and deterministic' (their statements: YtebapdkfndlpgaaTotals.lean).
  GIVEN WITH THE SEED: the statements are not yours to turn. If you find one false, say at which input.
  Laid BY PROGRAM, IN A SANDBOX (cutbox-rows.mjs): the forced cells as the released guide's own fill.sh prints them over the translation 3051dc433134a769… (all of the seat's roots in one cut). By AI agents, Wed Nov 11 2026. No macro, syntax, notation, axiom, sorry.
-/
import Derived.Test.YtebapdkfndlpgaaChecked
import GoSem.Claim
import GoSem.ClaimJoined
import GoSem.ClaimMapViews
import Derived.JoinedTies
import Derived.KernelRfl
namespace Go.Proofs.Ytebapdkfndlpgaa
/- THE CELL 'sum', in the pinned program and in every row, IS THE sha256 OF THE DUMP (.gsa) THAT YtebapdkfndlpgaaProg.lean LOADS. Nothing in Lean hashes anything: it is a label: what it is worth is what the hold of that sum in a sandbox is worth. -/
noncomputable def Try.pinned : Pinned := { name := "ytebapdkfndlpgaa", sum := "3051dc433134a769dd9f9301cf5b0ab50eaedcbcd9fb1b1bc085224895c83404", checked := Try.checked }
namespace Rows
def none {H : Type} : Left H := { results := [], args := [] }

/-- 'groatlaw10.TlvPuts': WHATEVER THE INPUT: true; the input reads as it did. -/
def tlvPutsSpec : ChangeSpec := { name := "tlvPuts", fn := fun _ => fun
  | [d] => { results := [.lit (.bool true)], args := [d] }
  | _ => none }
def tlvPutsRow : OpenClaim := { program := "ytebapdkfndlpgaa", sum := "3051dc433134a769dd9f9301cf5b0ab50eaedcbcd9fb1b1bc085224895c83404", func := "groat/groatlaw10.TlvPuts", spec := "tlvPuts", inPlace := ["internal/abi.NoEscape"], apart := false }
def TlvPutsSaid : Prop := tlvPutsRow.holds Try.pinned (OpenSpec.ofChange tlvPutsSpec)

/-- ITS FALSE NEIGHBOUR: 'it returns false'. Refute it at one input. -/
def tlvPutsWrong : ChangeSpec := { name := "tlvPuts", fn := fun _ => fun
  | [d] => { results := [.lit (.bool false)], args := [d] }
  | _ => none }
def TlvPutsWrongFalsely : Prop := tlvPutsRow.holds Try.pinned (OpenSpec.ofChange tlvPutsWrong)

/-- 'groatlaw10.TlvGets': WHATEVER THE INPUT: true; the input reads as it did. -/
def tlvGetsSpec : ChangeSpec := { name := "tlvGets", fn := fun _ => fun
  | [d] => { results := [.lit (.bool true)], args := [d] }
  | _ => none }
def tlvGetsRow : OpenClaim := { program := "ytebapdkfndlpgaa", sum := "3051dc433134a769dd9f9301cf5b0ab50eaedcbcd9fb1b1bc085224895c83404", func := "groat/groatlaw10.TlvGets", spec := "tlvGets", inPlace := ["internal/abi.NoEscape"], apart := false }
def TlvGetsSaid : Prop := tlvGetsRow.holds Try.pinned (OpenSpec.ofChange tlvGetsSpec)

/-- ITS FALSE NEIGHBOUR: 'it returns false'. Refute it at one input. -/
def tlvGetsWrong : ChangeSpec := { name := "tlvGets", fn := fun _ => fun
  | [d] => { results := [.lit (.bool false)], args := [d] }
  | _ => none }
def TlvGetsWrongFalsely : Prop := tlvGetsRow.holds Try.pinned (OpenSpec.ofChange tlvGetsWrong)

/-- 'groatlaw10.TlvBack': WHATEVER THE INPUT: true; the input reads as it did. -/
def tlvBackSpec : ChangeSpec := { name := "tlvBack", fn := fun _ => fun
  | [d] => { results := [.lit (.bool true)], args := [d] }
  | _ => none }
def tlvBackRow : OpenClaim := { program := "ytebapdkfndlpgaa", sum := "3051dc433134a769dd9f9301cf5b0ab50eaedcbcd9fb1b1bc085224895c83404", func := "groat/groatlaw10.TlvBack", spec := "tlvBack", inPlace := ["internal/abi.NoEscape"], apart := false }
def TlvBackSaid : Prop := tlvBackRow.holds Try.pinned (OpenSpec.ofChange tlvBackSpec)

/-- ITS FALSE NEIGHBOUR: 'it returns false'. Refute it at one input. -/
def tlvBackWrong : ChangeSpec := { name := "tlvBack", fn := fun _ => fun
  | [d] => { results := [.lit (.bool false)], args := [d] }
  | _ => none }
def TlvBackWrongFalsely : Prop := tlvBackRow.holds Try.pinned (OpenSpec.ofChange tlvBackWrong)

/-- 'groatlaw10.TlvOne': WHATEVER THE INPUT: true; the input reads as it did. -/
def tlvOneSpec : ChangeSpec := { name := "tlvOne", fn := fun _ => fun
  | [d] => { results := [.lit (.bool true)], args := [d] }
  | _ => none }
def tlvOneRow : OpenClaim := { program := "ytebapdkfndlpgaa", sum := "3051dc433134a769dd9f9301cf5b0ab50eaedcbcd9fb1b1bc085224895c83404", func := "groat/groatlaw10.TlvOne", spec := "tlvOne", inPlace := ["internal/abi.NoEscape"], apart := false }
def TlvOneSaid : Prop := tlvOneRow.holds Try.pinned (OpenSpec.ofChange tlvOneSpec)

/-- ITS FALSE NEIGHBOUR: 'it returns false'. Refute it at one input. -/
def tlvOneWrong : ChangeSpec := { name := "tlvOne", fn := fun _ => fun
  | [d] => { results := [.lit (.bool false)], args := [d] }
  | _ => none }
def TlvOneWrongFalsely : Prop := tlvOneRow.holds Try.pinned (OpenSpec.ofChange tlvOneWrong)

/-- 'groatlaw10.TlvFinds': WHATEVER THE INPUT: true; the input reads as it did. -/
def tlvFindsSpec : ChangeSpec := { name := "tlvFinds", fn := fun _ => fun
  | [d1, d2] => { results := [.lit (.bool true)], args := [d1, d2] }
  | _ => none }
def tlvFindsRow : OpenClaim := { program := "ytebapdkfndlpgaa", sum := "3051dc433134a769dd9f9301cf5b0ab50eaedcbcd9fb1b1bc085224895c83404", func := "groat/groatlaw10.TlvFinds", spec := "tlvFinds", inPlace := ["internal/abi.NoEscape"], apart := false }
def TlvFindsSaid : Prop := tlvFindsRow.holds Try.pinned (OpenSpec.ofChange tlvFindsSpec)

/-- ITS FALSE NEIGHBOUR: 'it returns false'. Refute it at one input. -/
def tlvFindsWrong : ChangeSpec := { name := "tlvFinds", fn := fun _ => fun
  | [d1, d2] => { results := [.lit (.bool false)], args := [d1, d2] }
  | _ => none }
def TlvFindsWrongFalsely : Prop := tlvFindsRow.holds Try.pinned (OpenSpec.ofChange tlvFindsWrong)

/- THE SECOND FORM. 'bulk': how many values and letters a reading holds, each counted each time it is reached (what is shared counts as often as it is met; a slice's spare places count too). A statement '..UptoSaid' is the law's where the arguments, and the package variables that the reading takes, are together of bulk at most 1048576: NARROWER than '..Said'. Prove '..Said' where nothing that the law and all that it calls make is longer than what came in: it says more and counts as full. Else prove '..UptoSaid'. A law counts once. -/
mutual
def uptoBulk {H : Type} : DataW H → Nat
  | .lit (.string bytes) => bytes.length + 1
  | .lit _ => 1
  | .nil => 1
  | .ptr d => uptoBulk d + 1
  | .slice elems spare => uptoBulkAll elems + uptoBulkAll spare + 1
  | .agg parts => uptoBulkAll parts + 1
  | .iface _ d => uptoBulk d + 1
  | .map entries => uptoBulkEntries entries + 1
  | .held _ => 1
def uptoBulkAll {H : Type} : List (DataW H) → Nat
  | [] => 0
  | d :: r => uptoBulk d + uptoBulkAll r
def uptoBulkEntries {H : Type} : List (Lit × DataW H) → Nat
  | [] => 0
  | x :: r => uptoBulkEntry x + uptoBulkEntries r
def uptoBulkEntry {H : Type} : Lit × DataW H → Nat
  | (.string bytes, d) => bytes.length + uptoBulk d + 1
  | (_, d) => uptoBulk d + 1
 end
def uptoSmall : (H : Type) → List (DataW H) → Bool := fun _ ds => decide (uptoBulkAll ds ≤ 1048576)
def OpenSpec.upto (s : _root_.Go.ChangeSpec) : _root_.Go.OpenSpec := { _root_.Go.OpenSpec.ofChange s with cond := some uptoSmall }

/-- 'groatlaw10.TlvPuts', WHERE WHAT IT READS IS OF BULK AT MOST 1048576: true; the input reads as it did. -/
def tlvPutsUptoRow : OpenClaim := { program := "ytebapdkfndlpgaa", sum := "3051dc433134a769dd9f9301cf5b0ab50eaedcbcd9fb1b1bc085224895c83404", func := "groat/groatlaw10.TlvPuts", spec := "tlvPuts", inPlace := ["internal/abi.NoEscape"], apart := false, narrowed := true }
def TlvPutsUptoSaid : Prop := tlvPutsUptoRow.holds Try.pinned (OpenSpec.upto tlvPutsSpec)

/-- 'groatlaw10.TlvGets', WHERE WHAT IT READS IS OF BULK AT MOST 1048576: true; the input reads as it did. -/
def tlvGetsUptoRow : OpenClaim := { program := "ytebapdkfndlpgaa", sum := "3051dc433134a769dd9f9301cf5b0ab50eaedcbcd9fb1b1bc085224895c83404", func := "groat/groatlaw10.TlvGets", spec := "tlvGets", inPlace := ["internal/abi.NoEscape"], apart := false, narrowed := true }
def TlvGetsUptoSaid : Prop := tlvGetsUptoRow.holds Try.pinned (OpenSpec.upto tlvGetsSpec)

/-- 'groatlaw10.TlvBack', WHERE WHAT IT READS IS OF BULK AT MOST 1048576: true; the input reads as it did. -/
def tlvBackUptoRow : OpenClaim := { program := "ytebapdkfndlpgaa", sum := "3051dc433134a769dd9f9301cf5b0ab50eaedcbcd9fb1b1bc085224895c83404", func := "groat/groatlaw10.TlvBack", spec := "tlvBack", inPlace := ["internal/abi.NoEscape"], apart := false, narrowed := true }
def TlvBackUptoSaid : Prop := tlvBackUptoRow.holds Try.pinned (OpenSpec.upto tlvBackSpec)

/-- 'groatlaw10.TlvOne', WHERE WHAT IT READS IS OF BULK AT MOST 1048576: true; the input reads as it did. -/
def tlvOneUptoRow : OpenClaim := { program := "ytebapdkfndlpgaa", sum := "3051dc433134a769dd9f9301cf5b0ab50eaedcbcd9fb1b1bc085224895c83404", func := "groat/groatlaw10.TlvOne", spec := "tlvOne", inPlace := ["internal/abi.NoEscape"], apart := false, narrowed := true }
def TlvOneUptoSaid : Prop := tlvOneUptoRow.holds Try.pinned (OpenSpec.upto tlvOneSpec)

/-- 'groatlaw10.TlvFinds', WHERE WHAT IT READS IS OF BULK AT MOST 1048576: true; the input reads as it did. -/
def tlvFindsUptoRow : OpenClaim := { program := "ytebapdkfndlpgaa", sum := "3051dc433134a769dd9f9301cf5b0ab50eaedcbcd9fb1b1bc085224895c83404", func := "groat/groatlaw10.TlvFinds", spec := "tlvFinds", inPlace := ["internal/abi.NoEscape"], apart := false, narrowed := true }
def TlvFindsUptoSaid : Prop := tlvFindsUptoRow.holds Try.pinned (OpenSpec.upto tlvFindsSpec)

end Rows
end Go.Proofs.Ytebapdkfndlpgaa
