/-
  No cell of these rows narrows 'for every input' (looked for: loops, veiled, ifaces, maps, wideKeys, modest, calm, conditions, laid).
  DERIVED. THE GIVEN ROWS OF THIS SEAT. 5 by the template 'for every input the law returns true; each argument reads behind the call as it read before'; 0 by the template 'total and deterministic' (their statements: YtcafdimefhdfnaaTotals.lean).
  GIVEN WITH THE SEED: the statements are not yours to turn. If you find one false, say at which input.
  Laid BY PROGRAM, IN A SANDBOX (cutbox-rows.mjs): the forced cells as the released guide's own fill.sh prints them over the translation 0906ef072f0bf0c4… (all of the seat's roots in one cut). By AI agents, Wed Nov 11 2026. No macro, syntax, notation, axiom, sorry.
-/
import Derived.Test.YtcafdimefhdfnaaChecked
import GoSem.Claim
import GoSem.ClaimJoined
import GoSem.ClaimMapViews
import Derived.JoinedTies
import Derived.KernelRfl
namespace Go.Proofs.Ytcafdimefhdfnaa
/- THE CELL 'sum', in the pinned program and in every row, IS THE sha256 OF THE DUMP (.gsa) THAT YtcafdimefhdfnaaProg.lean LOADS. Nothing in Lean hashes anything: it is a label: what it is worth is what the hold of that sum in a sandbox is worth. -/
noncomputable def Try.pinned : Pinned := { name := "ytcafdimefhdfnaa", sum := "0906ef072f0bf0c4245a7a6756c0fdcc9031150719683c9be4f490222c2e5c98", checked := Try.checked }
namespace Rows
def none {H : Type} : Left H := { results := [], args := [] }

/-- 'vademecumlaw7.ShiftTells': WHATEVER THE INPUT: true; the input reads as it did. -/
def shiftTellsSpec : ChangeSpec := { name := "shiftTells", fn := fun _ => fun
  | [d1, d2, d3, d4, d5, d6, d7] => { results := [.lit (.bool true)], args := [d1, d2, d3, d4, d5, d6, d7] }
  | _ => none }
def shiftTellsRow : OpenClaim := { program := "ytcafdimefhdfnaa", sum := "0906ef072f0bf0c4245a7a6756c0fdcc9031150719683c9be4f490222c2e5c98", func := "vademecum/vademecumlaw7.ShiftTells", spec := "shiftTells", unfollowed := true, recurses := true, apart := false }
def ShiftTellsSaid : Prop := shiftTellsRow.holds Try.pinned (OpenSpec.ofChange shiftTellsSpec)

/-- ITS FALSE NEIGHBOUR: 'it returns false'. Refute it at one input. -/
def shiftTellsWrong : ChangeSpec := { name := "shiftTells", fn := fun _ => fun
  | [d1, d2, d3, d4, d5, d6, d7] => { results := [.lit (.bool false)], args := [d1, d2, d3, d4, d5, d6, d7] }
  | _ => none }
def ShiftTellsWrongFalsely : Prop := shiftTellsRow.holds Try.pinned (OpenSpec.ofChange shiftTellsWrong)

/-- 'vademecumlaw7.ShiftBack': WHATEVER THE INPUT: true; the input reads as it did. -/
def shiftBackSpec : ChangeSpec := { name := "shiftBack", fn := fun _ => fun
  | [d1, d2, d3] => { results := [.lit (.bool true)], args := [d1, d2, d3] }
  | _ => none }
def shiftBackRow : OpenClaim := { program := "ytcafdimefhdfnaa", sum := "0906ef072f0bf0c4245a7a6756c0fdcc9031150719683c9be4f490222c2e5c98", func := "vademecum/vademecumlaw7.ShiftBack", spec := "shiftBack", unfollowed := true, recurses := true, apart := false }
def ShiftBackSaid : Prop := shiftBackRow.holds Try.pinned (OpenSpec.ofChange shiftBackSpec)

/-- ITS FALSE NEIGHBOUR: 'it returns false'. Refute it at one input. -/
def shiftBackWrong : ChangeSpec := { name := "shiftBack", fn := fun _ => fun
  | [d1, d2, d3] => { results := [.lit (.bool false)], args := [d1, d2, d3] }
  | _ => none }
def ShiftBackWrongFalsely : Prop := shiftBackRow.holds Try.pinned (OpenSpec.ofChange shiftBackWrong)

/-- 'vademecumlaw7.ShiftBinds': WHATEVER THE INPUT: true; the input reads as it did. -/
def shiftBindsSpec : ChangeSpec := { name := "shiftBinds", fn := fun _ => fun
  | [d1, d2] => { results := [.lit (.bool true)], args := [d1, d2] }
  | _ => none }
def shiftBindsRow : OpenClaim := { program := "ytcafdimefhdfnaa", sum := "0906ef072f0bf0c4245a7a6756c0fdcc9031150719683c9be4f490222c2e5c98", func := "vademecum/vademecumlaw7.ShiftBinds", spec := "shiftBinds", unfollowed := true, recurses := true, apart := false }
def ShiftBindsSaid : Prop := shiftBindsRow.holds Try.pinned (OpenSpec.ofChange shiftBindsSpec)

/-- ITS FALSE NEIGHBOUR: 'it returns false'. Refute it at one input. -/
def shiftBindsWrong : ChangeSpec := { name := "shiftBinds", fn := fun _ => fun
  | [d1, d2] => { results := [.lit (.bool false)], args := [d1, d2] }
  | _ => none }
def ShiftBindsWrongFalsely : Prop := shiftBindsRow.holds Try.pinned (OpenSpec.ofChange shiftBindsWrong)

/-- 'vademecumlaw7.ShiftFree': WHATEVER THE INPUT: true; the input reads as it did. -/
def shiftFreeSpec : ChangeSpec := { name := "shiftFree", fn := fun _ => fun
  | [d1, d2, d3, d4] => { results := [.lit (.bool true)], args := [d1, d2, d3, d4] }
  | _ => none }
def shiftFreeRow : OpenClaim := { program := "ytcafdimefhdfnaa", sum := "0906ef072f0bf0c4245a7a6756c0fdcc9031150719683c9be4f490222c2e5c98", func := "vademecum/vademecumlaw7.ShiftFree", spec := "shiftFree", unfollowed := true, recurses := true, apart := false }
def ShiftFreeSaid : Prop := shiftFreeRow.holds Try.pinned (OpenSpec.ofChange shiftFreeSpec)

/-- ITS FALSE NEIGHBOUR: 'it returns false'. Refute it at one input. -/
def shiftFreeWrong : ChangeSpec := { name := "shiftFree", fn := fun _ => fun
  | [d1, d2, d3, d4] => { results := [.lit (.bool false)], args := [d1, d2, d3, d4] }
  | _ => none }
def ShiftFreeWrongFalsely : Prop := shiftFreeRow.holds Try.pinned (OpenSpec.ofChange shiftFreeWrong)

/-- 'vademecumlaw7.ShiftSwaps': WHATEVER THE INPUT: true; the input reads as it did. -/
def shiftSwapsSpec : ChangeSpec := { name := "shiftSwaps", fn := fun _ => fun
  | [d1, d2, d3] => { results := [.lit (.bool true)], args := [d1, d2, d3] }
  | _ => none }
def shiftSwapsRow : OpenClaim := { program := "ytcafdimefhdfnaa", sum := "0906ef072f0bf0c4245a7a6756c0fdcc9031150719683c9be4f490222c2e5c98", func := "vademecum/vademecumlaw7.ShiftSwaps", spec := "shiftSwaps", unfollowed := true, recurses := true, apart := false }
def ShiftSwapsSaid : Prop := shiftSwapsRow.holds Try.pinned (OpenSpec.ofChange shiftSwapsSpec)

/-- ITS FALSE NEIGHBOUR: 'it returns false'. Refute it at one input. -/
def shiftSwapsWrong : ChangeSpec := { name := "shiftSwaps", fn := fun _ => fun
  | [d1, d2, d3] => { results := [.lit (.bool false)], args := [d1, d2, d3] }
  | _ => none }
def ShiftSwapsWrongFalsely : Prop := shiftSwapsRow.holds Try.pinned (OpenSpec.ofChange shiftSwapsWrong)

/- THE SECOND FORM. 'bulk': how many values and letters a reading holds, each counted each time it is reached (what is shared counts as often as it is met; a slice's spare places count too). A statement '..UptoSaid' is the law's where the arguments, and the package variables that the reading takes, are together of bulk at most 1048576: NARROWER than '..Said'. Prove '..Said' where nothing that the law and all that it calls make is longer than what came in: it says more and counts as full. Else prove '..UptoSaid'. A law counts once. -/
mutual
def uptoBulk {H : Type} : DataW H → Nat
  | .lit (.string bytes) => bytes.length + 1
  | .lit _ => 1
  | .nil => 1
  | .ptr d => uptoBulk d + 1
  | .slice elems spare => uptoBulkAll elems + uptoBulkAll spare + 1
  | .agg parts => uptoBulkAll parts + 1
  | .iface _ d => uptoBulk d + 1
  | .map entries => uptoBulkEntries entries + 1
  | .held _ => 1
def uptoBulkAll {H : Type} : List (DataW H) → Nat
  | [] => 0
  | d :: r => uptoBulk d + uptoBulkAll r
def uptoBulkEntries {H : Type} : List (Lit × DataW H) → Nat
  | [] => 0
  | x :: r => uptoBulkEntry x + uptoBulkEntries r
def uptoBulkEntry {H : Type} : Lit × DataW H → Nat
  | (.string bytes, d) => bytes.length + uptoBulk d + 1
  | (_, d) => uptoBulk d + 1
 end
def uptoSmall : (H : Type) → List (DataW H) → Bool := fun _ ds => decide (uptoBulkAll ds ≤ 1048576)
def OpenSpec.upto (s : _root_.Go.ChangeSpec) : _root_.Go.OpenSpec := { _root_.Go.OpenSpec.ofChange s with cond := some uptoSmall }

/-- 'vademecumlaw7.ShiftTells', WHERE WHAT IT READS IS OF BULK AT MOST 1048576: true; the input reads as it did. -/
def shiftTellsUptoRow : OpenClaim := { program := "ytcafdimefhdfnaa", sum := "0906ef072f0bf0c4245a7a6756c0fdcc9031150719683c9be4f490222c2e5c98", func := "vademecum/vademecumlaw7.ShiftTells", spec := "shiftTells", unfollowed := true, recurses := true, apart := false, narrowed := true }
def ShiftTellsUptoSaid : Prop := shiftTellsUptoRow.holds Try.pinned (OpenSpec.upto shiftTellsSpec)

/-- 'vademecumlaw7.ShiftBack', WHERE WHAT IT READS IS OF BULK AT MOST 1048576: true; the input reads as it did. -/
def shiftBackUptoRow : OpenClaim := { program := "ytcafdimefhdfnaa", sum := "0906ef072f0bf0c4245a7a6756c0fdcc9031150719683c9be4f490222c2e5c98", func := "vademecum/vademecumlaw7.ShiftBack", spec := "shiftBack", unfollowed := true, recurses := true, apart := false, narrowed := true }
def ShiftBackUptoSaid : Prop := shiftBackUptoRow.holds Try.pinned (OpenSpec.upto shiftBackSpec)

/-- 'vademecumlaw7.ShiftBinds', WHERE WHAT IT READS IS OF BULK AT MOST 1048576: true; the input reads as it did. -/
def shiftBindsUptoRow : OpenClaim := { program := "ytcafdimefhdfnaa", sum := "0906ef072f0bf0c4245a7a6756c0fdcc9031150719683c9be4f490222c2e5c98", func := "vademecum/vademecumlaw7.ShiftBinds", spec := "shiftBinds", unfollowed := true, recurses := true, apart := false, narrowed := true }
def ShiftBindsUptoSaid : Prop := shiftBindsUptoRow.holds Try.pinned (OpenSpec.upto shiftBindsSpec)

/-- 'vademecumlaw7.ShiftFree', WHERE WHAT IT READS IS OF BULK AT MOST 1048576: true; the input reads as it did. -/
def shiftFreeUptoRow : OpenClaim := { program := "ytcafdimefhdfnaa", sum := "0906ef072f0bf0c4245a7a6756c0fdcc9031150719683c9be4f490222c2e5c98", func := "vademecum/vademecumlaw7.ShiftFree", spec := "shiftFree", unfollowed := true, recurses := true, apart := false, narrowed := true }
def ShiftFreeUptoSaid : Prop := shiftFreeUptoRow.holds Try.pinned (OpenSpec.upto shiftFreeSpec)

/-- 'vademecumlaw7.ShiftSwaps', WHERE WHAT IT READS IS OF BULK AT MOST 1048576: true; the input reads as it did. -/
def shiftSwapsUptoRow : OpenClaim := { program := "ytcafdimefhdfnaa", sum := "0906ef072f0bf0c4245a7a6756c0fdcc9031150719683c9be4f490222c2e5c98", func := "vademecum/vademecumlaw7.ShiftSwaps", spec := "shiftSwaps", unfollowed := true, recurses := true, apart := false, narrowed := true }
def ShiftSwapsUptoSaid : Prop := shiftSwapsUptoRow.holds Try.pinned (OpenSpec.upto shiftSwapsSpec)

end Rows
end Go.Proofs.Ytcafdimefhdfnaa
