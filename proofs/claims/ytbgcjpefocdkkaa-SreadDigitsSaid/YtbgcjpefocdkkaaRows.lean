/-
  No cell of these rows narrows 'for every input' (looked for: loops, veiled, ifaces, maps, wideKeys, modest, calm, conditions, laid).
  DERIVED. THE GIVEN ROWS OF THIS SEAT. 6 by the template 'for every input the law returns true; each argument reads behind the call as it read before'; 0 by the template 'total and deterministic' (their statements: YtbgcjpefocdkkaaTotals.lean).
  GIVEN WITH THE SEED: the statements are not yours to turn. If you find one false, say at which input.
  Laid BY PROGRAM, IN A SANDBOX (cutbox-rows.mjs): the forced cells as the released guide's own fill.sh prints them over the translation 01f02df213f8c666… (all of the seat's roots in one cut). By AI agents, Wed Nov 11 2026. No macro, syntax, notation, axiom, sorry.
-/
import Derived.Test.YtbgcjpefocdkkaaChecked
import GoSem.Claim
import GoSem.ClaimJoined
import GoSem.ClaimMapViews
import Derived.JoinedTies
import Derived.KernelRfl
namespace Go.Proofs.Ytbgcjpefocdkkaa
/- THE CELL 'sum', in the pinned program and in every row, IS THE sha256 OF THE DUMP (.gsa) THAT YtbgcjpefocdkkaaProg.lean LOADS. Nothing in Lean hashes anything: it is a label: what it is worth is what the hold of that sum in a sandbox is worth. -/
noncomputable def Try.pinned : Pinned := { name := "ytbgcjpefocdkkaa", sum := "01f02df213f8c666deb066d67398287f80b7f678088abd5010d4f1cf2dc40d01", checked := Try.checked }
namespace Rows
def none {H : Type} : Left H := { results := [], args := [] }

/-- 'gimletlaw21.SreadDeep': WHATEVER THE INPUT: true; the input reads as it did. -/
def sreadDeepSpec : ChangeSpec := { name := "sreadDeep", fn := fun _ => fun
  | [d1, d2, d3] => { results := [.lit (.bool true)], args := [d1, d2, d3] }
  | _ => none }
def sreadDeepRow : OpenClaim := { program := "ytbgcjpefocdkkaa", sum := "01f02df213f8c666deb066d67398287f80b7f678088abd5010d4f1cf2dc40d01", func := "gimlet/gimletlaw21.SreadDeep", spec := "sreadDeep", inPlace := ["internal/bytealg.IndexByteString"], unfollowed := true, recurses := true, apart := false }
def SreadDeepSaid : Prop := sreadDeepRow.holds Try.pinned (OpenSpec.ofChange sreadDeepSpec)

/-- ITS FALSE NEIGHBOUR: 'it returns false'. Refute it at one input. -/
def sreadDeepWrong : ChangeSpec := { name := "sreadDeep", fn := fun _ => fun
  | [d1, d2, d3] => { results := [.lit (.bool false)], args := [d1, d2, d3] }
  | _ => none }
def SreadDeepWrongFalsely : Prop := sreadDeepRow.holds Try.pinned (OpenSpec.ofChange sreadDeepWrong)

/-- 'gimletlaw21.SreadText': WHATEVER THE INPUT: true; the input reads as it did. -/
def sreadTextSpec : ChangeSpec := { name := "sreadText", fn := fun _ => fun
  | [d1, d2] => { results := [.lit (.bool true)], args := [d1, d2] }
  | _ => none }
def sreadTextRow : OpenClaim := { program := "ytbgcjpefocdkkaa", sum := "01f02df213f8c666deb066d67398287f80b7f678088abd5010d4f1cf2dc40d01", func := "gimlet/gimletlaw21.SreadText", spec := "sreadText", inPlace := ["internal/bytealg.IndexByteString"], unfollowed := true, recurses := true, apart := false }
def SreadTextSaid : Prop := sreadTextRow.holds Try.pinned (OpenSpec.ofChange sreadTextSpec)

/-- ITS FALSE NEIGHBOUR: 'it returns false'. Refute it at one input. -/
def sreadTextWrong : ChangeSpec := { name := "sreadText", fn := fun _ => fun
  | [d1, d2] => { results := [.lit (.bool false)], args := [d1, d2] }
  | _ => none }
def SreadTextWrongFalsely : Prop := sreadTextRow.holds Try.pinned (OpenSpec.ofChange sreadTextWrong)

/-- 'gimletlaw21.SreadNames': WHATEVER THE INPUT: true; the input reads as it did. -/
def sreadNamesSpec : ChangeSpec := { name := "sreadNames", fn := fun _ => fun
  | [d1, d2] => { results := [.lit (.bool true)], args := [d1, d2] }
  | _ => none }
def sreadNamesRow : OpenClaim := { program := "ytbgcjpefocdkkaa", sum := "01f02df213f8c666deb066d67398287f80b7f678088abd5010d4f1cf2dc40d01", func := "gimlet/gimletlaw21.SreadNames", spec := "sreadNames", inPlace := ["internal/bytealg.IndexByteString"], unfollowed := true, recurses := true, apart := false }
def SreadNamesSaid : Prop := sreadNamesRow.holds Try.pinned (OpenSpec.ofChange sreadNamesSpec)

/-- ITS FALSE NEIGHBOUR: 'it returns false'. Refute it at one input. -/
def sreadNamesWrong : ChangeSpec := { name := "sreadNames", fn := fun _ => fun
  | [d1, d2] => { results := [.lit (.bool false)], args := [d1, d2] }
  | _ => none }
def SreadNamesWrongFalsely : Prop := sreadNamesRow.holds Try.pinned (OpenSpec.ofChange sreadNamesWrong)

/-- 'gimletlaw21.SreadChoice': WHATEVER THE INPUT: true; the input reads as it did. -/
def sreadChoiceSpec : ChangeSpec := { name := "sreadChoice", fn := fun _ => fun
  | [d1, d2] => { results := [.lit (.bool true)], args := [d1, d2] }
  | _ => none }
def sreadChoiceRow : OpenClaim := { program := "ytbgcjpefocdkkaa", sum := "01f02df213f8c666deb066d67398287f80b7f678088abd5010d4f1cf2dc40d01", func := "gimlet/gimletlaw21.SreadChoice", spec := "sreadChoice", inPlace := ["internal/bytealg.IndexByteString"], unfollowed := true, recurses := true, apart := false }
def SreadChoiceSaid : Prop := sreadChoiceRow.holds Try.pinned (OpenSpec.ofChange sreadChoiceSpec)

/-- ITS FALSE NEIGHBOUR: 'it returns false'. Refute it at one input. -/
def sreadChoiceWrong : ChangeSpec := { name := "sreadChoice", fn := fun _ => fun
  | [d1, d2] => { results := [.lit (.bool false)], args := [d1, d2] }
  | _ => none }
def SreadChoiceWrongFalsely : Prop := sreadChoiceRow.holds Try.pinned (OpenSpec.ofChange sreadChoiceWrong)

/-- 'gimletlaw21.SreadOpen': WHATEVER THE INPUT: true; the input reads as it did. -/
def sreadOpenSpec : ChangeSpec := { name := "sreadOpen", fn := fun _ => fun
  | [d1, d2] => { results := [.lit (.bool true)], args := [d1, d2] }
  | _ => none }
def sreadOpenRow : OpenClaim := { program := "ytbgcjpefocdkkaa", sum := "01f02df213f8c666deb066d67398287f80b7f678088abd5010d4f1cf2dc40d01", func := "gimlet/gimletlaw21.SreadOpen", spec := "sreadOpen", inPlace := ["internal/bytealg.IndexByteString"], unfollowed := true, recurses := true, apart := false }
def SreadOpenSaid : Prop := sreadOpenRow.holds Try.pinned (OpenSpec.ofChange sreadOpenSpec)

/-- ITS FALSE NEIGHBOUR: 'it returns false'. Refute it at one input. -/
def sreadOpenWrong : ChangeSpec := { name := "sreadOpen", fn := fun _ => fun
  | [d1, d2] => { results := [.lit (.bool false)], args := [d1, d2] }
  | _ => none }
def SreadOpenWrongFalsely : Prop := sreadOpenRow.holds Try.pinned (OpenSpec.ofChange sreadOpenWrong)

/-- 'gimletlaw21.SreadDigits': WHATEVER THE INPUT: true; the input reads as it did. -/
def sreadDigitsSpec : ChangeSpec := { name := "sreadDigits", fn := fun _ => fun
  | [d1, d2, d3, d4] => { results := [.lit (.bool true)], args := [d1, d2, d3, d4] }
  | _ => none }
def sreadDigitsRow : OpenClaim := { program := "ytbgcjpefocdkkaa", sum := "01f02df213f8c666deb066d67398287f80b7f678088abd5010d4f1cf2dc40d01", func := "gimlet/gimletlaw21.SreadDigits", spec := "sreadDigits", inPlace := ["internal/bytealg.IndexByteString"], unfollowed := true, recurses := true, apart := false }
def SreadDigitsSaid : Prop := sreadDigitsRow.holds Try.pinned (OpenSpec.ofChange sreadDigitsSpec)

/-- ITS FALSE NEIGHBOUR: 'it returns false'. Refute it at one input. -/
def sreadDigitsWrong : ChangeSpec := { name := "sreadDigits", fn := fun _ => fun
  | [d1, d2, d3, d4] => { results := [.lit (.bool false)], args := [d1, d2, d3, d4] }
  | _ => none }
def SreadDigitsWrongFalsely : Prop := sreadDigitsRow.holds Try.pinned (OpenSpec.ofChange sreadDigitsWrong)

/- THE SECOND FORM. 'bulk': how many values and letters a reading holds, each counted each time it is reached (what is shared counts as often as it is met; a slice's spare places count too). A statement '..UptoSaid' is the law's where the arguments, and the package variables that the reading takes, are together of bulk at most 1048576: NARROWER than '..Said'. Prove '..Said' where nothing that the law and all that it calls make is longer than what came in: it says more and counts as full. Else prove '..UptoSaid'. A law counts once. -/
mutual
def uptoBulk {H : Type} : DataW H → Nat
  | .lit (.string bytes) => bytes.length + 1
  | .lit _ => 1
  | .nil => 1
  | .ptr d => uptoBulk d + 1
  | .slice elems spare => uptoBulkAll elems + uptoBulkAll spare + 1
  | .agg parts => uptoBulkAll parts + 1
  | .iface _ d => uptoBulk d + 1
  | .map entries => uptoBulkEntries entries + 1
  | .held _ => 1
def uptoBulkAll {H : Type} : List (DataW H) → Nat
  | [] => 0
  | d :: r => uptoBulk d + uptoBulkAll r
def uptoBulkEntries {H : Type} : List (Lit × DataW H) → Nat
  | [] => 0
  | x :: r => uptoBulkEntry x + uptoBulkEntries r
def uptoBulkEntry {H : Type} : Lit × DataW H → Nat
  | (.string bytes, d) => bytes.length + uptoBulk d + 1
  | (_, d) => uptoBulk d + 1
 end
def uptoSmall : (H : Type) → List (DataW H) → Bool := fun _ ds => decide (uptoBulkAll ds ≤ 1048576)
def OpenSpec.upto (s : _root_.Go.ChangeSpec) : _root_.Go.OpenSpec := { _root_.Go.OpenSpec.ofChange s with cond := some uptoSmall }

/-- 'gimletlaw21.SreadDeep', WHERE WHAT IT READS IS OF BULK AT MOST 1048576: true; the input reads as it did. -/
def sreadDeepUptoRow : OpenClaim := { program := "ytbgcjpefocdkkaa", sum := "01f02df213f8c666deb066d67398287f80b7f678088abd5010d4f1cf2dc40d01", func := "gimlet/gimletlaw21.SreadDeep", spec := "sreadDeep", inPlace := ["internal/bytealg.IndexByteString"], unfollowed := true, recurses := true, apart := false, narrowed := true }
def SreadDeepUptoSaid : Prop := sreadDeepUptoRow.holds Try.pinned (OpenSpec.upto sreadDeepSpec)

/-- 'gimletlaw21.SreadText', WHERE WHAT IT READS IS OF BULK AT MOST 1048576: true; the input reads as it did. -/
def sreadTextUptoRow : OpenClaim := { program := "ytbgcjpefocdkkaa", sum := "01f02df213f8c666deb066d67398287f80b7f678088abd5010d4f1cf2dc40d01", func := "gimlet/gimletlaw21.SreadText", spec := "sreadText", inPlace := ["internal/bytealg.IndexByteString"], unfollowed := true, recurses := true, apart := false, narrowed := true }
def SreadTextUptoSaid : Prop := sreadTextUptoRow.holds Try.pinned (OpenSpec.upto sreadTextSpec)

/-- 'gimletlaw21.SreadNames', WHERE WHAT IT READS IS OF BULK AT MOST 1048576: true; the input reads as it did. -/
def sreadNamesUptoRow : OpenClaim := { program := "ytbgcjpefocdkkaa", sum := "01f02df213f8c666deb066d67398287f80b7f678088abd5010d4f1cf2dc40d01", func := "gimlet/gimletlaw21.SreadNames", spec := "sreadNames", inPlace := ["internal/bytealg.IndexByteString"], unfollowed := true, recurses := true, apart := false, narrowed := true }
def SreadNamesUptoSaid : Prop := sreadNamesUptoRow.holds Try.pinned (OpenSpec.upto sreadNamesSpec)

/-- 'gimletlaw21.SreadChoice', WHERE WHAT IT READS IS OF BULK AT MOST 1048576: true; the input reads as it did. -/
def sreadChoiceUptoRow : OpenClaim := { program := "ytbgcjpefocdkkaa", sum := "01f02df213f8c666deb066d67398287f80b7f678088abd5010d4f1cf2dc40d01", func := "gimlet/gimletlaw21.SreadChoice", spec := "sreadChoice", inPlace := ["internal/bytealg.IndexByteString"], unfollowed := true, recurses := true, apart := false, narrowed := true }
def SreadChoiceUptoSaid : Prop := sreadChoiceUptoRow.holds Try.pinned (OpenSpec.upto sreadChoiceSpec)

/-- 'gimletlaw21.SreadOpen', WHERE WHAT IT READS IS OF BULK AT MOST 1048576: true; the input reads as it did. -/
def sreadOpenUptoRow : OpenClaim := { program := "ytbgcjpefocdkkaa", sum := "01f02df213f8c666deb066d67398287f80b7f678088abd5010d4f1cf2dc40d01", func := "gimlet/gimletlaw21.SreadOpen", spec := "sreadOpen", inPlace := ["internal/bytealg.IndexByteString"], unfollowed := true, recurses := true, apart := false, narrowed := true }
def SreadOpenUptoSaid : Prop := sreadOpenUptoRow.holds Try.pinned (OpenSpec.upto sreadOpenSpec)

/-- 'gimletlaw21.SreadDigits', WHERE WHAT IT READS IS OF BULK AT MOST 1048576: true; the input reads as it did. -/
def sreadDigitsUptoRow : OpenClaim := { program := "ytbgcjpefocdkkaa", sum := "01f02df213f8c666deb066d67398287f80b7f678088abd5010d4f1cf2dc40d01", func := "gimlet/gimletlaw21.SreadDigits", spec := "sreadDigits", inPlace := ["internal/bytealg.IndexByteString"], unfollowed := true, recurses := true, apart := false, narrowed := true }
def SreadDigitsUptoSaid : Prop := sreadDigitsUptoRow.holds Try.pinned (OpenSpec.upto sreadDigitsSpec)

end Rows
end Go.Proofs.Ytbgcjpefocdkkaa
