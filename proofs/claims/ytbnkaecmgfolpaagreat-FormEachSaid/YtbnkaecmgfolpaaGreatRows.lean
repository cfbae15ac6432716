/-
  NARROWER THAN 'FOR EVERY INPUT', by the rows' own cells (each row's printed sentence says how): FormApplies: loops.
  DERIVED. THE GIVEN ROWS OF THIS SEAT. 7 by the template 'for every input the law returns true; each argument reads behind the call as it read before'; 0 by the template 'total and deterministic' (their statements: YtbnkaecmgfolpaaGreatTotals.lean).
  GIVEN WITH THE SEED: the statements are not yours to turn. If you find one false, say at which input.
  Laid BY PROGRAM, IN A SANDBOX (cutbox-rows.mjs): the forced cells as the released guide's own fill.sh prints them over the translation 08ae061af0acb1ec… (all of the seat's roots in one cut). By AI agents, Wed Nov 11 2026. No macro, syntax, notation, axiom, sorry.
-/
import Derived.Test.YtbnkaecmgfolpaaGreatChecked
import GoSem.Claim
import GoSem.ClaimJoined
import GoSem.ClaimMapViews
import Derived.JoinedTies
import Derived.KernelRfl
namespace Go.Proofs.YtbnkaecmgfolpaaGreat
/- THE CELL 'sum', in the pinned program and in every row, IS THE sha256 OF THE DUMP (.gsa) THAT YtbnkaecmgfolpaaGreatProg.lean LOADS. Nothing in Lean hashes anything: it is a label: what it is worth is what the hold of that sum in a sandbox is worth. -/
noncomputable def Tryz.pinned : Pinned := { name := "ytbnkaecmgfolpaagreat", sum := "08ae061af0acb1eca0286f1d7b4ed86bb9e62804b8e43eee06e7de3933472efb", checked := Tryz.checked }
namespace Rows
def none {H : Type} : Left H := { results := [], args := [] }

/-- 'gimletlaw19.FormApplies': WHATEVER THE INPUT: true; the input reads as it did. -/
def formAppliesSpec : ChangeSpec := { name := "formApplies", fn := fun _ => fun
  | [d1, d2, d3] => { results := [.lit (.bool true)], args := [d1, d2, d3] }
  | _ => none }
def formAppliesRow : OpenClaim := { program := "ytbnkaecmgfolpaagreat", sum := "08ae061af0acb1eca0286f1d7b4ed86bb9e62804b8e43eee06e7de3933472efb", func := "gimlet/gimletlaw19.FormApplies", spec := "formApplies", inPlace := ["internal/bytealg.IndexByteString", "internal/abi.NoEscape"], unfollowed := true, recurses := true, loops := true, apart := false }
def FormAppliesSaid : Prop := formAppliesRow.holds Tryz.pinned (OpenSpec.ofChange formAppliesSpec)

/-- ITS FALSE NEIGHBOUR: 'it returns false'. Refute it at one input. -/
def formAppliesWrong : ChangeSpec := { name := "formApplies", fn := fun _ => fun
  | [d1, d2, d3] => { results := [.lit (.bool false)], args := [d1, d2, d3] }
  | _ => none }
def FormAppliesWrongFalsely : Prop := formAppliesRow.holds Tryz.pinned (OpenSpec.ofChange formAppliesWrong)

/-- 'gimletlaw19.FormReads': WHATEVER THE INPUT: true; the input reads as it did. -/
def formReadsSpec : ChangeSpec := { name := "formReads", fn := fun _ => fun
  | [d1, d2, d3] => { results := [.lit (.bool true)], args := [d1, d2, d3] }
  | _ => none }
def formReadsRow : OpenClaim := { program := "ytbnkaecmgfolpaagreat", sum := "08ae061af0acb1eca0286f1d7b4ed86bb9e62804b8e43eee06e7de3933472efb", func := "gimlet/gimletlaw19.FormReads", spec := "formReads", inPlace := ["internal/bytealg.IndexByteString", "internal/abi.NoEscape"], unfollowed := true, recurses := true, apart := false }
def FormReadsSaid : Prop := formReadsRow.holds Tryz.pinned (OpenSpec.ofChange formReadsSpec)

/-- ITS FALSE NEIGHBOUR: 'it returns false'. Refute it at one input. -/
def formReadsWrong : ChangeSpec := { name := "formReads", fn := fun _ => fun
  | [d1, d2, d3] => { results := [.lit (.bool false)], args := [d1, d2, d3] }
  | _ => none }
def FormReadsWrongFalsely : Prop := formReadsRow.holds Tryz.pinned (OpenSpec.ofChange formReadsWrong)

/-- 'gimletlaw19.FormPlain': WHATEVER THE INPUT: true; the input reads as it did. -/
def formPlainSpec : ChangeSpec := { name := "formPlain", fn := fun _ => fun
  | [d1, d2, d3, d4] => { results := [.lit (.bool true)], args := [d1, d2, d3, d4] }
  | _ => none }
def formPlainRow : OpenClaim := { program := "ytbnkaecmgfolpaagreat", sum := "08ae061af0acb1eca0286f1d7b4ed86bb9e62804b8e43eee06e7de3933472efb", func := "gimlet/gimletlaw19.FormPlain", spec := "formPlain", inPlace := ["internal/bytealg.IndexByteString", "internal/abi.NoEscape"], unfollowed := true, recurses := true, apart := false }
def FormPlainSaid : Prop := formPlainRow.holds Tryz.pinned (OpenSpec.ofChange formPlainSpec)

/-- ITS FALSE NEIGHBOUR: 'it returns false'. Refute it at one input. -/
def formPlainWrong : ChangeSpec := { name := "formPlain", fn := fun _ => fun
  | [d1, d2, d3, d4] => { results := [.lit (.bool false)], args := [d1, d2, d3, d4] }
  | _ => none }
def FormPlainWrongFalsely : Prop := formPlainRow.holds Tryz.pinned (OpenSpec.ofChange formPlainWrong)

/-- 'gimletlaw19.FormWhole': WHATEVER THE INPUT: true; the input reads as it did. -/
def formWholeSpec : ChangeSpec := { name := "formWhole", fn := fun _ => fun
  | [d1, d2, d3, d4] => { results := [.lit (.bool true)], args := [d1, d2, d3, d4] }
  | _ => none }
def formWholeRow : OpenClaim := { program := "ytbnkaecmgfolpaagreat", sum := "08ae061af0acb1eca0286f1d7b4ed86bb9e62804b8e43eee06e7de3933472efb", func := "gimlet/gimletlaw19.FormWhole", spec := "formWhole", inPlace := ["internal/bytealg.IndexByteString", "internal/abi.NoEscape"], unfollowed := true, recurses := true, apart := false }
def FormWholeSaid : Prop := formWholeRow.holds Tryz.pinned (OpenSpec.ofChange formWholeSpec)

/-- ITS FALSE NEIGHBOUR: 'it returns false'. Refute it at one input. -/
def formWholeWrong : ChangeSpec := { name := "formWhole", fn := fun _ => fun
  | [d1, d2, d3, d4] => { results := [.lit (.bool false)], args := [d1, d2, d3, d4] }
  | _ => none }
def FormWholeWrongFalsely : Prop := formWholeRow.holds Tryz.pinned (OpenSpec.ofChange formWholeWrong)

/-- 'gimletlaw19.FormSize': WHATEVER THE INPUT: true; the input reads as it did. -/
def formSizeSpec : ChangeSpec := { name := "formSize", fn := fun _ => fun
  | [d1, d2] => { results := [.lit (.bool true)], args := [d1, d2] }
  | _ => none }
def formSizeRow : OpenClaim := { program := "ytbnkaecmgfolpaagreat", sum := "08ae061af0acb1eca0286f1d7b4ed86bb9e62804b8e43eee06e7de3933472efb", func := "gimlet/gimletlaw19.FormSize", spec := "formSize", inPlace := ["internal/abi.NoEscape", "internal/bytealg.IndexByteString"], unfollowed := true, recurses := true, apart := false }
def FormSizeSaid : Prop := formSizeRow.holds Tryz.pinned (OpenSpec.ofChange formSizeSpec)

/-- ITS FALSE NEIGHBOUR: 'it returns false'. Refute it at one input. -/
def formSizeWrong : ChangeSpec := { name := "formSize", fn := fun _ => fun
  | [d1, d2] => { results := [.lit (.bool false)], args := [d1, d2] }
  | _ => none }
def FormSizeWrongFalsely : Prop := formSizeRow.holds Tryz.pinned (OpenSpec.ofChange formSizeWrong)

/-- 'gimletlaw19.FormFrom': WHATEVER THE INPUT: true; the input reads as it did. -/
def formFromSpec : ChangeSpec := { name := "formFrom", fn := fun _ => fun
  | [d1, d2] => { results := [.lit (.bool true)], args := [d1, d2] }
  | _ => none }
def formFromRow : OpenClaim := { program := "ytbnkaecmgfolpaagreat", sum := "08ae061af0acb1eca0286f1d7b4ed86bb9e62804b8e43eee06e7de3933472efb", func := "gimlet/gimletlaw19.FormFrom", spec := "formFrom", inPlace := ["internal/bytealg.IndexByteString", "internal/abi.NoEscape"], unfollowed := true, recurses := true, apart := false }
def FormFromSaid : Prop := formFromRow.holds Tryz.pinned (OpenSpec.ofChange formFromSpec)

/-- ITS FALSE NEIGHBOUR: 'it returns false'. Refute it at one input. -/
def formFromWrong : ChangeSpec := { name := "formFrom", fn := fun _ => fun
  | [d1, d2] => { results := [.lit (.bool false)], args := [d1, d2] }
  | _ => none }
def FormFromWrongFalsely : Prop := formFromRow.holds Tryz.pinned (OpenSpec.ofChange formFromWrong)

/-- 'gimletlaw19.FormEach': WHATEVER THE INPUT: true; the input reads as it did. -/
def formEachSpec : ChangeSpec := { name := "formEach", fn := fun _ => fun
  | [d1, d2, d3, d4, d5] => { results := [.lit (.bool true)], args := [d1, d2, d3, d4, d5] }
  | _ => none }
def formEachRow : OpenClaim := { program := "ytbnkaecmgfolpaagreat", sum := "08ae061af0acb1eca0286f1d7b4ed86bb9e62804b8e43eee06e7de3933472efb", func := "gimlet/gimletlaw19.FormEach", spec := "formEach", inPlace := ["internal/bytealg.IndexByteString", "internal/abi.NoEscape"], unfollowed := true, recurses := true, apart := false }
def FormEachSaid : Prop := formEachRow.holds Tryz.pinned (OpenSpec.ofChange formEachSpec)

/-- ITS FALSE NEIGHBOUR: 'it returns false'. Refute it at one input. -/
def formEachWrong : ChangeSpec := { name := "formEach", fn := fun _ => fun
  | [d1, d2, d3, d4, d5] => { results := [.lit (.bool false)], args := [d1, d2, d3, d4, d5] }
  | _ => none }
def FormEachWrongFalsely : Prop := formEachRow.holds Tryz.pinned (OpenSpec.ofChange formEachWrong)

/- THE SECOND FORM. 'bulk': how many values and letters a reading holds, each counted each time it is reached (what is shared counts as often as it is met; a slice's spare places count too). A statement '..UptoSaid' is the law's where the arguments, and the package variables that the reading takes, are together of bulk at most 1048576: NARROWER than '..Said'. Prove '..Said' where nothing that the law and all that it calls make is longer than what came in: it says more and counts as full. Else prove '..UptoSaid'. A law counts once. -/
mutual
def uptoBulk {H : Type} : DataW H → Nat
  | .lit (.string bytes) => bytes.length + 1
  | .lit _ => 1
  | .nil => 1
  | .ptr d => uptoBulk d + 1
  | .slice elems spare => uptoBulkAll elems + uptoBulkAll spare + 1
  | .agg parts => uptoBulkAll parts + 1
  | .iface _ d => uptoBulk d + 1
  | .map entries => uptoBulkEntries entries + 1
  | .held _ => 1
def uptoBulkAll {H : Type} : List (DataW H) → Nat
  | [] => 0
  | d :: r => uptoBulk d + uptoBulkAll r
def uptoBulkEntries {H : Type} : List (Lit × DataW H) → Nat
  | [] => 0
  | x :: r => uptoBulkEntry x + uptoBulkEntries r
def uptoBulkEntry {H : Type} : Lit × DataW H → Nat
  | (.string bytes, d) => bytes.length + uptoBulk d + 1
  | (_, d) => uptoBulk d + 1
 end
def uptoSmall : (H : Type) → List (DataW H) → Bool := fun _ ds => decide (uptoBulkAll ds ≤ 1048576)
def OpenSpec.upto (s : _root_.Go.ChangeSpec) : _root_.Go.OpenSpec := { _root_.Go.OpenSpec.ofChange s with cond := some uptoSmall }

/-- 'gimletlaw19.FormApplies', WHERE WHAT IT READS IS OF BULK AT MOST 1048576: true; the input reads as it did. -/
def formAppliesUptoRow : OpenClaim := { program := "ytbnkaecmgfolpaagreat", sum := "08ae061af0acb1eca0286f1d7b4ed86bb9e62804b8e43eee06e7de3933472efb", func := "gimlet/gimletlaw19.FormApplies", spec := "formApplies", inPlace := ["internal/bytealg.IndexByteString", "internal/abi.NoEscape"], unfollowed := true, recurses := true, loops := true, apart := false, narrowed := true }
def FormAppliesUptoSaid : Prop := formAppliesUptoRow.holds Tryz.pinned (OpenSpec.upto formAppliesSpec)

/-- 'gimletlaw19.FormReads', WHERE WHAT IT READS IS OF BULK AT MOST 1048576: true; the input reads as it did. -/
def formReadsUptoRow : OpenClaim := { program := "ytbnkaecmgfolpaagreat", sum := "08ae061af0acb1eca0286f1d7b4ed86bb9e62804b8e43eee06e7de3933472efb", func := "gimlet/gimletlaw19.FormReads", spec := "formReads", inPlace := ["internal/bytealg.IndexByteString", "internal/abi.NoEscape"], unfollowed := true, recurses := true, apart := false, narrowed := true }
def FormReadsUptoSaid : Prop := formReadsUptoRow.holds Tryz.pinned (OpenSpec.upto formReadsSpec)

/-- 'gimletlaw19.FormPlain', WHERE WHAT IT READS IS OF BULK AT MOST 1048576: true; the input reads as it did. -/
def formPlainUptoRow : OpenClaim := { program := "ytbnkaecmgfolpaagreat", sum := "08ae061af0acb1eca0286f1d7b4ed86bb9e62804b8e43eee06e7de3933472efb", func := "gimlet/gimletlaw19.FormPlain", spec := "formPlain", inPlace := ["internal/bytealg.IndexByteString", "internal/abi.NoEscape"], unfollowed := true, recurses := true, apart := false, narrowed := true }
def FormPlainUptoSaid : Prop := formPlainUptoRow.holds Tryz.pinned (OpenSpec.upto formPlainSpec)

/-- 'gimletlaw19.FormWhole', WHERE WHAT IT READS IS OF BULK AT MOST 1048576: true; the input reads as it did. -/
def formWholeUptoRow : OpenClaim := { program := "ytbnkaecmgfolpaagreat", sum := "08ae061af0acb1eca0286f1d7b4ed86bb9e62804b8e43eee06e7de3933472efb", func := "gimlet/gimletlaw19.FormWhole", spec := "formWhole", inPlace := ["internal/bytealg.IndexByteString", "internal/abi.NoEscape"], unfollowed := true, recurses := true, apart := false, narrowed := true }
def FormWholeUptoSaid : Prop := formWholeUptoRow.holds Tryz.pinned (OpenSpec.upto formWholeSpec)

/-- 'gimletlaw19.FormSize', WHERE WHAT IT READS IS OF BULK AT MOST 1048576: true; the input reads as it did. -/
def formSizeUptoRow : OpenClaim := { program := "ytbnkaecmgfolpaagreat", sum := "08ae061af0acb1eca0286f1d7b4ed86bb9e62804b8e43eee06e7de3933472efb", func := "gimlet/gimletlaw19.FormSize", spec := "formSize", inPlace := ["internal/abi.NoEscape", "internal/bytealg.IndexByteString"], unfollowed := true, recurses := true, apart := false, narrowed := true }
def FormSizeUptoSaid : Prop := formSizeUptoRow.holds Tryz.pinned (OpenSpec.upto formSizeSpec)

/-- 'gimletlaw19.FormFrom', WHERE WHAT IT READS IS OF BULK AT MOST 1048576: true; the input reads as it did. -/
def formFromUptoRow : OpenClaim := { program := "ytbnkaecmgfolpaagreat", sum := "08ae061af0acb1eca0286f1d7b4ed86bb9e62804b8e43eee06e7de3933472efb", func := "gimlet/gimletlaw19.FormFrom", spec := "formFrom", inPlace := ["internal/bytealg.IndexByteString", "internal/abi.NoEscape"], unfollowed := true, recurses := true, apart := false, narrowed := true }
def FormFromUptoSaid : Prop := formFromUptoRow.holds Tryz.pinned (OpenSpec.upto formFromSpec)

/-- 'gimletlaw19.FormEach', WHERE WHAT IT READS IS OF BULK AT MOST 1048576: true; the input reads as it did. -/
def formEachUptoRow : OpenClaim := { program := "ytbnkaecmgfolpaagreat", sum := "08ae061af0acb1eca0286f1d7b4ed86bb9e62804b8e43eee06e7de3933472efb", func := "gimlet/gimletlaw19.FormEach", spec := "formEach", inPlace := ["internal/bytealg.IndexByteString", "internal/abi.NoEscape"], unfollowed := true, recurses := true, apart := false, narrowed := true }
def FormEachUptoSaid : Prop := formEachUptoRow.holds Tryz.pinned (OpenSpec.upto formEachSpec)

end Rows
end Go.Proofs.YtbnkaecmgfolpaaGreat
