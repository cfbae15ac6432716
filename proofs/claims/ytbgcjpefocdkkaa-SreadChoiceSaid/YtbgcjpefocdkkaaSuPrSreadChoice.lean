/- Proves SreadChoiceSaid: any options and number: a choice is read as told, and without its end is a text. No condition. -/
import Derived.Test.YtbgcjpefocdkkaaSu1
import Derived.Test.YtbgcjpefocdkkaaSu29
import Derived.Test.YtbgcjpefocdkkaaSu2
import Derived.Test.YtbgcjpefocdkkaaSu3
import Derived.Test.YtbgcjpefocdkkaaSu4
import Derived.Test.YtbgcjpefocdkkaaSu5
import Derived.Test.YtbgcjpefocdkkaaSu6
import Derived.Test.YtbgcjpefocdkkaaSu7
import Derived.Test.YtbgcjpefocdkkaaSu8
import Derived.Test.YtbgcjpefocdkkaaSu9
import Derived.Test.YtbgcjpefocdkkaaSu10
import Derived.Test.YtbgcjpefocdkkaaSu11
import Derived.Test.YtbgcjpefocdkkaaSu12
import Derived.Test.YtbgcjpefocdkkaaSu13
import Derived.Test.YtbgcjpefocdkkaaSu14
import Derived.Test.YtbgcjpefocdkkaaSu15
import Derived.Test.YtbgcjpefocdkkaaSu16
import Derived.Test.YtbgcjpefocdkkaaSu17
import Derived.Test.YtbgcjpefocdkkaaSu18
import Derived.Test.YtbgcjpefocdkkaaSu19
import Derived.Test.YtbgcjpefocdkkaaSu20
import Derived.Test.YtbgcjpefocdkkaaSu21
import Derived.Test.YtbgcjpefocdkkaaSu22
import Derived.Test.YtbgcjpefocdkkaaSu23
import Derived.Test.YtbgcjpefocdkkaaSu24
import Derived.Test.YtbgcjpefocdkkaaSu25
import Derived.Test.YtbgcjpefocdkkaaSu26
import Derived.Test.YtbgcjpefocdkkaaSu27
import Derived.Test.YtbgcjpefocdkkaaSu28
namespace Go.Proofs.Ytbgcjpefocdkkaa.sreadChoice
open Go.ChangeShapes Go.WideShapes Go.ChangeAt Go.RowKit
open Go.ChangeMaps (open_string shut_string)
theorem readable : ∀ t ∈ Try.f6.params.toList, Try.prog.readableRec t = true ∧ t < Try.prog.types.size := by
  rw [Try.params6]; decide +kernel
set_option maxRecDepth 100000 in
theorem lifted (os : Os) (started : os.Started) (H : Type) (enc : TypeId × Value → H) :
    ReturnsInHanded {} Try.checked os 6 .any (Rows.sreadChoiceSpec.pre6 enc Try.prog Try.f6 Rows.sreadChoiceRow.domain false) (Rows.sreadChoiceSpec.post enc Try.prog Try.f6 false true false false) := by
  refine returnsInHanded_of_change (C := Try.checked) own started (by kernel_rfl) Try.func6
    (ChangeSpec.witness6 (enc := enc) (C := Try.checked) false ⟨#[], #[.slice none 0 0, .int .i64 0], []⟩ 8 (by kernel_rfl) (by kernel_rfl) (by kernel_rfl) (by kernel_rfl)) ?_
  intro W base args ds gs before hval0 hW _ _
  have hval : ∀ (j : Nat) t v, Try.f6.params[j]? = some t → args[j]? = some v → Value.okWide Try.prog W .any base t v := hval0
  have hW' := hW
  have hlt := hW.lt
  obtain ⟨p, q, hA0, hV, rfl, hfz, hnd⟩ := hW
  obtain ⟨rfl, rfl⟩ := trodVars_none hV
  have hagain := fun (W' : World) (hb : Below W.heap.size W W') => args_again (by kernel_rfl : laidOutB Try.prog = true) hb readable hA0 (fun x hx => hlt x (List.mem_append_left _ hx))
  have hA : DataW.TrodAll enc Try.prog W 0 (fun _ => true) true Try.f6.params.toList args.toList ds p := hA0
  rw [Try.params6] at hA hval
  obtain ⟨v0, vs0, d0, ds0, p0, q0, hargs, rfl, rfl, h0, r0⟩ := trodAll_cons hA
  obtain ⟨v1, vs1, d1, ds1, p1, q1, rfl, rfl, rfl, h1, r1⟩ := trodAll_cons r0
  obtain ⟨rfl, rfl, rfl⟩ := trodAll_nil r1
  obtain rfl : args = #[v0, v1] := by cases args; simp_all
  obtain ⟨a0, c0, x0, rfl, n0, z0, s0⟩ := open_strs (hval 0 34 v0 rfl rfl) h0
  obtain ⟨b1, rfl, rfl, rfl, w1⟩ := open_int Try.underlying3 (hval 1 3 v1 rfl rfl) h1
  clear hA0 hval0
  have hcall := SreadChoice_walk a0 _ c0 b1 x0 W s0 n0 z0
  refine hcall.mono fun e W' ⟨he, hg⟩ => ?_
  subst he
  exact ⟨_, rfl, post_of_below (pv := []) hW' (fun _ _ _ => (trodAll_cons_mk (shut_bool Try.underlying4 _) trodAll_mk0)) (fun sp hsp => hagain W' hg sp (fun x hx => hsp x (List.mem_append_left _ hx))) (fun _ _ => rfl) rfl hg (ok_one (by kernel_rfl) rfl (okWide_bool_mk Try.underlying4 _))⟩
theorem over : Rows.SreadChoiceSaid :=
  OpenClaim.holds_of_wide 6 Try.f6 rfl rfl rfl rfl rfl rfl rfl ⟨rfl, rfl, rfl, rfl, rfl⟩ rfl rfl rfl rfl rfl (by kernel_rfl) Try.func6 (by kernel_rfl)
    (of_decide_eq_true (by kernel_rfl)) (by unfold Func.isWrapper; first | (rw [if_pos (by decide +kernel)]; kernel_rfl) | (rw [if_neg (by decide +kernel)]; exact ⟨rfl, rfl⟩))
    (fun os started H enc _ => lifted os started H enc)
theorem proved : Rows.SreadChoiceSaid := over
end Go.Proofs.Ytbgcjpefocdkkaa.sreadChoice
