/- Proves FormSizeSaid: what is made is at most MaxDoc bytes, else it is ErrSize; a text in which nothing is found stays, however long; for every two numbers. No condition. -/
import Derived.Test.YtbnkaecmgfolpaaGreatHb31
namespace Go.Proofs.YtbnkaecmgfolpaaGreat.formSize
open Go.ChangeShapes Go.WideShapes Go.ChangeAt Go.RowKit
open Go.ChangeMaps (open_string shut_string)
theorem readable:∀t∈Tryz.f7.params.toList,Tryz.prog.readableRec t=true∧t<Tryz.prog.types.size:=by
 rw [Tryz.params7];decide +kernel
set_option maxRecDepth 100000 in
theorem lifted (os:Os) (started:os.Started) (H:Type) (enc:TypeId × Value→H) :
  ReturnsInHanded {} Tryz.checked os 7 .any (Rows.formSizeSpec.pre6 enc Tryz.prog Tryz.f7 Rows.formSizeRow.domain false) (Rows.formSizeSpec.post enc Tryz.prog Tryz.f7 false true false false):=by
 refine returnsInHanded_of_change (C:=Tryz.checked) own started fp Tryz.func7
  (ChangeSpec.witness6 (enc:=enc) (C:=Tryz.checked) false ⟨#[],#[.int .i64 0,.int .i64 0],[]⟩ 8 fp fp fp fp) ?_
 intro W base args ds gs before hval0 hW _ _;have hval:∀(j:Nat) t v,Tryz.f7.params[j]?=some t→args[j]?=some v→Value.okWide Tryz.prog W .any base t v:=hval0;have hW':=hW;have hlt:=hW.lt;obtain⟨p,q,hA0,hV,rfl,hfz,hnd⟩:=hW;obtain⟨rfl,rfl⟩:=trodVars_none hV;have hagain:=fun(W':World) (hb:Below W.heap.size W W')=>lX (by kernel_rfl:laidOutB Tryz.prog=true) hb readable hA0 (fun x hx=>hlt x (List.mem_append_left _ hx))
 have hA:DataW.TrodAll enc Tryz.prog W 0 (fun _=>true) true Tryz.f7.params.toList args.toList ds p:=hA0;rw [Tryz.params7] at hA hval;obtain⟨v0,vs0,d0,ds0,p0,q0,hargs,rfl,rfl,h0,r0⟩:=trodAll_cons hA;obtain⟨v1,vs1,d1,ds1,p1,q1,rfl,rfl,rfl,h1,r1⟩:=trodAll_cons r0;obtain⟨rfl,rfl,rfl⟩:=trodAll_nil r1;obtain rfl:args=#[v0,v1]:=by cases args;simp_all
 obtain⟨b0,rfl,rfl,rfl,w0⟩:=open_int Tryz.underlying3 (hval 0 3 v0 rfl rfl) h0;obtain⟨b1,rfl,rfl,rfl,w1⟩:=open_int Tryz.underlying3 (hval 1 3 v1 rfl rfl) h1;clear hA0 hval0;have hcall:=sH b0 b1 W;exact bc
theorem over:Rows.FormSizeSaid :=
 OpenClaim.holds_of_wide 7 Tryz.f7 rfl rfl rfl rfl rfl rfl rfl ⟨rfl,rfl,rfl,rfl,rfl⟩ rfl rfl rfl rfl rfl fp Tryz.func7 fp
  (of_decide_eq_true fp) fB
  (fun os started H enc _=>lifted os started H enc)
theorem proved:Rows.FormSizeSaid:=over
end Go.Proofs.YtbnkaecmgfolpaaGreat.formSize
