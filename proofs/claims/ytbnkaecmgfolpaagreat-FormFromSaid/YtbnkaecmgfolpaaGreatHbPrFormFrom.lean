/- Proves FormFromSaid: a transform that is read from a place on does not hang on what stands ahead of it; for every two texts. No condition. -/
import Derived.Test.YtbnkaecmgfolpaaGreatHb28
namespace Go.Proofs.YtbnkaecmgfolpaaGreat.formFrom
open Go.ChangeShapes Go.WideShapes Go.ChangeAt Go.RowKit
open Go.ChangeMaps (open_string shut_string)
theorem readable:∀t∈Tryz.f8.params.toList,Tryz.prog.readableRec t=true∧t<Tryz.prog.types.size:=by
 rw [Tryz.params8];decide +kernel
set_option maxRecDepth 100000 in
theorem lifted (os:Os) (started:os.Started) (H:Type) (enc:TypeId × Value→H) :
  ReturnsInHanded {} Tryz.checked os 8 .any (Rows.formFromSpec.pre6 enc Tryz.prog Tryz.f8 Rows.formFromRow.domain false) (Rows.formFromSpec.post enc Tryz.prog Tryz.f8 false true false false):=by
 refine returnsInHanded_of_change (C:=Tryz.checked) own started fp Tryz.func8
  (ChangeSpec.witness6 (enc:=enc) (C:=Tryz.checked) false ⟨#[],#[.string ByteArray.empty,.string ByteArray.empty],[]⟩ 8 fp fp fp fp) ?_
 intro W base args ds gs before hval0 hW _ _;have hval:∀(j:Nat) t v,Tryz.f8.params[j]?=some t→args[j]?=some v→Value.okWide Tryz.prog W .any base t v:=hval0;have hW':=hW;have hlt:=hW.lt;obtain⟨p,q,hA0,hV,rfl,hfz,hnd⟩:=hW;obtain⟨rfl,rfl⟩:=trodVars_none hV;have hagain:=fun(W':World) (hb:Below W.heap.size W W')=>lX (by kernel_rfl:laidOutB Tryz.prog=true) hb readable hA0 (fun x hx=>hlt x (List.mem_append_left _ hx))
 have hA:DataW.TrodAll enc Tryz.prog W 0 (fun _=>true) true Tryz.f8.params.toList args.toList ds p:=hA0;rw [Tryz.params8] at hA hval;obtain⟨v0,vs0,d0,ds0,p0,q0,hargs,rfl,rfl,h0,r0⟩:=trodAll_cons hA;obtain⟨v1,vs1,d1,ds1,p1,q1,rfl,rfl,rfl,h1,r1⟩:=trodAll_cons r0;obtain⟨rfl,rfl,rfl⟩:=trodAll_nil r1;obtain rfl:args=#[v0,v1]:=by cases args;simp_all
 obtain⟨a0,rfl,rfl,rfl,w0⟩:=open_string Tryz.underlying9 (hval 0 9 v0 rfl rfl) h0;obtain⟨a1,rfl,rfl,rfl,w1⟩:=open_string Tryz.underlying9 (hval 1 9 v1 rfl rfl) h1;clear hA0 hval0;have hcall:=rT a0.data.toList a1.data.toList W (by simpa using w0) (by simpa using w1);rw [←wU,←wU] at hcall;exact bc
theorem over:Rows.FormFromSaid :=
 OpenClaim.holds_of_wide 8 Tryz.f8 rfl rfl rfl rfl rfl rfl rfl ⟨rfl,rfl,rfl,rfl,rfl⟩ rfl rfl rfl rfl rfl fp Tryz.func8 fp
  (of_decide_eq_true fp) fB
  (fun os started H enc _=>lifted os started H enc)
theorem proved:Rows.FormFromSaid:=over
end Go.Proofs.YtbnkaecmgfolpaaGreat.formFrom
