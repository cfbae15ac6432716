/- Proves FormEachSaid: a transform of a class of characters, all over, turns a text character by character: two texts side by side are turned each by itself, and one without such characters stays. No condition. -/
import Derived.Test.YtbnkaecmgfolpaaGreatJb25
namespace Go.Proofs.YtbnkaecmgfolpaaGreat.formEach
open Go.ChangeShapes Go.WideShapes Go.ChangeAt Go.RowKit
open Go.ChangeMaps (open_string shut_string)
theorem readable:∀t∈Tryz.f9.params.toList,Tryz.prog.readableRec t=true∧t<Tryz.prog.types.size:=by
 rw [Tryz.params9];decide +kernel
set_option maxRecDepth 100000 in
theorem lifted (os:Os) (started:os.Started) (H:Type) (enc:TypeId × Value→H) :
  ReturnsInHanded {} Tryz.checked os 9 .any (Rows.formEachSpec.pre6 enc Tryz.prog Tryz.f9 Rows.formEachRow.domain false) (Rows.formEachSpec.post enc Tryz.prog Tryz.f9 false true false false):=by
 refine returnsInHanded_of_change (C:=Tryz.checked) own started eA Tryz.func9
  (ChangeSpec.witness6 (enc:=enc) (C:=Tryz.checked) false ⟨#[],#[.slice none 0 0,.bool false,.slice none 0 0,.string ByteArray.empty,.string ByteArray.empty],[]⟩ 8 eA eA eA eA) ?_
 intro W base args ds gs before hval0 hW _ _;have hval:∀(j:Nat) t v,Tryz.f9.params[j]?=some t→args[j]?=some v→Value.okWide Tryz.prog W .any base t v:=hval0;have hW':=hW;have hlt:=hW.lt;obtain⟨p,q,hA0,hV,rfl,hfz,hnd⟩:=hW;obtain⟨rfl,rfl⟩:=trodVars_none hV;have hagain:=fun(W':World) (hb:Below W.heap.size W W')=>oR (by kernel_rfl:laidOutB Tryz.prog=true) hb readable hA0 (fun x hx=>hlt x (List.mem_append_left _ hx))
 have hA:DataW.TrodAll enc Tryz.prog W 0 (fun _=>true) true Tryz.f9.params.toList args.toList ds p:=hA0;rw [Tryz.params9] at hA hval;obtain⟨v0,vs0,d0,ds0,p0,q0,hargs,rfl,rfl,h0,r0⟩:=trodAll_cons hA;obtain⟨v1,vs1,d1,ds1,p1,q1,rfl,rfl,rfl,h1,r1⟩:=trodAll_cons r0;obtain⟨v2,vs2,d2,ds2,p2,q2,rfl,rfl,rfl,h2,r2⟩:=trodAll_cons r1;obtain⟨v3,vs3,d3,ds3,p3,q3,rfl,rfl,rfl,h3,r3⟩:=trodAll_cons r2;obtain⟨v4,vs4,d4,ds4,p4,q4,rfl,rfl,rfl,h4,r4⟩:=trodAll_cons r3;obtain⟨rfl,rfl,rfl⟩:=trodAll_nil r4;obtain rfl:args=#[v0,v1,v2,v3,v4]:=by cases args;simp_all
 obtain⟨a0,c0,x0,rfl,n0,z0,sl0⟩:=t7 (hval 0 52 v0 rfl rfl) h0;obtain⟨b1,rfl,rfl,rfl⟩:=open_bool Tryz.underlying4 (hval 1 4 v1 rfl rfl) h1;obtain⟨a2,c2,x2,rfl,n2,z2,s2⟩:=wJ (hval 2 26 v2 rfl rfl) h2;obtain⟨a3,rfl,rfl,rfl,w3⟩:=open_string Tryz.underlying9 (hval 3 9 v3 rfl rfl) h3;obtain⟨a4,rfl,rfl,rfl,w4⟩:=open_string Tryz.underlying9 (hval 4 9 v4 rfl rfl) h4;clear hA0 hval0;have hcall:=pD a0 a2 c0 c2 x0 b1 x2 a3.data.toList a4.data.toList W sl0 s2 z2 n2;rw [←ba_of,←ba_of] at hcall;refine hcall.mono fun e W' ⟨he,hg⟩=>?_
 subst he;exact⟨_,rfl,pu (pv:=[]) hW' (fun _ _ _=>(trodAll_cons_mk (shut_bool Tryz.underlying4 _) trodAll_mk0)) (fun sp hsp=>hagain W' hg sp (fun x hx=>hsp x (List.mem_append_left _ hx))) (fun _ _=>rfl) rfl hg (ok_one eA rfl (okWide_bool_mk Tryz.underlying4 _))⟩
theorem over:Rows.FormEachSaid :=
 OpenClaim.holds_of_wide 9 Tryz.f9 rfl rfl rfl rfl rfl rfl rfl ⟨rfl,rfl,rfl,rfl,rfl⟩ rfl rfl rfl rfl rfl eA Tryz.func9 eA
  (of_decide_eq_true eA) (by unfold Func.isWrapper;first|(rw [wU (by decide +kernel)];kernel_rfl)|(rw [wX (by decide +kernel)];exact⟨rfl,rfl⟩))
  (fun os started H enc _=>lifted os started H enc)
theorem proved:Rows.FormEachSaid:=over
end Go.Proofs.YtbnkaecmgfolpaaGreat.formEach
