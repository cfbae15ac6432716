/- Proves FormBackCardSaid: a transform that may be, whose expression is told in at most 256 bytes, is read from what it is told as and a closing brace, whatever stands ahead and behind. No condition but the table of powers of ten, which the card ties. -/
import Derived.Test.YtjggmmaojklmpaaGreatDoorKb28
import Derived.Test.YtjggmmaojklmpaaGreatDoorTie
import Derived.Test.YtjggmmaojklmpaaGreatDoorCards
namespace Go.Proofs.YtjggmmaojklmpaaGreatDoor.formBack
open Go.ChangeShapes Go.WideShapes Go.ChangeAt Go.RowKit
open Go.ChangeMaps (open_string shut_string)
theorem readable:∀t∈Tryz.f4.params.toList,Tryz.prog.readableRec t=true∧t<Tryz.prog.types.size:=by
 rw [Tryz.params4];decide +kernel
theorem door_met (os:Os) (args:Array Value):laidMetH Tryz.prog Rows.formBackRow.laid ((World.doorLaid Tryz.prog 400 os).forCall (fun _ _=>0) ⟨#[],args,[]⟩).memory :=
 laidMetH_of_parts3 (fuel:=8) (laidMet_of_run' 8 fW fW) fW fW
set_option maxRecDepth 100000 in
theorem lifted (os:Os) (started:os.Started) (H:Type) (enc:TypeId × Value→H) :
  ReturnsInHanded {} Tryz.checked os 4 .any (fun w args=>(Rows.formBackSpec.pre enc Tryz.prog Tryz.f4 Rows.formBackRow.domain false w args∧laidMetH Tryz.prog Rows.formBackRow.laid w)∧sizedMet enc Tryz.prog Tryz.f4 (OpenSpec.ofChange Rows.formBackSpec) false w args) (Rows.formBackSpec.post enc Tryz.prog Tryz.f4 false true false false):=by
 refine returnsInHanded_of_change_and (C:=Tryz.checked) (X:=fun w _=>laidMetH Tryz.prog Rows.formBackRow.laid w) (fun _ _ _ hh h=>h.of_heap hh) own started fW Tryz.func4
  (ChangeSpec.witness_shaped (enc:=enc) (C:=Tryz.checked) (os:=os) (X:=fun w _=>laidMetH Tryz.prog Rows.formBackRow.laid w) false (World.doorLaid Tryz.prog 400 os) #[.agg #[.int .i64 0,.string ByteArray.empty,.bool false,.slice none 0 0,.int .i64 0,.int .i64 0,.bool false,.slice none 0 0,.slice none 0 0,.bool false,.bool false],.string ByteArray.empty,.string ByteArray.empty] 8 rfl (World.shaped_of_RefB fW fW) fW fW fW (door_met os _)) ?_
 intro W base args ds gs before hval0 hW _ _ hLaid _;have hval:∀(j:Nat) t v,Tryz.f4.params[j]?=some t→args[j]?=some v→Value.okWide Tryz.prog W .any base t v:=hval0;have hW':=hW;have hlt:=hW.lt;obtain⟨p,q,hA0,hV,rfl,hfz,hnd⟩:=hW;obtain⟨rfl,rfl⟩:=trodVars_none hV;have hagain:=fun(W':World) (hb:Below W.heap.size W W')=>qv (by kernel_rfl:laidOutB Tryz.prog=true) hb readable hA0 (fun x hx=>hlt x (List.mem_append_left _ hx))
 have hA:DataW.TrodAll enc Tryz.prog W 0 (fun _=>true) true Tryz.f4.params.toList args.toList ds p:=hA0;rw [Tryz.params4] at hA hval;obtain⟨v0,vs0,d0,ds0,p0,q0,hargs,rfl,rfl,h0,r0⟩:=trodAll_cons hA;obtain⟨v1,vs1,d1,ds1,p1,q1,rfl,rfl,rfl,h1,r1⟩:=trodAll_cons r0;obtain⟨v2,vs2,d2,ds2,p2,q2,rfl,rfl,rfl,h2,r2⟩:=trodAll_cons r1;obtain⟨rfl,rfl,rfl⟩:=trodAll_nil r2;obtain rfl:args=#[v0,v1,v2]:=by cases args;simp_all
 obtain⟨c0,x0,rfl,sl0,z0⟩:=vI (hval 0 28 v0 rfl rfl) h0;obtain⟨a1,rfl,rfl,rfl,w1⟩:=open_string Tryz.underlying9 (hval 1 9 v1 rfl rfl) h1;obtain⟨a2,rfl,rfl,rfl,w2⟩:=open_string Tryz.underlying9 (hval 2 9 v2 rfl rfl) h2;have HT:Tab W:=ze hLaid;clear hA0 hval0;have hcall:=ux c0 x0 a1.data.toList a2.data.toList W HT sl0 z0 (by simpa using w1) (by simpa using w2);rw [←ba_of,←ba_of] at hcall;exact ck
theorem over:Rows.FormBackSaid :=
 OpenClaim.holds_of_wide 4 Tryz.f4 rfl rfl rfl rfl rfl rfl rfl ⟨rfl,rfl,rfl,rfl,rfl⟩ rfl rfl rfl rfl rfl fW Tryz.func4 fW
  (of_decide_eq_true fW) gO
  (fun os started H enc _=>lifted os started H enc)
theorem proved:Rows.FormBackCardSaid :=
 Claim7.holds_tied_plain_at .later [] [.data,.data,.data] true Rows.formBackCard.stood.harness false
  over (fun _ h=>by cases h) fW (fun _ h=>by cases h) formBack_row_tie rfl ⟨rfl,rfl⟩ fW rfl
  (fun f fn hf hfn=>by
   obtain rfl:f=4:=Option.some.inj ((show Tryz.prog.funcNamed Rows.formBackRow.func=some 4 by kernel_rfl).symm.trans hf) |>.symm
   obtain rfl:fn=Tryz.f4:=(Option.some.inj (Tryz.func4.symm.trans hfn)).symm;exact⟨by kernel_rfl,fun j t ht=>by
    rw [Tryz.params4] at ht;have hm:t∈[28,9,9]:=by simpa using Array.mem_of_getElem? ht
    have hall:([28,9,9].all fun u=>!Tryz.prog.wantsStandIn u)=true:=fW;exact(show Tryz.prog.wantsStandIn t=false by simpa using List.all_eq_true.1 hall t hm)⟩)
  fW
end Go.Proofs.YtjggmmaojklmpaaGreatDoor.formBack
