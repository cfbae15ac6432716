/- Proves FormTellsCardSaid: every transform that passes the statements' measure may be, and is told, as the document says. No condition but the table of powers of ten, which the card ties. -/
import Derived.Test.YtjggmmaojklmpaaGreatDoorKb31
import Derived.Test.YtjggmmaojklmpaaGreatDoorTie
import Derived.Test.YtjggmmaojklmpaaGreatDoorCards
namespace Go.Proofs.YtjggmmaojklmpaaGreatDoor.formTells
open Go.ChangeShapes Go.WideShapes Go.ChangeAt Go.RowKit
open Go.ChangeMaps (open_string shut_string)
theorem readable:∀t∈Tryz.f3.params.toList,Tryz.prog.readableRec t=true∧t<Tryz.prog.types.size:=by
 rw [Tryz.params3];decide +kernel
theorem door_met (os:Os) (args:Array Value):laidMetH Tryz.prog Rows.formTellsRow.laid ((World.doorLaid Tryz.prog 400 os).forCall (fun _ _=>0) ⟨#[],args,[]⟩).memory :=
 laidMetH_of_parts3 (fuel:=8) (laidMet_of_run' 8 fW fW) fW fW
set_option maxRecDepth 100000 in
theorem lifted (os:Os) (started:os.Started) (H:Type) (enc:TypeId × Value→H) :
  ReturnsInHanded {} Tryz.checked os 3 .any (fun w args=>(Rows.formTellsSpec.pre enc Tryz.prog Tryz.f3 Rows.formTellsRow.domain false w args∧laidMetH Tryz.prog Rows.formTellsRow.laid w)∧sizedMet enc Tryz.prog Tryz.f3 (OpenSpec.ofChange Rows.formTellsSpec) false w args) (Rows.formTellsSpec.post enc Tryz.prog Tryz.f3 false true false false):=by
 refine returnsInHanded_of_change_and (C:=Tryz.checked) (X:=fun w _=>laidMetH Tryz.prog Rows.formTellsRow.laid w) (fun _ _ _ hh h=>h.of_heap hh) own started fW Tryz.func3
  (ChangeSpec.witness_shaped (enc:=enc) (C:=Tryz.checked) (os:=os) (X:=fun w _=>laidMetH Tryz.prog Rows.formTellsRow.laid w) false (World.doorLaid Tryz.prog 400 os) #[.agg #[.int .i64 0,.string ByteArray.empty,.bool false,.slice none 0 0,.int .i64 0,.int .i64 0,.bool false,.slice none 0 0,.slice none 0 0,.bool false,.bool false]] 8 rfl (World.shaped_of_RefB fW fW) fW fW fW (door_met os _)) ?_
 intro W base args ds gs before hval0 hW _ _ hLaid _;have hval:∀(j:Nat) t v,Tryz.f3.params[j]?=some t→args[j]?=some v→Value.okWide Tryz.prog W .any base t v:=hval0;have hW':=hW;have hlt:=hW.lt;obtain⟨p,q,hA0,hV,rfl,hfz,hnd⟩:=hW;obtain⟨rfl,rfl⟩:=trodVars_none hV;have hagain:=fun(W':World) (hb:Below W.heap.size W W')=>qv (by kernel_rfl:laidOutB Tryz.prog=true) hb readable hA0 (fun x hx=>hlt x (List.mem_append_left _ hx))
 have hA:DataW.TrodAll enc Tryz.prog W 0 (fun _=>true) true Tryz.f3.params.toList args.toList ds p:=hA0;rw [Tryz.params3] at hA hval;obtain⟨v0,vs0,d0,ds0,p0,q0,hargs,rfl,rfl,h0,r0⟩:=trodAll_cons hA;obtain⟨rfl,rfl,rfl⟩:=trodAll_nil r0;obtain rfl:args=#[v0]:=by cases args;simp_all
 obtain⟨c0,x0,rfl,sl0,z0⟩:=vI (hval 0 28 v0 rfl rfl) h0;have HT:Tab W:=ze hLaid;clear hA0 hval0;have hcall:=sR c0 x0 W HT sl0 z0;exact ck
theorem over:Rows.FormTellsSaid :=
 OpenClaim.holds_of_wide 3 Tryz.f3 rfl rfl rfl rfl rfl rfl rfl ⟨rfl,rfl,rfl,rfl,rfl⟩ rfl rfl rfl rfl rfl fW Tryz.func3 fW
  (of_decide_eq_true fW) gO
  (fun os started H enc _=>lifted os started H enc)
theorem proved:Rows.FormTellsCardSaid :=
 Claim7.holds_tied_plain_at .later [] [.data,.data,.data] true Rows.formTellsCard.stood.harness false
  over (fun _ h=>by cases h) fW (fun _ h=>by cases h) formTells_row_tie rfl ⟨rfl,rfl⟩ fW rfl
  (fun f fn hf hfn=>by
   obtain rfl:f=3:=Option.some.inj ((show Tryz.prog.funcNamed Rows.formTellsRow.func=some 3 by kernel_rfl).symm.trans hf) |>.symm
   obtain rfl:fn=Tryz.f3:=(Option.some.inj (Tryz.func3.symm.trans hfn)).symm;exact⟨by kernel_rfl,fun j t ht=>by
    rw [Tryz.params3] at ht;have hm:t∈[28]:=by simpa using Array.mem_of_getElem? ht
    have hall:([28].all fun u=>!Tryz.prog.wantsStandIn u)=true:=fW;exact(show Tryz.prog.wantsStandIn t=false by simpa using List.all_eq_true.1 hall t hm)⟩)
  fW
end Go.Proofs.YtjggmmaojklmpaaGreatDoor.formTells
