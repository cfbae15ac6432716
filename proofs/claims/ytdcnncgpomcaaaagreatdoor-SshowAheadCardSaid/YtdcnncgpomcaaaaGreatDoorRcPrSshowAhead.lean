/- what a tree is told as, ahead of any text, is read as that tree and what the text is by itself. No condition but the table of powers of ten, which the card ties. -/
import Derived.Test.YtdcnncgpomcaaaaGreatDoorRc38
import Derived.Test.YtdcnncgpomcaaaaGreatDoorTie
import Derived.Test.YtdcnncgpomcaaaaGreatDoorCards
namespace Go.Proofs.YtdcnncgpomcaaaaGreatDoor.sshowAhead
open Go.ChangeShapes Go.WideShapes Go.ChangeAt Go.RowKit
open Go.ChangeMaps (open_string shut_string)
theorem readable:∀t∈Tryz.f7.params.toList,Tryz.prog.readableRec t=true∧t<Tryz.prog.types.size:=by
 rw [Tryz.params7];decide +kernel
theorem door_met (os:Os) (args:Array Value):laidMetH Tryz.prog Rows.sshowAheadRow.laid ((World.doorLaid Tryz.prog 400 os).forCall (fun _ _=>0) ⟨#[],args,[]⟩).memory :=
 laidMetH_of_parts3 (fuel:=8) (laidMet_of_run' 8 gT gT) gT gT
set_option maxRecDepth 100000 in
theorem lifted (os:Os) (started:os.Started) (H:Type) (enc:TypeId × Value→H) :
  ReturnsInHanded {} Tryz.checked os 7 .any (fun w args=>(Rows.sshowAheadSpec.pre enc Tryz.prog Tryz.f7 Rows.sshowAheadRow.domain false w args∧laidMetH Tryz.prog Rows.sshowAheadRow.laid w)∧sizedMet enc Tryz.prog Tryz.f7 (OpenSpec.ofChange Rows.sshowAheadSpec) false w args) (Rows.sshowAheadSpec.post enc Tryz.prog Tryz.f7 false true false false):=by
 refine returnsInHanded_of_change_and (C:=Tryz.checked) (X:=fun w _=>laidMetH Tryz.prog Rows.sshowAheadRow.laid w) (fun _ _ _ hh h=>h.of_heap hh) own started gT Tryz.func7
  (ChangeSpec.witness_shaped (enc:=enc) (C:=Tryz.checked) (os:=os) (X:=fun w _=>laidMetH Tryz.prog Rows.sshowAheadRow.laid w) false (World.doorLaid Tryz.prog 400 os) #[.slice none 0 0,.string ByteArray.empty] 8 rfl (World.shaped_of_RefB gT gT) gT gT gT (door_met os _)) ?_
 intro W base args ds gs before hval0 hW _ _ hLaid _;have hval:∀(j:Nat) t v,Tryz.f7.params[j]?=some t→args[j]?=some v→Value.okWide Tryz.prog W .any base t v:=hval0;have hW':=hW;have hlt:=hW.lt;obtain⟨p,q,hA0,hV,rfl,hfz,hnd⟩:=hW;obtain⟨rfl,rfl⟩:=trodVars_none hV;have hagain:=fun(W':World) (hb:Below W.heap.size W W')=>rY (by kernel_rfl:laidOutB Tryz.prog=true) hb readable hA0 (fun x hx=>hlt x (List.mem_append_left _ hx))
 have hA:DataW.TrodAll enc Tryz.prog W 0 (fun _=>true) true Tryz.f7.params.toList args.toList ds p:=hA0;rw [Tryz.params7] at hA hval;obtain⟨v0,vs0,d0,ds0,p0,q0,hargs,rfl,rfl,h0,r0⟩:=trodAll_cons hA;obtain⟨v1,vs1,d1,ds1,p1,q1,rfl,rfl,rfl,h1,r1⟩:=trodAll_cons r0;obtain⟨rfl,rfl,rfl⟩:=trodAll_nil r1;obtain rfl:args=#[v0,v1]:=by cases args;simp_all
 obtain⟨a0,c0,x0,rfl,n0,z0,s0⟩:=sf (hval 0 22 v0 rfl rfl) h0;obtain⟨a1,rfl,rfl,rfl,w1⟩:=open_string Tryz.underlying9 (hval 1 9 v1 rfl rfl) h1;have HT:Tab W:=zD hLaid;clear hA0 hval0;have hcall:=wD a0 c0 x0 a1.data.toList W HT s0 z0 n0 w1;rw [←ba_of] at hcall;exact bp
theorem over:Rows.SshowAheadSaid :=
 OpenClaim.holds_of_wide 7 Tryz.f7 rfl rfl rfl rfl rfl rfl rfl ⟨rfl,rfl,rfl,rfl,rfl⟩ rfl rfl rfl rfl rfl gT Tryz.func7 gT
  (of_decide_eq_true gT) iz
  (fun os started H enc _=>lifted os started H enc)
theorem proved:Rows.SshowAheadCardSaid :=
 Claim7.holds_tied_plain_at .later [] [.data,.data,.data] true Rows.sshowAheadCard.stood.harness false
  over (fun _ h=>by cases h) gT (fun _ h=>by cases h) sshowAhead_row_tie rfl ⟨rfl,rfl⟩ gT rfl
  (fun f fn hf hfn=>by
   obtain rfl:f=7:=Option.some.inj ((show Tryz.prog.funcNamed Rows.sshowAheadRow.func=some 7 by kernel_rfl).symm.trans hf) |>.symm
   obtain rfl:fn=Tryz.f7:=(Option.some.inj (Tryz.func7.symm.trans hfn)).symm;exact⟨by kernel_rfl,fun j t ht=>by
    rw [Tryz.params7] at ht;have hm:t∈[22,9]:=j7;have hall:([22,9].all fun u=>!Tryz.prog.wantsStandIn u)=true:=gT;exact(show Tryz.prog.wantsStandIn t=false by simpa using List.all_eq_true.1 hall t hm)⟩)
  gT
end Go.Proofs.YtdcnncgpomcaaaaGreatDoor.sshowAhead
