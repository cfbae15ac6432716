/- walks of rxread: term -/
import Derived.Test.YtjggmmaojklmpaaGreatLb17
set_option maxRecDepth 100000
set_option maxHeartbeats 4000000
namespace Go.Proofs.YtjggmmaojklmpaaGreat
open Go.RowKit
theorem term_any {n:Nat} (hp:PatC n) {g d:Nat} {r:List Str} (w:World) (h:Rd w g r d) (hlen:r.length≤n) (hd:d≤16) :
  Calls Tryz.prog 77 #[.pointer (some ⟨g,0,none⟩)] w fun e w'=>nI g d w.heap.size w (o7 (patF n) r d) e w':=by
 obtain⟨R,hR⟩:∃R,o7 (patF n) r d=R:=⟨_,rfl⟩;rw [hR];unfold o7 at hR;have HP:=ab hp;clear hp;cases r with
 | nil =>
  have HR:Hid ((match od (patF n) [] d with|.error e=>.error e|.ok (x,r1)=>me x r1)=R):=ab hR;clear hR;obtain⟨w0,hw0⟩:∃w0,w0=w.alloc (.cells #[.int .i64 0,.string ⟨#[]⟩,.bool false,.slice none 0 0,.int .i64 0,.int .i64 0,.bool false,.slice none 0 0] 25):=⟨_,rfl⟩;obtain⟨hb0,hz0,hby0⟩:=kB w hw0;have HRD:=ab (h.later hb0);rw [hw0] at HRD;have HW0:=ab hw0;have HBY0:=ab hby0;have hgg:w.grownBy w0 (some g):=jN hb0 _;have hgr:g<w.heap.size:=h.lt;clear hw0 hby0 h;go_enter Tryz.func77,Tryz.ntmps77
  go_wp2_with (go_at_call 46;refine(kH _ HRD.out).mono ?_)
  rintro e w1 ⟨rfl,hst⟩;rw [←HW0.out] at hst;have hg1:=jM hgg (hst.grown (some g));have HRD1:=ab (hst.rd (HW0.out▸HRD.out:Rd w0 g _ d));have HBY1:=ab (jQ HBY0.out (hst.grown (some g)) gu);have hz1:w0.heap.size≤w1.heap.size:=by rw [hst.size];exact Cp _
  clear hst;try rw [kO]
  have e0:hdS []=[]:=rfl;rw [e0];clear e0;have HAT:=ab (qW HP.out w1 HRD1.out hlen hd);go_wp2_with (go_at_call 113;refine HAT.out.mono ?_)
  rintro e w2 hq;clear HAT;cases hat:od (patF n) ([]) d with
  | error q =>
   rw [hat] at hq;obtain⟨hq2,rfl,r9,hrd9⟩:=hq;have hq0:q≠0:=pE (nf n) ([]) d q hat;exact fE
  | ok y =>
   exact eL
 | cons c r1 =>
  by_cases h94:c=[94]
  ·subst h94
   have HR:Hid (Except.ok (rxK 8,r1)=R):=ab hR;clear hR hlen;obtain⟨w0,hw0⟩:∃w0,w0=w.alloc (.cells #[.int .i64 0,.string ⟨#[]⟩,.bool false,.slice none 0 0,.int .i64 0,.int .i64 0,.bool false,.slice none 0 0] 25):=⟨_,rfl⟩;obtain⟨hb0,hz0,hby0⟩:=kB w hw0;have HRD:=ab (h.later hb0);rw [hw0] at HRD;have HW0:=ab hw0;have HBY0:=ab hby0;have hgg:w.grownBy w0 (some g):=jN hb0 _;have hgr:g<w.heap.size:=h.lt;clear hw0 hby0 h;go_enter Tryz.func77,Tryz.ntmps77
   go_wp2_with (go_at_call 46;refine(kH _ HRD.out).mono ?_)
   rintro e w1 ⟨rfl,hst⟩;rw [←HW0.out] at hst;have hg1:=jM hgg (hst.grown (some g));have HRD1:=ab (hst.rd (HW0.out▸HRD.out:Rd w0 g _ d));have HBY1:=ab (jQ HBY0.out (hst.grown (some g)) gu);have hz1:w0.heap.size≤w1.heap.size:=by rw [hst.size];exact Cp _
   clear hst;try rw [kO]
   obtain⟨i,hi,c1,hf,hr2⟩:=HRD1.out.step;have HRD2:=ab hr2;have hg2:=j9 hg1 1 (.int .i64 ((i:Int)+1));obtain⟨f0,f1,f2,f3,f4,f5,f6,f7,f8⟩:=jR (c:=[]) HBY1.out;clear hr2;go_wp2
   refine CJ (v:=.tuple #[.agg #[.int .i64 8,.string ⟨[].toArray⟩,.bool false,.slice none ([]:List Row).length 0,.int .i64 0,.int .i64 0,.bool false,.slice none ([]:List Rx).length 0],.int .i64 0]) gQ rfl ?_;refine⟨?_,?_⟩
   ·exact bU
   rw [←HR.out];refine⟨rxc 8 [] false none ([]:List Row).length 0 0 0 false none ([]:List Rx).length 0,rfl,RxV.mono (S:=fun b=>w.heap.size≤b∧b≠w.heap.size) (fun b hb _=>hb.1) ?_,?_⟩
   ·exact aR
   ·exact cx
  by_cases h36:c=[36]
  ·subst h36
   have HR:Hid (Except.ok (rxK 9,r1)=R):=ab hR;clear hR hlen;obtain⟨w0,hw0⟩:∃w0,w0=w.alloc (.cells #[.int .i64 0,.string ⟨#[]⟩,.bool false,.slice none 0 0,.int .i64 0,.int .i64 0,.bool false,.slice none 0 0] 25):=⟨_,rfl⟩;obtain⟨hb0,hz0,hby0⟩:=kB w hw0;have HRD:=ab (h.later hb0);rw [hw0] at HRD;have HW0:=ab hw0;have HBY0:=ab hby0;have hgg:w.grownBy w0 (some g):=jN hb0 _;have hgr:g<w.heap.size:=h.lt;clear hw0 hby0 h;go_enter Tryz.func77,Tryz.ntmps77
   go_wp2_with (go_at_call 46;refine(kH _ HRD.out).mono ?_)
   rintro e w1 ⟨rfl,hst⟩;rw [←HW0.out] at hst;have hg1:=jM hgg (hst.grown (some g));have HRD1:=ab (hst.rd (HW0.out▸HRD.out:Rd w0 g _ d));have HBY1:=ab (jQ HBY0.out (hst.grown (some g)) gu);have hz1:w0.heap.size≤w1.heap.size:=by rw [hst.size];exact Cp _
   clear hst;try rw [kO]
   obtain⟨i,hi,c1,hf,hr2⟩:=HRD1.out.step;have HRD2:=ab hr2;have hg2:=j9 hg1 1 (.int .i64 ((i:Int)+1));obtain⟨f0,f1,f2,f3,f4,f5,f6,f7,f8⟩:=jR (c:=[]) HBY1.out;clear hr2;go_wp2
   refine CJ (v:=.tuple #[.agg #[.int .i64 9,.string ⟨[].toArray⟩,.bool false,.slice none ([]:List Row).length 0,.int .i64 0,.int .i64 0,.bool false,.slice none ([]:List Rx).length 0],.int .i64 0]) gQ rfl ?_;refine⟨?_,?_⟩
   ·exact bU
   rw [←HR.out];refine⟨rxc 9 [] false none ([]:List Row).length 0 0 0 false none ([]:List Rx).length 0,rfl,RxV.mono (S:=fun b=>w.heap.size≤b∧b≠w.heap.size) (fun b hb _=>hb.1) ?_,?_⟩
   ·exact aR
   ·exact cx
  have g94:(c==[94])=false:=CM.2 h94;have g36:(c==[36])=false:=CM.2 h36;by_cases h92:c=[92]
  ·subst h92
   clear g94 g36;cases r1 with
   | nil =>
    have HR:Hid ((match od (patF n) [[92]] d with|.error e=>.error e|.ok (x,r1)=>me x r1)=R):=ab hR;clear hR;obtain⟨w0,hw0⟩:∃w0,w0=w.alloc (.cells #[.int .i64 0,.string ⟨#[]⟩,.bool false,.slice none 0 0,.int .i64 0,.int .i64 0,.bool false,.slice none 0 0] 25):=⟨_,rfl⟩;obtain⟨hb0,hz0,hby0⟩:=kB w hw0;have HRD:=ab (h.later hb0);rw [hw0] at HRD;have HW0:=ab hw0;have HBY0:=ab hby0;have hgg:w.grownBy w0 (some g):=jN hb0 _;have hgr:g<w.heap.size:=h.lt;clear hw0 hby0 h;go_enter Tryz.func77,Tryz.ntmps77
    go_wp2_with (go_at_call 46;refine(kH _ HRD.out).mono ?_)
    rintro e w1 ⟨rfl,hst⟩;rw [←HW0.out] at hst;have hg1:=jM hgg (hst.grown (some g));have HRD1:=ab (hst.rd (HW0.out▸HRD.out:Rd w0 g _ d));have HBY1:=ab (jQ HBY0.out (hst.grown (some g)) gu);have hz1:w0.heap.size≤w1.heap.size:=by rw [hst.size];exact Cp _
    clear hst;try rw [kO]
    obtain⟨la,lk,li,ln,l0,l1,l2,l3⟩:=HRD1.out.look0;have d0:∀x:ExtOf w1,x.val.cell? ⟨g,0,none⟩=some (.slice la ln lk):=ExtOf.cell l0;have d1:∀x:ExtOf w1,x.val.cell? ⟨g,1,none⟩=some (.int .i64 li):=ExtOf.cell l1;have gg:decide (li+1<ln)=false:=by simp;omega
    have gg2:decide ((li:Int)+1<(ln:Int))=false:=by simp;omega
    have gw:IntKind.i64.wrap ((li:Int)+1)=(li:Int)+1:=IntWalk.i64_in _ gu;clear l0 l1;go_upto_region 10 with fail
    refine jS gE gE ?_;repeat (go_big_quiet_step ((fail)))
    refine wpQuiet_nil ?_;rintro _ ⟨xq,rfl⟩;obtain⟨w2,hw2⟩:∃w2,w2=xq.val:=⟨_,rfl⟩;have hb2:Below w1.heap.size w1 w2:=hw2▸xq.ext;rw [←hw2];have HRD2:=ab (HRD1.out.later hb2);have HBY2:=ab ((hb2.block _ (jO HBY1.out)).trans HBY1.out);have hg2:=jM hg1 (jN hb2 (some g));have hz2:w0.heap.size≤w2.heap.size:=Ct hz1 hb2.size;clear d0 d1 gg gg2 gw hw2 HRD1 HBY1 hg1 hz1 hb2;have HAT:=ab (qW HP.out w2 HRD2.out hlen hd);go_wp2_with (go_at_call 113;refine HAT.out.mono ?_)
    rintro e w2 hq;clear HAT;cases hat:od (patF n) ([[92]]) d with
    | error q =>
     rw [hat] at hq;obtain⟨hq2,rfl,r9,hrd9⟩:=hq;have hq0:q≠0:=pE (nf n) ([[92]]) d q hat;exact fF
    | ok y =>
     exact eM
   | cons c2 r2 =>
    by_cases h98:c2=[98]
    ·subst h98
     have HR:Hid (Except.ok (rxK 10,r2)=R):=ab hR;clear hR hlen;obtain⟨w0,hw0⟩:∃w0,w0=w.alloc (.cells #[.int .i64 0,.string ⟨#[]⟩,.bool false,.slice none 0 0,.int .i64 0,.int .i64 0,.bool false,.slice none 0 0] 25):=⟨_,rfl⟩;obtain⟨hb0,hz0,hby0⟩:=kB w hw0;have HRD:=ab (h.later hb0);rw [hw0] at HRD;have HW0:=ab hw0;have HBY0:=ab hby0;have hgg:w.grownBy w0 (some g):=jN hb0 _;have hgr:g<w.heap.size:=h.lt;clear hw0 hby0 h;go_enter Tryz.func77,Tryz.ntmps77
     go_wp2_with (go_at_call 46;refine(kH _ HRD.out).mono ?_)
     rintro e w1 ⟨rfl,hst⟩;rw [←HW0.out] at hst;have hg1:=jM hgg (hst.grown (some g));have HRD1:=ab (hst.rd (HW0.out▸HRD.out:Rd w0 g _ d));have HBY1:=ab (jQ HBY0.out (hst.grown (some g)) gu);have hz1:w0.heap.size≤w1.heap.size:=by rw [hst.size];exact Cp _
     clear hst;try rw [kO]
     obtain⟨lb,lo,lk,li,ln,l0,l1,l2,l3,l4⟩:=HRD1.out.look1;have d0:∀x:ExtOf w1,x.val.cell? ⟨g,0,none⟩=some (.slice (some ⟨lb,lo,none⟩) ln lk):=ExtOf.cell l0;have d1:∀x:ExtOf w1,x.val.cell? ⟨g,1,none⟩=some (.int .i64 li):=ExtOf.cell l1;have gg:decide (li+1<ln)=true:=by simp;omega
     have gg2:decide ((li:Int)+1<(ln:Int))=true:=by simp;omega
     have gw:IntKind.i64.wrap ((li:Int)+1)=(li:Int)+1:=IntWalk.i64_in _ gu;clear l0 l1;go_upto_region 10 with fail
     refine jS gE gE ?_;repeat (go_big_quiet_step ((fail)))
     refine wpQuiet_nil ?_;rintro _ ⟨xq,rfl⟩;obtain⟨w5,hw5⟩:∃w5,w5=xq.val:=⟨_,rfl⟩;have hb5:Below w1.heap.size w1 w5:=hw5▸xq.ext;rw [←hw5];have l04:=jP hb5 _ _ l4;clear d0 d1 hw5;have HRD5:=ab (HRD1.out.later hb5);have HBY5:=ab ((hb5.block _ (jO HBY1.out)).trans HBY1.out);have hg5:=jM hg1 (jN hb5 (some g));have hz5:w0.heap.size≤w5.heap.size:=Ct hz1 hb5.size;clear l04 l2 l3 l4 gg gg2 gw hb5;obtain⟨lb,lo,lk,li,ln,l0,l1,l2,l3,l4⟩:=HRD5.out.look1;have d0:∀x:ExtOf w5,x.val.cell? ⟨g,0,none⟩=some (.slice (some ⟨lb,lo,none⟩) ln lk):=ExtOf.cell l0;have d1:∀x:ExtOf w5,x.val.cell? ⟨g,1,none⟩=some (.int .i64 li):=ExtOf.cell l1;have d2:∀x:ExtOf w5,x.val.cell? ⟨lb,lo+(li+1),none⟩=some (.string ⟨([98]).toArray⟩):=ExtOf.cell l4;have gn:((li:Int)+1).toNat=li+1:=gu;have gn0:(0:Int)≤(li:Int)+1:=gu;have gn1:(li:Int)+1<(ln:Int):=gu;have gw:IntKind.i64.wrap ((li:Int)+1)=(li:Int)+1:=IntWalk.i64_in _ gu;clear l0 l1 l4;go_upto_region 11 with fail
     refine jS gE gE ?_;repeat (go_big_quiet_step ((fail)))
     refine wpQuiet_nil ?_;rintro _ ⟨xq,rfl⟩;obtain⟨w2,hw2⟩:∃w2,w2=xq.val:=⟨_,rfl⟩;have hb2:Below w5.heap.size w5 w2:=hw2▸xq.ext;rw [←hw2];have HRD2:=ab (HRD5.out.later hb2);have HBY2:=ab ((hb2.block _ (jO HBY5.out)).trans HBY5.out);have hg2:=jM hg5 (jN hb2 (some g));have hz2:w0.heap.size≤w2.heap.size:=Ct hz5 hb2.size;clear d0 d1 d2 gn gn0 gn1 gw hw2 HRD5 HBY5 hg5 hz5 hb2 HRD1 HBY1 hg1 hz1;obtain⟨i,hi,c1,hf,hr2⟩:=HRD2.out.step2;have HRD3:=ab hr2;have hg3:=j9 hg2 1 (.int .i64 ((i:Int)+2));obtain⟨f0,f1,f2,f3,f4,f5,f6,f7,f8⟩:=jR (c:=[]) HBY2.out;clear hr2;go_wp2
     refine CJ (v:=.tuple #[.agg #[.int .i64 10,.string ⟨[].toArray⟩,.bool false,.slice none ([]:List Row).length 0,.int .i64 0,.int .i64 0,.bool false,.slice none ([]:List Rx).length 0],.int .i64 0]) gQ rfl ?_;refine⟨?_,?_⟩
     ·exact cg
     rw [←HR.out];refine⟨rxc 10 [] false none ([]:List Row).length 0 0 0 false none ([]:List Rx).length 0,rfl,RxV.mono (S:=fun b=>w.heap.size≤b∧b≠w.heap.size) (fun b hb _=>hb.1) ?_,?_⟩
     ·exact aR
     ·exact ce
    by_cases h66:c2=[66]
    ·subst h66
     have HR:Hid (Except.ok (rxK 11,r2)=R):=ab hR;clear hR hlen;obtain⟨w0,hw0⟩:∃w0,w0=w.alloc (.cells #[.int .i64 0,.string ⟨#[]⟩,.bool false,.slice none 0 0,.int .i64 0,.int .i64 0,.bool false,.slice none 0 0] 25):=⟨_,rfl⟩;obtain⟨hb0,hz0,hby0⟩:=kB w hw0;have HRD:=ab (h.later hb0);rw [hw0] at HRD;have HW0:=ab hw0;have HBY0:=ab hby0;have hgg:w.grownBy w0 (some g):=jN hb0 _;have hgr:g<w.heap.size:=h.lt;clear hw0 hby0 h;go_enter Tryz.func77,Tryz.ntmps77
     go_wp2_with (go_at_call 46;refine(kH _ HRD.out).mono ?_)
     rintro e w1 ⟨rfl,hst⟩;rw [←HW0.out] at hst;have hg1:=jM hgg (hst.grown (some g));have HRD1:=ab (hst.rd (HW0.out▸HRD.out:Rd w0 g _ d));have HBY1:=ab (jQ HBY0.out (hst.grown (some g)) gu);have hz1:w0.heap.size≤w1.heap.size:=by rw [hst.size];exact Cp _
     clear hst;try rw [kO]
     obtain⟨lb,lo,lk,li,ln,l0,l1,l2,l3,l4⟩:=HRD1.out.look1;have d0:∀x:ExtOf w1,x.val.cell? ⟨g,0,none⟩=some (.slice (some ⟨lb,lo,none⟩) ln lk):=ExtOf.cell l0;have d1:∀x:ExtOf w1,x.val.cell? ⟨g,1,none⟩=some (.int .i64 li):=ExtOf.cell l1;have gg:decide (li+1<ln)=true:=by simp;omega
     have gg2:decide ((li:Int)+1<(ln:Int))=true:=by simp;omega
     have gw:IntKind.i64.wrap ((li:Int)+1)=(li:Int)+1:=IntWalk.i64_in _ gu;clear l0 l1;go_upto_region 10 with fail
     refine jS gE gE ?_;repeat (go_big_quiet_step ((fail)))
     refine wpQuiet_nil ?_;rintro _ ⟨xq,rfl⟩;obtain⟨w5,hw5⟩:∃w5,w5=xq.val:=⟨_,rfl⟩;have hb5:Below w1.heap.size w1 w5:=hw5▸xq.ext;rw [←hw5];have l04:=jP hb5 _ _ l4;clear d0 d1 hw5;have HRD5:=ab (HRD1.out.later hb5);have HBY5:=ab ((hb5.block _ (jO HBY1.out)).trans HBY1.out);have hg5:=jM hg1 (jN hb5 (some g));have hz5:w0.heap.size≤w5.heap.size:=Ct hz1 hb5.size;clear l04 l2 l3 l4 gg gg2 gw hb5;obtain⟨lb,lo,lk,li,ln,l0,l1,l2,l3,l4⟩:=HRD5.out.look1;have d0:∀x:ExtOf w5,x.val.cell? ⟨g,0,none⟩=some (.slice (some ⟨lb,lo,none⟩) ln lk):=ExtOf.cell l0;have d1:∀x:ExtOf w5,x.val.cell? ⟨g,1,none⟩=some (.int .i64 li):=ExtOf.cell l1;have d2:∀x:ExtOf w5,x.val.cell? ⟨lb,lo+(li+1),none⟩=some (.string ⟨([66]).toArray⟩):=ExtOf.cell l4;have gn:((li:Int)+1).toNat=li+1:=gu;have gn0:(0:Int)≤(li:Int)+1:=gu;have gn1:(li:Int)+1<(ln:Int):=gu;have gw:IntKind.i64.wrap ((li:Int)+1)=(li:Int)+1:=IntWalk.i64_in _ gu;clear l0 l1 l4;go_upto_region 11 with fail
     refine jS gE gE ?_;repeat (go_big_quiet_step ((fail)))
     refine wpQuiet_nil ?_;rintro _ ⟨xq,rfl⟩;obtain⟨w2,hw2⟩:∃w2,w2=xq.val:=⟨_,rfl⟩;have hb2:Below w5.heap.size w5 w2:=hw2▸xq.ext;rw [←hw2];have HRD2:=ab (HRD5.out.later hb2);have HBY2:=ab ((hb2.block _ (jO HBY5.out)).trans HBY5.out);have hg2:=jM hg5 (jN hb2 (some g));have hz2:w0.heap.size≤w2.heap.size:=Ct hz5 hb2.size;clear d0 d1 d2 gn gn0 gn1 gw hw2 HRD5 HBY5 hg5 hz5 hb2 HRD1 HBY1 hg1 hz1;obtain⟨i,hi,c1,hf,hr2⟩:=HRD2.out.step2;have HRD3:=ab hr2;have hg3:=j9 hg2 1 (.int .i64 ((i:Int)+2));obtain⟨f0,f1,f2,f3,f4,f5,f6,f7,f8⟩:=jR (c:=[]) HBY2.out;clear hr2;go_wp2
     refine CJ (v:=.tuple #[.agg #[.int .i64 11,.string ⟨[].toArray⟩,.bool false,.slice none ([]:List Row).length 0,.int .i64 0,.int .i64 0,.bool false,.slice none ([]:List Rx).length 0],.int .i64 0]) gQ rfl ?_;refine⟨?_,?_⟩
     ·exact cg
     rw [←HR.out];refine⟨rxc 11 [] false none ([]:List Row).length 0 0 0 false none ([]:List Rx).length 0,rfl,RxV.mono (S:=fun b=>w.heap.size≤b∧b≠w.heap.size) (fun b hb _=>hb.1) ?_,?_⟩
     ·exact aR
     ·exact ce
    have g98:(c2==[98])=false:=CM.2 h98;have g66:(c2==[66])=false:=CM.2 h66;have HR:Hid ((match od (patF n) ([92]::c2::r2) d with|.error e=>.error e|.ok (x,r1)=>me x r1)=R):=ab (by rw [←hR,show tQ ([92]::c2::r2)=none from by simp [tQ,kG,h98,h66]];rfl);clear hR h98 h66;obtain⟨w0,hw0⟩:∃w0,w0=w.alloc (.cells #[.int .i64 0,.string ⟨#[]⟩,.bool false,.slice none 0 0,.int .i64 0,.int .i64 0,.bool false,.slice none 0 0] 25):=⟨_,rfl⟩;obtain⟨hb0,hz0,hby0⟩:=kB w hw0;have HRD:=ab (h.later hb0);rw [hw0] at HRD;have HW0:=ab hw0;have HBY0:=ab hby0;have hgg:w.grownBy w0 (some g):=jN hb0 _;have hgr:g<w.heap.size:=h.lt;clear hw0 hby0 h;go_enter Tryz.func77,Tryz.ntmps77
    go_wp2_with (go_at_call 46;refine(kH _ HRD.out).mono ?_)
    rintro e w1 ⟨rfl,hst⟩;rw [←HW0.out] at hst;have hg1:=jM hgg (hst.grown (some g));have HRD1:=ab (hst.rd (HW0.out▸HRD.out:Rd w0 g _ d));have HBY1:=ab (jQ HBY0.out (hst.grown (some g)) gu);have hz1:w0.heap.size≤w1.heap.size:=by rw [hst.size];exact Cp _
    clear hst;try rw [kO]
    obtain⟨lb,lo,lk,li,ln,l0,l1,l2,l3,l4⟩:=HRD1.out.look1;have d0:∀x:ExtOf w1,x.val.cell? ⟨g,0,none⟩=some (.slice (some ⟨lb,lo,none⟩) ln lk):=ExtOf.cell l0;have d1:∀x:ExtOf w1,x.val.cell? ⟨g,1,none⟩=some (.int .i64 li):=ExtOf.cell l1;have gg:decide (li+1<ln)=true:=by simp;omega
    have gg2:decide ((li:Int)+1<(ln:Int))=true:=by simp;omega
    have gw:IntKind.i64.wrap ((li:Int)+1)=(li:Int)+1:=IntWalk.i64_in _ gu;clear l0 l1;go_upto_region 10 with fail
    refine jS gE gE ?_;repeat (go_big_quiet_step ((fail)))
    refine wpQuiet_nil ?_;rintro _ ⟨xq,rfl⟩;obtain⟨w5,hw5⟩:∃w5,w5=xq.val:=⟨_,rfl⟩;have hb5:Below w1.heap.size w1 w5:=hw5▸xq.ext;rw [←hw5];have l04:=jP hb5 _ _ l4;clear d0 d1 hw5;have HRD5:=ab (HRD1.out.later hb5);have HBY5:=ab ((hb5.block _ (jO HBY1.out)).trans HBY1.out);have hg5:=jM hg1 (jN hb5 (some g));have hz5:w0.heap.size≤w5.heap.size:=Ct hz1 hb5.size;clear l04 l2 l3 l4 gg gg2 gw hb5;obtain⟨lb,lo,lk,li,ln,l0,l1,l2,l3,l4⟩:=HRD5.out.look1;have d0:∀x:ExtOf w5,x.val.cell? ⟨g,0,none⟩=some (.slice (some ⟨lb,lo,none⟩) ln lk):=ExtOf.cell l0;have d1:∀x:ExtOf w5,x.val.cell? ⟨g,1,none⟩=some (.int .i64 li):=ExtOf.cell l1;have d2:∀x:ExtOf w5,x.val.cell? ⟨lb,lo+(li+1),none⟩=some (.string ⟨c2.toArray⟩):=ExtOf.cell l4;have gn:((li:Int)+1).toNat=li+1:=gu;have gn0:(0:Int)≤(li:Int)+1:=gu;have gn1:(li:Int)+1<(ln:Int):=gu;have gw:IntKind.i64.wrap ((li:Int)+1)=(li:Int)+1:=IntWalk.i64_in _ gu;clear l0 l1 l4;go_upto_region 11 with fail
    refine jS gE gE ?_;repeat (go_big_quiet_step ((fail)))
    refine wpQuiet_nil ?_;rintro _ ⟨xq,rfl⟩;obtain⟨w2,hw2⟩:∃w2,w2=xq.val:=⟨_,rfl⟩;have hb2:Below w5.heap.size w5 w2:=hw2▸xq.ext;rw [←hw2];have HRD2:=ab (HRD5.out.later hb2);have HBY2:=ab ((hb2.block _ (jO HBY5.out)).trans HBY5.out);have hg2:=jM hg5 (jN hb2 (some g));have hz2:w0.heap.size≤w2.heap.size:=Ct hz5 hb2.size;clear d0 d1 d2 gn gn0 gn1 gw hw2 HRD5 HBY5 hg5 hz5 hb2 HRD1 HBY1 hg1 hz1;have HAT:=ab (qW HP.out w2 HRD2.out hlen hd);go_wp2_with (go_at_call 113;refine HAT.out.mono ?_)
    rintro e w2 hq;clear HAT;cases hat:od (patF n) ([92]::c2::r2) d with
    | error q =>
     rw [hat] at hq;obtain⟨hq2,rfl,r9,hrd9⟩:=hq;have hq0:q≠0:=pE (nf n) ([92]::c2::r2) d q hat;exact fF
    | ok y =>
     exact eM
  have g92:(c==[92])=false:=CM.2 h92;have HR:Hid ((match od (patF n) (c::r1) d with|.error e=>.error e|.ok (x,r1)=>me x r1)=R):=ab (by rw [←hR,show tQ (c::r1)=none from by simp [tQ,h94,h36,h92]];rfl);clear hR h94 h36 h92;obtain⟨w0,hw0⟩:∃w0,w0=w.alloc (.cells #[.int .i64 0,.string ⟨#[]⟩,.bool false,.slice none 0 0,.int .i64 0,.int .i64 0,.bool false,.slice none 0 0] 25):=⟨_,rfl⟩;obtain⟨hb0,hz0,hby0⟩:=kB w hw0;have HRD:=ab (h.later hb0);rw [hw0] at HRD;have HW0:=ab hw0;have HBY0:=ab hby0;have hgg:w.grownBy w0 (some g):=jN hb0 _;have hgr:g<w.heap.size:=h.lt;clear hw0 hby0 h;go_enter Tryz.func77,Tryz.ntmps77
  go_wp2_with (go_at_call 46;refine(kH _ HRD.out).mono ?_)
  rintro e w1 ⟨rfl,hst⟩;rw [←HW0.out] at hst;have hg1:=jM hgg (hst.grown (some g));have HRD1:=ab (hst.rd (HW0.out▸HRD.out:Rd w0 g _ d));have HBY1:=ab (jQ HBY0.out (hst.grown (some g)) gu);have hz1:w0.heap.size≤w1.heap.size:=by rw [hst.size];exact Cp _
  clear hst;try rw [kO]
  have HAT:=ab (qW HP.out w1 HRD1.out hlen hd);go_wp2_with (go_at_call 113;refine HAT.out.mono ?_)
  rintro e w2 hq;clear HAT;cases hat:od (patF n) (c::r1) d with
  | error q =>
   rw [hat] at hq;obtain⟨hq2,rfl,r9,hrd9⟩:=hq;have hq0:q≠0:=pE (nf n) (c::r1) d q hat;exact fE
  | ok y =>
   exact eL
theorem OwnX.keepG {w w':World} {B g:Nat} {v:Value} {xs:List Rx} (h:OwnX w B v xs) (hg:w.grownBy w' (some g)) (hB:g<B):OwnX w' B v xs:=by
 obtain⟨css,h1,h2⟩:=h;exact⟨css,kq h1 hg hB,h2.keep (Kept.grown hg fun b hb=>by have:=hb.1;omega)⟩
theorem OwnX.form {w:World} {B:Nat} {v:Value} {xs:List Rx} (h:OwnX w B v xs):∃(a:Option Addr) (n c:Nat),v=.slice a n c:=by
 obtain⟨css,h1,_⟩:=h;obtain⟨a,c,e⟩:=j7 h1;exact⟨a,_,c,e⟩
theorem OwnX.lt {w:World} {B:Nat} {v:Value} {xs:List Rx} (h:OwnX w B v xs):∀k,v.ownBlock=some k→B≤k∧k<w.heap.size:=by
 obtain⟨css,h1,_⟩:=h;exact fun k hk=>h1.lt k hk
def PatRel (n g d:Nat) (w0:World) (R:Res) (k:Nat) (va vt:Value) (wr:World):Prop :=
 ∃(wa:World) (alts terms:List Rx) (r:List Str),OwnX wa w0.heap.size va alts∧w0.grownBy wa (some g)∧wa.grownBy wr (some g)∧OwnX wr wa.heap.size vt terms∧Rd wr g r d∧r.length<k∧r.length≤n ∧
  Hid (Rx.smallL alts∧Rx.smallL terms)∧Rx.partsL alts+Rx.partsL terms+2*r.length≤450000∧Hid (patL (fun r=>o7 (patF n) r d) k alts terms r=R)
theorem RxV.box {w:World} {S:Nat→Prop} {cc:List Value} {x:Rx} (h:RxV w S cc x):∃k c ng rs lo hi lz ks ra rc ka kc,x=.mk k c ng rs lo hi lz ks∧cc=rxc k c ng ra (rs:List Row).length rc lo hi lz ka (ks:List Rx).length kc:=by
 cases h with
 | mk h1 h2 h3=>exact⟨_,_,_,_,_,_,_,_,_,_,_,_,rfl,rfl⟩
def SeqRes (y:Rx) (w:World) (e:Ending) (w':World):Prop:=∃cc',e=.returned (.agg cc'.toArray)∧RxV w' (fun b=>w.heap.size≤b) cc' y∧Below w.heap.size w w'
theorem Ak {B:Nat} {a:Option Addr} {n c:Nat} {xs:List Rx} (w:World) (h:OwnX w B (.slice a n c) xs) (hp:Rx.partsL xs≤1000000) (hs:Rx.smallL xs) :
  Calls Tryz.prog 76 #[.slice a n c] w fun e w'=>SeqRes (seqR xs) w e w':=by
 obtain⟨rfl,h2⟩:=h.sl;exact Seq_any _ a c xs w h2 hp hs
theorem Alt_res {B:Nat} {a:Option Addr} {n c:Nat} {xs:List Rx} (w:World) (h:OwnX w B (.slice a n c) xs) (hp:Rx.partsL xs≤1000000) (hs:Rx.smallL xs) :
  Calls Tryz.prog 75 #[.slice a n c] w fun e w'=>SeqRes (altR xs) w e w':=by
 obtain⟨rfl,h2⟩:=h.sl;exact Alt_any _ a c xs w h2 hp hs
theorem vq {n:Nat} (hp:PatC n):PatC (n+1):=by
 intro g d r w h hlen hd;obtain⟨R,hR⟩:∃R,patF (n+1) r d=R:=⟨_,rfl⟩;rw [hR];have hR2:patL (fun r=>o7 (patF n) r d) (r.length+1) [] [] r=R:=hR;have HR0:=ab hR2;have HP:=ab hp;have hrl:=h.ok.2;obtain⟨ix,hix⟩:=info_parts wB;clear hR hR2 hp;obtain⟨w0,hw0⟩:∃w0,w0=w.alloc (.cells #[.int .i64 0,.string ⟨#[]⟩,.bool false,.slice none 0 0,.int .i64 0,.int .i64 0,.bool false,.slice none 0 0] 25):=⟨_,rfl⟩;obtain⟨hb0,hz0,hby0⟩:=kB w hw0;have HRD:=ab (h.later hb0);rw [hw0] at HRD;have HW0:=ab hw0;have HBY0:=ab hby0;have hgg:w.grownBy w0 (some g):=jN hb0 _;have hgr:g<w.heap.size:=h.lt;clear hw0 hby0 h;have HRD0:Hid (Rd w0 g r d):=ab (HW0.out▸HRD.out);obtain⟨hz0e,hz0'⟩:w0.heap.size=w.heap.size+1∧w.heap.size+1≤w0.heap.size:=⟨hz0,by omega⟩;clear hz0e hz0 HRD;go_enter Tryz.func45,Tryz.ntmps45
 go_wp2
 rw [←HW0.out];go_loopg [4,5] (r.length+1) (fun k va vt wr=>PatRel n g d w0 R k va vt wr)
 case atStart=>exact⟨w0,[],[],r,OwnX.nil _ _,kD _ _,kD _ _,OwnX.nil _ _,HRD0.out,by omega,by omega,ab ⟨trivial,trivial⟩,by simp only [Rx.partsL];omega,HR0⟩
 case round =>
  clear HR0 HRD0;obtain⟨wa,alts,terms,r,hoa,hga,hgr1,hot,hrd,hk,hn,HSM,hpl,HF⟩:=hrel;obtain⟨k,rfl⟩:∃k',gk=k'+1:=⟨gk-1,by omega⟩;have HRD:=ab hrd;have HOA:=ab hoa;have HOT:=ab hot;have hok:=hrd.ok.1;have hza:=hga.size;have hzr:=hgr1.size;clear hoa hot hrd;go_wp2_with (go_at_call 46;refine(kH _ HRD.out).mono ?_)
  rintro e w1 ⟨rfl,hst⟩;have HRD1:=ab (hst.rd HRD.out);have hg1:=jM hgr1 (hst.grown (some g));have HOT1:=ab (HOT.out.later (hst.below _));have HOA1:=ab ((HOA.out.keepG hg1 gu));have hz1:wr.heap.size=w1.heap.size:=hst.size.symm;have hz1':wr.heap.size≤w1.heap.size:=gu;have hgw1:=jM hga hg1;clear hst HRD HOT hz1 hgr1;cases r with
  | nil =>
   have HF2:Hid (Except.ok (altR (alts++[seqR terms]),[])=R):=ab HF.out;clear HF hok;have e0:hdS []=[]:=rfl;rw [e0];clear e0;exact ap
  | cons c r1 =>
   by_cases h41:c=[41]
   ·subst h41
    have HF2:Hid (Except.ok (altR (alts++[seqR terms]),[41]::r1)=R):=ab HF.out;clear HF hok;rw [kO];exact ap
   by_cases h124:c=[124]
   ·subst h124
    have HF2:Hid (patL (fun r=>o7 (patF n) r d) k (alts++[seqR terms]) [] r1=R):=ab HF.out;clear HF hok;rw [kO];obtain⟨i,hi9,c1,hf1,hr2⟩:=HRD1.out.step;obtain⟨w2,hw2⟩:∃w2,w2=w1.setCell ⟨g,1,none⟩ (.int .i64 ((i:Int)+1)):=⟨_,rfl⟩;have HRD2:Hid (Rd w2 g r1 d):=ab (hw2▸hr2);have hgw2:w0.grownBy w2 (some g):=hw2▸j9 hgw1 _ _;have HOT2:Hid (OwnX w2 wa.heap.size _ terms):=ab (hw2▸HOT1.out.setLow gH _);have HOA2:Hid (OwnX w2 w0.heap.size _ alts):=ab (hw2▸HOA1.out.setLow gH _);have hz2:w1.heap.size≤w2.heap.size:=by rw [hw2];simp [World.setCell]
    go_upto_region 13 with fail
    rw [←hw2];clear hw2 c1 hf1 hr2 HRD1 HOT1 HOA1 hgw1;have hl2:r1.length<k∧r1.length≤n:=by simp at hk hn;omega
    simp only [Cr] at hpl;obtain⟨css,hca,hva⟩:=HOA2.out;obtain⟨csst,hct,hvt⟩:=HOT2.out;obtain⟨ta,tc,rfl⟩:=j7 hct;obtain⟨aa,ac,rfl⟩:=j7 hca;have HSEQ:=ab (Ak w2 ⟨csst,hct,hvt⟩ gu HSM.out.2);have HCA:=ab hca;have HVA:=ab hva;have hlta:=hca.lt;clear hca hva hct hvt;go_wp2_with (go_at_call 76;refine HSEQ.out.mono ?_)
    rintro e w5 hq5;obtain⟨cc5,rfl,hx5,hb5⟩:=hq5;obtain⟨yk,yc,yn,yr,yl,yh,yz,ys,za,zc,zka,zkc,hy,rfl⟩:=hx5.box;rw [hy] at hx5;have hbn:=(Below.refl w5.heap.size w5).alloc (Cp _) (.cells (rxc yk yc yn za yr.length zc yl yh yz zka ys.length zkc).toArray 25);have ho6:=jZ (jZ HCA.out hb5) hbn;have hsl6:=Sl.lit (n:=1) (sz:=8) (heap_alloc_new w5 (.cells (rxc yk yc yn za yr.length zc yl yh yz zka ys.length zkc).toArray 25)) rfl;have hrv6:=(HVA.out.later hb5).later hbn;have hcv6:=hx5.later hbn;have hone:=hx5.one;have hz5:=hb5.size;unfold rxc at ho6 hsl6 hrv6 hcv6 hone hbn;have HO6:=ab ho6;have HSL6:=ab hsl6;have HRV6:=ab hrv6;have HCV6:=ab hcv6;have HONE:=ab hone;have HY:=ab hy;clear ho6 hsl6 hrv6 hcv6 hone hx5 hy HSEQ HCA HVA;unfold rxc;have hlen6:=Rx.len_parts alts;go_wp2_with (at_builtin;refine ke w0.heap.size 25 rfl _ _ 23 rfl Tryz.underlying23 hix rfl gD rfl HO6.out rfl HSL6.out HONE.out gu gu gD gH ?_)
    intro v7 w7 ho7 hq7 hb7 hmv;have hox7:OwnX w7 w0.heap.size v7 (alts++[seqR terms]):=by
     exact fD
    obtain⟨s1,s2,s3⟩:=qq HSM.out.2 gu;have hpa:Rx.partsL (alts++[seqR terms])+Rx.partsL []+2*r1.length≤450000:=by rw [lL];simp only [Rx.partsL];omega
    have hsa:Rx.smallL (alts++[seqR terms]):=lX HSM.out.1 ⟨s1,trivial⟩;have hg05:=jM hgw2 (jN hb5 (some g));have hg06:=jM hg05 (jN hbn (some g));have hg07:=mT hg06 hb7 (Cp _);have hrd7:=((HRD2.out.later hb5).later hbn).grownHi hq7 (fun k hk=>by have:=(hlta k hk).1;omega);have HSM7:=ab (And.intro hsa (show Rx.smallL [] from trivial));clear s1 s2 s3 hsa hq7 hmv ho7 hb7 hg05 hg06;go_wp2
    go_roundg k
    case measure=>omega
    case rel=>exact⟨w7,_,[],r1,hox7,hg07,kD _ _,OwnX.nil _ _,hrd7,hl2.1,hl2.2,HSM7,hpa,HF2⟩
   have g41:(c==[41])=false:=CM.2 h41;have g124:(c==[124])=false:=CM.2 h124;have g0:List.isEmpty c=false:=by have:=(hok c (CB ..)).1;cases c<;>simp at this ⊢
   have HF1:Hid ((match o7 (patF n) (c::r1) d with|.error e=>.error e|.ok (x,r2)=>patL (fun r=>o7 (patF n) r d) k alts (terms++[x]) r2)=R):=ab (by rw [←HF.out];simp only [patL,Co h41,Co h124];rfl);clear HF h41 h124;rw [kO];have hl1:(c::r1).length≤n:=hn;have HTM:=ab (term_any HP.out w1 HRD1.out hl1 hd);go_wp2_with (go_at_call 77;refine HTM.out.mono ?_)
   rintro e w2 hq;clear HTM;cases htm:o7 (patF n) (c::r1) d with
   | error q =>
    rw [htm] at hq;obtain⟨hq2,rfl,r9,hrd9⟩:=hq;have hq0:q≠0:=yK (nf n) (c::r1) d q htm;have HR:Hid (Except.error q=R):=ab (by rw [←HF1.out];simp only [htm]);have hg02:=jM hgw1 hq2;have hby2:=jQ HBY0.out hg02 gu;have hb6:Below w2.heap.size w2 (w2.alloc (.cells #[.int .i64 0,.string ⟨#[]⟩,.bool false,.slice none 0 0,.int .i64 0,.int .i64 0,.bool false,.slice none 0 0] 25)):=(Below.refl _ _).alloc (Cp _) _;have HRD6:=ab (hrd9.later hb6);have hg6:=jM (jM hgg hg02) (jN hb6 (some g));have ne1:(q != 0)=true:=by simp [bne,hq0]
    obtain⟨f0,f1,f2,f3,f4,f5,f6,f7,f8⟩:=jR (c:=[]) ((hb6.block _ (jO hby2)).trans hby2);clear htm hby2 hrd9 hb6 hq2;unfold rxv0;go_wp2
    refine CJ (v:=.tuple #[.agg #[.int .i64 0,.string ⟨[].toArray⟩,.bool false,.slice none 0 0,.int .i64 0,.int .i64 0,.bool false,.slice none 0 0],.int .i64 q]) jc rfl ?_;refine⟨?_,?_⟩
    ·iterate 8 (refine jW ?_ gz _)
     exact hg6
    ·rw [←HR.out]
     exact fO
   | ok y =>
    obtain⟨x,r3⟩:=y;rw [htm] at hq;obtain⟨hq2,cc,rfl,hxv,hrd2⟩:=hq;obtain⟨⟨t1,t2,t3,t4⟩,t5⟩:=tj (vz n) htm hok (by have:=HRD1.out.ok.2;omega) (Cp _);have HF2:Hid (patL (fun r=>o7 (patF n) r d) k alts (terms++[x]) r3=R):=ab (by rw [←HF1.out];simp only [htm]);simp only [Cr] at t2 t5 hpl hk hn;have hpa:Rx.partsL alts+Rx.partsL (terms++[x])+2*r3.length≤450000:=by rw [lL];simp only [Rx.partsL];omega
    have HSM2:=ab (And.intro HSM.out.1 (lX HSM.out.2 (show Rx.smallL [x] from⟨t1,trivial⟩)));obtain⟨yk,yc,yn,yr,yl,yh,yz,ys,za,zc,zka,zkc,hy,rfl⟩:=hxv.box;subst hy;have hgw2:=jM hgw1 hq2;have hg2:=jM hg1 hq2;have hot2:=HOT1.out.keepG hq2 gu;have hltt:=HOT1.out.lt;obtain⟨va,vn,vc,hvt⟩:=hot2.form;subst hvt;obtain⟨csst,hct,hvt⟩:=hot2;have hbx:Below w2.heap.size w2 (w2.alloc (.cells (rxc yk yc yn za yr.length zc yl yh yz zka ys.length zkc).toArray 25)):=(Below.refl _ _).alloc (Cp _) _;have hbn:=hbx.trans ((Below.refl (w2.alloc (.cells (rxc yk yc yn za yr.length zc yl yh yz zka ys.length zkc).toArray 25)).heap.size _).alloc (Cp _) (.cells (rxc yk yc yn za yr.length zc yl yh yz zka ys.length zkc).toArray 25) |>.mono hbx.size);have ho6:=jZ hct hbn;have hsl6:=Sl.lit (n:=1) (sz:=8) (heap_alloc_new (w2.alloc (.cells (rxc yk yc yn za yr.length zc yl yh yz zka ys.length zkc).toArray 25)) (.cells (rxc yk yc yn za yr.length zc yl yh yz zka ys.length zkc).toArray 25)) rfl;rw [show (w2.alloc (.cells (rxc yk yc yn za yr.length zc yl yh yz zka ys.length zkc).toArray 25)).heap.size=w2.heap.size+1 from by simp] at hsl6;have hrv6:=hvt.later hbn;have hcv6:=hxv.later hbn;have hone:=hxv.one;have hrd6:=hrd2.later hbn;have hz2:=hq2.size;have hzn:=hbn.size;unfold rxc at ho6 hsl6 hrv6 hcv6 hone hbn hrd6 hzn;have HO6:=ab ho6;have HSL6:=ab hsl6;have HRV6:=ab hrv6;have HCV6:=ab hcv6;have HONE:=ab hone;have HRD6:=ab hrd6;have hg6:=jM hg2 (jN hbn (some g));have hgw6:=jM hgw2 (jN hbn (some g));have hlt6:=Rx.len_parts terms;clear ho6 hsl6 hrv6 hcv6 hone hxv hct hvt hrd2 hrd6 hbx hbn htm t1 t3;unfold rxc;go_wp2_with (at_builtin;refine ke wa.heap.size 25 rfl _ _ 23 rfl Tryz.underlying23 hix rfl gD rfl HO6.out rfl HSL6.out HONE.out gu gu gD gH ?_)
    intro v7 w7 ho7 hq7 hb7 hmv;have hox7:OwnX w7 wa.heap.size v7 (terms++[.mk yk yc yn yr yl yh yz ys]):=by
     refine OwnX.app (ds:=[_]) (m:=1) HRV6.out (.cons (HCV6.out.mono fun b hb _=>?_) .nil) rfl ?_ hq7 hmv
     ·exact⟨by omega,fun e=>by have:=(hltt b e).2;omega⟩
     ·simpa using ho7
    have hrd7:=HRD6.out.grownHi hq7 (fun k hk=>by have:=(hltt k hk).1;omega);have hg7:=mT hg6 hb7 (Cp _);have hoa7:=HOA1;clear ho7 hq7 hb7 hmv;go_wp2
    go_roundg k
    case measure=>omega
    case rel=>exact⟨wa,alts,_,r3,HOA.out,hga,hg7,hox7,hrd7,by omega,by omega,HSM2,hpa,HF2⟩
end Go.Proofs.YtjggmmaojklmpaaGreat
