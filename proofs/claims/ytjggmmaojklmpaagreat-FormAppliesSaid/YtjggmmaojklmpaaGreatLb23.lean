/- walks of rxrun: try, its other kinds; whole -/
import Derived.Test.YtjggmmaojklmpaaGreatLb22
set_option maxRecDepth 100000
set_option maxHeartbeats 4000000
namespace Go.Proofs.YtjggmmaojklmpaaGreat
open Go.RowKit
def AltRel (R:Rn) (ks:List Rx) (g0 k:Nat) (f:Rk) (Q:Bool × Rst) (w:World) (q:Value) (wr:World):Prop :=
 ∃(i:Nat) (s:Rst),i≤ks.length∧q=.int .i64 i∧RunI R wr s∧Fx R w wr∧Hid (altM R.C (ks.drop i) (g0+Rx.groupsL (ks.take i)) k f s=Q)
theorem try_alt {R:Rn} (ok:RnOk R) {w:World} {st:Rst} {g k:Nat} {fv:Value} {f:Rk} {cc:List Value} {c:Str} {ng:Bool} {rs:List (Str × Str)} {lo hi:Int} {lz:Bool} {ks:List Rx}
  (hv:PtV w R.S cc (.mk 1 c ng rs lo hi lz ks) g) (hg:g+(Rx.mk 1 c ng rs lo hi lz ks).groups≤R.n) (hr:RunI R w st) (hk:k≤R.C.cs.length) (hf:KW R w k fv f) (ho:st.out=false) (IH:∀x∈ks,TryC R x) (hkl:ks.length≤1000000) :
  Calls Tryz.prog 129 #[.pointer (some ⟨R.r,0,none⟩),.agg cc.toArray,.int .i64 k,fv] w (kW R (tryM R.C (.mk 1 c ng rs lo hi lz ks) g k f st) w):=by
 obtain⟨Q,hQ⟩:∃Q,tryM R.C (.mk 1 c ng rs lo hi lz ks) g k f st=Q:=⟨_,rfl⟩;have HM:Hid (altM R.C ks g k f st=Q):=ab (by
  rw [←hQ];conv=>rhs;unfold tryM;rw [Co iw,Co gD,Cl rfl])
 rw [hQ];have hg':g+Rx.groupsL ks≤R.n:=jI;obtain⟨ra,rc,ka,kn,kc,pa,pc,rfl,hrs,hks,hpc⟩:=hv.open_;obtain⟨gh,hgh⟩:∃gh,g+own5 1+Rx.groupsL ks=gh:=⟨_,rfl⟩;rw [hgh] at hv ⊢;obtain⟨W1,hW1⟩:∃W1,W1=w.alloc (.cells (ptc 1 c ng ra rs.length rc lo hi lz ka kn kc pa ks.length pc g gh).toArray 121):=⟨_,rfl⟩;have hb1:Below w.heap.size w W1:=by rw [hW1];exact(Below.refl _ _).alloc (Cp _) _
 have hx1:W1.heap[w.heap.size]?=some (.cells (ptc 1 c ng ra rs.length rc lo hi lz ka kn kc pa ks.length pc g gh).toArray 121 (0,0)):=by rw [hW1];exact heap_alloc_new w _
 have hr1:=hr.later hb1;have hf1:=hf.later (Fx.below hb1) (Cp k);have hks1:=hks.later hb1;have hv1:=hv.later hb1;have hrs1:=hrs.keep (Kept.all hb1);have y1:¬R.X w.heap.size:=kx hr (Cp _);have c16:=hr1.c16 ok;obtain⟨p0,p1,p2,p3,p4,p5,p6,p7,p8,p9,p10⟩:=kf (kT hx1);simp only [Nat.zero_add] at p1 p2 p3 p4 p5 p6 p7 p8 p9 p10;have hcs:=ok.cs;have HB1:=ab (Fx.below (R:=R) hb1);have HW:=ab hW1;have HR1:=ab hr1;have HX1:=ab hx1;have HGH:=ab hgh;have HV1:=ab hv1;clear hW1 hb1 hx1 hr1 hr hf hv hks hrs hgh hv1;rw [ho] at c16;have HF1:=ab hf1;have HK1:=ab hks1;have HO:=ab ok;have HIH:=ab IH;clear ok hf1 hks1 hrs1 IH hQ;unfold ptc at HW ⊢;go_enter Tryz.func129,Tryz.ntmps129
 go_upto_region 1 with fail
 rw [←HW.out];clear HW;go_upto_region 8 with fail
 go_loopw [31] (fun q wr=>AltRel R ks (g+own5 1) k f Q W1 q wr) (fun q _=>ks.length-(intOf q).toNat)
 case atStart=>exact⟨0,st,by omega,rfl,HR1.out,Gx.refl _ _,ab (by simpa [own5,Rx.groupsL] using HM.out)⟩
 case round =>
  obtain⟨i,s,hi,rfl,hr,hx,HF⟩:=hrel;clear HM p0 p1 p2 p3 p4 p5 p6 p7 p8 p9 p10 c16;cases hd:ks.drop i with
  | nil =>
   have h2:ks.length≤i:=gU;have HE:Hid ((false,s)=Q):=ab (by rw [←HF.out,hd];unfold altM;rfl);have HR:=ab hr;clear hd HF hr;go_wp2
   go_ret
   rw [←HE.out];exact⟨rfl,HR.out,HB1.out.trans hx⟩
  | cons x r =>
   obtain⟨h2,h3,hrr⟩:=j6 hd;obtain⟨e1,e2⟩:=ox ks i x h3;obtain⟨G,hG⟩:∃G,g+own5 1+Rx.groupsL (ks.take i)=G:=⟨_,rfl⟩;have HF':Hid (orE (tryM R.C x G k f s) (fun s=>altM R.C (ks.drop (i+1)) (g+own5 1+Rx.groupsL (ks.take (i+1))) k f s)=Q):=ab (by
    rw [←HF.out,hd,hrr,e1,←CY,hG];conv=>rhs;unfold altM)
   obtain⟨b,o,cy,rfl,_,_,hvy,hcy⟩:=(HK1.out.keep (Fx.kept HO.out hx)).at_ h3;rw [hG] at hvy;have hgx:G+x.groups≤R.n:=by simp only [own5] at hG;rw [Co gD] at hG;omega
   have hT:=HIH.out x (CF h3);have hvy':=hvy;obtain⟨kd,ch,ng',rs',lo',hi',lz',xs⟩:=x;obtain⟨ra',rc',ka',kn',kc',pa',pc',rfl,_,_,_⟩:=hvy'.open_;have hcy':=hcy;simp only [←CY] at hcy';obtain⟨u0,u1,u2,u3,u4,u5,u6,u7,u8,u9,u10⟩:=kf hcy';obtain⟨W2,hW2⟩:∃W2,W2=wr.alloc (.cells (ptc kd ch ng' ra' rs'.length rc' lo' hi' lz' ka' kn' kc' pa' xs.length pc' G (G+own5 kd+Rx.groupsL xs)).toArray 121):=⟨_,rfl⟩;have hb2:Below wr.heap.size wr W2:=by rw [hW2];exact(Below.refl _ _).alloc (Cp _) _
   have hx2:W2.heap[wr.heap.size]?=some (.cells (ptc kd ch ng' ra' rs'.length rc' lo' hi' lz' ka' kn' kc' pa' xs.length pc' G (G+own5 kd+Rx.groupsL xs)).toArray 121 (0,0)):=by rw [hW2];exact heap_alloc_new wr _
   have hC:=hT W2 s G k fv f _ (hvy.later hb2) hgx (hr.later hb2) hk (HF1.out.later (hx.trans (Fx.below hb2)) (Cp _));obtain⟨p0,p1,p2,p3,p4,p5,p6,p7,p8,p9,p10⟩:=kf (kT hx2);simp only [Nat.zero_add] at p1 p2 p3 p4 p5 p6 p7 p8 p9 p10;have HC:=ab hC;have HW2:=ab hW2;have HX2:=ab (hx.trans (Fx.below hb2));clear hC hT hvy hvy' hcy hcy' hr hx hb2 hx2 hW2 hd HF hrr hG e1 e2;obtain⟨gy,hgy⟩:∃gy,G+own5 kd+Rx.groupsL xs=gy:=⟨_,rfl⟩;rw [hgy] at HC HW2 u10 p10;clear hgy;unfold ptc at HC HW2;go_upto_region 10 with fail
   rw [←HW2.out];go_wp2_with (go_at_call 129;refine HC.out.mono ?_)
   rintro z w3 ⟨rfl,hr3,hx3⟩;obtain⟨q,hq⟩:∃q,tryM R.C (.mk kd ch ng' rs' lo' hi' lz' xs) G k f s=q:=⟨_,rfl⟩;rw [hq] at hr3 HF' ⊢;obtain⟨bo,s3⟩:=q;have HR3:=ab hr3;have HX3:=ab (HX2.out.trans hx3);clear hr3 hx3 hq HC HW2 u0 u1 u2 u3 u4 u5 u6 u7 u8 u9 u10 p0 p1 p2 p3 p4 p5 p6 p7 p8 p9 p10;cases bo with
   | true =>
    go_wp2
    go_ret
    rw [←HF'.out];exact⟨rfl,HR3.out,HB1.out.trans HX3.out⟩
   | false =>
    go_wp2
    go_roundw
    case rel=>exact⟨i+1,s3,by omega,by go_num,HR3.out,HX3.out,HF'⟩
    case measure=>simp [intOf];omega
theorem rC {R:Rn} (ok:RnOk R) {kd:Int} (hkd:kd=2∨kd=3∨kd=4) {c:Str} {ng:Bool} {ra:Option Addr} {rs:List (Str × Str)} {rc:Nat} {lo hi:Int} {lz:Bool} {ka:Option Addr} {kn kc:Nat} {d:Str} {w:World} {st:Rst} (hr:RunI R w st) (hrs:SlS w R.S ra 2 rs.length (jX rs)) (hrl:rs.length≤1000000) (hd:d.length≤1000000) (hc:c.length≤1000000) {b:Bool} (hb:lf R.C kd c ng rs d=b) :
  Calls Tryz.prog 158 #[.pointer (some ⟨R.r,0,none⟩),.agg (rxc kd c ng ra rs.length rc lo hi lz ka kn kc).toArray,.string ⟨d.toArray⟩] w fun e w'=>e=.returned (.bool b)∧Below w.heap.size w w':=by
 have c11:=hr.c11 ok;subst hb;rcases hkd with rfl|rfl|rfl
 ·by_cases h:d=c
  ·subst h
   have:lf R.C 2 d ng rs d=true:=by unfold lf;rw [Cl rfl];simp
   rw [this];exact wK d ng ra rs.length rc lo hi lz ka kn kc w
  ·cases hf:R.C.fold with
   | false =>
    have:lf R.C 2 c ng rs d=false:=by unfold lf;rw [Cl rfl,hf];simpa using h
    rw [this];rw [hf] at c11;exact uM c d ng ra rs.length rc lo hi lz ka kn kc w c11 h
   | true =>
    have:lf R.C 2 c ng rs d=(o4 d==o4 c):=by unfold lf;rw [Cl rfl,hf];simp [h]
    rw [this];rw [hf] at c11;exact wR c d ng ra rs.length rc lo hi lz ka kn kc w c11 h hd hc
 ·exact yS c d ng ra rs.length rc lo hi lz ka kn kc w
 ·exact yR c d ng R.C.fold ra rs rc lo hi lz ka kn kc w c11 hrs.sl gu hd
theorem BL {R:Rn} (ok:RnOk R) {w:World} {st:Rst} {g k:Nat} {fv:Value} {f:Rk} {cc:List Value} {c:Str} {ng:Bool} {rs:List (Str × Str)} {lo hi:Int} {lz:Bool} {ks:List Rx} (hv:PtV w R.S cc (.mk 2 c ng rs lo hi lz ks) g) (hr:RunI R w st) (hf:KW R w k fv f) (ho:st.out=false) (hfu:¬st.fuel=0) (hcl:c.length≤1000000) (hrl:rs.length≤1000000) :
  Calls Tryz.prog 129 #[.pointer (some ⟨R.r,0,none⟩),.agg cc.toArray,.int .i64 k,fv] w (kW R (tryM R.C (.mk 2 c ng rs lo hi lz ks) g k f st) w):=by
 obtain⟨Q,hQ⟩:∃Q,tryM R.C (.mk 2 c ng rs lo hi lz ks) g k f st=Q:=⟨_,rfl⟩;have HM:Hid (Q=(if k<R.C.cs.length∧lf R.C 2 c ng rs (R.C.cs.getD k [])=true then f (k+1) (kP st) else(false,kP st))):=ab (by
  rw [←hQ];conv=>lhs;unfold tryM
  rw [Co iw,Co gD,Co gD,Co gD,Co hfu,Co gD,Co gD,Cl gD])
 rw [hQ];clear hQ;have hff:=hf;obtain⟨j,caps,rfl,hent,_⟩:=hff;unfold Enters at hent;obtain⟨ra,rc,ka,kn,kc,pa,pc,rfl,hrs,hks,hpc⟩:=hv.open_;obtain⟨gh,hgh⟩:∃gh,g+own5 2+Rx.groupsL ks=gh:=⟨_,rfl⟩;rw [hgh] at hv ⊢;obtain⟨W1,hW1⟩:∃W1,W1=w.alloc (.cells (ptc 2 c ng ra rs.length rc lo hi lz ka kn kc pa ks.length pc g gh).toArray 121):=⟨_,rfl⟩;have hb1:Below w.heap.size w W1:=by rw [hW1];exact(Below.refl _ _).alloc (Cp _) _
 have hx1:W1.heap[w.heap.size]?=some (.cells (ptc 2 c ng ra rs.length rc lo hi lz ka kn kc pa ks.length pc g gh).toArray 121 (0,0)):=by rw [hW1];exact heap_alloc_new w _
 have hr1:=hr.later hb1;have hf1:=hf.later (Fx.below hb1) (Cp k);have hks1:=hks.later hb1;have hv1:=hv.later hb1;have hrs1:=hrs.keep (Kept.all hb1);have y1:¬R.X w.heap.size:=kx hr (Cp _);have c16:=hr1.c16 ok;obtain⟨p0,p1,p2,p3,p4,p5,p6,p7,p8,p9,p10⟩:=kf (kT hx1);simp only [Nat.zero_add] at p1 p2 p3 p4 p5 p6 p7 p8 p9 p10;have hcs:=ok.cs;have HB1:=ab (Fx.below (R:=R) hb1);have HW:=ab hW1;have HR1:=ab hr1;have HX1:=ab hx1;have HGH:=ab hgh;have HV1:=ab hv1;clear hW1 hb1 hx1 hr1 hr hf hv hks hrs hgh hv1;have HBU:=ab (mF ok HR1.out hfu);have HF1:=ab hf1;have HO:=ab ok;have HRS:=ab hrs1;rw [ho] at c16;clear hfu hf1 hks1 hrs1 ok HV1;unfold ptc at HW ⊢;go_enter Tryz.func129,Tryz.ntmps129
 go_upto_region 1 with fail
 rw [←HW.out];clear HW;go_wp2_with (go_at_call 156;refine HBU.out.mono ?_)
 first|rintro x w2 rfl hr2 hx2|rintro x w2 ⟨rfl,hr2,hx2⟩
 have HX2:=ab hx2;have HR2:=ab hr2;obtain⟨p0,p1,p2,p3,p4,p5,p6,p7,p8,p9,p10⟩:=kf (kT (hx2.heap HX1.out y1));simp only [Nat.zero_add] at p1 p2 p3 p4 p5 p6 p7 p8 p9 p10;clear hx2 hr2 HBU c16;have c12:=HR2.out.c12 HO.out;rcases(show k<R.C.cs.length∨R.C.cs.length≤k by omega) with hkl|hkl
 ·obtain⟨b,o,hca,hch⟩:=HR2.out.char hkl
  have hdl:=HO.out.ch _ (sn R.C.cs k [] hkl);obtain⟨d,hd⟩:∃d,R.C.cs.getD k []=d:=⟨_,rfl⟩;rw [hd] at hch hdl;rw [hca] at c12;obtain⟨bt,hbt⟩:∃bt,lf R.C 2 c ng rs d=bt:=⟨_,rfl⟩;have HTK:=ab (fun w' (hb:Below w2.heap.size w2 w')=>rC HO.out gD (lo:=lo) (hi:=hi) (lz:=lz) (ka:=ka) (kn:=kn) (kc:=kc) (rc:=rc) (HR2.out.later hb) ((HRS.out.keep (Fx.kept HO.out HX2.out)).keep (Kept.all hb)) hrl hdl hcl hbt);unfold rxc at HTK;have HE:Hid (Q=if bt=true then f (k+1) (kP st) else(false,kP st)):=ab jB;clear hd hbt hca;have hd2:Below w2.heap.size w2 w2.drew:=(Below.refl _ _).drew;have HKC:Hid (∀w',Below w2.heap.size w2 w'→Calls Tryz.prog j (#[.int .i64 ((k:Int)+1)]++caps) w' (kW R (f (k+1) (kP st)) w')):=ab (fun w' hb=>by
   obtain⟨j',caps',hff',_,hC⟩:=(HF1.out.later (HX2.out.trans (Fx.below hb)) (Cp _)).call (HR2.out.later hb) (e:=k+1) gu gu;injection hff' with e1 _ e3
   injection e1 with e1
   subst e1;subst e3;rw [show ((k+1:Nat):Int)=(k:Int)+1 by omega] at hC;exact hC)
  have f12:∀x:ExtOf w2,x.val.cell? ⟨R.r,12,none⟩=some (.slice (some ⟨b,o,none⟩) R.C.cs.length R.cc):=ExtOf.cell c12;have fch:∀x:ExtOf w2,x.val.cell? ⟨b,o+k,none⟩=some (.string ⟨d.toArray⟩):=ExtOf.cell hch;have q0:∀x:ExtOf w2,x.val.cell? ⟨w.heap.size,0,none⟩=some (.int .i64 2):=ExtOf.cell p0;have q1:∀x:ExtOf w2,x.val.cell? ⟨w.heap.size,1,none⟩=some (.string ⟨c.toArray⟩):=ExtOf.cell p1;have q2:∀x:ExtOf w2,x.val.cell? ⟨w.heap.size,2,none⟩=some (.bool ng):=ExtOf.cell p2;have q3:∀x:ExtOf w2,x.val.cell? ⟨w.heap.size,3,none⟩=some (.slice ra rs.length rc):=ExtOf.cell p3;have q4:∀x:ExtOf w2,x.val.cell? ⟨w.heap.size,4,none⟩=some (.int .i64 lo):=ExtOf.cell p4;have q5:∀x:ExtOf w2,x.val.cell? ⟨w.heap.size,5,none⟩=some (.int .i64 hi):=ExtOf.cell p5;have q6:∀x:ExtOf w2,x.val.cell? ⟨w.heap.size,6,none⟩=some (.bool lz):=ExtOf.cell p6;have q7:∀x:ExtOf w2,x.val.cell? ⟨w.heap.size,7,none⟩=some (.slice ka kn kc):=ExtOf.cell p7;have HTX:Hid (∀x:ExtOf w2,_):=ab (fun x=>HTK.out x.val x.ext);clear HTK;go_upto_region 26 with fail
  clear p0 p1 p2 p3 p4 p5 p6 p7 p8 p9 p10 c12 hch;cases bt with
  | false =>
   exact bl
  | true =>
   refine lQ 24 gE gE ?_;simp only [List.take_succ_cons,List.take_zero,List.drop_succ_cons,C0];repeat (go_big_quiet_step ((go_at_call 158;exact ku (HTX.out _))))
   refine wpQuiet_nil ?_;intro xq;have hC:=HKC.out xq.val xq.ext;have HC:=ab hC;have HXE:=ab (Fx.below (R:=R) xq.ext);clear hC;go_wp2_with (go_at_fn j;refine HC.out.mono ?_)
   exact cn
 ·exact aW
theorem Ao {R:Rn} (ok:RnOk R) {w:World} {st:Rst} {g k:Nat} {fv:Value} {f:Rk} {cc:List Value} {c:Str} {ng:Bool} {rs:List (Str × Str)} {lo hi:Int} {lz:Bool} {ks:List Rx} (hv:PtV w R.S cc (.mk 3 c ng rs lo hi lz ks) g) (hr:RunI R w st) (hf:KW R w k fv f) (ho:st.out=false) (hfu:¬st.fuel=0) (hcl:c.length≤1000000) (hrl:rs.length≤1000000) :
  Calls Tryz.prog 129 #[.pointer (some ⟨R.r,0,none⟩),.agg cc.toArray,.int .i64 k,fv] w (kW R (tryM R.C (.mk 3 c ng rs lo hi lz ks) g k f st) w):=by
 obtain⟨Q,hQ⟩:∃Q,tryM R.C (.mk 3 c ng rs lo hi lz ks) g k f st=Q:=⟨_,rfl⟩;have HM:Hid (Q=(if k<R.C.cs.length∧lf R.C 3 c ng rs (R.C.cs.getD k [])=true then f (k+1) (kP st) else(false,kP st))):=ab (by
  rw [←hQ];conv=>lhs;unfold tryM
  rw [Co iw,Co gD,Co gD,Co gD,Co hfu,Co gD,Co gD,Cl gD])
 rw [hQ];clear hQ;have hff:=hf;obtain⟨j,caps,rfl,hent,_⟩:=hff;unfold Enters at hent;obtain⟨ra,rc,ka,kn,kc,pa,pc,rfl,hrs,hks,hpc⟩:=hv.open_;obtain⟨gh,hgh⟩:∃gh,g+own5 3+Rx.groupsL ks=gh:=⟨_,rfl⟩;rw [hgh] at hv ⊢;obtain⟨W1,hW1⟩:∃W1,W1=w.alloc (.cells (ptc 3 c ng ra rs.length rc lo hi lz ka kn kc pa ks.length pc g gh).toArray 121):=⟨_,rfl⟩;have hb1:Below w.heap.size w W1:=by rw [hW1];exact(Below.refl _ _).alloc (Cp _) _
 have hx1:W1.heap[w.heap.size]?=some (.cells (ptc 3 c ng ra rs.length rc lo hi lz ka kn kc pa ks.length pc g gh).toArray 121 (0,0)):=by rw [hW1];exact heap_alloc_new w _
 have hr1:=hr.later hb1;have hf1:=hf.later (Fx.below hb1) (Cp k);have hks1:=hks.later hb1;have hv1:=hv.later hb1;have hrs1:=hrs.keep (Kept.all hb1);have y1:¬R.X w.heap.size:=kx hr (Cp _);have c16:=hr1.c16 ok;obtain⟨p0,p1,p2,p3,p4,p5,p6,p7,p8,p9,p10⟩:=kf (kT hx1);simp only [Nat.zero_add] at p1 p2 p3 p4 p5 p6 p7 p8 p9 p10;have hcs:=ok.cs;have HB1:=ab (Fx.below (R:=R) hb1);have HW:=ab hW1;have HR1:=ab hr1;have HX1:=ab hx1;have HGH:=ab hgh;have HV1:=ab hv1;clear hW1 hb1 hx1 hr1 hr hf hv hks hrs hgh hv1;have HBU:=ab (mF ok HR1.out hfu);have HF1:=ab hf1;have HO:=ab ok;have HRS:=ab hrs1;rw [ho] at c16;clear hfu hf1 hks1 hrs1 ok HV1;unfold ptc at HW ⊢;go_enter Tryz.func129,Tryz.ntmps129
 go_upto_region 1 with fail
 rw [←HW.out];clear HW;go_wp2_with (go_at_call 156;refine HBU.out.mono ?_)
 first|rintro x w2 rfl hr2 hx2|rintro x w2 ⟨rfl,hr2,hx2⟩
 have HX2:=ab hx2;have HR2:=ab hr2;obtain⟨p0,p1,p2,p3,p4,p5,p6,p7,p8,p9,p10⟩:=kf (kT (hx2.heap HX1.out y1));simp only [Nat.zero_add] at p1 p2 p3 p4 p5 p6 p7 p8 p9 p10;clear hx2 hr2 HBU c16;have c12:=HR2.out.c12 HO.out;rcases(show k<R.C.cs.length∨R.C.cs.length≤k by omega) with hkl|hkl
 ·obtain⟨b,o,hca,hch⟩:=HR2.out.char hkl
  have hdl:=HO.out.ch _ (sn R.C.cs k [] hkl);obtain⟨d,hd⟩:∃d,R.C.cs.getD k []=d:=⟨_,rfl⟩;rw [hd] at hch hdl;rw [hca] at c12;obtain⟨bt,hbt⟩:∃bt,lf R.C 3 c ng rs d=bt:=⟨_,rfl⟩;have HTK:=ab (fun w' (hb:Below w2.heap.size w2 w')=>rC HO.out gD (lo:=lo) (hi:=hi) (lz:=lz) (ka:=ka) (kn:=kn) (kc:=kc) (rc:=rc) (HR2.out.later hb) ((HRS.out.keep (Fx.kept HO.out HX2.out)).keep (Kept.all hb)) hrl hdl hcl hbt);unfold rxc at HTK;have HE:Hid (Q=if bt=true then f (k+1) (kP st) else(false,kP st)):=ab jB;clear hd hbt hca;have hd2:Below w2.heap.size w2 w2.drew:=(Below.refl _ _).drew;have HKC:Hid (∀w',Below w2.heap.size w2 w'→Calls Tryz.prog j (#[.int .i64 ((k:Int)+1)]++caps) w' (kW R (f (k+1) (kP st)) w')):=ab (fun w' hb=>by
   obtain⟨j',caps',hff',_,hC⟩:=(HF1.out.later (HX2.out.trans (Fx.below hb)) (Cp _)).call (HR2.out.later hb) (e:=k+1) gu gu;injection hff' with e1 _ e3
   injection e1 with e1
   subst e1;subst e3;rw [show ((k+1:Nat):Int)=(k:Int)+1 by omega] at hC;exact hC)
  have f12:∀x:ExtOf w2,x.val.cell? ⟨R.r,12,none⟩=some (.slice (some ⟨b,o,none⟩) R.C.cs.length R.cc):=ExtOf.cell c12;have fch:∀x:ExtOf w2,x.val.cell? ⟨b,o+k,none⟩=some (.string ⟨d.toArray⟩):=ExtOf.cell hch;have q0:∀x:ExtOf w2,x.val.cell? ⟨w.heap.size,0,none⟩=some (.int .i64 3):=ExtOf.cell p0;have q1:∀x:ExtOf w2,x.val.cell? ⟨w.heap.size,1,none⟩=some (.string ⟨c.toArray⟩):=ExtOf.cell p1;have q2:∀x:ExtOf w2,x.val.cell? ⟨w.heap.size,2,none⟩=some (.bool ng):=ExtOf.cell p2;have q3:∀x:ExtOf w2,x.val.cell? ⟨w.heap.size,3,none⟩=some (.slice ra rs.length rc):=ExtOf.cell p3;have q4:∀x:ExtOf w2,x.val.cell? ⟨w.heap.size,4,none⟩=some (.int .i64 lo):=ExtOf.cell p4;have q5:∀x:ExtOf w2,x.val.cell? ⟨w.heap.size,5,none⟩=some (.int .i64 hi):=ExtOf.cell p5;have q6:∀x:ExtOf w2,x.val.cell? ⟨w.heap.size,6,none⟩=some (.bool lz):=ExtOf.cell p6;have q7:∀x:ExtOf w2,x.val.cell? ⟨w.heap.size,7,none⟩=some (.slice ka kn kc):=ExtOf.cell p7;have HTX:Hid (∀x:ExtOf w2,_):=ab (fun x=>HTK.out x.val x.ext);clear HTK;go_upto_region 26 with fail
  clear p0 p1 p2 p3 p4 p5 p6 p7 p8 p9 p10 c12 hch;cases bt with
  | false =>
   exact bl
  | true =>
   refine lQ 24 gE gE ?_;simp only [List.take_succ_cons,List.take_zero,List.drop_succ_cons,C0];repeat (go_big_quiet_step ((go_at_call 158;exact ku (HTX.out _))))
   refine wpQuiet_nil ?_;intro xq;have hC:=HKC.out xq.val xq.ext;have HC:=ab hC;have HXE:=ab (Fx.below (R:=R) xq.ext);clear hC;go_wp2_with (go_at_fn j;refine HC.out.mono ?_)
   exact cn
 ·exact aW
theorem AW {R:Rn} (ok:RnOk R) {w:World} {st:Rst} {g k:Nat} {fv:Value} {f:Rk} {cc:List Value} {c:Str} {ng:Bool} {rs:List (Str × Str)} {lo hi:Int} {lz:Bool} {ks:List Rx} (hv:PtV w R.S cc (.mk 4 c ng rs lo hi lz ks) g) (hr:RunI R w st) (hf:KW R w k fv f) (ho:st.out=false) (hfu:¬st.fuel=0) (hcl:c.length≤1000000) (hrl:rs.length≤1000000) :
  Calls Tryz.prog 129 #[.pointer (some ⟨R.r,0,none⟩),.agg cc.toArray,.int .i64 k,fv] w (kW R (tryM R.C (.mk 4 c ng rs lo hi lz ks) g k f st) w):=by
 obtain⟨Q,hQ⟩:∃Q,tryM R.C (.mk 4 c ng rs lo hi lz ks) g k f st=Q:=⟨_,rfl⟩;have HM:Hid (Q=(if k<R.C.cs.length∧lf R.C 4 c ng rs (R.C.cs.getD k [])=true then f (k+1) (kP st) else(false,kP st))):=ab (by
  rw [←hQ];conv=>lhs;unfold tryM
  rw [Co iw,Co gD,Co gD,Co gD,Co hfu,Co gD,Co gD,Cl gD])
 rw [hQ];clear hQ;have hff:=hf;obtain⟨j,caps,rfl,hent,_⟩:=hff;unfold Enters at hent;obtain⟨ra,rc,ka,kn,kc,pa,pc,rfl,hrs,hks,hpc⟩:=hv.open_;obtain⟨gh,hgh⟩:∃gh,g+own5 4+Rx.groupsL ks=gh:=⟨_,rfl⟩;rw [hgh] at hv ⊢;obtain⟨W1,hW1⟩:∃W1,W1=w.alloc (.cells (ptc 4 c ng ra rs.length rc lo hi lz ka kn kc pa ks.length pc g gh).toArray 121):=⟨_,rfl⟩;have hb1:Below w.heap.size w W1:=by rw [hW1];exact(Below.refl _ _).alloc (Cp _) _
 have hx1:W1.heap[w.heap.size]?=some (.cells (ptc 4 c ng ra rs.length rc lo hi lz ka kn kc pa ks.length pc g gh).toArray 121 (0,0)):=by rw [hW1];exact heap_alloc_new w _
 have hr1:=hr.later hb1;have hf1:=hf.later (Fx.below hb1) (Cp k);have hks1:=hks.later hb1;have hv1:=hv.later hb1;have hrs1:=hrs.keep (Kept.all hb1);have y1:¬R.X w.heap.size:=kx hr (Cp _);have c16:=hr1.c16 ok;obtain⟨p0,p1,p2,p3,p4,p5,p6,p7,p8,p9,p10⟩:=kf (kT hx1);simp only [Nat.zero_add] at p1 p2 p3 p4 p5 p6 p7 p8 p9 p10;have hcs:=ok.cs;have HB1:=ab (Fx.below (R:=R) hb1);have HW:=ab hW1;have HR1:=ab hr1;have HX1:=ab hx1;have HGH:=ab hgh;have HV1:=ab hv1;clear hW1 hb1 hx1 hr1 hr hf hv hks hrs hgh hv1;have HBU:=ab (mF ok HR1.out hfu);have HF1:=ab hf1;have HO:=ab ok;have HRS:=ab hrs1;rw [ho] at c16;clear hfu hf1 hks1 hrs1 ok HV1;unfold ptc at HW ⊢;go_enter Tryz.func129,Tryz.ntmps129
 go_upto_region 1 with fail
 rw [←HW.out];clear HW;go_wp2_with (go_at_call 156;refine HBU.out.mono ?_)
 first|rintro x w2 rfl hr2 hx2|rintro x w2 ⟨rfl,hr2,hx2⟩
 have HX2:=ab hx2;have HR2:=ab hr2;obtain⟨p0,p1,p2,p3,p4,p5,p6,p7,p8,p9,p10⟩:=kf (kT (hx2.heap HX1.out y1));simp only [Nat.zero_add] at p1 p2 p3 p4 p5 p6 p7 p8 p9 p10;clear hx2 hr2 HBU c16;have c12:=HR2.out.c12 HO.out;rcases(show k<R.C.cs.length∨R.C.cs.length≤k by omega) with hkl|hkl
 ·obtain⟨b,o,hca,hch⟩:=HR2.out.char hkl
  have hdl:=HO.out.ch _ (sn R.C.cs k [] hkl);obtain⟨d,hd⟩:∃d,R.C.cs.getD k []=d:=⟨_,rfl⟩;rw [hd] at hch hdl;rw [hca] at c12;obtain⟨bt,hbt⟩:∃bt,lf R.C 4 c ng rs d=bt:=⟨_,rfl⟩;have HTK:=ab (fun w' (hb:Below w2.heap.size w2 w')=>rC HO.out gD (lo:=lo) (hi:=hi) (lz:=lz) (ka:=ka) (kn:=kn) (kc:=kc) (rc:=rc) (HR2.out.later hb) ((HRS.out.keep (Fx.kept HO.out HX2.out)).keep (Kept.all hb)) hrl hdl hcl hbt);unfold rxc at HTK;have HE:Hid (Q=if bt=true then f (k+1) (kP st) else(false,kP st)):=ab jB;clear hd hbt hca;have hd2:Below w2.heap.size w2 w2.drew:=(Below.refl _ _).drew;have HKC:Hid (∀w',Below w2.heap.size w2 w'→Calls Tryz.prog j (#[.int .i64 ((k:Int)+1)]++caps) w' (kW R (f (k+1) (kP st)) w')):=ab (fun w' hb=>by
   obtain⟨j',caps',hff',_,hC⟩:=(HF1.out.later (HX2.out.trans (Fx.below hb)) (Cp _)).call (HR2.out.later hb) (e:=k+1) gu gu;injection hff' with e1 _ e3
   injection e1 with e1
   subst e1;subst e3;rw [show ((k+1:Nat):Int)=(k:Int)+1 by omega] at hC;exact hC)
  have f12:∀x:ExtOf w2,x.val.cell? ⟨R.r,12,none⟩=some (.slice (some ⟨b,o,none⟩) R.C.cs.length R.cc):=ExtOf.cell c12;have fch:∀x:ExtOf w2,x.val.cell? ⟨b,o+k,none⟩=some (.string ⟨d.toArray⟩):=ExtOf.cell hch;have q0:∀x:ExtOf w2,x.val.cell? ⟨w.heap.size,0,none⟩=some (.int .i64 4):=ExtOf.cell p0;have q1:∀x:ExtOf w2,x.val.cell? ⟨w.heap.size,1,none⟩=some (.string ⟨c.toArray⟩):=ExtOf.cell p1;have q2:∀x:ExtOf w2,x.val.cell? ⟨w.heap.size,2,none⟩=some (.bool ng):=ExtOf.cell p2;have q3:∀x:ExtOf w2,x.val.cell? ⟨w.heap.size,3,none⟩=some (.slice ra rs.length rc):=ExtOf.cell p3;have q4:∀x:ExtOf w2,x.val.cell? ⟨w.heap.size,4,none⟩=some (.int .i64 lo):=ExtOf.cell p4;have q5:∀x:ExtOf w2,x.val.cell? ⟨w.heap.size,5,none⟩=some (.int .i64 hi):=ExtOf.cell p5;have q6:∀x:ExtOf w2,x.val.cell? ⟨w.heap.size,6,none⟩=some (.bool lz):=ExtOf.cell p6;have q7:∀x:ExtOf w2,x.val.cell? ⟨w.heap.size,7,none⟩=some (.slice ka kn kc):=ExtOf.cell p7;have HTX:Hid (∀x:ExtOf w2,_):=ab (fun x=>HTK.out x.val x.ext);clear HTK;go_upto_region 26 with fail
  clear p0 p1 p2 p3 p4 p5 p6 p7 p8 p9 p10 c12 hch;cases bt with
  | false =>
   exact bl
  | true =>
   refine lQ 24 gE gE ?_;simp only [List.take_succ_cons,List.take_zero,List.drop_succ_cons,C0];repeat (go_big_quiet_step ((go_at_call 158;exact ku (HTX.out _))))
   refine wpQuiet_nil ?_;intro xq;have hC:=HKC.out xq.val xq.ext;have HC:=ab hC;have HXE:=ab (Fx.below (R:=R) xq.ext);clear hC;go_wp2_with (go_at_fn j;refine HC.out.mono ?_)
   exact cn
 ·exact aW
theorem yQ {R:Rn} (ok:RnOk R) {w:World} {st:Rst} {g k:Nat} {fv:Value} {f:Rk} {cc:List Value} {c:Str} {ng:Bool} {rs:List (Str × Str)} {lo hi:Int} {lz:Bool} {ks:List Rx} (hv:PtV w R.S cc (.mk 8 c ng rs lo hi lz ks) g) (hr:RunI R w st) (hk:k≤R.C.cs.length) (hf:KW R w k fv f) (ho:st.out=false) (hfu:¬st.fuel=0) :
  Calls Tryz.prog 129 #[.pointer (some ⟨R.r,0,none⟩),.agg cc.toArray,.int .i64 k,fv] w (kW R (tryM R.C (.mk 8 c ng rs lo hi lz ks) g k f st) w):=by
 obtain⟨Q,hQ⟩:∃Q,tryM R.C (.mk 8 c ng rs lo hi lz ks) g k f st=Q:=⟨_,rfl⟩;have HM:Hid (Q=if ki R.C 8 k=true then f k (kP st) else(false,kP st)):=ab (by
  rw [←hQ];conv=>lhs;unfold tryM
  rw [Co iw,Co gD,Co gD,Co gD,Co hfu,Co gD,Co gD,Co gD])
 obtain⟨bt,hbt⟩:∃bt,ki R.C 8 k=bt:=⟨_,rfl⟩;rw [hQ];have HE:Hid (Q=if bt=true then f k (kP st) else(false,kP st)):=ab (by rw [HM.out,hbt]);clear hQ;have hff:=hf;obtain⟨j,caps,rfl,hent,_⟩:=hff;unfold Enters at hent;obtain⟨ra,rc,ka,kn,kc,pa,pc,rfl,hrs,hks,hpc⟩:=hv.open_;obtain⟨gh,hgh⟩:∃gh,g+own5 8+Rx.groupsL ks=gh:=⟨_,rfl⟩;rw [hgh] at hv ⊢;obtain⟨W1,hW1⟩:∃W1,W1=w.alloc (.cells (ptc 8 c ng ra rs.length rc lo hi lz ka kn kc pa ks.length pc g gh).toArray 121):=⟨_,rfl⟩;have hb1:Below w.heap.size w W1:=by rw [hW1];exact(Below.refl _ _).alloc (Cp _) _
 have hx1:W1.heap[w.heap.size]?=some (.cells (ptc 8 c ng ra rs.length rc lo hi lz ka kn kc pa ks.length pc g gh).toArray 121 (0,0)):=by rw [hW1];exact heap_alloc_new w _
 have hr1:=hr.later hb1;have hf1:=hf.later (Fx.below hb1) (Cp k);have hks1:=hks.later hb1;have hv1:=hv.later hb1;have hrs1:=hrs.keep (Kept.all hb1);have y1:¬R.X w.heap.size:=kx hr (Cp _);have c16:=hr1.c16 ok;obtain⟨p0,p1,p2,p3,p4,p5,p6,p7,p8,p9,p10⟩:=kf (kT hx1);simp only [Nat.zero_add] at p1 p2 p3 p4 p5 p6 p7 p8 p9 p10;have hcs:=ok.cs;have HB1:=ab (Fx.below (R:=R) hb1);have HW:=ab hW1;have HR1:=ab hr1;have HX1:=ab hx1;have HGH:=ab hgh;have HV1:=ab hv1;clear hW1 hb1 hx1 hr1 hr hf hv hks hrs hgh hv1;have HBU:=ab (mF ok HR1.out hfu);have HF1:=ab hf1;have HO:=ab ok;have HRS:=ab hrs1;have HBT:=ab hbt;rw [ho] at c16;clear hfu hf1 hks1 hrs1 ok HV1 hbt;unfold ptc at HW ⊢;go_enter Tryz.func129,Tryz.ntmps129
 go_upto_region 1 with fail
 rw [←HW.out];clear HW;go_wp2_with (go_at_call 156;refine HBU.out.mono ?_)
 first|rintro x w2 rfl hr2 hx2|rintro x w2 ⟨rfl,hr2,hx2⟩
 have HX2:=ab hx2;have HR2:=ab hr2;obtain⟨p0,p1,p2,p3,p4,p5,p6,p7,p8,p9,p10⟩:=kf (kT (hx2.heap HX1.out y1));simp only [Nat.zero_add] at p1 p2 p3 p4 p5 p6 p7 p8 p9 p10;clear hx2 hr2 HBU c16;have hS:Calls Tryz.prog 159 #[.pointer (some ⟨R.r,0,none⟩),.int .i64 8,.int .i64 k] w2 fun e w'=>e=.returned (.bool bt)∧w2=w':=by
  have:=nJ HO.out HR2.out 8 k hk
  rw [HBT.out] at this;exact this
 obtain⟨j',caps',hff',_,hC⟩:=(HF1.out.later HX2.out (Cp _)).call HR2.out (Cp _) hk;injection hff' with e1 _ e3
 injection e1 with e1
 subst e1;subst e3;have HC:=ab hC;have HS:=ab hS;clear hC hS HM HBT;cases bt with
 | false =>
  exact bN
 | true =>
  go_wp2_with (go_at_call 159;refine HS.out.mono ?_)
  first|rintro x w' rfl rfl|rintro x w' ⟨rfl,rfl⟩
  go_wp2_with (go_at_fn j;refine HC.out.mono ?_)
  exact bW
theorem yU {R:Rn} (ok:RnOk R) {w:World} {st:Rst} {g k:Nat} {fv:Value} {f:Rk} {cc:List Value} {c:Str} {ng:Bool} {rs:List (Str × Str)} {lo hi:Int} {lz:Bool} {ks:List Rx} (hv:PtV w R.S cc (.mk 9 c ng rs lo hi lz ks) g) (hr:RunI R w st) (hk:k≤R.C.cs.length) (hf:KW R w k fv f) (ho:st.out=false) (hfu:¬st.fuel=0) :
  Calls Tryz.prog 129 #[.pointer (some ⟨R.r,0,none⟩),.agg cc.toArray,.int .i64 k,fv] w (kW R (tryM R.C (.mk 9 c ng rs lo hi lz ks) g k f st) w):=by
 obtain⟨Q,hQ⟩:∃Q,tryM R.C (.mk 9 c ng rs lo hi lz ks) g k f st=Q:=⟨_,rfl⟩;have HM:Hid (Q=if ki R.C 9 k=true then f k (kP st) else(false,kP st)):=ab (by
  rw [←hQ];conv=>lhs;unfold tryM
  rw [Co iw,Co gD,Co gD,Co gD,Co hfu,Co gD,Co gD,Co gD])
 obtain⟨bt,hbt⟩:∃bt,ki R.C 9 k=bt:=⟨_,rfl⟩;rw [hQ];have HE:Hid (Q=if bt=true then f k (kP st) else(false,kP st)):=ab (by rw [HM.out,hbt]);clear hQ;have hff:=hf;obtain⟨j,caps,rfl,hent,_⟩:=hff;unfold Enters at hent;obtain⟨ra,rc,ka,kn,kc,pa,pc,rfl,hrs,hks,hpc⟩:=hv.open_;obtain⟨gh,hgh⟩:∃gh,g+own5 9+Rx.groupsL ks=gh:=⟨_,rfl⟩;rw [hgh] at hv ⊢;obtain⟨W1,hW1⟩:∃W1,W1=w.alloc (.cells (ptc 9 c ng ra rs.length rc lo hi lz ka kn kc pa ks.length pc g gh).toArray 121):=⟨_,rfl⟩;have hb1:Below w.heap.size w W1:=by rw [hW1];exact(Below.refl _ _).alloc (Cp _) _
 have hx1:W1.heap[w.heap.size]?=some (.cells (ptc 9 c ng ra rs.length rc lo hi lz ka kn kc pa ks.length pc g gh).toArray 121 (0,0)):=by rw [hW1];exact heap_alloc_new w _
 have hr1:=hr.later hb1;have hf1:=hf.later (Fx.below hb1) (Cp k);have hks1:=hks.later hb1;have hv1:=hv.later hb1;have hrs1:=hrs.keep (Kept.all hb1);have y1:¬R.X w.heap.size:=kx hr (Cp _);have c16:=hr1.c16 ok;obtain⟨p0,p1,p2,p3,p4,p5,p6,p7,p8,p9,p10⟩:=kf (kT hx1);simp only [Nat.zero_add] at p1 p2 p3 p4 p5 p6 p7 p8 p9 p10;have hcs:=ok.cs;have HB1:=ab (Fx.below (R:=R) hb1);have HW:=ab hW1;have HR1:=ab hr1;have HX1:=ab hx1;have HGH:=ab hgh;have HV1:=ab hv1;clear hW1 hb1 hx1 hr1 hr hf hv hks hrs hgh hv1;have HBU:=ab (mF ok HR1.out hfu);have HF1:=ab hf1;have HO:=ab ok;have HRS:=ab hrs1;have HBT:=ab hbt;rw [ho] at c16;clear hfu hf1 hks1 hrs1 ok HV1 hbt;unfold ptc at HW ⊢;go_enter Tryz.func129,Tryz.ntmps129
 go_upto_region 1 with fail
 rw [←HW.out];clear HW;go_wp2_with (go_at_call 156;refine HBU.out.mono ?_)
 first|rintro x w2 rfl hr2 hx2|rintro x w2 ⟨rfl,hr2,hx2⟩
 have HX2:=ab hx2;have HR2:=ab hr2;obtain⟨p0,p1,p2,p3,p4,p5,p6,p7,p8,p9,p10⟩:=kf (kT (hx2.heap HX1.out y1));simp only [Nat.zero_add] at p1 p2 p3 p4 p5 p6 p7 p8 p9 p10;clear hx2 hr2 HBU c16;have hS:Calls Tryz.prog 159 #[.pointer (some ⟨R.r,0,none⟩),.int .i64 9,.int .i64 k] w2 fun e w'=>e=.returned (.bool bt)∧w2=w':=by
  have:=nJ HO.out HR2.out 9 k hk
  rw [HBT.out] at this;exact this
 obtain⟨j',caps',hff',_,hC⟩:=(HF1.out.later HX2.out (Cp _)).call HR2.out (Cp _) hk;injection hff' with e1 _ e3
 injection e1 with e1
 subst e1;subst e3;have HC:=ab hC;have HS:=ab hS;clear hC hS HM HBT;cases bt with
 | false =>
  exact bN
 | true =>
  go_wp2_with (go_at_call 159;refine HS.out.mono ?_)
  first|rintro x w' rfl rfl|rintro x w' ⟨rfl,rfl⟩
  go_wp2_with (go_at_fn j;refine HC.out.mono ?_)
  exact bW
theorem wM {R:Rn} (ok:RnOk R) {w:World} {st:Rst} {g k:Nat} {fv:Value} {f:Rk} {cc:List Value} {c:Str} {ng:Bool} {rs:List (Str × Str)} {lo hi:Int} {lz:Bool} {ks:List Rx} (hv:PtV w R.S cc (.mk 10 c ng rs lo hi lz ks) g) (hr:RunI R w st) (hk:k≤R.C.cs.length) (hf:KW R w k fv f) (ho:st.out=false) (hfu:¬st.fuel=0) :
  Calls Tryz.prog 129 #[.pointer (some ⟨R.r,0,none⟩),.agg cc.toArray,.int .i64 k,fv] w (kW R (tryM R.C (.mk 10 c ng rs lo hi lz ks) g k f st) w):=by
 obtain⟨Q,hQ⟩:∃Q,tryM R.C (.mk 10 c ng rs lo hi lz ks) g k f st=Q:=⟨_,rfl⟩;have HM:Hid (Q=if ki R.C 10 k=true then f k (kP st) else(false,kP st)):=ab (by
  rw [←hQ];conv=>lhs;unfold tryM
  rw [Co iw,Co gD,Co gD,Co gD,Co hfu,Co gD,Co gD,Co gD])
 obtain⟨bt,hbt⟩:∃bt,ki R.C 10 k=bt:=⟨_,rfl⟩;rw [hQ];have HE:Hid (Q=if bt=true then f k (kP st) else(false,kP st)):=ab (by rw [HM.out,hbt]);clear hQ;have hff:=hf;obtain⟨j,caps,rfl,hent,_⟩:=hff;unfold Enters at hent;obtain⟨ra,rc,ka,kn,kc,pa,pc,rfl,hrs,hks,hpc⟩:=hv.open_;obtain⟨gh,hgh⟩:∃gh,g+own5 10+Rx.groupsL ks=gh:=⟨_,rfl⟩;rw [hgh] at hv ⊢;obtain⟨W1,hW1⟩:∃W1,W1=w.alloc (.cells (ptc 10 c ng ra rs.length rc lo hi lz ka kn kc pa ks.length pc g gh).toArray 121):=⟨_,rfl⟩;have hb1:Below w.heap.size w W1:=by rw [hW1];exact(Below.refl _ _).alloc (Cp _) _
 have hx1:W1.heap[w.heap.size]?=some (.cells (ptc 10 c ng ra rs.length rc lo hi lz ka kn kc pa ks.length pc g gh).toArray 121 (0,0)):=by rw [hW1];exact heap_alloc_new w _
 have hr1:=hr.later hb1;have hf1:=hf.later (Fx.below hb1) (Cp k);have hks1:=hks.later hb1;have hv1:=hv.later hb1;have hrs1:=hrs.keep (Kept.all hb1);have y1:¬R.X w.heap.size:=kx hr (Cp _);have c16:=hr1.c16 ok;obtain⟨p0,p1,p2,p3,p4,p5,p6,p7,p8,p9,p10⟩:=kf (kT hx1);simp only [Nat.zero_add] at p1 p2 p3 p4 p5 p6 p7 p8 p9 p10;have hcs:=ok.cs;have HB1:=ab (Fx.below (R:=R) hb1);have HW:=ab hW1;have HR1:=ab hr1;have HX1:=ab hx1;have HGH:=ab hgh;have HV1:=ab hv1;clear hW1 hb1 hx1 hr1 hr hf hv hks hrs hgh hv1;have HBU:=ab (mF ok HR1.out hfu);have HF1:=ab hf1;have HO:=ab ok;have HRS:=ab hrs1;have HBT:=ab hbt;rw [ho] at c16;clear hfu hf1 hks1 hrs1 ok HV1 hbt;unfold ptc at HW ⊢;go_enter Tryz.func129,Tryz.ntmps129
 go_upto_region 1 with fail
 rw [←HW.out];clear HW;go_wp2_with (go_at_call 156;refine HBU.out.mono ?_)
 first|rintro x w2 rfl hr2 hx2|rintro x w2 ⟨rfl,hr2,hx2⟩
 have HX2:=ab hx2;have HR2:=ab hr2;obtain⟨p0,p1,p2,p3,p4,p5,p6,p7,p8,p9,p10⟩:=kf (kT (hx2.heap HX1.out y1));simp only [Nat.zero_add] at p1 p2 p3 p4 p5 p6 p7 p8 p9 p10;clear hx2 hr2 HBU c16;have hS:Calls Tryz.prog 159 #[.pointer (some ⟨R.r,0,none⟩),.int .i64 10,.int .i64 k] w2 fun e w'=>e=.returned (.bool bt)∧w2=w':=by
  have:=nJ HO.out HR2.out 10 k hk
  rw [HBT.out] at this;exact this
 obtain⟨j',caps',hff',_,hC⟩:=(HF1.out.later HX2.out (Cp _)).call HR2.out (Cp _) hk;injection hff' with e1 _ e3
 injection e1 with e1
 subst e1;subst e3;have HC:=ab hC;have HS:=ab hS;clear hC hS HM HBT;cases bt with
 | false =>
  exact bN
 | true =>
  go_wp2_with (go_at_call 159;refine HS.out.mono ?_)
  first|rintro x w' rfl rfl|rintro x w' ⟨rfl,rfl⟩
  go_wp2_with (go_at_fn j;refine HC.out.mono ?_)
  exact bW
theorem we {R:Rn} (ok:RnOk R) {w:World} {st:Rst} {g k:Nat} {fv:Value} {f:Rk} {cc:List Value} {c:Str} {ng:Bool} {rs:List (Str × Str)} {lo hi:Int} {lz:Bool} {ks:List Rx} (hv:PtV w R.S cc (.mk 11 c ng rs lo hi lz ks) g) (hr:RunI R w st) (hk:k≤R.C.cs.length) (hf:KW R w k fv f) (ho:st.out=false) (hfu:¬st.fuel=0) :
  Calls Tryz.prog 129 #[.pointer (some ⟨R.r,0,none⟩),.agg cc.toArray,.int .i64 k,fv] w (kW R (tryM R.C (.mk 11 c ng rs lo hi lz ks) g k f st) w):=by
 obtain⟨Q,hQ⟩:∃Q,tryM R.C (.mk 11 c ng rs lo hi lz ks) g k f st=Q:=⟨_,rfl⟩;have HM:Hid (Q=if ki R.C 11 k=true then f k (kP st) else(false,kP st)):=ab (by
  rw [←hQ];conv=>lhs;unfold tryM
  rw [Co iw,Co gD,Co gD,Co gD,Co hfu,Co gD,Co gD,Co gD])
 obtain⟨bt,hbt⟩:∃bt,ki R.C 11 k=bt:=⟨_,rfl⟩;rw [hQ];have HE:Hid (Q=if bt=true then f k (kP st) else(false,kP st)):=ab (by rw [HM.out,hbt]);clear hQ;have hff:=hf;obtain⟨j,caps,rfl,hent,_⟩:=hff;unfold Enters at hent;obtain⟨ra,rc,ka,kn,kc,pa,pc,rfl,hrs,hks,hpc⟩:=hv.open_;obtain⟨gh,hgh⟩:∃gh,g+own5 11+Rx.groupsL ks=gh:=⟨_,rfl⟩;rw [hgh] at hv ⊢;obtain⟨W1,hW1⟩:∃W1,W1=w.alloc (.cells (ptc 11 c ng ra rs.length rc lo hi lz ka kn kc pa ks.length pc g gh).toArray 121):=⟨_,rfl⟩;have hb1:Below w.heap.size w W1:=by rw [hW1];exact(Below.refl _ _).alloc (Cp _) _
 have hx1:W1.heap[w.heap.size]?=some (.cells (ptc 11 c ng ra rs.length rc lo hi lz ka kn kc pa ks.length pc g gh).toArray 121 (0,0)):=by rw [hW1];exact heap_alloc_new w _
 have hr1:=hr.later hb1;have hf1:=hf.later (Fx.below hb1) (Cp k);have hks1:=hks.later hb1;have hv1:=hv.later hb1;have hrs1:=hrs.keep (Kept.all hb1);have y1:¬R.X w.heap.size:=kx hr (Cp _);have c16:=hr1.c16 ok;obtain⟨p0,p1,p2,p3,p4,p5,p6,p7,p8,p9,p10⟩:=kf (kT hx1);simp only [Nat.zero_add] at p1 p2 p3 p4 p5 p6 p7 p8 p9 p10;have hcs:=ok.cs;have HB1:=ab (Fx.below (R:=R) hb1);have HW:=ab hW1;have HR1:=ab hr1;have HX1:=ab hx1;have HGH:=ab hgh;have HV1:=ab hv1;clear hW1 hb1 hx1 hr1 hr hf hv hks hrs hgh hv1;have HBU:=ab (mF ok HR1.out hfu);have HF1:=ab hf1;have HO:=ab ok;have HRS:=ab hrs1;have HBT:=ab hbt;rw [ho] at c16;clear hfu hf1 hks1 hrs1 ok HV1 hbt;unfold ptc at HW ⊢;go_enter Tryz.func129,Tryz.ntmps129
 go_upto_region 1 with fail
 rw [←HW.out];clear HW;go_wp2_with (go_at_call 156;refine HBU.out.mono ?_)
 first|rintro x w2 rfl hr2 hx2|rintro x w2 ⟨rfl,hr2,hx2⟩
 have HX2:=ab hx2;have HR2:=ab hr2;obtain⟨p0,p1,p2,p3,p4,p5,p6,p7,p8,p9,p10⟩:=kf (kT (hx2.heap HX1.out y1));simp only [Nat.zero_add] at p1 p2 p3 p4 p5 p6 p7 p8 p9 p10;clear hx2 hr2 HBU c16;have hS:Calls Tryz.prog 159 #[.pointer (some ⟨R.r,0,none⟩),.int .i64 11,.int .i64 k] w2 fun e w'=>e=.returned (.bool bt)∧w2=w':=by
  have:=nJ HO.out HR2.out 11 k hk
  rw [HBT.out] at this;exact this
 obtain⟨j',caps',hff',_,hC⟩:=(HF1.out.later HX2.out (Cp _)).call HR2.out (Cp _) hk;injection hff' with e1 _ e3
 injection e1 with e1
 subst e1;subst e3;have HC:=ab hC;have HS:=ab hS;clear hC hS HM HBT;cases bt with
 | false =>
  exact bN
 | true =>
  go_wp2_with (go_at_call 159;refine HS.out.mono ?_)
  first|rintro x w' rfl rfl|rintro x w' ⟨rfl,rfl⟩
  go_wp2_with (go_at_fn j;refine HC.out.mono ?_)
  exact bW
theorem xD:∀{ks:List Rx} {x:Rx},Rx.wfL ks=true→x∈ks→x.wf=true
 | [],_,_,h=>by simp at h
 | y::r,x,hw,h=>by
  simp only [Rx.wfL,Cs] at hw;rcases Cz.1 h with rfl|h
  ·exact hw.1
  ·exact xD hw.2 h
theorem At {R:Rn} (ok:RnOk R):∀(N:Nat) (x:Rx),x.parts≤N→x.wf=true→x.small→TryC R x
 | 0,x,h,_,_=>by have:=Rx.parts_pos x;omega
 | N+1,.mk kd c ng rs lo hi lz ks,h,hw,hsm=>by
  intro w st g k fv f cc hv hg hr hk hf;simp only [Rx.wf,Cs] at hw;obtain⟨hfl,hwl⟩:=hw;obtain⟨⟨s1,s2,s3,s4⟩,hsmL⟩:=hsm;simp only [Rx.parts] at h;have IH:∀y∈ks,TryC R y:=fun y hy=>At ok N y iG (xD hwl hy) (lK hsmL hy)
  cases ho:st.out with
  | true=>exact try_out ok hv hr hf ho
  | false =>
   by_cases h0:kd=0
   ·subst h0;exact try_seq ok hv hg hr hk hf ho (BD ok ks IH s4)
   by_cases h1:kd=1
   ·subst h1;exact try_alt ok hv hg hr hk hf ho IH s4
   by_cases h7:kd=7
   ·subst h7
    simp only [kw] at hfl;rw [Co gD,Co gD,Cl gD] at hfl;simp only [Cs,Cj] at hfl;obtain⟨⟨_,hk1⟩,hl⟩:=hfl;match ks,hk1 with
    | [y],_ =>
     exact try_rep ok hv hg hr hk hf ho (vG ok (IH y (CV.2 rfl)) gu gu) gu
   by_cases hfu:st.fuel=0
   ·exact try_dry ok hv hr hf ho hfu h0 h1 h7
   by_cases h2:kd=2
   ·subst h2;exact BL ok hv hr hf ho hfu s1 s2
   by_cases h3:kd=3
   ·subst h3;exact Ao ok hv hr hf ho hfu s1 s2
   by_cases h4:kd=4
   ·subst h4;exact AW ok hv hr hf ho hfu s1 s2
   by_cases h56:kd=5∨kd=6
   ·have hone:ks.length=1:=by
     simp only [kw] at hfl;rw [Co h2,Co h4,Co h7,Co h0,Co h1,Cl h56] at hfl;simp only [Cs,Cj] at hfl;exact hfl.2
    match ks,hone with
    | [y],_ =>
     rcases h56 with rfl|rfl
     ·exact try_grp ok hv hg hr hk hf ho hfu (IH y (CV.2 rfl))
     ·exact try_bare ok hv hg hr hk hf ho hfu (IH y (CV.2 rfl))
   have hst:kd=8∨kd=9∨kd=10∨kd=11:=by
    simp only [kw] at hfl;rw [Co h2,Co h4,Co h7,Co h0,Co h1,Co h56] at hfl;split at hfl
    ·rename_i h;rcases h with h|h|h|h|h
     ·exact absurd h h3
     ·exact .inl h
     ·exact .inr (.inl h)
     ·exact .inr (.inr (.inl h))
     ·exact .inr (.inr (.inr h))
    ·cases hfl
   rcases hst with rfl|rfl|rfl|rfl
   ·exact yQ ok hv hr hk hf ho hfu
   ·exact yU ok hv hr hk hf ho hfu
   ·exact wM ok hv hr hk hf ho hfu
   ·exact we ok hv hr hk hf ho hfu
end Go.Proofs.YtjggmmaojklmpaaGreat
