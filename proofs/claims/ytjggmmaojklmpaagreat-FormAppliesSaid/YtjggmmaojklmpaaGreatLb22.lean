/- walks of rxrun: again -/
import Derived.Test.YtjggmmaojklmpaaGreatLb21
set_option maxRecDepth 100000
set_option maxHeartbeats 4000000
namespace Go.Proofs.YtjggmmaojklmpaaGreat
open Go.RowKit
theorem zL {R:Rn} (ok:RnOk R) {y:Rx} (hy:TryC R y) {c:Str} {ng:Bool} {rs:List (Str × Str)} {lo hi:Int} {lz:Bool} (hl:0≤lo∧lo≤255) (hh:hi≤255) {N:Nat} (IH:AgC R y c ng rs lo hi lz N):AgC R y c ng rs lo hi lz (N+1):=by
 intro w st g k times fv f cc hv hg hr hk hf hN hT;have hff:=hf;obtain⟨j,caps,rfl,hent,_⟩:=hff;unfold Enters at hent;have hv0:=hv;obtain⟨ra,rc,ka,kn,kc,pa,pc,rfl,hrs,hks,hpc⟩:=hv0.open_;rw [show g+own5 7+Rx.groupsL [y]=g+Rx.groupsL [y] by simp [own5]] at *;obtain⟨gh,hgh⟩:∃gh,g+Rx.groupsL [y]=gh:=⟨_,rfl⟩;rw [hgh] at hg hv ⊢;have hgl:g≤gh:=gu;have hgy:g+y.groups≤R.n:=by simp only [Rx.groupsL] at hgh;omega
 obtain⟨P,hP⟩:∃P,P=ptc 7 c ng ra rs.length rc lo hi lz ka kn kc pa [y].length pc g gh:=⟨_,rfl⟩;obtain⟨W5,hW5⟩:∃W5,W5=((((w.alloc (.cells #[.pointer (some ⟨R.r,0,none⟩)] 117)).alloc (.cells P.toArray 121)).alloc (.cells #[.int .i64 (k:Int)] 3)).alloc (.cells #[.int .i64 (times:Int)] 3)).alloc (.cells #[.func (.func j) #[] caps] 145):=⟨_,rfl⟩;have hb5:Below w.heap.size w W5:=by rw [hW5];exact(((((Below.refl _ _).alloc (Cp _) _).alloc gz _).alloc gz _).alloc gz _).alloc gz _
 have h1:W5.heap[w.heap.size]?=some (.cells #[.pointer (some ⟨R.r,0,none⟩)] 117 (0,0)):=by
  rw [hW5,Below.heap_alloc _ _ _ gz,Below.heap_alloc _ _ _ gz,Below.heap_alloc _ _ _ gz,Below.heap_alloc _ _ _ gz];exact heap_alloc_new w _
 have h2:W5.heap[w.heap.size+1]?=some (.cells P.toArray 121 (0,0)):=by
  rw [hW5,Below.heap_alloc _ _ _ gz,Below.heap_alloc _ _ _ gz,Below.heap_alloc _ _ _ gz];have:=heap_alloc_new (w.alloc (.cells #[.pointer (some ⟨R.r,0,none⟩)] 117)) (.cells P.toArray 121)
  rw [CL] at this;exact this
 have h3:W5.heap[w.heap.size+1+1]?=some (.cells #[.int .i64 (k:Int)] 3 (0,0)):=by
  rw [hW5,Below.heap_alloc _ _ _ gz,Below.heap_alloc _ _ _ gz];have:=heap_alloc_new ((w.alloc (.cells #[.pointer (some ⟨R.r,0,none⟩)] 117)).alloc (.cells P.toArray 121)) (.cells #[.int .i64 (k:Int)] 3)
  rw [CL,CL] at this;exact this
 have h4:W5.heap[w.heap.size+1+1+1]?=some (.cells #[.int .i64 (times:Int)] 3 (0,0)):=by
  rw [hW5,Below.heap_alloc _ _ _ gz];have:=heap_alloc_new (((w.alloc (.cells #[.pointer (some ⟨R.r,0,none⟩)] 117)).alloc (.cells P.toArray 121)).alloc (.cells #[.int .i64 (k:Int)] 3)) (.cells #[.int .i64 (times:Int)] 3)
  rw [CL,CL,CL] at this;exact this
 have h5:W5.heap[w.heap.size+1+1+1+1]?=some (.cells #[.func (.func j) #[] caps] 145 (0,0)):=by
  rw [hW5];have:=heap_alloc_new ((((w.alloc (.cells #[.pointer (some ⟨R.r,0,none⟩)] 117)).alloc (.cells P.toArray 121)).alloc (.cells #[.int .i64 (k:Int)] 3)).alloc (.cells #[.int .i64 (times:Int)] 3)) (.cells #[.func (.func j) #[] caps] 145)
  rw [CL,CL,CL,CL] at this;exact this
 have y1:¬R.X w.heap.size:=kx hr (Cp _);have y2:¬R.X (w.heap.size+1):=kx hr gu;have y3:¬R.X (w.heap.size+1+1):=kx hr gu;have y4:¬R.X (w.heap.size+1+1+1):=kx hr gu;have y5:¬R.X (w.heap.size+1+1+1+1):=kx hr gu;have hK:=againW ok (N:=N) IH h1 (by rw [hP] at h2;exact h2) h3 h4 h5 y1 y2 y3 y4 y5 (hv.later hb5) gu hk (hf.later (Fx.below hb5) (Cp _)) hl gu gu;rw [hgh] at hK;obtain⟨a',c',hpsl⟩:=psl ok hr hgl hg;have hF5:=hf.later (Fx.below hb5) (Cp _);have hKS:=hks.later hb5;have hcs:=ok.cs;have hn:=ok.n;have HO:=ab ok;have HR5:=ab (hr.later hb5);have HX5:=ab (Fx.below (R:=R) hb5);have HK:=ab hK;have HF:=ab hF5;have HP:=ab hpsl;have HPE:=ab hP;have HW:=ab hW5;have HY:=ab hy;have HKS:=ab hKS;have G1:=ab h1;have G2:Hid (W5.heap[w.heap.size+1]?=some (.cells (ptc 7 c ng ra rs.length rc lo hi lz ka kn kc pa [y].length pc g gh).toArray 121 (0,0))):=ab (hP▸h2);have G3:=ab h3;have G4:=ab h4;have G5:=ab h5;obtain⟨tk,htk⟩:∃tk:Nat→Rk→Rst→Bool × Rst,(fun k f st=>kU R.C [y] g k f st)=tk:=⟨_,rfl⟩;have HTK:Hid (∀k f st,tk k f st=tryM R.C y g k f st):=ab (fun k f st=>by rw [←htk];show kU _ _ _ _ _ _=_;conv=>lhs;unfold kU);rw [htk] at HK ⊢;obtain⟨Q,hQ⟩:∃Q,lu tk lo hi lz g gh f (N+1) k times st=Q:=⟨_,rfl⟩;rw [hQ];have HQ:Hid (orE (if lo≤(times:Int)∧lz=true then f k st else(false,st)) (fun s1 =>
  orE (if hi<0∨(times:Int)<hi then r7 s1.ps g gh (tk k (fun e s2=>if k<e∨(times:Int)<lo then lu tk lo hi lz g gh f N e (times+1) s2 else(false,s2)) { s1 with ps:=kA s1.ps g gh }) else(false,s1)) fun s2 =>
  if lo≤(times:Int)∧lz=false∧s2.out=false then f k s2 else(false,s2))=Q):=ab hQ
 clear hK hF5 hKS hks hrs hpsl hP hW5 h1 h2 h3 h4 h5 ok hr hf hv hv0 hb5 hy IH htk hgh hQ;rw [←HPE.out];have htm:times≤2000000:=gu
  /- ahead of the part -/
 have hd:∀w:World,Below w.heap.size w w.drew:=fun w=>(Below.refl _ _).drew
 obtain⟨ir,hir⟩:=info_parts nB;rcases(show (((times:Int)<lo∨((lo≤(times:Int))∧lz=false))∨(lo≤(times:Int)∧lz=true)) by cases lz<;>simp<;>omega) with hA|⟨hA,hlz⟩
 case' inr =>
  obtain⟨j',caps',hff',_,hC⟩:=HF.out.call HR5.out (Cp _) hk;injection hff' with e1 _ e3
  injection e1 with e1
  subst e1;subst e3;have HC:=ab hC;clear hC;have d1:=jY ((Gx.refl R.X W5).heap G1.out y1);have d3:=jY ((Gx.refl R.X W5).heap G3.out y3);have d4:=jY ((Gx.refl R.X W5).heap G4.out y4);have d5:=jY ((Gx.refl R.X W5).heap G5.out y5);obtain⟨p0,p1,p2,p3,p4,p5,p6,p7,p8,p9,p10⟩:=kf (kT ((Gx.refl R.X W5).heap G2.out y2));simp only [Nat.zero_add] at p1 p2 p3 p4 p5 p6 p7 p8 p9 p10;rw [hlz] at p6;go_enter Tryz.func155,Tryz.ntmps155
  go_upto_region 1 with fail
  rw [←HW.out];go_wp2_with (go_at_fn j;refine HC.out.mono ?_)
  rintro x W1 ⟨rfl,hr1,hx1⟩;obtain⟨q,hq⟩:∃q,f k st=q:=⟨_,rfl⟩;have HQ0:=ab HQ.out;rw [Cl ⟨hA,hlz⟩,hq] at HQ0;rw [hq] at hr1 ⊢;obtain⟨bo,s1⟩:=q;have HR1:=ab hr1;have HX1:=ab hx1;clear d1 d3 d4 d5 p0 p1 p2 p3 p4 p5 p6 p7 p8 p9 p10;clear hq hr1 hx1 HC HQ HR5 HW;cases bo
  case' true =>
   go_wp2
   go_ret
   rw [←HQ0.out];exact⟨rfl,HR1.out,HX5.out.trans HX1.out⟩
  case' false =>
   have HQ1:Hid (orE (if hi<0∨(times:Int)<hi then r7 s1.ps g gh (tk k (fun e s2=>if k<e∨(times:Int)<lo then lu tk lo hi lz g gh f N e (times+1) s2 else(false,s2)) { s1 with ps:=kA s1.ps g gh }) else(false,s1)) (fun s2 =>
    if lo≤(times:Int)∧lz=false∧s2.out=false then f k s2 else(false,s2))=Q):=HQ0
   clear HQ0;go_upto_region 3 with fail
 case' inl =>
  have HQ1:Hid (orE (if hi<0∨(times:Int)<hi then r7 st.ps g gh (tk k (fun e s2=>if k<e∨(times:Int)<lo then lu tk lo hi lz g gh f N e (times+1) s2 else(false,s2)) { st with ps:=kA st.ps g gh }) else(false,st)) (fun s2 =>
   if lo≤(times:Int)∧lz=false∧s2.out=false then f k s2 else(false,s2))=Q):=ab (by
    have h:=HQ.out;rw [Co (by rintro⟨h1,h2⟩;rcases hA with h|⟨_,h⟩;omega;rw [h] at h2;cases h2)] at h;simpa [orE] using h)
  clear HQ;have d1:=jY ((Gx.refl R.X W5).heap G1.out y1);have d3:=jY ((Gx.refl R.X W5).heap G3.out y3);have d4:=jY ((Gx.refl R.X W5).heap G4.out y4);have d5:=jY ((Gx.refl R.X W5).heap G5.out y5);obtain⟨p0,p1,p2,p3,p4,p5,p6,p7,p8,p9,p10⟩:=kf (kT ((Gx.refl R.X W5).heap G2.out y2));simp only [Nat.zero_add] at p1 p2 p3 p4 p5 p6 p7 p8 p9 p10;go_enter Tryz.func155,Tryz.ntmps155
  go_upto_region 1 with fail
  rw [←HW.out];rcases hA with hA|⟨hA,hlz⟩
  case' inl=>go_upto_region 3 with fail
  case' inr =>
   rw [hlz] at p6;go_upto_region 3 with fail
  all_goals
   clear d1 d3 d4 d5 p0 p1 p2 p3 p4 p5 p6 p7 p8 p9 p10;obtain⟨W1,hw1⟩:∃W1,W1=W5:=⟨_,rfl⟩;have HX1:Hid (Fx R W5 W1):=ab (by rw [hw1];exact Gx.refl _ _);have HR1:Hid (RunI R W1 st):=ab (by rw [hw1];exact HR5.out);rw [←hw1];obtain⟨s1,hs1⟩:∃s1,s1=st:=⟨_,rfl⟩;rw [←hs1] at HR1 HQ1;clear hw1 hs1 HW HR5
  /- the part -/
 all_goals
  have d1:=jY ((HX1.out).heap G1.out y1);have d3:=jY ((HX1.out).heap G3.out y3);have d4:=jY ((HX1.out).heap G4.out y4);have d5:=jY ((HX1.out).heap G5.out y5);obtain⟨p0,p1,p2,p3,p4,p5,p6,p7,p8,p9,p10⟩:=kf (kT ((HX1.out).heap G2.out y2));simp only [Nat.zero_add] at p1 p2 p3 p4 p5 p6 p7 p8 p9 p10;obtain⟨bb,hbb⟩:∃bb:Bool,(bb=true∧((hi<0)∨(¬hi<0∧(times:Int)<hi)))∨(bb=false∧(¬hi<0∧¬(times:Int)<hi)):=by
   by_cases h1:hi<0
   ·exact⟨true,.inl ⟨rfl,.inl h1⟩⟩
   ·by_cases h2:(times:Int)<hi
    ·exact⟨true,.inl ⟨rfl,.inr ⟨h1,h2⟩⟩⟩
    ·exact⟨false,.inr ⟨rfl,h1,h2⟩⟩
  cases bb
  case' false =>
   have hB:¬hi<0∧¬(times:Int)<hi:=by simpa using hbb
   obtain⟨hB1,hB2⟩:=hB;have HQ3:Hid ((if lo≤(times:Int)∧lz=false∧s1.out=false then f k s1 else(false,s1))=Q):=ab (by
    have h:=HQ1.out;rw [Co gu] at h;simpa [orE] using h)
   clear hbb HQ1;go_upto_region 9 with fail
   obtain⟨w4,hw4⟩:∃w4,w4=W1:=⟨_,rfl⟩;obtain⟨s2,hs2⟩:∃s2,s2=s1:=⟨_,rfl⟩;have HX4:Hid (Fx R W5 w4):=ab (by rw [hw4];exact HX1.out);have HR4:Hid (RunI R w4 s2):=ab (by rw [hw4,hs2];exact HR1.out);rw [←hs2] at HQ3;rw [←hw4];clear d1 d3 d4 d5 p0 p1 p2 p3 p4 p5 p6 p7 p8 p9 p10;clear hw4 hs2 HX1 HR1
  case' true =>
   have hB:(hi<0)∨(¬hi<0∧(times:Int)<hi):=by simpa using hbb
   have HQB:Hid (orE (r7 s1.ps g gh (tk k (fun e s2=>if k<e∨(times:Int)<lo then lu tk lo hi lz g gh f N e (times+1) s2 else(false,s2)) { s1 with ps:=kA s1.ps g gh })) (fun s2 =>
    if lo≤(times:Int)∧lz=false∧s2.out=false then f k s2 else(false,s2))=Q):=ab (by
    have h:=HQ1.out;rw [Cl gu] at h;exact h)
   clear hbb HQ1;have c14:=HR1.out.c14 HO.out;have hsl:=HP.out.sl;have hlen1:=HR1.out.len;rcases hB with hB|⟨hB1,hB2⟩
   all_goals
    go_upto_region 4 with fail
    go_still_tail 9,gE
    change wpList _ _ _ _ _ W1.drew
    have hrd:=HP.out.rd W1.drew s1 (HR1.out.later (hd W1));have HRD:=ab hrd;clear hrd;go_wp2_with (at_builtin;refine ke W1.drew.heap.size 48 rfl _ _ 49 rfl Tryz.underlying49 hir rfl gD rfl (World.ownsRow_nil _ _ _ _) rfl HRD.out (mK _) gu gu gD (Cp _) ?_)
    intro v1 w1 ho1 hg1 hb1 _;obtain⟨sa,sc,rfl⟩:=j7 ho1;have HO1:=ab ho1;have HX2:Hid (Fx R W5 w1):=ab (HX1.out.trans ((Fx.below (hd W1)).trans (Fx.below hb1)));have HR2:Hid (RunI R w1 s1):=ab ((HR1.out.later (hd W1)).later hb1);have hnew:∀b,(Value.slice sa (gh-g) sc).ownBlock=some b→¬R.X b:=fun b hb=>kx HR1.out (ho1.lt b hb).1
    have HNW:=ab hnew;clear d1 d3 d4 d5 p0 p1 p2 p3 p4 p5 p6 p7 p8 p9 p10;clear ho1 hg1 hb1 HRD c14 hnew;have d1:=jY ((HX2.out).heap G1.out y1);have d3:=jY ((HX2.out).heap G3.out y3);have d4:=jY ((HX2.out).heap G4.out y4);have d5:=jY ((HX2.out).heap G5.out y5);obtain⟨p0,p1,p2,p3,p4,p5,p6,p7,p8,p9,p10⟩:=kf (kT ((HX2.out).heap G2.out y2));simp only [Nat.zero_add] at p1 p2 p3 p4 p5 p6 p7 p8 p9 p10;have c14:=HR2.out.c14 HO.out;have hnn:=HP.out.nn w1.drew s1 (HR2.out.later (hd w1));have HNN:=ab hnn;clear hnn;go_upto_region 5 with fail
    go_still_tail 9,gE
    change wpList _ _ _ _ _ w1.drew
    go_wp2_with (go_at_call 128;refine HNN.out.mono ?_)
    rintro x w2 ⟨rfl,hr3,hx3⟩;have HX3:Hid (Fx R W5 w2):=ab (HX2.out.trans ((Fx.below (hd w1)).trans hx3));have HR3:=ab hr3;have HO3:=ab (pe (kL HO1.out (hd w1)) hx3 HNW.out);clear d1 d3 d4 d5 p0 p1 p2 p3 p4 p5 p6 p7 p8 p9 p10;clear hr3 hx3 c14 HNN;obtain⟨b,o,cy,hpa,_,_,hvy,hcy,_⟩:=(HKS.out.keep (Fx.kept HO.out HX3.out)).head;have hvy':=hvy;obtain⟨kd,ch,ng',rs',lo',hi',lz',xs⟩:=y;obtain⟨ra',rc',ka',kn',kc',pa',pc',rfl,_,_,_⟩:=hvy'.open_;obtain⟨u0,u1,u2,u3,u4,u5,u6,u7,u8,u9,u10⟩:=kf hcy;have hC:=HY.out w2.drew _ (g+own5 7) k _ _ _ (hvy.later (hd w2)) hgy (HR3.out.later (hd w2)) hk (HK.out.later (HX3.out.trans (Fx.below (hd w2))) (Cp _));have HC:=ab hC;clear hC hvy hvy' hcy;unfold ptc at HC;have d1:=jY ((HX3.out).heap G1.out y1);have d3:=jY ((HX3.out).heap G3.out y3);have d4:=jY ((HX3.out).heap G4.out y4);have d5:=jY ((HX3.out).heap G5.out y5);obtain⟨p0,p1,p2,p3,p4,p5,p6,p7,p8,p9,p10⟩:=kf (kT ((HX3.out).heap G2.out y2));simp only [Nat.zero_add] at p1 p2 p3 p4 p5 p6 p7 p8 p9 p10;rw [hpa] at p8;simp only [Cr,CW,Nat.zero_add] at p8;clear hpa;go_upto_region 6 with fail
    go_still_tail 7,gE
    change wpList _ _ _ _ _ w2.drew
    go_wp2_with (go_at_call 129;refine HC.out.mono ?_)
    rintro x w3 ⟨rfl,hr4,hx4⟩;have HTQ:=HTK.out k (fun e s2=>if k<e∨(times:Int)<lo then lu tk lo hi lz g gh f N e (times+1) s2 else(false,s2)) { s1 with ps:=kA s1.ps g gh };have HQC:=ab HQB.out;rw [HTQ] at HQC;obtain⟨q,hq⟩:∃q,tryM R.C (.mk kd ch ng' rs' lo' hi' lz' xs) g k (fun e s2=>if k<e∨(times:Int)<lo then lu tk lo hi lz g gh f N e (times+1) s2 else(false,s2)) { s1 with ps:=kA s1.ps g gh }=q:=⟨_,rfl⟩;have hq':tryM R.C (.mk kd ch ng' rs' lo' hi' lz' xs) (g+own5 7) k (fun e s2=>if k<e∨(times:Int)<lo then lu tk lo hi lz g gh f N e (times+1) s2 else(false,s2)) { s1 with ps:=kA s1.ps g gh }=q:=hq;rw [hq] at HQC;rw [hq'] at hr4 ⊢;obtain⟨bo,s3⟩:=q;have HX4':Hid (Fx R W5 w3):=ab (HX3.out.trans ((Fx.below (hd w2)).trans hx4));have HR4':=ab hr4;have HO4:=ab (pe (kL HO3.out (hd w2)) hx4 HNW.out);clear d1 d3 d4 d5 p0 p1 p2 p3 p4 p5 p6 p7 p8 p9 p10;clear hr4 hx4 HTQ hq hq' HC HQB u0 u1 u2 u3 u4 u5 u6 u7 u8 u9 u10;cases bo
    case' true =>
     go_wp2
     go_ret
     rw [←HQC.out];exact⟨rfl,HR4'.out,HX5.out.trans HX4'.out⟩
    case' false =>
     have HQ2:Hid ((if lo≤(times:Int)∧lz=false∧s3.out=false then f k { s3 with ps:=nX s3.ps s1.ps g gh } else(false,{ s3 with ps:=nX s3.ps s1.ps g gh }))=Q):=ab (by
      have h:=HQC.out;simpa [orE,r7] using h)
     have hwr:=Sl.of_own (kL HO4.out (hd w3));obtain⟨w4,hrun,hr5,hx5⟩:=HP.out.cp w3.drew s3 s1.ps sa sc 3 (HR4'.out.later (hd w3)) hlen1 hwr;have HRUN:=ab hrun;have HX4:Hid (Fx R W5 w4):=ab (HX4'.out.trans ((Fx.below (hd w3)).trans hx5));have HR4:=ab hr5;clear hrun hr5 hx5 hwr HQC;have d1:=jY ((HX4'.out).heap G1.out y1);have d3:=jY ((HX4'.out).heap G3.out y3);have d4:=jY ((HX4'.out).heap G4.out y4);have d5:=jY ((HX4'.out).heap G5.out y5);obtain⟨p0,p1,p2,p3,p4,p5,p6,p7,p8,p9,p10⟩:=kf (kT ((HX4'.out).heap G2.out y2));simp only [Nat.zero_add] at p1 p2 p3 p4 p5 p6 p7 p8 p9 p10;have c14:=HR4'.out.c14 HO.out;go_upto_region 8 with fail
     go_still_tail 10,gE
     change wpList _ _ _ _ _ w3.drew
     refine uy rfl _ _ _ _ rfl _ _ rfl rfl HRUN.out ?_;go_upto_region 9 with fail
     obtain⟨s2,hs2⟩:∃s2,s2={ s3 with ps:=nX s3.ps s1.ps g gh }:=⟨_,rfl⟩;have HQ3:Hid ((if lo≤(times:Int)∧lz=false∧s2.out=false then f k s2 else(false,s2))=Q):=ab (by rw [hs2];exact HQ2.out);rw [←hs2] at HR4;clear d1 d3 d4 d5 p0 p1 p2 p3 p4 p5 p6 p7 p8 p9 p10;clear c14 hs2 HQ2
  /- behind the part -/
 all_goals
  have d1:=jY ((HX4.out).heap G1.out y1);have d3:=jY ((HX4.out).heap G3.out y3);have d4:=jY ((HX4.out).heap G4.out y4);have d5:=jY ((HX4.out).heap G5.out y5);obtain⟨p0,p1,p2,p3,p4,p5,p6,p7,p8,p9,p10⟩:=kf (kT ((HX4.out).heap G2.out y2));simp only [Nat.zero_add] at p1 p2 p3 p4 p5 p6 p7 p8 p9 p10;have c16:=HR4.out.c16 HO.out;by_cases hC1:lo≤(times:Int)
  ·try (exfalso;omega)
   all_goals
    cases hz:lz with
    | false =>
     try (exfalso;rw [hz] at hlz;cases hlz;done)
     all_goals
      rw [hz] at p6;cases ho:s2.out with
      | false =>
       rw [ho] at c16;have HQ4:=ab HQ3.out;rw [Cl ⟨hC1,hz,ho⟩] at HQ4;obtain⟨j',caps',hff',_,hC⟩:=(HF.out.later HX4.out (Cp _)).call HR4.out (Cp _) hk;injection hff' with e1 _ e3
       injection e1 with e1
       subst e1;subst e3;have HC:=ab hC;clear hC hz ho HQ3;go_wp2_with (go_at_fn j;refine HC.out.mono ?_)
       rintro x w9 ⟨rfl,hr9,hx9⟩;rw [HQ4.out] at hr9 ⊢;go_wp2
       go_ret
       exact⟨rfl,hr9,HX5.out.trans (HX4.out.trans hx9)⟩
      | true =>
       rw [ho] at c16;have HQ4:=ab HQ3.out;rw [Co (by rintro⟨_,_,h⟩;rw [ho] at h;cases h)] at HQ4;clear hz ho HQ3;exact dt
    | true =>
     try (exfalso;rw [hz] at hlz;cases hlz;done)
     all_goals
      rw [hz] at p6;have HQ4:=ab HQ3.out;rw [Co (by rintro⟨_,h,_⟩;rw [hz] at h;cases h)] at HQ4;clear hz HQ3;exact dt
  ·try (exfalso;omega)
   all_goals
    have HQ4:=ab HQ3.out;rw [Co (fun h=>hC1 h.1)] at HQ4;have hC2:(times:Int)<lo:=gu;clear HQ3 hC1;exact dt
theorem vG {R:Rn} (ok:RnOk R) {y:Rx} (hy:TryC R y) {c:Str} {ng:Bool} {rs:List (Str × Str)} {lo hi:Int} {lz:Bool} (hl:0≤lo∧lo≤255) (hh:hi≤255):∀N,AgC R y c ng rs lo hi lz N
 | 0=>fun w st g k times fv f cc hv hg hr hk hf hN hT=>by omega
 | N+1=>zL ok hy hl hh (vG ok hy hl hh N)
theorem try_out {R:Rn} (ok:RnOk R) {w:World} {st:Rst} {g k:Nat} {fv:Value} {f:Rk} {cc:List Value} {kd:Int} {c:Str} {ng:Bool} {rs:List (Str × Str)} {lo hi:Int} {lz:Bool} {ks:List Rx}
  (hv:PtV w R.S cc (.mk kd c ng rs lo hi lz ks) g) (hr:RunI R w st) (hf:KW R w k fv f) (ho:st.out=true) :
  Calls Tryz.prog 129 #[.pointer (some ⟨R.r,0,none⟩),.agg cc.toArray,.int .i64 k,fv] w (kW R (tryM R.C (.mk kd c ng rs lo hi lz ks) g k f st) w):=by
 have HM:Hid (tryM R.C (.mk kd c ng rs lo hi lz ks) g k f st=(false,st)):=ab (by unfold tryM;rw [Cl ho]);rw [HM.out];obtain⟨ra,rc,ka,kn,kc,pa,pc,rfl,hrs,hks,hpc⟩:=hv.open_;obtain⟨gh,hgh⟩:∃gh,g+own5 kd+Rx.groupsL ks=gh:=⟨_,rfl⟩;rw [hgh] at hv ⊢;obtain⟨W1,hW1⟩:∃W1,W1=w.alloc (.cells (ptc kd c ng ra rs.length rc lo hi lz ka kn kc pa ks.length pc g gh).toArray 121):=⟨_,rfl⟩;have hb1:Below w.heap.size w W1:=by rw [hW1];exact(Below.refl _ _).alloc (Cp _) _
 have hx1:W1.heap[w.heap.size]?=some (.cells (ptc kd c ng ra rs.length rc lo hi lz ka kn kc pa ks.length pc g gh).toArray 121 (0,0)):=by rw [hW1];exact heap_alloc_new w _
 have hr1:=hr.later hb1;have hf1:=hf.later (Fx.below hb1) (Cp k);have hks1:=hks.later hb1;have hv1:=hv.later hb1;have hrs1:=hrs.keep (Kept.all hb1);have y1:¬R.X w.heap.size:=kx hr (Cp _);have c16:=hr1.c16 ok;obtain⟨p0,p1,p2,p3,p4,p5,p6,p7,p8,p9,p10⟩:=kf (kT hx1);simp only [Nat.zero_add] at p1 p2 p3 p4 p5 p6 p7 p8 p9 p10;have hcs:=ok.cs;have HB1:=ab (Fx.below (R:=R) hb1);have HW:=ab hW1;have HR1:=ab hr1;have HX1:=ab hx1;have HGH:=ab hgh;have HV1:=ab hv1;clear hW1 hb1 hx1 hr1 hr hf hv hks hrs hgh hv1;rw [ho] at c16;clear ok hf1 hks1 hrs1;unfold ptc at HW ⊢;go_enter Tryz.func129,Tryz.ntmps129
 go_upto_region 1 with fail
 rw [←HW.out];clear HW;go_wp2
 go_ret
 exact⟨rfl,HR1.out,HB1.out⟩
theorem try_seq {R:Rn} (ok:RnOk R) {w:World} {st:Rst} {g k:Nat} {fv:Value} {f:Rk} {cc:List Value} {c:Str} {ng:Bool} {rs:List (Str × Str)} {lo hi:Int} {lz:Bool} {ks:List Rx}
  (hv:PtV w R.S cc (.mk 0 c ng rs lo hi lz ks) g) (hg:g+(Rx.mk 0 c ng rs lo hi lz ks).groups≤R.n) (hr:RunI R w st) (hk:k≤R.C.cs.length) (hf:KW R w k fv f) (ho:st.out=false) (IH:SeqC R ks) :
  Calls Tryz.prog 129 #[.pointer (some ⟨R.r,0,none⟩),.agg cc.toArray,.int .i64 k,fv] w (kW R (tryM R.C (.mk 0 c ng rs lo hi lz ks) g k f st) w):=by
 have HM:Hid (tryM R.C (.mk 0 c ng rs lo hi lz ks) g k f st=seqM R.C ks g k f st):=ab (by
  conv=>lhs;unfold tryM
  rw [Co iw,Cl rfl])
 rw [HM.out];obtain⟨ra,rc,ka,kn,kc,pa,pc,rfl,hrs,hks,hpc⟩:=hv.open_;obtain⟨gh,hgh⟩:∃gh,g+own5 0+Rx.groupsL ks=gh:=⟨_,rfl⟩;rw [hgh] at hv ⊢;obtain⟨W1,hW1⟩:∃W1,W1=w.alloc (.cells (ptc 0 c ng ra rs.length rc lo hi lz ka kn kc pa ks.length pc g gh).toArray 121):=⟨_,rfl⟩;have hb1:Below w.heap.size w W1:=by rw [hW1];exact(Below.refl _ _).alloc (Cp _) _
 have hx1:W1.heap[w.heap.size]?=some (.cells (ptc 0 c ng ra rs.length rc lo hi lz ka kn kc pa ks.length pc g gh).toArray 121 (0,0)):=by rw [hW1];exact heap_alloc_new w _
 have hr1:=hr.later hb1;have hf1:=hf.later (Fx.below hb1) (Cp k);have hks1:=hks.later hb1;have hv1:=hv.later hb1;have hrs1:=hrs.keep (Kept.all hb1);have y1:¬R.X w.heap.size:=kx hr (Cp _);have c16:=hr1.c16 ok;obtain⟨p0,p1,p2,p3,p4,p5,p6,p7,p8,p9,p10⟩:=kf (kT hx1);simp only [Nat.zero_add] at p1 p2 p3 p4 p5 p6 p7 p8 p9 p10;have hcs:=ok.cs;have HB1:=ab (Fx.below (R:=R) hb1);have HW:=ab hW1;have HR1:=ab hr1;have HX1:=ab hx1;have HGH:=ab hgh;have HV1:=ab hv1;clear hW1 hb1 hx1 hr1 hr hf hv hks hrs hgh hv1;have hC:=IH W1 st g k pc fv f pa hks1 hpc jI HR1.out hk hf1;have HC:=ab hC;rw [ho] at c16;clear ok hf1 hks1 hrs1 hC IH;unfold ptc at HW ⊢;go_enter Tryz.func129,Tryz.ntmps129
 go_upto_region 1 with fail
 rw [←HW.out];clear HW;go_wp2_with (go_at_call 154;refine HC.out.mono ?_)
 exact dq
theorem try_rep {R:Rn} (ok:RnOk R) {w:World} {st:Rst} {g k:Nat} {fv:Value} {f:Rk} {cc:List Value} {c:Str} {ng:Bool} {rs:List (Str × Str)} {lo hi:Int} {lz:Bool} {y:Rx}
  (hv:PtV w R.S cc (.mk 7 c ng rs lo hi lz [y]) g) (hg:g+(Rx.mk 7 c ng rs lo hi lz [y]).groups≤R.n) (hr:RunI R w st) (hk:k≤R.C.cs.length) (hf:KW R w k fv f) (ho:st.out=false) (IH:∀N,AgC R y c ng rs lo hi lz N) (hl:0≤lo∧lo≤255) :
  Calls Tryz.prog 129 #[.pointer (some ⟨R.r,0,none⟩),.agg cc.toArray,.int .i64 k,fv] w (kW R (tryM R.C (.mk 7 c ng rs lo hi lz [y]) g k f st) w):=by
 have HM:Hid (tryM R.C (.mk 7 c ng rs lo hi lz [y]) g k f st=lu (fun k f st=>kU R.C [y] g k f st) lo hi lz g (g+Rx.groupsL [y]) f (R.C.cs.length-k+lo.toNat+1) k 0 st):=ab (by
  conv=>lhs;unfold tryM
  rw [Co iw,Co gD,Co gD,Cl rfl])
 rw [HM.out];obtain⟨ks,hks0⟩:∃ks,ks=[y]:=⟨_,rfl⟩;rw [←hks0] at hv;have hcs:=ok.cs;obtain⟨ra,rc,ka,kn,kc,pa,pc,rfl,hrs,hks,hpc⟩:=hv.open_;obtain⟨gh,hgh⟩:∃gh,g+own5 7+Rx.groupsL ks=gh:=⟨_,rfl⟩;rw [hgh] at hv ⊢;obtain⟨W1,hW1⟩:∃W1,W1=w.alloc (.cells (ptc 7 c ng ra rs.length rc lo hi lz ka kn kc pa ks.length pc g gh).toArray 121):=⟨_,rfl⟩;have hb1:Below w.heap.size w W1:=by rw [hW1];exact(Below.refl _ _).alloc (Cp _) _
 have hx1:W1.heap[w.heap.size]?=some (.cells (ptc 7 c ng ra rs.length rc lo hi lz ka kn kc pa ks.length pc g gh).toArray 121 (0,0)):=by rw [hW1];exact heap_alloc_new w _
 have hr1:=hr.later hb1;have hf1:=hf.later (Fx.below hb1) (Cp k);have hks1:=hks.later hb1;have hv1:=hv.later hb1;have hrs1:=hrs.keep (Kept.all hb1);have y1:¬R.X w.heap.size:=kx hr (Cp _);have c16:=hr1.c16 ok;obtain⟨p0,p1,p2,p3,p4,p5,p6,p7,p8,p9,p10⟩:=kf (kT hx1);simp only [Nat.zero_add] at p1 p2 p3 p4 p5 p6 p7 p8 p9 p10;have hcs:=ok.cs;have HB1:=ab (Fx.below (R:=R) hb1);have HW:=ab hW1;have HR1:=ab hr1;have HX1:=ab hx1;have HGH:=ab hgh;have HV1:=ab hv1;clear hW1 hb1 hx1 hr1 hr hf hv hks hrs hgh hv1;have hg':g+Rx.groupsL [y]≤R.n:=jI;have hC:=IH (R.C.cs.length-k+lo.toNat+1) W1 st g k 0 fv f _ (by rw [←hks0];exact HV1.out) hg' HR1.out hk hf1 gu gu;have HC:=ab hC;rw [ho] at c16;clear ok hf1 hks1 hrs1 hC IH hks0;unfold ptc at HC;unfold ptc at HW ⊢;go_enter Tryz.func129,Tryz.ntmps129
 go_upto_region 1 with fail
 rw [←HW.out];clear HW;go_wp2_with (go_at_call 155;refine HC.out.mono ?_)
 exact dq
theorem try_dry {R:Rn} (ok:RnOk R) {w:World} {st:Rst} {g k:Nat} {fv:Value} {f:Rk} {cc:List Value} {kd:Int} {c:Str} {ng:Bool} {rs:List (Str × Str)} {lo hi:Int} {lz:Bool} {ks:List Rx}
  (hv:PtV w R.S cc (.mk kd c ng rs lo hi lz ks) g) (hr:RunI R w st) (hf:KW R w k fv f) (ho:st.out=false) (hfu:st.fuel=0) (h0:kd≠0) (h1:kd≠1) (h7:kd≠7) :
  Calls Tryz.prog 129 #[.pointer (some ⟨R.r,0,none⟩),.agg cc.toArray,.int .i64 k,fv] w (kW R (tryM R.C (.mk kd c ng rs lo hi lz ks) g k f st) w):=by
 have HM:Hid (tryM R.C (.mk kd c ng rs lo hi lz ks) g k f st=(false,{ st with out:=true })):=ab (by
  conv=>lhs;unfold tryM
  rw [Co iw,Co h0,Co h1,Co h7,Cl hfu])
 rw [HM.out];have e0:(kd==0)=false:=by rw [CM];exact h0
 have e1:(kd==1)=false:=by rw [CM];exact h1
 have e7:(kd==7)=false:=by rw [CM];exact h7
 obtain⟨ra,rc,ka,kn,kc,pa,pc,rfl,hrs,hks,hpc⟩:=hv.open_;obtain⟨gh,hgh⟩:∃gh,g+own5 kd+Rx.groupsL ks=gh:=⟨_,rfl⟩;rw [hgh] at hv ⊢;obtain⟨W1,hW1⟩:∃W1,W1=w.alloc (.cells (ptc kd c ng ra rs.length rc lo hi lz ka kn kc pa ks.length pc g gh).toArray 121):=⟨_,rfl⟩;have hb1:Below w.heap.size w W1:=by rw [hW1];exact(Below.refl _ _).alloc (Cp _) _
 have hx1:W1.heap[w.heap.size]?=some (.cells (ptc kd c ng ra rs.length rc lo hi lz ka kn kc pa ks.length pc g gh).toArray 121 (0,0)):=by rw [hW1];exact heap_alloc_new w _
 have hr1:=hr.later hb1;have hf1:=hf.later (Fx.below hb1) (Cp k);have hks1:=hks.later hb1;have hv1:=hv.later hb1;have hrs1:=hrs.keep (Kept.all hb1);have y1:¬R.X w.heap.size:=kx hr (Cp _);have c16:=hr1.c16 ok;obtain⟨p0,p1,p2,p3,p4,p5,p6,p7,p8,p9,p10⟩:=kf (kT hx1);simp only [Nat.zero_add] at p1 p2 p3 p4 p5 p6 p7 p8 p9 p10;have hcs:=ok.cs;have HB1:=ab (Fx.below (R:=R) hb1);have HW:=ab hW1;have HR1:=ab hr1;have HX1:=ab hx1;have HGH:=ab hgh;have HV1:=ab hv1;clear hW1 hb1 hx1 hr1 hr hf hv hks hrs hgh hv1;have HC:=ab (burn_no ok HR1.out hfu);rw [ho] at c16;clear ok hf1 hks1 hrs1 h0 h1 h7 hfu;unfold ptc at HW ⊢;go_enter Tryz.func129,Tryz.ntmps129
 go_upto_region 1 with fail
 rw [←HW.out];clear HW;go_wp2_with (go_at_call 156;refine HC.out.mono ?_)
 exact dq
theorem try_grp {R:Rn} (ok:RnOk R) {w:World} {st:Rst} {g k:Nat} {fv:Value} {f:Rk} {cc:List Value} {c:Str} {ng:Bool} {rs:List (Str × Str)} {lo hi:Int} {lz:Bool} {y:Rx}
  (hv:PtV w R.S cc (.mk 5 c ng rs lo hi lz [y]) g) (hg:g+(Rx.mk 5 c ng rs lo hi lz [y]).groups≤R.n) (hr:RunI R w st) (hk:k≤R.C.cs.length) (hf:KW R w k fv f) (ho:st.out=false) (hfu:¬st.fuel=0) (IH:TryC R y) :
  Calls Tryz.prog 129 #[.pointer (some ⟨R.r,0,none⟩),.agg cc.toArray,.int .i64 k,fv] w (kW R (tryM R.C (.mk 5 c ng rs lo hi lz [y]) g k f st) w):=by
 obtain⟨ks,hks0⟩:∃ks,ks=[y]:=⟨_,rfl⟩;rw [←hks0] at hv ⊢;have HM:Hid (tryM R.C (.mk 5 c ng rs lo hi lz ks) g k f st=kU R.C ks (g+1) k (grpK R.C g k f) (kP st)):=ab (by
  conv=>lhs;unfold tryM
  rw [Co iw,Co gD,Co gD,Co gD,Co hfu];rw [Cl rfl])
 rw [HM.out];obtain⟨ra,rc,ka,kn,kc,pa,pc,rfl,hrs,hks,hpc⟩:=hv.open_;obtain⟨gh,hgh⟩:∃gh,g+own5 5+Rx.groupsL ks=gh:=⟨_,rfl⟩;rw [hgh] at hv ⊢;obtain⟨W1,hW1⟩:∃W1,W1=w.alloc (.cells (ptc 5 c ng ra rs.length rc lo hi lz ka kn kc pa ks.length pc g gh).toArray 121):=⟨_,rfl⟩;have hb1:Below w.heap.size w W1:=by rw [hW1];exact(Below.refl _ _).alloc (Cp _) _
 have hx1:W1.heap[w.heap.size]?=some (.cells (ptc 5 c ng ra rs.length rc lo hi lz ka kn kc pa ks.length pc g gh).toArray 121 (0,0)):=by rw [hW1];exact heap_alloc_new w _
 have hr1:=hr.later hb1;have hf1:=hf.later (Fx.below hb1) (Cp k);have hks1:=hks.later hb1;have hv1:=hv.later hb1;have hrs1:=hrs.keep (Kept.all hb1);have y1:¬R.X w.heap.size:=kx hr (Cp _);have c16:=hr1.c16 ok;obtain⟨p0,p1,p2,p3,p4,p5,p6,p7,p8,p9,p10⟩:=kf (kT hx1);simp only [Nat.zero_add] at p1 p2 p3 p4 p5 p6 p7 p8 p9 p10;have hcs:=ok.cs;have HB1:=ab (Fx.below (R:=R) hb1);have HW:=ab hW1;have HR1:=ab hr1;have HX1:=ab hx1;have HGH:=ab hgh;have HV1:=ab hv1;clear hW1 hb1 hx1 hr1 hr hf hv hks hrs hgh hv1;have HBU:=ab (mF ok HR1.out hfu);have HF1:=ab hf1;have HO:=ab ok;have HIH:=ab IH;have HKS0:=ab hks0;rw [ho] at c16;clear hfu hf1 hks1 hrs1 ok IH hks0;unfold ptc at HW ⊢;go_enter Tryz.func129,Tryz.ntmps129
 go_upto_region 1 with fail
 rw [←HW.out];clear HW;go_wp2_with (go_at_call 156;refine HBU.out.mono ?_)
 first|rintro x w2 rfl hr2 hx2|rintro x w2 ⟨rfl,hr2,hx2⟩
 have HX2:=ab hx2;have HR2:=ab hr2;obtain⟨p0,p1,p2,p3,p4,p5,p6,p7,p8,p9,p10⟩:=kf (kT (hx2.heap HX1.out y1));simp only [Nat.zero_add] at p1 p2 p3 p4 p5 p6 p7 p8 p9 p10;clear hx2 hr2 HBU c16;have hC:=ux HO.out HIH.out w2 (kP st) g k fv f _ (by rw [←HKS0.out];exact HV1.out.keep (Fx.kept HO.out HX2.out)) hg HR2.out hk (HF1.out.later HX2.out (Cp _));rw [←HKS0.out] at hC;have HC:=ab hC;clear hC;unfold ptc at HC;go_wp2_with (go_at_call 157;refine HC.out.mono ?_)
 exact eu
theorem try_bare {R:Rn} (ok:RnOk R) {w:World} {st:Rst} {g k:Nat} {fv:Value} {f:Rk} {cc:List Value} {c:Str} {ng:Bool} {rs:List (Str × Str)} {lo hi:Int} {lz:Bool} {y:Rx}
  (hv:PtV w R.S cc (.mk 6 c ng rs lo hi lz [y]) g) (hg:g+(Rx.mk 6 c ng rs lo hi lz [y]).groups≤R.n) (hr:RunI R w st) (hk:k≤R.C.cs.length) (hf:KW R w k fv f) (ho:st.out=false) (hfu:¬st.fuel=0) (IH:TryC R y) :
  Calls Tryz.prog 129 #[.pointer (some ⟨R.r,0,none⟩),.agg cc.toArray,.int .i64 k,fv] w (kW R (tryM R.C (.mk 6 c ng rs lo hi lz [y]) g k f st) w):=by
 obtain⟨ks,hks0⟩:∃ks,ks=[y]:=⟨_,rfl⟩;rw [←hks0] at hv ⊢;have HM:Hid (tryM R.C (.mk 6 c ng rs lo hi lz ks) g k f st=kU R.C ks g k f (kP st)):=ab (by
  conv=>lhs;unfold tryM
  rw [Co iw,Co gD,Co gD,Co gD,Co hfu];rw [Co gD,Cl rfl])
 rw [HM.out];have hgy:g+y.groups≤R.n:=by simpa [Rx.groups,Rx.groupsL] using hg
 have HM2:Hid (kU R.C ks g k f (kP st)=tryM R.C y g k f (kP st)):=ab (by rw [hks0];conv=>lhs;unfold kU);rw [HM2.out];obtain⟨ra,rc,ka,kn,kc,pa,pc,rfl,hrs,hks,hpc⟩:=hv.open_;obtain⟨gh,hgh⟩:∃gh,g+own5 6+Rx.groupsL ks=gh:=⟨_,rfl⟩;rw [hgh] at hv ⊢;obtain⟨W1,hW1⟩:∃W1,W1=w.alloc (.cells (ptc 6 c ng ra rs.length rc lo hi lz ka kn kc pa ks.length pc g gh).toArray 121):=⟨_,rfl⟩;have hb1:Below w.heap.size w W1:=by rw [hW1];exact(Below.refl _ _).alloc (Cp _) _
 have hx1:W1.heap[w.heap.size]?=some (.cells (ptc 6 c ng ra rs.length rc lo hi lz ka kn kc pa ks.length pc g gh).toArray 121 (0,0)):=by rw [hW1];exact heap_alloc_new w _
 have hr1:=hr.later hb1;have hf1:=hf.later (Fx.below hb1) (Cp k);have hks1:=hks.later hb1;have hv1:=hv.later hb1;have hrs1:=hrs.keep (Kept.all hb1);have y1:¬R.X w.heap.size:=kx hr (Cp _);have c16:=hr1.c16 ok;obtain⟨p0,p1,p2,p3,p4,p5,p6,p7,p8,p9,p10⟩:=kf (kT hx1);simp only [Nat.zero_add] at p1 p2 p3 p4 p5 p6 p7 p8 p9 p10;have hcs:=ok.cs;have HB1:=ab (Fx.below (R:=R) hb1);have HW:=ab hW1;have HR1:=ab hr1;have HX1:=ab hx1;have HGH:=ab hgh;have HV1:=ab hv1;clear hW1 hb1 hx1 hr1 hr hf hv hks hrs hgh hv1;have HBU:=ab (mF ok HR1.out hfu);have HF1:=ab hf1;have HO:=ab ok;have HIH:=ab IH;have HK1:=ab hks1;have HKS0:=ab hks0;have hlk:ks.length=1:=by rw [hks0];rfl
 rw [ho] at c16;rw [hlk] at p8 hpc;clear hfu hf1 hks1 hrs1 ok IH hks0;unfold ptc at HW ⊢;rw [hlk] at HW ⊢;go_enter Tryz.func129,Tryz.ntmps129
 go_upto_region 1 with fail
 rw [←HW.out];clear HW;go_wp2_with (go_at_call 156;refine HBU.out.mono ?_)
 first|rintro x w2 rfl hr2 hx2|rintro x w2 ⟨rfl,hr2,hx2⟩
 have HX2:=ab hx2;have HR2:=ab hr2;obtain⟨p0,p1,p2,p3,p4,p5,p6,p7,p8,p9,p10⟩:=kf (kT (hx2.heap HX1.out y1));simp only [Nat.zero_add] at p1 p2 p3 p4 p5 p6 p7 p8 p9 p10;clear hx2 hr2 HBU c16;have hk2:=HK1.out.keep (Fx.kept HO.out HX2.out);rw [HKS0.out] at hk2;obtain⟨b,o,cy,rfl,_,_,hvy,hcy,_⟩:=hk2.head;have hC:=HIH.out w2 (kP st) (g+own5 6) k fv f cy hvy hgy HR2.out hk (HF1.out.later HX2.out (Cp _));have HC:=ab hC;obtain⟨kd,ch,ng',rs',lo',hi',lz',xs⟩:=y;obtain⟨ra',rc',ka',kn',kc',pa',pc',rfl,_,_,_⟩:=hvy.open_;obtain⟨u0,u1,u2,u3,u4,u5,u6,u7,u8,u9,u10⟩:=kf hcy;rw [hlk] at p8;clear hC hvy hcy hk2;unfold ptc at HC;go_wp2_with (go_at_call 129;refine HC.out.mono ?_)
 exact eu
end Go.Proofs.YtjggmmaojklmpaaGreat
