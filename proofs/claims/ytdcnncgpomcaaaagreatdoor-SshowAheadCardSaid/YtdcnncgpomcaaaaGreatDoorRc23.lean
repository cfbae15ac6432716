/- walk of snode.Clone -/
import Derived.Test.YtdcnncgpomcaaaaGreatDoorRc22
import Derived.Shelf.Strings.Builder1
import Derived.Shelf.Small.Strs
import Derived.Shelf.Strconv.Itoa3
import Derived.Shelf.Slices.Clone
import Derived.Shelf.SlicesE.Clone
set_option maxRecDepth 100000
set_option maxHeartbeats 4000000
namespace Go.Proofs.YtdcnncgpomcaaaaGreatDoor
open Go.RowKit
theorem oI {w:World} {g:Nat} {cc:List Value} {t:TypeId} {f:Nat × Nat} (h:w.heap[g]?=some (.cells cc.toArray t f)) (j:Nat) (hj:j<cc.length):∃v,w.cell? ⟨g,j,none⟩=some v :=
 ⟨cc[j],by rw [Jw h];simp [hj]⟩
def TfP (B:Nat) (f:Tf):Value→World→Prop:=fun v W=>∃fc',v=.agg fc'.toArray∧TfV W (fun b=>B≤b) fc' f
def SnP (B:Nat) (ks:List Sn):Value→World→Prop:=fun v W=>∃a c,v=.slice a ks.length c∧SnSl W (fun b=>B≤b) a ks.length ks
theorem TfP.mono {B:Nat} {f:Tf} (v:Value) (w w':World) (hb:Below w.heap.size w w') (h:TfP B f v w):TfP B f v w':=by
 obtain⟨rc',h1,h2⟩:=h;exact⟨rc',h1,h2.keep (Kept.all hb)⟩
theorem SnP.mono {B:Nat} {ks:List Sn} (v:Value) (w w':World) (hb:Below w.heap.size w w') (h:SnP B ks v w):SnP B ks v w':=by
 obtain⟨a,c,h1,h2⟩:=h;exact⟨a,c,h1,h2.later hb⟩
def KFs (B b1:Nat) (fc:List Value) (f:Tf) (oa:Option Addr) (oc:Nat) (os:List Str) (ka:Option Addr) (kc:Nat) (ks:List Sn):List (Value→World→Prop) :=
 [eqP (.pointer (some ⟨b1,5,none⟩)),eqP (.agg fc.toArray),TfP B f,eqP (.pointer (some ⟨b1,16,none⟩)),eqP (.slice oa os.length oc),SlP B 1 os.length (mE os),eqP (.pointer (some ⟨b1,17,none⟩)),eqP (.slice ka ks.length kc),SnP B ks,eqP (.pointer (some ⟨b1,5,none⟩))]
theorem KFs_mono (B b1:Nat) (fc:List Value) (f:Tf) (oa:Option Addr) (oc:Nat) (os:List Str) (ka:Option Addr) (kc:Nat) (ks:List Sn):MonoF (KFs B b1 fc f oa oc os ka kc ks) :=
 .eq (.eq (.cons TfP.mono (.eq (.eq (.cons SlP.mono (.eq (.eq (.cons SnP.mono (.eq .nil)))))))))
def KRI (B b1:Nat) (fc:List Value) (f:Tf) (oa:Option Addr) (oc:Nat) (os:List Str) (ka:Option Addr) (kc:Nat) (ks:List Sn) (A0:Act) (W0:World) (L:Nat→Bool) (a:Act) (w':World):Prop :=
 ∃V:Nat→Value,Fm2 [12,13,14,15,16,17,18,19,20,21] V A0 a∧BelI W0 (KFs B b1 fc f oa oc os ka kc ks) V L w'
def SCloneC (y:Sn):Prop:=∀(S:Nat→Prop) (ka:Option Addr) (kc:Nat) (w:World),SnSl w S ka y.kids.length y.kids →
 Calls Tryz.prog 25 #[.slice ka y.kids.length kc] w fun e w'=>∃a' c',e=.returned (.slice a' y.kids.length c')∧SnSl w' (fun b=>w.heap.size≤b) a' y.kids.length y.kids∧Below w.heap.size w w'
def CkRel (ks:List Sn) (w:World) (v q:Value) (wr:World):Prop :=
 ∃i:Nat,q=.int .i64 i∧i≤ks.length∧Below w.heap.size w wr∧OwnN wr w.heap.size (fun b=>w.heap.size≤b) v (ks.take i)
theorem Cc (S:Nat→Prop) (ks:List Sn) (hsm:Sn.smallL ks) (hkl:ks.length≤1000000) (IH0:∀y∈ks,SCloneC y) (a:Option Addr) (c:Nat) (w:World) (hx:SnSl w S a ks.length ks) :
  Calls Tryz.prog 25 #[.slice a ks.length c] w fun e w'=>∃a' c',e=.returned (.slice a' ks.length c')∧SnSl w' (fun b=>w.heap.size≤b) a' ks.length ks∧Below w.heap.size w w':=by
 have IH:=ab IH0;have HX:=ab hx;have HSM:=ab (fun y hy=>Sn.small_mem hsm y hy);obtain⟨iN,hiN⟩:=info_parts px;clear hx hsm IH0;go_enter Tryz.func25,Tryz.ntmps25
 go_wp2
 go_loopw [3,8] (fun v q wr=>CkRel ks w v q wr) (fun _ q _=>ks.length-(intOf q).toNat)
 case atStart=>exact⟨0,rfl,by omega,Below.refl _ _,by rw [List.take_zero];exact OwnN.nil _ _ _⟩
 case round =>
  obtain⟨i,rfl,hi,hb,ho⟩:=hrel;have hB0:=hb.size;cases hd:ks.drop i with
  | nil =>
   have h2:ks.length≤i:=it;rw [List.take_of_length_le h2] at ho;obtain⟨va,vc,rfl⟩:=ho.form;have HO:=ab ho.sl.2;clear hd ho;go_wp2
   go_ret
   exact⟨va,vc,rfl,HO.out.mono fun b hb _=>by rcases hb with hb|hb<;>exact hb,hb⟩
  | cons y r =>
   obtain⟨h2,h3,hr⟩:=lC hd;have hym:=JH h3;have HTK:Hid (ks.take (i+1)=ks.take i++[y]):=ab (by rw [List.take_add_one,h3];rfl);have hys:=HSM.out y hym;have hyc:=IH.out y hym;obtain⟨yk,yt,yn,yh,yu,yf,yo,ys⟩:=y;obtain⟨hyf,hyo,hysl,hyt,_⟩:=hys;have HYF:=ab hyf;have HYC:Hid (∀(S:Nat→Prop) (ka:Option Addr) (kc:Nat) (w:World),SnSl w S ka ys.length ys →
    Calls Tryz.prog 25 #[.slice ka ys.length kc] w fun e w'=>∃a' c',e=.returned (.slice a' ys.length c')∧SnSl w' (fun b=>w.heap.size≤b) a' ys.length ys∧Below w.heap.size w w'):=ab hyc
   obtain⟨b,o,cc,hae,hS,hbB,hyv,hcc⟩:=(HX.out.later hb).at_ h3;have hrg:wr.rangeAt b (o+i*18) cc:=fun j v hj=>by rw [J4];exact hcc j v hj
   have hcl:=hyv.len;obtain⟨fc,oa,oc,ka,kc,hA⟩:=hyv.at_;obtain⟨W5,hW5,HW5,hb5,HBX⟩:=sM wr cc;have hz5:W5.heap.size=wr.heap.size+1:=by rw [hW5];simp
   have HONE:Hid (∀u∈cc.toArray.toList,u.oneCell'=true):=ab (fun u hu=>hyv.one u iY);have HFV:=ab (hA.fv.keep (Kept.all hb5));have HOV:=ab (hA.ov.keep (Kept.all hb5));have HKV:=ab (hA.kv.later hb5);have hfl:=hA.fl;have HA:=ab hA;have hbw5:=hb.trans (hb5.mono hB0);have HO5:=ab ho;have HB5:=ab hb5;have hli:(ks.take i).length=i:=by rw [JN];omega
   subst hae;clear hd hr h3 hyv hcc hW5 hA hyc hym ho hyf;go_upto_region 5 with(first
     | (refine kV rfl 44 (.tmp 10) rfl b (o+i*18) rfl cc _ hrg kX rfl gY ?_)
     | (refine ll rfl 44 (.tmp 5) (.tmp 11) rfl (wr.heap.size) (cc.toArray) rfl rfl 44 _ (heap_alloc_new wr _) (ld) iH rfl (HONE.out) (W:=W5) (HW5.out) ?_))
   clear HW5 hrg;refine mn 10 gT gT (fun A0 W0 L a w'=>KRI W5.heap.size wr.heap.size fc yf oa oc yo ka kc ys A0 W0 L a w') ?_;intro A0 HAA;have hsz:A0.tmps.size=30:=by rw [HAA.out];rfl
   have hnd:[12,13,14,15,16,17,18,19,20,21].Nodup:=gR;have hbd:∀d∈[12,13,14,15,16,17,18,19,20,21],d<A0.tmps.size:=by rw [hsz];decide
   have e5:A0.tmps[5]?=some (.pointer (some ⟨wr.heap.size,0,none⟩)):=by rw [HAA.out];rfl
   have hM:=KFs_mono W5.heap.size wr.heap.size fc yf oa oc yo ka kc ys;have hbx:∀w',Below W5.heap.size W5 w'→w'.heap[wr.heap.size]?=some (.cells cc.toArray 44 (0,0)):=fun w' h=>(h.block _ (kT HBX.out)).trans HBX.out
   refine⟨?_,?_,?_⟩
   ·obtain⟨V,hV⟩:=nT A0 [12,13,14,15,16,17,18,19,20,21]
    exact⟨V,⟨hV⟩,BelI.start _ _ _⟩
   ·refine⟨?_,?_,?_,?_,?_,?_,?_,?_,?_,?_,trivial⟩
    ·intro L a w' hL hd hI
     obtain⟨V,hf,hB⟩:=hI;simp [lm,Region.binds] at hd
     have e:=lU ((hf.out (t:=5) gR).trans e5);refine lR (lg rfl) (v:=.pointer (some ⟨wr.heap.size,5,none⟩)) (w':=w') ig ?_;exact ey
    ·intro L a w' hL hd hI
     obtain⟨V,hf,hB⟩:=hI;simp [lm,Region.binds] at hd
     obtain⟨_,_,_,_,_,_,_,q8⟩:=HA.out.box (hbx w' hB.ext);refine kV rfl 41 (.tmp 12) rfl wr.heap.size 5 (lU ((hf.ins hnd hbd 0 rfl).trans (Jp some (show V 0=.pointer (some ⟨wr.heap.size,5,none⟩) from hB.at_ 0 gW)))) fc _ q8 mG rfl (by rw [oT,hfl]) ?_;exact dy
    ·intro L a w' hL hd hI
     obtain⟨V,hf,hB⟩:=hI;simp [lm,Region.binds] at hd
     have e:=(lU ((hf.ins hnd hbd 1 rfl).trans (Jp some (show V 1=.agg fc.toArray from hB.at_ 1 gW))));refine qS (lg rfl) (qV (vs:=#[.agg fc.toArray]) rfl Tryz.func43 gT il) ((EC S yf HYF.out fc w' (HFV.out.keep (Kept.all hB.ext))).mono ?_);rintro e9 w9 ⟨fc',rfl,hv9,hb9⟩;refine⟨_,rfl,?_⟩;exact⟨_,hf.put hnd hbd 2 rfl _,hB.step hM 2 hb9 ⟨fc',rfl,hv9.mono fun b hb _=>Jv hB.ext.size hb⟩⟩
    ·intro L a w' hL hd hI
     obtain⟨V,hf,hB⟩:=hI;simp [lm,Region.binds] at hd
     have e:=lU ((hf.out (t:=5) gR).trans e5);refine lR (lg rfl) (v:=.pointer (some ⟨wr.heap.size,16,none⟩)) (w':=w') ig ?_;exact ez
    ·intro L a w' hL hd hI
     obtain⟨V,hf,hB⟩:=hI;simp [lm,Region.binds] at hd
     obtain⟨_,_,_,_,_,q6,_,_⟩:=HA.out.box (hbx w' hB.ext);refine lR (lg rfl) (qG rfl ((hf.ins hnd hbd 3 rfl).trans (Jp some (show V 3=.pointer (some ⟨wr.heap.size,16,none⟩) from hB.at_ 3 gW))) (u:=.slice oa yo.length oc) kP) ?_;exact⟨_,hf.put hnd hbd 4 rfl _,hB.same hM 4 rfl⟩
    ·intro L a w' hL hd hI
     obtain⟨V,hf,hB⟩:=hI;simp [lm,Region.binds] at hd
     have e:=(lU ((hf.ins hnd hbd 4 rfl).trans (Jp some (show V 4=.slice oa yo.length oc from hB.at_ 4 gW))));refine qS (lg rfl) (qV (vs:=#[.slice oa yo.length oc]) rfl Tryz.func44 gT il) ((BG oa yo.length oc yo w' rfl (HOV.out.keep (Kept.all hB.ext)).sl hyo).mono ?_);rintro e9 w9 ⟨a9,c9,rfl,hv9,hb9⟩;refine⟨_,rfl,?_⟩;exact⟨_,hf.put hnd hbd 5 rfl _,hB.step hM 5 hb9 ⟨a9,c9,rfl,hv9.mono fun b hb _=>Jv hB.ext.size hb⟩⟩
    ·intro L a w' hL hd hI
     obtain⟨V,hf,hB⟩:=hI;simp [lm,Region.binds] at hd
     have e:=lU ((hf.out (t:=5) gR).trans e5);refine lR (lg rfl) (v:=.pointer (some ⟨wr.heap.size,17,none⟩)) (w':=w') ig ?_;exact⟨_,hf.put hnd hbd 6 rfl _,hB.same hM 6 rfl⟩
    ·intro L a w' hL hd hI
     obtain⟨V,hf,hB⟩:=hI;simp [lm,Region.binds] at hd
     obtain⟨_,_,_,_,_,_,q7,_⟩:=HA.out.box (hbx w' hB.ext);refine lR (lg rfl) (qG rfl ((hf.ins hnd hbd 6 rfl).trans (Jp some (show V 6=.pointer (some ⟨wr.heap.size,17,none⟩) from hB.at_ 6 gW))) (u:=.slice ka ys.length kc) kP) ?_;exact⟨_,hf.put hnd hbd 7 rfl _,hB.same hM 7 rfl⟩
    ·intro L a w' hL hd hI
     obtain⟨V,hf,hB⟩:=hI;simp [lm,Region.binds] at hd
     have e:=(lU ((hf.ins hnd hbd 7 rfl).trans (Jp some (show V 7=.slice ka ys.length kc from hB.at_ 7 gW))));refine qS (lg rfl) (qV (vs:=#[.slice ka ys.length kc]) rfl Tryz.func25 gT il) ((HYC.out S ka kc w' (HKV.out.later hB.ext)).mono ?_);rintro e9 w9 ⟨a9,c9,rfl,hv9,hb9⟩;refine⟨_,rfl,?_⟩;exact⟨_,hf.put hnd hbd 8 rfl _,hB.step hM 8 hb9 ⟨a9,c9,rfl,hv9.mono fun b hb _=>Jv hB.ext.size hb⟩⟩
    ·intro L a w' hL hd hI
     obtain⟨V,hf,hB⟩:=hI;simp [lm,Region.binds] at hd
     have e:=lU ((hf.out (t:=5) gR).trans e5);refine lR (lg rfl) (v:=.pointer (some ⟨wr.heap.size,5,none⟩)) (w':=w') ig ?_;exact⟨_,hf.put hnd hbd 9 rfl _,hB.same hM 9 rfl⟩
   ·intro L a w' hL hI
    obtain⟨V,hf,hB⟩:=hI;obtain⟨fc',hv2,hfv⟩:=(show TfP W5.heap.size yf (V 2) w' from hB.at_ 2 (hL 2 gR));obtain⟨a5,c5,hv5,hov⟩:=(show SlP W5.heap.size 1 yo.length (mE yo) (V 5) w' from hB.at_ 5 (hL 5 gR));obtain⟨a8,c8,hv8,hkv⟩:=(show SnP W5.heap.size ys (V 8) w' from hB.at_ 8 (hL 8 gR));have hv9:V 9=.pointer (some ⟨wr.heap.size,5,none⟩):=hB.at_ 9 (hL 9 gR);have hbx':=hbx w' hB.ext;have ha:=hf.eq;have hA:=HAA.out;obtain⟨rk,rch,rng,rrs,rlo,rhi,rlz,rks,ra,rcp,rka,rkc,fa,fcp,hc⟩:=hfv.open_;have hfe:=hc.eq;rw [hfe] at hv2 hfv;have HFV':=ab hfv;have HOV':=ab hov;have HKV':=ab hkv;have HEX:=ab hB.ext;have hcq:=HA.out.eq;have hzw:=hB.ext.size;subst ha;subst hA;simp only [mW,hv2,hv5,hv8,hv9,List.drop_succ_cons,JZ];have HBXX:=ab hbx';clear hf hB hM hbd hsz e5 HAA hv2 hv5 hv8 hv9 hfv hov hkv hL hc hfe hbx HFV HOV HKV HYC HYF hnd;obtain⟨z5,hz5'⟩:=oI hbx' 5 gN;obtain⟨z6,hz6'⟩:=oI hbx' 6 gN;obtain⟨z7,hz7'⟩:=oI hbx' 7 gN;obtain⟨z8,hz8'⟩:=oI hbx' 8 gN;obtain⟨z9,hz9'⟩:=oI hbx' 9 gN;obtain⟨z10,hz10'⟩:=oI hbx' 10 gN;obtain⟨z11,hz11'⟩:=oI hbx' 11 gN;obtain⟨z12,hz12'⟩:=oI hbx' 12 gN;obtain⟨z13,hz13'⟩:=oI hbx' 13 gN;obtain⟨z14,hz14'⟩:=oI hbx' 14 gN;obtain⟨z15,hz15'⟩:=oI hbx' 15 gN;obtain⟨z16,hz16'⟩:=oI hbx' 16 gN;obtain⟨z17,hz17'⟩:=oI hbx' 17 gN;have zf:=mg hbx';obtain⟨W7,hW7⟩:∃W7,W7=(((((((((((((w'.setCell ⟨wr.heap.size,5,none⟩ (.int .i64 rk)).setCell ⟨wr.heap.size,6,none⟩ (.string ⟨rch.toArray⟩)).setCell ⟨wr.heap.size,7,none⟩ (.bool rng)).setCell ⟨wr.heap.size,8,none⟩ (.slice ra rrs.length rcp)).setCell ⟨wr.heap.size,9,none⟩ (.int .i64 rlo)).setCell ⟨wr.heap.size,10,none⟩ (.int .i64 rhi)).setCell ⟨wr.heap.size,11,none⟩ (.bool rlz)).setCell ⟨wr.heap.size,12,none⟩ (.slice rka rks.length rkc)).setCell ⟨wr.heap.size,13,none⟩ (.slice fa yf.fs.length fcp)).setCell ⟨wr.heap.size,14,none⟩ (.bool yf.fold)).setCell ⟨wr.heap.size,15,none⟩ (.bool yf.all)).setCell ⟨wr.heap.size,16,none⟩ (.slice a5 yo.length c5)).setCell ⟨wr.heap.size,17,none⟩ (.slice a8 ys.length c8)):=⟨_,rfl⟩;have hW7':W7=setsL wr.heap.size 5 [.int .i64 rk,.string ⟨rch.toArray⟩,.bool rng,.slice ra rrs.length rcp,.int .i64 rlo,.int .i64 rhi,.bool rlz,.slice rka rks.length rkc,.slice fa yf.fs.length fcp,.bool yf.fold,.bool yf.all,.slice a5 yo.length c5,.slice a8 ys.length c8] w':=hW7;have HX7:Hid (W7.heap[wr.heap.size]?=some (.cells #[.int .i64 yk,.string ⟨yt.toArray⟩,.int .i64 yn,.bool yh,.bool yu,.int .i64 rk,.string ⟨rch.toArray⟩,.bool rng,.slice ra rrs.length rcp,.int .i64 rlo,.int .i64 rhi,.bool rlz,.slice rka rks.length rkc,.slice fa yf.fs.length fcp,.bool yf.fold,.bool yf.all,.slice a5 yo.length c5,.slice a8 ys.length c8] 44 (0,0))):=ab (by
     have h0:=HBXX.out;rw [hcq] at h0;rw [hW7'];exact rh (post:=[]) [.int .i64 rk,.string ⟨rch.toArray⟩,.bool rng,.slice ra rrs.length rcp,.int .i64 rlo,.int .i64 rhi,.bool rlz,.slice rka rks.length rkc,.slice fa yf.fs.length fcp,.bool yf.fold,.bool yf.all,.slice a5 yo.length c5,.slice a8 ys.length c8] (fc++[.slice oa yo.length oc,.slice ka ys.length kc]) [.int .i64 yk,.string ⟨yt.toArray⟩,.int .i64 yn,.bool yh,.bool yu] (by rw [h0];unfold snc;simp) (by simp [hfl]))
    have hk7:Kept (fun b=>W5.heap.size≤b) w' W7:=⟨by rw [hW7',mP];exact Ju _,fun b hb _=>by have:W5.heap.size≤b:=hb;rw [hW7',mL gN]⟩;have HBW:Hid (Below wr.heap.size wr W7):=ab (by rw [hW7'];exact wU (HB5.out.trans (HEX.out.mono gN)) (Ju _) _ _);have HV7:Hid (SnV W7 (fun b=>W5.heap.size≤b) [.int .i64 yk,.string ⟨yt.toArray⟩,.int .i64 yn,.bool yh,.bool yu,.int .i64 rk,.string ⟨rch.toArray⟩,.bool rng,.slice ra rrs.length rcp,.int .i64 rlo,.int .i64 rhi,.bool rlz,.slice rka rks.length rkc,.slice fa yf.fs.length fcp,.bool yf.fold,.bool yf.all,.slice a5 yo.length c5,.slice a8 ys.length c8] (.mk yk yt yn yh yu yf yo ys)):=ab (SnV.close (fc:=[.int .i64 rk,.string ⟨rch.toArray⟩,.bool rng,.slice ra rrs.length rcp,.int .i64 rlo,.int .i64 rhi,.bool rlz,.slice rka rks.length rkc,.slice fa yf.fs.length fcp,.bool yf.fold,.bool yf.all]) (HFV'.out.keep hk7) (HOV'.out.keep hk7) (HKV'.out.keep hk7));have hz7:W7.heap.size=w'.heap.size:=by rw [hW7',mP]
    have HON7:=ab HV7.out.one;clear hW7' hbx' hk7;go_upto_region 6 with fail
    rw [←hW7];clear hW7 hz5' hz6' hz7' hz8' hz9' hz10' hz11' hz12' hz13' hz14' hz15' hz16' hz17' zf;have hb8:Below W7.heap.size W7 (W7.alloc (.cells #[.int .i64 yk,.string ⟨yt.toArray⟩,.int .i64 yn,.bool yh,.bool yu,.int .i64 rk,.string ⟨rch.toArray⟩,.bool rng,.slice ra rrs.length rcp,.int .i64 rlo,.int .i64 rhi,.bool rlz,.slice rka rks.length rkc,.slice fa yf.fs.length fcp,.bool yf.fold,.bool yf.all,.slice a5 yo.length c5,.slice a8 ys.length c8] 44)):=(Below.refl _ _).alloc (Ju _) _;have ho7:=(HO5.out.later HBW.out).later hb8;obtain⟨va,vc,rfl⟩:=HO5.out.form;obtain⟨css,hown,hrv⟩:=ho7;rw [hli] at hown hrv;have HOW:=ab hown;have HRV:=ab hrv;have HSL:=ab (Sl.lit (n:=1) (sz:=18) (heap_alloc_new W7 (.cells #[.int .i64 yk,.string ⟨yt.toArray⟩,.int .i64 yn,.bool yh,.bool yu,.int .i64 rk,.string ⟨rch.toArray⟩,.bool rng,.slice ra rrs.length rcp,.int .i64 rlo,.int .i64 rhi,.bool rlz,.slice rka rks.length rkc,.slice fa yf.fs.length fcp,.bool yf.fold,.bool yf.all,.slice a5 yo.length c5,.slice a8 ys.length c8] 44)) rfl);have HV8:=ab (HV7.out.later hb8);have hlt:=HO5.out.lt;rw [hli];clear hown hrv;have hsz9:w.heap.size≤W7.heap.size+1:=gN;have hi9:i≤10000000:=gN;have HZ7:=ab hz7;clear hz7;have HON8:Hid (∀u∈(#[.int .i64 yk,.string ⟨yt.toArray⟩,.int .i64 yn,.bool yh,.bool yu,.int .i64 rk,.string ⟨rch.toArray⟩,.bool rng,.slice ra rrs.length rcp,.int .i64 rlo,.int .i64 rhi,.bool rlz,.slice rka rks.length rkc,.slice fa yf.fs.length fcp,.bool yf.fold,.bool yf.all,.slice a5 yo.length c5,.slice a8 ys.length c8]:Array Value).toList,u.oneCell'=true):=HON7;go_wp2_with (first|(refine kV rfl 44 (.tmp 5) rfl (wr.heap.size) 0 rfl ([.int .i64 yk,.string ⟨yt.toArray⟩,.int .i64 yn,.bool yh,.bool yu,.int .i64 rk,.string ⟨rch.toArray⟩,.bool rng,.slice ra rrs.length rcp,.int .i64 rlo,.int .i64 rhi,.bool rlz,.slice rka rks.length rkc,.slice fa yf.fs.length fcp,.bool yf.fold,.bool yf.all,.slice a5 yo.length c5,.slice a8 ys.length c8]) _ (lc (ds:=[]) (HX7.out)) kX rfl iD ?_)|(at_builtin;refine lJ w.heap.size 44 rfl _ _ 22 rfl Tryz.underlying22 hiN rfl gR rfl HOW.out rfl HSL.out HON8.out hi9 gR gR (by simp only [JO];exact hsz9) ?_))
    intro v1 w4 ho1 hg1 hb4 hmv;have hox4:OwnN w4 w.heap.size (fun b=>w.heap.size≤b) v1 (ks.take (i+1)):=by
     rw [HTK.out];refine OwnN.app (ds:=[_]) (m:=1) HRV.out (.cons (HV8.out.mono fun b hb _=>?_) .nil) rfl ?_ hg1 hmv
     ·have hb':W5.heap.size≤b:=hb
      exact⟨by show w.heap.size≤b;omega,fun e=>by have:=(hlt b (show (Value.slice va (ks.take i).length vc).ownBlock=some b from(show (Value.slice va (ks.take i).length vc).ownBlock=(Value.slice va i vc).ownBlock by rw [hli]).trans e)).2;omega⟩
     ·rw [hli];simpa using ho1
    have hb4':Below w.heap.size w w4:=(hb.trans ((HBW.out.trans (hb8.mono HBW.out.size)).mono hB0)).trans hb4;clear ho1 hg1 hmv;go_wp2
    go_roundw
    case rel=>exact⟨i+1,by go_num,by omega,hb4',hox4⟩
    case measure=>simp [intOf];omega
theorem t7 (S:Nat→Prop):∀(N:Nat) (ks:List Sn),Sn.partsL ks<N→Sn.smallL ks→ks.length≤1000000→∀(a:Option Addr) (c:Nat) (w:World),SnSl w S a ks.length ks →
  Calls Tryz.prog 25 #[.slice a ks.length c] w fun e w'=>∃a' c',e=.returned (.slice a' ks.length c')∧SnSl w' (fun b=>w.heap.size≤b) a' ks.length ks∧Below w.heap.size w w'
 | 0,ks,h,_,_,_,_,_,_=>by omega
 | N+1,ks,h,hsm,hkl,a,c,w,hx=>Cc S ks hsm hkl (fun y hy S' ka kc w' hv=>by
   have h1:=Sn.parts_mem hy;have h2:=Sn.small_mem hsm y hy;obtain⟨yk,yt,yn,yh,yu,yf,yo,ys⟩:=y;obtain⟨_,_,h3,_,h4⟩:=h2;simp only [Sn.parts] at h1;exact t7 S' N ys gN h4 h3 ka kc w' hv) a c w hx
open Go.RowKit
theorem mQ {P:Program} {ops:Array Oper} {rest:List Oper} {op:Oper} {a:Act} {w:World} {Q:Exit→Act→World→Prop} (hw:Region.wanted op (yielded ops a.tmps)=true) (ty:TypeId) (x:Operand) (ho:op.op=.load ty x)
  (b o:Nat) (hx:a.eval x=.pointer (some ⟨b,o,none⟩)) (cs:List Value) (d:TypeDesc) (hc:w.rangeAt b o cs)
  (hu:P.underlying ty=some d) (hd:d.isRow=true) (hi:(P.info? ty).map (·.size)=some cs.length)
  (h:wpList P ops Q rest (a.put op.dst (.agg cs.toArray)) w):wpList P ops Q (op::rest) a w:=by
 unfold wpList;rw [Jl hw];refine .inl ?_;unfold Oper.wp execOp;simp only [ho,hx,Instr.loadAt,Instr.sureAddr,Sem.run_bind,Sem.run_pure,Result.andThen_ok,run_loadVar_mid w b o ty cs d hc hu hd hi];exact h
def I1 (y:Sn):Prop:=∀(S S':Nat→Prop) (cc cc':List Value) (w:World),SnV w S cc y→SnV w S' cc' y →
 Calls Tryz.prog 27 #[.agg cc.toArray,.agg cc'.toArray] w fun e w'=>e=.returned (.bool true)∧Below w.heap.size w w'
theorem NEqualF (S S':Nat→Prop) (a a':Option Addr) (c c':Nat) (ks:List Sn) (w:World) (IH:∀y∈ks,I1 y) (h:SnSl w S a ks.length ks) (h':SnSl w S' a' ks.length ks) (hl:ks.length≤1000000) :
  Calls Tryz.prog 26 #[.slice a ks.length c,.slice a' ks.length c',.func (.func 27) #[] #[]] w fun e w'=>e=.returned (.bool true)∧Below w.heap.size w w':=by
 have H1:=ab h;have H2:=ab h';have HIH:=ab IH;clear h h' IH;go_enter Tryz.func26,Tryz.ntmps26
 go_wp2
 go_loopw [17] (fun q wr=>Jf ks.length w q wr) (fun q _=>ks.length-(intOf q).toNat)
 case atStart=>exact dD
 case round =>
  obtain⟨i,hi,rfl,hb⟩:=hrel;cases hd:ks[i]? with
  | none =>
   have h2:ks.length≤i:=it;exact dE
  | some y =>
   have h2:=(Jx.1 hd).1;have HY:=ab (HIH.out y (JH hd));obtain⟨b,o,cc,rfl,_,hbB,hyv,hcc⟩:=(H1.out.later hb).at_ hd;obtain⟨b',o',cc',rfl,_,hbB',hyv',hcc'⟩:=(H2.out.later hb).at_ hd;have hrg:wr.rangeAt b (o+i*18) cc:=fun j v hj=>by rw [J4];exact hcc j v hj
   have hcl:=hyv.len;have hcl':=hyv'.len;obtain⟨W5,hW5,HW5,hb5,-⟩:=sM wr cc;have hx5:W5.heap[wr.heap.size]?=some (.cells cc.toArray 44 (0,0)):=by rw [hW5];exact heap_alloc_new _ _
   have hrg':W5.rangeAt b' (o'+i*18) cc':=fun j v hj=>by rw [J4];exact(hb5.cell hbB').trans (hcc' j v hj)
   obtain⟨W6,hW6,HW6,hb6,-⟩:=sM W5 cc';have HX6:Hid (W6.heap[wr.heap.size]?=some (.cells cc.toArray 44 (0,0))):=ab ((hb6.block _ (kT hx5)).trans hx5);have HY6:Hid (W6.heap[W5.heap.size]?=some (.cells cc'.toArray 44 (0,0))):=ab (by rw [hW6];exact heap_alloc_new _ _);have hb56:=bel2 hb5 hb6;have HC:=ab (HY.out S S' cc cc' W6 (hyv.later hb56) (hyv'.later hb56));have HON:Hid (∀u∈cc.toArray.toList,u.oneCell'=true):=ab (fun u hu=>hyv.one u iY);have HON':Hid (∀u∈cc'.toArray.toList,u.oneCell'=true):=ab (fun u hu=>hyv'.one u iY);clear hd hyv hyv' HY hcc hcc' hW5 hW6 hx5;go_wp2_with (first
    | (refine kV rfl 44 (.tmp 20) rfl b (o+i*18) rfl cc _ hrg kX rfl gY ?_)
    | (refine kV rfl 44 (.tmp 24) rfl b' (o'+i*18) rfl cc' _ hrg' kX rfl (by rw [ld,hcl']) ?_)
    | (refine kV rfl 44 (.tmp 8) rfl wr.heap.size 0 rfl cc _ (lc (ds:=[]) (by simpa using HX6.out)) kX rfl gY ?_)
    | (refine kV rfl 44 (.tmp 9) rfl W5.heap.size 0 rfl cc' _ (lc (ds:=[]) (by simpa using HY6.out)) kX rfl (by rw [ld,hcl']) ?_)
    | (refine ll rfl 44 (.tmp 8) (.tmp 21) rfl (wr.heap.size) (cc.toArray) rfl rfl 44 _ (heap_alloc_new wr _) (ld) iH rfl (HON.out) (W:=W5) (HW5.out) ?_)
    | (refine ll rfl 44 (.tmp 9) (.tmp 25) rfl (W5.heap.size) (cc'.toArray) rfl rfl 44 _ (heap_alloc_new W5 _) (ld) (by simp [hcl']) rfl (HON'.out) (W:=W6) (HW6.out) ?_)
    | (go_at_call 27;refine HC.out.mono ?_))
   first|rintro e w2 rfl hb2|rintro e w2 ⟨rfl,hb2⟩
   have hb3:Below w.heap.size w w2:=bel2 (bel2 hb hb56) hb2;clear hb2 HC hb56 hb5 hb6;go_wp2
   exact⟨⟨i+1,by omega,by go_num,hb3⟩,by simp [intOf];omega⟩
theorem EQ (S S':Nat→Prop) (a a':Option Addr) (c c':Nat) (ks:List Sn) (w:World) (IH:∀y∈ks,I1 y) (h:SnSl w S a ks.length ks) (h':SnSl w S' a' ks.length ks) (hl:ks.length≤1000000) :
  Calls Tryz.prog 14 #[.slice a ks.length c,.slice a' ks.length c'] w fun e w'=>e=.returned (.bool true)∧Below w.heap.size w w':=by
 have HC:=ab (NEqualF S S' a a' c c' ks w IH h h' hl);clear IH h h';go_enter Tryz.func14,Tryz.ntmps14
 go_wp2_with (go_at_call 26;refine HC.out.mono ?_;rintro e w1 ⟨rfl,hb1⟩)
 go_ret
 exact⟨rfl,hb1⟩
def Eh (ks:List Sn):Prop:=∀(S S':Nat→Prop) (a a':Option Addr) (c c':Nat) (w:World),SnSl w S a ks.length ks→SnSl w S' a' ks.length ks →
 Calls Tryz.prog 14 #[.slice a ks.length c,.slice a' ks.length c'] w fun e w'=>e=.returned (.bool true)∧Below w.heap.size w w'
theorem FR {yk:Int} {yt:Str} {yn:Int} {yh yu:Bool} {yf:Tf} {yo:List Str} {ys:List Sn} (hf:yf.small) (ho:yo.length≤1000000) (HL:Eh ys):I1 (.mk yk yt yn yh yu yf yo ys):=by
 intro S S' cc cc' w hv hv';have hl:=hv.len;have hl':=hv'.len;obtain⟨fc,oa,oc,ka,kc,A⟩:=hv.at_;obtain⟨fc',oa',oc',ka',kc',A'⟩:=hv'.at_;obtain⟨W0,hW0⟩:∃W0,W0=(w.alloc (.cells cc.toArray 44)).alloc (.cells cc'.toArray 44):=⟨_,rfl⟩;have hb0:Below w.heap.size w W0:=by rw [hW0];exact((Below.refl _ _).alloc (Ju _) _).alloc gU _
 have HB1:Hid (W0.heap[w.heap.size]?=some (.cells cc.toArray 44 (0,0))):=ab ib;have HB2:Hid (W0.heap[w.heap.size+1]?=some (.cells cc'.toArray 44 (0,0))):=ab (by
  have:=heap_alloc_new (w.alloc (.cells cc.toArray 44)) (.cells cc'.toArray 44)
  rw [hW0];simpa using this)
 have HXE:=ab (Ht S S' yf hf fc fc' W0 (A.fv.keep (Kept.all hb0)) (A'.fv.keep (Kept.all hb0)));have HFL:=A.fl;have HFL':=A'.fl;have HA:=ab A;have HA':=ab A';have HW0:=ab hW0;have HLL:=ab HL;have HO:=ab ho;obtain⟨k0,k1,k2,k3,k4,k16,k17,kr⟩:=A.box HB1.out;obtain⟨q0,q1,q2,q3,q4,q16,q17,qr⟩:=A'.box HB2.out;clear hv hv' A A' hW0 HL ho;go_enter Tryz.func27,Tryz.ntmps27
 go_upto_region 1 with fail
 rw [←HW0.out];clear HW0;go_wp2_with (first
  | (refine mQ kQ 41 (.tmp 39) rfl w.heap.size 5 rfl fc _ kr mG rfl (by rw [oT,HFL]) ?_)
  | (refine mQ kQ 41 (.tmp 41) rfl (w.heap.size+1) 5 rfl fc' _ qr mG rfl (by rw [oT,HFL']) ?_)
  | (go_at_call 45;refine HXE.out.mono ?_))
 first|rintro e w1 rfl hb1|rintro e w1 ⟨rfl,hb1⟩
 have hx1:=(hb1.block _ (kT HB1.out)).trans HB1.out;have hx2:=(hb1.block _ (kT HB2.out)).trans HB2.out;clear k0 k1 k2 k3 k4 k16 k17 kr q0 q1 q2 q3 q4 q16 q17 qr;obtain⟨_,_,_,_,_,k16,_,_⟩:=HA.out.box hx1;obtain⟨_,_,_,_,_,q16,_,_⟩:=HA'.out.box hx2;have hb01:=bel2 hb0 hb1;have HE:=ab (EqualStr oa oa' oc oc' yo w1 (HA.out.ov.keep (Kept.all hb01)).sl (HA'.out.ov.keep (Kept.all hb01)).sl HO.out);go_wp2_with (go_at_call 46;refine HE.out.mono ?_)
 first|rintro e w2 rfl hb2|rintro e w2 ⟨rfl,hb2⟩
 have hy1:=(hb2.block _ (kT hx1)).trans hx1;have hy2:=(hb2.block _ (kT hx2)).trans hx2;clear k16 q16 hx1 hx2;obtain⟨_,_,_,_,_,_,k17,_⟩:=HA.out.box hy1;obtain⟨_,_,_,_,_,_,q17,_⟩:=HA'.out.box hy2;have hb02:=bel2 hb01 hb2;have HS:=ab (HLL.out S S' ka ka' kc kc' w2 (HA.out.kv.later hb02) (HA'.out.kv.later hb02));go_wp2_with (go_at_call 14;refine HS.out.mono ?_)
 first|rintro e w3 rfl hb3|rintro e w3 ⟨rfl,hb3⟩
 have hb03:=bel2 hb02 hb3;clear k17 q17;go_wp2
 go_ret
 exact⟨rfl,hb03⟩
theorem A9:∀(N:Nat) (ks:List Sn),Sn.partsL ks<N→Sn.smallL ks→ks.length≤1000000→Eh ks
 | 0,ks,h,_,_=>by omega
 | N+1,ks,h,hsm,hl=>fun S S' a a' c c' w hx hx'=>EQ S S' a a' c c' ks w (fun y hy=>by
   have h1:=Sn.parts_mem hy;have h2:=Sn.small_mem hsm y hy;obtain⟨yk,yt,yn,yh,yu,yf,yo,ys⟩:=y;obtain⟨hf,ho,h3,_,h4⟩:=h2;simp only [Sn.parts] at h1;exact FR hf ho (A9 N ys gN h4 h3)) hx hx' hl
open Go.RowKit
theorem EqRow_no (a a':Option Addr) (n m c c':Nat) (w:World) (h:n≠m):Calls Tryz.prog 78 #[.slice a n c,.slice a' m c'] w fun e w'=>e=.returned (.bool false)∧Below w.heap.size w w':=by
 have g:((n:Int) != (m:Int))=true:=by rw [bne_iff_ne];omega
 have g2:((n:Int)==(m:Int))=false:=by rw [JP];omega
 go_enter Tryz.func78,Tryz.ntmps78
 go_wp2
 go_ret
 exact⟨rfl,Below.refl _ _⟩
theorem EqFm_no (a a':Option Addr) (n m c c':Nat) (w:World) (h:n≠m):Calls Tryz.prog 63 #[.slice a n c,.slice a' m c'] w fun e w'=>e=.returned (.bool false)∧Below w.heap.size w w':=by
  have g:((n:Int) != (m:Int))=true:=by rw [bne_iff_ne];omega
  have g2:((n:Int)==(m:Int))=false:=by rw [JP];omega
  go_enter Tryz.func63,Tryz.ntmps63
  go_wp2
  go_ret
  exact⟨rfl,Below.refl _ _⟩
theorem EqFRx_no (a a':Option Addr) (n m c c':Nat) (v:Value) (w:World) (h:n≠m):Calls Tryz.prog 79 #[.slice a n c,.slice a' m c',v] w fun e w'=>e=.returned (.bool false)∧Below w.heap.size w w':=by
 have g:((n:Int) != (m:Int))=true:=by rw [bne_iff_ne];omega
 have g2:((n:Int)==(m:Int))=false:=by rw [JP];omega
 go_enter Tryz.func79,Tryz.ntmps79
 go_wp2
 go_ret
 exact⟨rfl,Below.refl _ _⟩
def zr8:List Value:=rxc 0 [] false none ([]:List Row).length 0 0 0 false none ([]:List Rx).length 0
theorem zr8_v (w:World) (S:Nat→Prop):RxV w S zr8 rx0:=RxV.close (SlS.none_ _ _ _ _) ⟨[],SlS.none_ _ _ _ _,.nil⟩
theorem I6 (S:Nat→Prop) (x:Rx) (hsm:x.small) (cc:List Value) (w:World) (hv:RxV w S cc x) :
  Calls Tryz.prog 62 #[.agg cc.toArray,.agg zr8.toArray] w fun e w'=>e=.returned (.bool (rxZ x))∧Below w.heap.size w w':=by
 by_cases hz:rxZ x=true
 ·rw [hz]
  obtain rfl:x=rx0:=by
   obtain⟨k,c,ng,rs,lo,hi,lz,ks⟩:=x;simp only [rxZ,Jy,Jj,List.isEmpty_iff,J9] at hz;obtain⟨rfl,rfl,rfl,rfl,rfl,rfl,rfl,rfl⟩:=hz;rfl
  exact GA w hsm hv (zr8_v w S)
 ·have hzf:rxZ x=false:=by simpa using hz
  rw [hzf];obtain⟨k,c,ng,rs,lo,hi,lz,ks⟩:=x;obtain⟨ra,rc,ka,kc,rfl,hrs,hks⟩:=hv.box';clear hsm;have hbn:Below w.heap.size w ((w.alloc (.cells (rxc k c ng ra rs.length rc lo hi lz ka ks.length kc).toArray 38)).alloc (.cells zr8.toArray 38)):=((Below.refl _ _).alloc (Ju _) _).alloc gU _;obtain⟨w0,hw0⟩:∃w0,w0=(w.alloc (.cells (rxc k c ng ra rs.length rc lo hi lz ka ks.length kc).toArray 38)).alloc (.cells zr8.toArray 38):=⟨_,rfl⟩;rw [←hw0] at hbn;have hx1:w0.heap[w.heap.size]?=some (.cells (rxc k c ng ra rs.length rc lo hi lz ka ks.length kc).toArray 38 (0,0)):=by rw [hw0,Below.heap_alloc _ _ _ gU];exact heap_alloc_new w _
  have hx2:w0.heap[w.heap.size+1]?=some (.cells zr8.toArray 38 (0,0)):=by
   rw [hw0];have:=heap_alloc_new (w.alloc (.cells (rxc k c ng ra rs.length rc lo hi lz ka ks.length kc).toArray 38)) (.cells zr8.toArray 38);simpa using this
  have HX1:=ab hx1;have HX2:=ab hx2;have HRS:Hid (Sl w0 w0.heap.size ra 2 rs.length (lw rs)):=ab ((hrs.keep hbn).mono hbn.size);have hl:([]:List Row).length=0:=rfl;have hl2:([]:List Rx).length=0:=rfl;unfold zr8 rxc at hw0 HX2 ⊢;rw [hl,hl2] at hw0 HX2 ⊢;unfold rxc at HX1;obtain⟨rn,hrn⟩:∃rn,rs.length=rn:=⟨_,rfl⟩;rw [hrn] at hw0 HX1 HRS ⊢;obtain⟨e0,e1,e2,e3,e4,e5,e6,e7,e8⟩:=kY HX1.out;obtain⟨d0,d1,d2,d3,d4,d5,d6,d7,d8⟩:=kY HX2.out;clear hks hrs hv hx1 hx2 hl hl2 hz;by_cases c0:k=0
  ·subst c0
   by_cases c1:c=[]
   ·subst c1
    cases ng with
    | true =>
     clear hzf;exact cE
    | false =>
     by_cases c3:rn=0
     ·subst c3
      obtain rfl:rs=[]:=Jm hrn;clear hrn;have HEQ:=ab (xQ ra none rc 0 [] w0 HRS.out (Sl.none_ _ _ _ _) gU);have HEQ':Hid (Calls Tryz.prog 78 #[.slice ra 0 rc,.slice none 0 0] w0 fun e w'=>e=.returned (.bool true)∧Below w0.heap.size w0 w'):=HEQ;clear HEQ HRS;by_cases c4:lo=0
      ·subst c4
       by_cases c5:hi=0
       ·subst c5
        cases lz with
        | true =>
         clear hzf;exact ba
        | false =>
         have hkl:ks.length≠0:=fun e=>by
          obtain rfl:ks=[]:=Jm e;simp [rxZ] at hzf
         have HEF:=ab (fun w=>EqFRx_no ka none ks.length 0 kc 0 (.func (.func 62) #[] #[]) w hkl);clear hzf;go_enter Tryz.func62,Tryz.ntmps62
         go_upto_region 1 with fail
         rw [←hw0];clear hw0;go_wp2_with (go_at_call 78;refine HEQ'.out.mono ?_)
         first|rintro e w1 rfl hb1|rintro e w1 ⟨rfl,hb1⟩
         obtain⟨e0,e1,e2,e3,e4,e5,e6,e7,e8⟩:=kY ((hb1.block _ (kT HX1.out)).trans HX1.out);obtain⟨d0,d1,d2,d3,d4,d5,d6,d7,d8⟩:=kY ((hb1.block _ (kT HX2.out)).trans HX2.out);replace hbn:=bel2 hbn hb1;go_wp2_with (go_at_call 79;refine(HEF.out _).mono ?_)
         first|rintro e w2 rfl hb2|rintro e w2 ⟨rfl,hb2⟩
         replace hbn:=bel2 hbn hb2;go_wp2
         go_ret
         exact⟨rfl,hbn⟩
       ·have g5:(hi==0)=false:=by rw [JP];exact c5
        clear hzf c5;exact ba
      ·have g4:(lo==0)=false:=by rw [JP];exact c4
       clear hzf c4;exact ba
     ·have HEQ:=ab (fun w=>EqRow_no ra none rn 0 rc 0 w c3)
      clear hzf c3 HRS hrn;go_enter Tryz.func62,Tryz.ntmps62
      go_upto_region 1 with fail
      rw [←hw0];clear hw0;go_wp2_with (go_at_call 78;refine(HEQ.out _).mono ?_)
      first|rintro e w1 rfl hb1|rintro e w1 ⟨rfl,hb1⟩
      replace hbn:=bel2 hbn hb1;go_wp2
      go_ret
      exact⟨rfl,hbn⟩
   ·have hne:(⟨c.toArray⟩:ByteArray)≠⟨#[]⟩:=fun e=>c1 kN
    have hq1:(c==([]:Str))=false:=by simpa using c1
    have hq3:decide (c=([]:Str))=false:=JT c1;clear hzf c1;exact cE
  ·have g0:(k==0)=false:=by rw [JP];exact c0
   clear hzf c0;exact cE
def zr11:List Value:=zr8++[.slice none 0 0,.bool false,.bool false]
theorem xI (S:Nat→Prop) (f:Tf) (hsm:f.small) (fc:List Value) (w:World) (hv:TfV w S fc f) :
  Calls Tryz.prog 45 #[.agg fc.toArray,.agg zr11.toArray] w fun e w'=>e=.returned (.bool (tfZ f))∧Below w.heap.size w w':=by
 obtain⟨rk,rch,rng,rrs,rlo,rhi,rlz,rks,ra,rcp,rka,rkc,fa,fcp,hc⟩:=hv.open_;obtain⟨X,fs,fd,al⟩:=f;obtain⟨hx,hp,hfs⟩:=hsm;have hx1:X=.mk rk rch rng rrs rlo rhi rlz rks:=hc.rx;have hfce:fc=[.int .i64 rk,.string ⟨rch.toArray⟩,.bool rng,.slice ra rrs.length rcp,.int .i64 rlo,.int .i64 rhi,.bool rlz,.slice rka rks.length rkc,.slice fa fs.length fcp,.bool fd,.bool al]:=hc.eq;obtain⟨W0,hW0⟩:∃W0,W0=(w.alloc (.cells fc.toArray 41)).alloc (.cells zr11.toArray 41):=⟨_,rfl⟩;have hb0:Below w.heap.size w W0:=by rw [hW0];exact((Below.refl _ _).alloc (Ju _) _).alloc gU _
 have HB1:Hid (W0.heap[w.heap.size]?=some (.cells fc.toArray 41 (0,0))):=ab ib;have HB2:Hid (W0.heap[w.heap.size+1]?=some (.cells zr11.toArray 41 (0,0))):=ab (by
  have:=heap_alloc_new (w.alloc (.cells fc.toArray 41)) (.cells zr11.toArray 41)
  rw [hW0];simpa using this)
 have hXV:RxV W0 S [.int .i64 rk,.string ⟨rch.toArray⟩,.bool rng,.slice ra rrs.length rcp,.int .i64 rlo,.int .i64 rhi,.bool rlz,.slice rka rks.length rkc] X:=hx1▸hc.rv.later hb0;have HXS:=ab (I6 S X hx _ W0 hXV);have HFS:Hid (SlS W0 S fa 5 fs.length (mu fs)):=ab (hc.fv.keep (Kept.all hb0));subst hfce;have HTZ:Hid (tfZ ⟨X,fs,fd,al⟩=(rxZ X&&(fs.isEmpty&&(!fd&&!al)))):=ab rfl;rw [HTZ.out];have HW0:=ab hW0;clear hv hc hx hx1 hW0 hp hXV HTZ;unfold zr11 at HW0 HB2 ⊢;cases hrz:rxZ X with
 | false =>
  rw [hrz] at HXS;clear hrz;go_enter Tryz.func45,Tryz.ntmps45
  go_upto_region 1 with fail
  rw [←HW0.out];clear HW0;go_wp2_with (first
   | (refine kV rfl 38 (.tmp 5) rfl w.heap.size 0 rfl [.int .i64 rk,.string ⟨rch.toArray⟩,.bool rng,.slice ra rrs.length rcp,.int .i64 rlo,.int .i64 rhi,.bool rlz,.slice rka rks.length rkc] _ (lc (ds:=[.slice fa fs.length fcp,.bool fd,.bool al]) HB1.out) mb rfl iB ?_)
   | (refine kV rfl 38 (.tmp 7) rfl (w.heap.size+1) 0 rfl zr8 _ (lc (ds:=[.slice none 0 0,.bool false,.bool false]) HB2.out) mb rfl iB ?_)
   | (go_at_call 62;refine HXS.out.mono ?_))
  first|rintro e w1 rfl hb1|rintro e w1 ⟨rfl,hb1⟩
  have hx1:=(hb1.block _ (kT HB1.out)).trans HB1.out;have hx2:=(hb1.block _ (kT HB2.out)).trans HB2.out;clear hx1 hx2;go_wp2
  go_ret
  exact⟨rfl,(bel2 hb0 hb1)⟩
 | true =>
  rw [hrz] at HXS;clear hrz;cases fs with
  | cons g gs =>
   have HE:=ab (fun w=>EqFm_no fa none (g::gs).length 0 fcp 0 w gU);obtain⟨gn,hgn⟩:∃gn,(g::gs).length=gn:=⟨_,rfl⟩;rw [hgn] at HE HB1 HW0 ⊢;have HR:Hid ((true&&((g::gs).isEmpty&&(!fd&&!al)))=false):=ab rfl;rw [HR.out];clear HR HFS hfs;go_enter Tryz.func45,Tryz.ntmps45
   go_upto_region 1 with fail
   rw [←HW0.out];clear HW0 hgn;go_wp2_with (first
    | (refine kV rfl 38 (.tmp 5) rfl w.heap.size 0 rfl [.int .i64 rk,.string ⟨rch.toArray⟩,.bool rng,.slice ra rrs.length rcp,.int .i64 rlo,.int .i64 rhi,.bool rlz,.slice rka rks.length rkc] _ (lc (ds:=[.slice fa gn fcp,.bool fd,.bool al]) HB1.out) mb rfl iB ?_)
    | (refine kV rfl 38 (.tmp 7) rfl (w.heap.size+1) 0 rfl zr8 _ (lc (ds:=[.slice none 0 0,.bool false,.bool false]) HB2.out) mb rfl iB ?_)
    | (go_at_call 62;refine HXS.out.mono ?_))
   first|rintro e w1 rfl hb1|rintro e w1 ⟨rfl,hb1⟩
   have hx1:=(hb1.block _ (kT HB1.out)).trans HB1.out;have hx2:=(hb1.block _ (kT HB2.out)).trans HB2.out;have z8:=kU hx1 8 rfl;have y8:w1.cell? ⟨w.heap.size+1,8,none⟩=some (.slice none 0 0):=kU hx2 8 rfl;clear hx1 hx2;go_wp2_with (go_at_call 63;refine(HE.out _).mono ?_)
   first|rintro e w2 rfl hb2|rintro e w2 ⟨rfl,hb2⟩
   go_wp2
   go_ret
   exact⟨rfl,(bel2 (bel2 hb0 hb1) hb2)⟩
  | nil =>
   have HR:Hid ((true&&(([]:List Fm).isEmpty&&(!fd&&!al)))=(!fd&&!al)):=ab rfl;rw [HR.out];clear HR;have hl0:([]:List Fm).length=0:=rfl;rw [hl0] at HB1 HW0 HFS ⊢;clear hl0;cases fd with
   | true =>
    go_enter Tryz.func45,Tryz.ntmps45
    go_upto_region 1 with fail
    rw [←HW0.out];clear HW0;go_wp2_with (first
     | (refine kV rfl 38 (.tmp 5) rfl w.heap.size 0 rfl [.int .i64 rk,.string ⟨rch.toArray⟩,.bool rng,.slice ra rrs.length rcp,.int .i64 rlo,.int .i64 rhi,.bool rlz,.slice rka rks.length rkc] _ (lc (ds:=[.slice fa 0 fcp,.bool true,.bool al]) HB1.out) mb rfl iB ?_)
     | (refine kV rfl 38 (.tmp 7) rfl (w.heap.size+1) 0 rfl zr8 _ (lc (ds:=[.slice none 0 0,.bool false,.bool false]) HB2.out) mb rfl iB ?_)
     | (go_at_call 62;refine HXS.out.mono ?_))
    exact aG
   | false =>
    cases al with
    | true =>
     go_enter Tryz.func45,Tryz.ntmps45
     go_upto_region 1 with fail
     rw [←HW0.out];clear HW0;go_wp2_with (first
      | (refine kV rfl 38 (.tmp 5) rfl w.heap.size 0 rfl [.int .i64 rk,.string ⟨rch.toArray⟩,.bool rng,.slice ra rrs.length rcp,.int .i64 rlo,.int .i64 rhi,.bool rlz,.slice rka rks.length rkc] _ (lc (ds:=[.slice fa 0 fcp,.bool false,.bool true]) HB1.out) mb rfl iB ?_)
      | (refine kV rfl 38 (.tmp 7) rfl (w.heap.size+1) 0 rfl zr8 _ (lc (ds:=[.slice none 0 0,.bool false,.bool false]) HB2.out) mb rfl iB ?_)
      | (go_at_call 62;refine HXS.out.mono ?_))
     exact aG
    | false =>
     go_enter Tryz.func45,Tryz.ntmps45
     go_upto_region 1 with fail
     rw [←HW0.out];clear HW0;go_wp2_with (first
      | (refine kV rfl 38 (.tmp 5) rfl w.heap.size 0 rfl [.int .i64 rk,.string ⟨rch.toArray⟩,.bool rng,.slice ra rrs.length rcp,.int .i64 rlo,.int .i64 rhi,.bool rlz,.slice rka rks.length rkc] _ (lc (ds:=[.slice fa 0 fcp,.bool false,.bool false]) HB1.out) mb rfl iB ?_)
      | (refine kV rfl 38 (.tmp 7) rfl (w.heap.size+1) 0 rfl zr8 _ (lc (ds:=[.slice none 0 0,.bool false,.bool false]) HB2.out) mb rfl iB ?_)
      | (go_at_call 62;refine HXS.out.mono ?_))
     exact aG
def escL (th c:Str):Str :=
 if c=[10] then [92,110] else if c=[13] then [92,114] else if c=[9] then [92,116] else if c=[12] then [92,102] else if c=[11] then [92,118]
 else if th.contains (c.headD 0)=true then 92::c else c
def oftS (lo hi:Int):Str :=
 if lo=0∧hi=-1 then [42] else if lo=1∧hi=-1 then [43] else if lo=0∧hi=1 then [63] else if lo=hi then 123::(dec lo++[125])
 else if hi=-1 then 123::(dec lo++[44,125]) else 123::(dec lo++44::(dec hi++[125]))
def th1:Str:=[94,36,92,46,42,43,63,40,41,91,93,123,125,124,47]
def th2:Str:=[94,45,92,91,93,47]
def rowS (r:Str × Str):Str:=escL th2 r.1++(if r.2=r.1 then [] else 45::escL th2 r.2)
def setS (ng:Bool) (rs:List (Str × Str)):Str:=91::((if ng=true then [94] else [])++(rs.flatMap rowS++[93]))
namespace Rx
mutual
def tell:Rx→Str
 | mk k c ng rs lo hi lz ks =>
  if k=0 then tellL ks
  else if k=1 then tellA false ks
  else if k=2 then escL th1 c
  else if k=3 then [46]
  else if k=8 then [94]
  else if k=9 then [36]
  else if k=10 then [92,98]
  else if k=11 then [92,66]
  else if k=4 then setS ng rs
  else if k=5 then 40::(tellL ks++[41])
  else if k=6 then 40::63::58::(tellL ks++[41])
  else tellL ks++(oftS lo hi++(if lz=true then [63] else []))
def tellL:List Rx→Str
 | []=>[]
 | x::r=>tell x++tellL r
def tellA:Bool→List Rx→Str
 | _,[]=>[]
 | b,x::r=>(if b=true then [124] else [])++(tell x++tellA true r)
end
end Rx
theorem oftS_len {lo hi:Int} (h0:0≤lo) (h1:lo≤255) (h2:hi=-1∨lo≤hi∧hi≤255):(oftS lo hi).length≤12:=by
 have a:=rm h0 (by omega:lo≤9999);unfold oftS;split
 ·simp
 split
 ·simp
 split
 ·simp
 split
 ·simp;omega
 split
 ·simp;omega
 ·have b:=rm (n:=hi) gN gN
  simp;omega
theorem sq (th c:Str):(escL th c).length≤c.length+1:=by
 unfold escL
 (repeat' split)<;>simp_all
theorem wf_mk {k:Int} {c:Str} {ng:Bool} {rs:List (Str × Str)} {lo hi:Int} {lz:Bool} {ks:List Rx} (h:(Rx.mk k c ng rs lo hi lz ks).wf=true):lI (.mk k c ng rs lo hi lz ks)=true∧Rx.wfL ks=true:=by
 simpa [Rx.wf] using h
theorem zu:∀{ks:List Rx} {x:Rx},Rx.wfL ks=true→x∈ks→x.wf=true
 | [],_,_,h=>by simp at h
 | y::r,x,hs,h=>by
  simp only [Rx.wfL,Jy] at hs;rcases JC.1 h with rfl|h
  ·exact hs.1
  ·exact zu hs.2 h
theorem CV {k:Int} {c:Str} {ng:Bool} {rs:List (Str × Str)} {lo hi:Int} {lz:Bool} {ks:List Rx} (h:lI (.mk k c ng rs lo hi lz ks)=true) :
  k=0∨k=1∨k=2∨k=3∨k=4∨k=5∨k=6∨k=7∨k=8∨k=9∨k=10∨k=11:=by
 by_cases a:k=0∨k=1∨k=2∨k=3∨k=4∨k=5∨k=6∨k=7∨k=8∨k=9∨k=10∨k=11
 ·exact a
 ·exfalso
  simp only [lI] at h;rw [Jo gN,Jo gN,Jo gN,Jo gN,Jo gN,Jo gN,Jo gN] at h;cases h
theorem vx {c:Str} (h:l5 c=true):c≠[]:=by rintro rfl;cases h
theorem Ii:∀{rs:List (Str × Str)} {p:Option Str},oh p rs=true→∀r∈rs,r.1≠[]∧r.2≠[]
 | [],_,_,r,hr=>by simp at hr
 | r0::rs,p,h,r,hr=>by
  simp only [oh,Jy] at h;rcases JC.1 hr with rfl|hr
  ·have h1:=h.1.1
   simp only [rowB,Jy] at h1;exact⟨vx h1.1.1,vx h1.1.2⟩
  ·exact Ii h.2 r hr
end Go.Proofs.YtdcnncgpomcaaaaGreatDoor
namespace Go.Proofs
open Go.Shelf
def Tryz.laysM171_ren:Go.Shelf.Ren:=⟨fun|171=>33|243=>49|246=>66|283=>81|284=>82|285=>83|286=>84|129=>96|317=>95|318=>97|319=>98|320=>99|337=>110|338=>111|n=>n,fun|3=>3|9=>9|2=>2|4=>4|171=>125|0=>0|53=>126|37=>52|5=>5|173=>129|212=>140|51=>141|20=>20|213=>142|46=>70|232=>169|233=>170|n=>n,fun|17=>1|18=>2|19=>3|n=>n⟩
theorem Tryz.laysM171:Go.Proofs.LaysM.n171 Tryz.prog Tryz.laysM171_ren:={
 mixed:=by kernel_rfl
 f129:=Tryz.func96.trans (congrArg some (by kernel_rfl))
 f171:=Tryz.func33.trans (congrArg some (by kernel_rfl))
 f243:=Tryz.func49.trans (congrArg some (by kernel_rfl))
 f246:=Tryz.func66.trans (congrArg some (by kernel_rfl))
 f283:=Tryz.func81.trans (congrArg some (by kernel_rfl))
 f284:=Tryz.func82.trans (congrArg some (by kernel_rfl))
 f285:=Tryz.func83.trans (congrArg some (by kernel_rfl))
 f286:=Tryz.func84.trans (congrArg some (by kernel_rfl))
 f317:=Tryz.func95.trans (congrArg some (by kernel_rfl))
 f318:=Tryz.func97.trans (congrArg some (by kernel_rfl))
 f319:=Tryz.func98.trans (congrArg some (by kernel_rfl))
 f320:=Tryz.func99.trans (congrArg some (by kernel_rfl))
 f337:=Tryz.func110.trans (congrArg some (by kernel_rfl))
 f338:=Tryz.func111.trans (congrArg some (by kernel_rfl))
 t0:=Tryz.underlying0
 a0:=Tryz.isAgg0
 z0:=Tryz.sizeOf0
 v0:=Tryz.zeroValue0
 t2:=Tryz.underlying2
 a2:=Tryz.isAgg2
 z2:=Tryz.sizeOf2
 v2:=Tryz.zeroValue2
 t3:=Tryz.underlying3
 a3:=Tryz.isAgg3
 z3:=Tryz.sizeOf3
 v3:=Tryz.zeroValue3
 t4:=Tryz.underlying4
 a4:=Tryz.isAgg4
 z4:=Tryz.sizeOf4
 v4:=Tryz.zeroValue4
 t5:=Tryz.underlying5
 a5:=Tryz.isAgg5
 z5:=Tryz.sizeOf5
 v5:=Tryz.zeroValue5
 t9:=Tryz.underlying9
 a9:=Tryz.isAgg9
 z9:=Tryz.sizeOf9
 v9:=Tryz.zeroValue9
 t20:=Tryz.underlying20
 a20:=Tryz.isAgg20
 z20:=Tryz.sizeOf20
 v20:=Tryz.zeroValue20
 t37:=Tryz.underlying52
 a37:=Tryz.isAgg52
 z37:=Tryz.sizeOf52
 v37:=Tryz.zeroValue52
 t46:=Tryz.underlying70
 a46:=Tryz.isAgg70
 z46:=Tryz.sizeOf70
 v46:=Tryz.zeroValue70
 t51:=Tryz.underlying141
 a51:=Tryz.isAgg141
 z51:=Tryz.sizeOf141
 v51:=Tryz.zeroValue141
 t53:=Tryz.underlying126
 a53:=Tryz.isAgg126
 z53:=Tryz.sizeOf126
 v53:=Tryz.zeroValue126
 t171:=Tryz.underlying125
 a171:=Tryz.isAgg125
 z171:=Tryz.sizeOf125
 v171:=Tryz.zeroValue125
 t173:=Tryz.underlying129
 a173:=Tryz.isAgg129
 z173:=Tryz.sizeOf129
 v173:=Tryz.zeroValue129
 t212:=Tryz.underlying140
 a212:=Tryz.isAgg140
 z212:=Tryz.sizeOf140
 v212:=Tryz.zeroValue140
 t213:=Tryz.underlying142
 a213:=Tryz.isAgg142
 z213:=Tryz.sizeOf142
 t232:=Tryz.underlying169
 a232:=Tryz.isAgg169
 z232:=Tryz.sizeOf169
 v232:=Tryz.zeroValue169
 t233:=Tryz.underlying170
 a233:=Tryz.isAgg170
 z233:=Tryz.sizeOf170
 v233:=Tryz.zeroValue170
 g17:=by kernel_rfl
 g18:=by kernel_rfl
 g19:=by kernel_rfl
 i0:=by kernel_rfl
 i2:=by kernel_rfl
 i3:=by kernel_rfl
 i4:=by kernel_rfl
 i5:=by kernel_rfl
 i9:=by kernel_rfl
 i20:=by kernel_rfl
 i37:=by kernel_rfl
 i46:=by kernel_rfl
 i51:=by kernel_rfl
 i53:=by kernel_rfl
 i171:=by kernel_rfl
 i173:=by kernel_rfl
 i212:=by kernel_rfl
 i232:=by kernel_rfl
 i233:=by kernel_rfl
 m17:=by kernel_rfl
 m18:=by kernel_rfl
 m19:=by kernel_rfl }
open Go.RowKit Go.Sort Go.Lib in
theorem Tryz.strconv_Itoa (n : Int) (h0 : -9223372036854775808 ≤ n) (h1 : n ≤ 9223372036854775807) (w : World) (htab : Lib.TabIs Tryz.prog w "internal/strconv.uint64pow10" .u64 Lib.pow10Tab) :
  Calls Tryz.prog 33 #[.int .i64 n] w fun e w'=>e=.returned (.string ⟨(Lib.itoa n).toArray⟩)∧∃k os,w'=grow (w.drewN k) os:=Any.strconv_Itoa Tryz.laysM171 n h0 h1 w htab
end Go.Proofs
set_option maxRecDepth 100000
namespace Go.Proofs.YtdcnncgpomcaaaaGreatDoor
open Go.RowKit
def Tab (w : World) : Prop := Lib.TabIs Tryz.prog w "internal/strconv.uint64pow10" .u64 Lib.pow10Tab
theorem tab_name : ∃ g, Tryz.prog.globalNamed "internal/strconv.uint64pow10" = some g := by
 have h : (Tryz.prog.globalNamed "internal/strconv.uint64pow10").isSome = true := by kernel_rfl
 exact Option.isSome_iff_exists.1 h
theorem Tab.keep {w w':World} (h:Tab w) (hb:Below w.heap.size w w'):Tab w':=by
 obtain⟨g,hg⟩:=tab_name;unfold Tab Lib.TabIs World.var? at h ⊢;rw [hg] at h ⊢;simp only [Option.bind_some] at h ⊢;have hlt:g<w.heap.size:=by
  rcases Nat.lt_or_ge g w.heap.size with h'|h'
  ·exact h'
  ·rw [Array.getElem?_eq_none h'] at h;cases h
 rw [hb.block g hlt];exact h
theorem F6 : Tryz.prog.globalNamed "internal/strconv.uint64pow10" = some 1 := by kernel_rfl
theorem Tab.lt {w:World} (h:Tab w):1<w.heap.size:=by
 unfold Tab Lib.TabIs World.var? at h;rw [F6] at h;simp only [Option.bind_some] at h;rcases Nat.lt_or_ge 1 w.heap.size with h'|h'
 ·exact h'
 ·rw [Array.getElem?_eq_none h'] at h;cases h
theorem Tab.keepB {w w':World} {B:Nat} (h:Tab w) (hg:1<B) (hb:Below B w w'):Tab w':=by
 unfold Tab Lib.TabIs World.var? at h ⊢;rw [F6] at h ⊢;simp only [Option.bind_some] at h ⊢;rw [hb.block _ hg];exact h
theorem FP (w:World) (n:Nat) (os:Array Obj):Below w.heap.size w (Sort.grow (w.drewN n) os) :=
 ⟨rfl,rfl,rfl,by simp [Sort.grow],fun k hk=>by simp [Sort.grow,Array.getElem?_append_left hk]⟩
theorem sd (n:Int) (w:World) (h0:0≤n) (h1:n≤100000) (ht:Tab w) :
  Calls Tryz.prog 33 #[.int .i64 n] w fun e w'=>e=.returned (.string ⟨(dec n).toArray⟩)∧Below w.heap.size w w':=by
 refine(Tryz.strconv_Itoa n gN gN w ht).mono ?_
 rintro e w' ⟨rfl,k,os,rfl⟩;obtain⟨m,rfl⟩:=Int.eq_ofNat_of_zero_le h0;refine⟨?_,FP w k os⟩;rw [Lib.itoa_nonneg];rfl
open Go.RowKit
theorem t6 (th c:Str) (w:World) (hc:c≠[]) (hs:c.length≤10000000) :
  Calls Tryz.prog 55 #[.string ⟨c.toArray⟩,.string ⟨th.toArray⟩] w fun e w'=>e=.returned (.string ⟨(escL th c).toArray⟩)∧w=w':=by
 cases c with
 | nil=>exact absurd rfl hc
 | cons a r =>
  clear hc;simp only [Jr] at hs;generalize hR:escL th (a::r)=R
  have HR:=ab hR;clear hR;by_cases hm:th.contains a=true
  ·obtain⟨k,hk⟩:=zn hm
   exact cg
  ·have hk:=vq hm
   exact cg
theorem IX (lo hi:Int) (w:World) (h0:0≤lo) (h1:lo≤255) (h2:hi=-1∨lo≤hi∧hi≤255) (ht:Tab w) :
  Calls Tryz.prog 57 #[.int .i64 lo,.int .i64 hi] w fun e w'=>e=.returned (.string ⟨(oftS lo hi).toArray⟩)∧Below w.heap.size w w':=by
 generalize hR:oftS lo hi=R
 have HR:=ab hR;clear hR;have HT:=ab ht;have hl:=rm h0 (by omega:lo≤9999);clear ht;rcases h2 with rfl|⟨h3,h4⟩
 ·by_cases hl0:lo=0
  ·subst hl0
   exact cI
  by_cases hl1:lo=1
  ·subst hl1
   exact cI
  have e0:(lo==0)=false:=by simpa using hl0
  have e1:(lo==1)=false:=by simpa using hl1
  have e2:(lo==-1)=false:= iP;have HR2:Hid (R=123::(dec lo++[44,125])):=ab (by
   rw [←HR.out];unfold oftS;rw [Jo gN,Jo gN,Jo gN,Jo gN,Jl rfl])
  clear hl0 hl1 HR;exact bw
 ·have hh:=rm (n:=hi) gN gN
  have e2:(hi==-1)=false:=by rw [JP];omega
  by_cases hlh:lo=hi
  ·subst hlh
   have HR2:Hid (R=123::(dec lo++[125])):=ab (by
    rw [←HR.out];unfold oftS;rw [Jo gN,Jo gN,Jo gN,Jl rfl])
   clear HR;by_cases hl0:lo=0
   ·subst hl0
    exact bw
   by_cases hl1:lo=1
   ·subst hl1
    exact bw
   ·have e0:(lo==0)=false:=by simpa using hl0
    have e1:(lo==1)=false:=by simpa using hl1
    clear hl0 hl1;exact bw
  ·by_cases hq:lo=0∧hi=1
   ·obtain⟨rfl,rfl⟩:=hq
    exact cI
   have HR2:Hid (R=123::(dec lo++44::(dec hi++[125]))):=ab (by
    rw [←HR.out];unfold oftS;rw [Jo gN,Jo gN,Jo gN,Jo hlh,Jo gN])
   have e3:(lo==hi)=false:=by simpa using hlh
   clear HR;by_cases hl0:lo=0
   ·subst hl0
    have e4:(hi==1)=false:=by rw [JP];omega
    clear hq hlh;exact bb
   by_cases hl1:lo=1
   ·subst hl1
    clear hq hlh;exact bb
   ·have e0:(lo==0)=false:=by simpa using hl0
    have e1:(lo==1)=false:=by simpa using hl1
    clear hl0 hl1 hq hlh;exact bb
end Go.Proofs.YtdcnncgpomcaaaaGreatDoor
