/- walk of snode.Clone -/
import Derived.Test.YtbgcjpefocdkkaaGreatSm1
import Derived.Test.YtbgcjpefocdkkaaGreatSm2
import Derived.Test.YtbgcjpefocdkkaaGreatSm3
import Derived.Test.YtbgcjpefocdkkaaGreatSm4
import Derived.Test.YtbgcjpefocdkkaaGreatSm5
import Derived.Test.YtbgcjpefocdkkaaGreatSm6
import Derived.Test.YtbgcjpefocdkkaaGreatSm7
import Derived.Test.YtbgcjpefocdkkaaGreatSm8
import Derived.Test.YtbgcjpefocdkkaaGreatSm9
import Derived.Test.YtbgcjpefocdkkaaGreatSm10
import Derived.Test.YtbgcjpefocdkkaaGreatSm11
import Derived.Test.YtbgcjpefocdkkaaGreatSm12
import Derived.Test.YtbgcjpefocdkkaaGreatSm13
import Derived.Lib.ItoaMem
import Derived.Test.YtbgcjpefocdkkaaGreatSm14
import Derived.Test.YtbgcjpefocdkkaaGreatSm15
import Derived.Test.YtbgcjpefocdkkaaGreatSm16
import Derived.Test.YtbgcjpefocdkkaaGreatSm17
import Derived.Test.YtbgcjpefocdkkaaGreatSm18
import Derived.Test.YtbgcjpefocdkkaaGreatSm19
import Derived.Test.YtbgcjpefocdkkaaGreatSm20
import Derived.Test.YtbgcjpefocdkkaaGreatSm21
import Derived.Test.YtbgcjpefocdkkaaGreatSm22
import Derived.Test.YtbgcjpefocdkkaaGreatSm23
import Derived.Test.YtbgcjpefocdkkaaGreatSm24
set_option maxRecDepth 100000
namespace Go.Proofs.YtbgcjpefocdkkaaGreat
open Go.RowKit
theorem blk_any {w:World} {g:Nat} {cc:List Value} {t:TypeId} {f:Nat × Nat} (h:w.heap[g]?=some (.cells cc.toArray t f)) (j:Nat) (hj:j<cc.length):∃v,w.cell? ⟨g,j,none⟩=some v :=
 ⟨cc[j],by rw [Lib.cell_of_heap h];simp [hj]⟩
def TfP (B:Nat) (f:Tf):Value→World→Prop:=fun v W=>∃fc',v=.agg fc'.toArray∧TfV W (fun b=>B≤b) fc' f
def SnP (B:Nat) (ks:List Sn):Value→World→Prop:=fun v W=>∃a c,v=.slice a ks.length c∧SnSl W (fun b=>B≤b) a ks.length ks
theorem TfP.mono {B:Nat} {f:Tf} (v:Value) (w w':World) (hb:Below w.heap.size w w') (h:TfP B f v w):TfP B f v w':=by
 obtain⟨rc',h1,h2⟩:=h;exact⟨rc',h1,h2.keep (Kept.all hb)⟩
theorem SnP.mono {B:Nat} {ks:List Sn} (v:Value) (w w':World) (hb:Below w.heap.size w w') (h:SnP B ks v w):SnP B ks v w':=by
 obtain⟨a,c,h1,h2⟩:=h;exact⟨a,c,h1,h2.later hb⟩
def KFs (B b1:Nat) (fc:List Value) (f:Tf) (oa:Option Addr) (oc:Nat) (os:List Str) (ka:Option Addr) (kc:Nat) (ks:List Sn):List (Value→World→Prop) :=
 [eqP (.pointer (some ⟨b1,5,none⟩)),eqP (.agg fc.toArray),TfP B f,eqP (.pointer (some ⟨b1,16,none⟩)),eqP (.slice oa os.length oc),SlP B 1 os.length (scells os),eqP (.pointer (some ⟨b1,17,none⟩)),eqP (.slice ka ks.length kc),SnP B ks,eqP (.pointer (some ⟨b1,5,none⟩))]
theorem KFs_mono (B b1:Nat) (fc:List Value) (f:Tf) (oa:Option Addr) (oc:Nat) (os:List Str) (ka:Option Addr) (kc:Nat) (ks:List Sn):MonoF (KFs B b1 fc f oa oc os ka kc ks) :=
 .eq (.eq (.cons TfP.mono (.eq (.eq (.cons SlP.mono (.eq (.eq (.cons SnP.mono (.eq .nil)))))))))
def KRI (B b1:Nat) (fc:List Value) (f:Tf) (oa:Option Addr) (oc:Nat) (os:List Str) (ka:Option Addr) (kc:Nat) (ks:List Sn) (A0:Act) (W0:World) (L:Nat→Bool) (a:Act) (w':World):Prop :=
 ∃V:Nat→Value,Fm2 [12,13,14,15,16,17,18,19,20,21] V A0 a∧BelI W0 (KFs B b1 fc f oa oc os ka kc ks) V L w'
def SCloneC (y:Sn):Prop:=∀(S:Nat→Prop) (ka:Option Addr) (kc:Nat) (w:World),SnSl w S ka y.kids.length y.kids →
 Calls Tryz.prog 13 #[.slice ka y.kids.length kc] w fun e w'=>∃a' c',e=.returned (.slice a' y.kids.length c')∧SnSl w' (fun b=>w.heap.size≤b) a' y.kids.length y.kids∧Below w.heap.size w w'
def CkRel (ks:List Sn) (w:World) (v q:Value) (wr:World):Prop :=
 ∃i:Nat,q=.int .i64 i∧i≤ks.length∧Below w.heap.size w wr∧OwnN wr w.heap.size (fun b=>w.heap.size≤b) v (ks.take i)
set_option maxHeartbeats 4000000 in
theorem SClone_step (S:Nat→Prop) (ks:List Sn) (hsm:Sn.smallL ks) (hkl:ks.length≤1000000) (IH0:∀y∈ks,SCloneC y) (a:Option Addr) (c:Nat) (w:World) (hx:SnSl w S a ks.length ks) :
  Calls Tryz.prog 13 #[.slice a ks.length c] w fun e w'=>∃a' c',e=.returned (.slice a' ks.length c')∧SnSl w' (fun b=>w.heap.size≤b) a' ks.length ks∧Below w.heap.size w w':=by
 have IH:=Lib.hid IH0;have HX:=Lib.hid hx;have HSM:=Lib.hid (fun y hy=>Sn.small_mem hsm y hy);obtain⟨iN,hiN⟩:=info_parts snip_info;clear hx hsm IH0;go_enter Tryz.func13,Tryz.ntmps13
 go_wp2
 go_loopw [3,8] (fun v q wr=>CkRel ks w v q wr) (fun _ q _=>ks.length-(intOf q).toNat)
 case atStart=>exact⟨0,rfl,by omega,Below.refl _ _,by rw [List.take_zero];exact OwnN.nil _ _ _⟩
 case round =>
  obtain⟨i,rfl,hi,hb,ho⟩:=hrel;have hB0:=hb.size;cases hd:ks.drop i with
  | nil =>
   have h2:ks.length≤i:=by simpa using hd
   rw [List.take_of_length_le h2] at ho;obtain⟨va,vc,rfl⟩:=ho.form;have HO:=Lib.hid ho.sl.2;clear hd ho;go_wp2
   go_ret
   exact⟨va,vc,rfl,HO.out.mono fun b hb _=>by rcases hb with hb|hb<;>exact hb,hb⟩
  | cons y r =>
   obtain⟨h2,h3,hr⟩:=ldrop_cons hd;have hym:=List.mem_of_getElem? h3;have HTK:Hid (ks.take (i+1)=ks.take i++[y]):=Lib.hid (by rw [List.take_add_one,h3];rfl);have hys:=HSM.out y hym;have hyc:=IH.out y hym;obtain⟨yk,yt,yn,yh,yu,yf,yo,ys⟩:=y;obtain⟨hyf,hyo,hysl,hyt,_⟩:=hys;have HYF:=Lib.hid hyf;have HYC:Hid (∀(S:Nat→Prop) (ka:Option Addr) (kc:Nat) (w:World),SnSl w S ka ys.length ys →
    Calls Tryz.prog 13 #[.slice ka ys.length kc] w fun e w'=>∃a' c',e=.returned (.slice a' ys.length c')∧SnSl w' (fun b=>w.heap.size≤b) a' ys.length ys∧Below w.heap.size w w'):=Lib.hid hyc
   obtain⟨b,o,cc,hae,hS,hbB,hyv,hcc⟩:=(HX.out.later hb).at_ h3;have hrg:wr.rangeAt b (o+i*18) cc:=fun j v hj=>by rw [Nat.add_assoc];exact hcc j v hj
   have hcl:=hyv.len;obtain⟨fc,oa,oc,ka,kc,hA⟩:=hyv.at_;obtain⟨W5,hW5⟩:∃W5,W5=wr.alloc (.cells cc.toArray 40):=⟨_,rfl⟩;have HW5:Hid ((wr.alloc (.cells #[.int .i64 0,.string ⟨#[]⟩,.int .i64 0,.bool false,.bool false,.int .i64 0,.string ⟨#[]⟩,.bool false,.slice none 0 0,.int .i64 0,.int .i64 0,.bool false,.slice none 0 0,.slice none 0 0,.bool false,.bool false,.slice none 0 0,.slice none 0 0] 40)).setRow wr.heap.size cc.toArray=W5):=Lib.hid (by rw [hW5];exact World.setRow_alloc_new _ _ _ _);have hb5:Below wr.heap.size wr W5:=by rw [hW5];exact(Below.refl _ _).alloc (Nat.le_refl _) _
   have hz5:W5.heap.size=wr.heap.size+1:=by rw [hW5];simp
   have HBX:Hid (W5.heap[wr.heap.size]?=some (.cells cc.toArray 40 (0,0))):=Lib.hid (by rw [hW5];exact heap_alloc_new _ _);have HONE:Hid (∀u∈cc.toArray.toList,u.oneCell'=true):=Lib.hid (fun u hu=>hyv.one u (by simpa using hu));have HFV:=Lib.hid (hA.fv.keep (Kept.all hb5));have HOV:=Lib.hid (hA.ov.keep (Kept.all hb5));have HKV:=Lib.hid (hA.kv.later hb5);have hfl:=hA.fl;have HA:=Lib.hid hA;have hbw5:=hb.trans (hb5.mono hB0);have HO5:=Lib.hid ho;have HB5:=Lib.hid hb5;have hli:(ks.take i).length=i:=by rw [List.length_take];omega
   subst hae;clear hd hr h3 hyv hcc hW5 hA hyc hym ho hyf;go_upto_region 5 with(first
     | (refine wpList_ldW rfl 40 (.tmp 10) rfl b (o+i*18) rfl cc _ hrg snip_under rfl (by rw [snip_size,hcl]) ?_)
     | (refine wpList_stW rfl 40 (.tmp 5) (.tmp 11) rfl (wr.heap.size) (cc.toArray) rfl rfl 40 (#[.int .i64 0,.string ⟨#[]⟩,.int .i64 0,.bool false,.bool false,.int .i64 0,.string ⟨#[]⟩,.bool false,.slice none 0 0,.int .i64 0,.int .i64 0,.bool false,.slice none 0 0,.slice none 0 0,.bool false,.bool false,.slice none 0 0,.slice none 0 0]) (heap_alloc_new wr _) (snip_size) (by simp [hcl]) rfl (HONE.out) (W:=W5) (HW5.out) ?_))
   clear HW5 hrg;refine wp_region_relyE 10 (by kernel_rfl) (by kernel_rfl) (fun A0 W0 L a w'=>KRI W5.heap.size wr.heap.size fc yf oa oc yo ka kc ys A0 W0 L a w') ?_;intro A0 HAA;have hsz:A0.tmps.size=30:=by rw [HAA.out];rfl
   have hnd:[12,13,14,15,16,17,18,19,20,21].Nodup:=by decide
   have hbd:∀d∈[12,13,14,15,16,17,18,19,20,21],d<A0.tmps.size:=by rw [hsz];decide
   have e5:A0.tmps[5]?=some (.pointer (some ⟨wr.heap.size,0,none⟩)):=by rw [HAA.out];rfl
   have hM:=KFs_mono W5.heap.size wr.heap.size fc yf oa oc yo ka kc ys;have hbx:∀w',Below W5.heap.size W5 w'→w'.heap[wr.heap.size]?=some (.cells cc.toArray 40 (0,0)):=fun w' h=>(h.block _ (heap_lt HBX.out)).trans HBX.out
   refine⟨?_,?_,?_⟩
   ·obtain⟨V,hV⟩:=putsL_own A0 [12,13,14,15,16,17,18,19,20,21]
    exact⟨V,⟨hV⟩,BelI.start _ _ _⟩
   ·refine⟨?_,?_,?_,?_,?_,?_,?_,?_,?_,?_,trivial⟩
    ·skip
     intro L a w' hL hd hI;obtain⟨V,hf,hB⟩:=hI;simp [DepsOk,Region.binds] at hd
     have e:=ev_of ((hf.out (t:=5) (by decide)).trans e5);refine rs_val (wanted_none rfl) (v:=.pointer (some ⟨wr.heap.size,5,none⟩)) (w':=w') (by simp only [execOp,e];kernel_rfl) ?_;exact⟨_,hf.put hnd hbd 0 rfl _,hB.same hM 0 rfl⟩
    ·skip
     intro L a w' hL hd hI;obtain⟨V,hf,hB⟩:=hI;simp [DepsOk,Region.binds] at hd
     obtain⟨_,_,_,_,_,_,_,q8⟩:=HA.out.box (hbx w' hB.ext);refine wpList_ldW rfl 37 (.tmp 12) rfl wr.heap.size 5 (ev_of ((hf.ins hnd hbd 0 rfl).trans (congrArg some (show V 0=.pointer (some ⟨wr.heap.size,5,none⟩) from hB.at_ 0 (by simp [hd]))))) fc _ q8 form_under rfl (by rw [form_size,hfl]) ?_;refine wpList_nil ?_;exact⟨_,hf.put hnd hbd 1 rfl _,hB.same hM 1 rfl⟩
    ·skip
     intro L a w' hL hd hI;obtain⟨V,hf,hB⟩:=hI;simp [DepsOk,Region.binds] at hd
     have e:=(ev_of ((hf.ins hnd hbd 1 rfl).trans (congrArg some (show V 1=.agg fc.toArray from hB.at_ 1 (by simp [hd])))));refine rs_call (wanted_none rfl) (ex_call (vs:=#[.agg fc.toArray]) rfl Tryz.func24 (by kernel_rfl) (by rw [List.map_toArray];simp only [List.map_cons,List.map_nil,e])) ((XClone_any S yf HYF.out fc w' (HFV.out.keep (Kept.all hB.ext))).mono ?_);rintro e9 w9 ⟨fc',rfl,hv9,hb9⟩;refine⟨_,rfl,?_⟩;exact⟨_,hf.put hnd hbd 2 rfl _,hB.step hM 2 hb9 ⟨fc',rfl,hv9.mono fun b hb _=>Nat.le_trans hB.ext.size hb⟩⟩
    ·skip
     intro L a w' hL hd hI;obtain⟨V,hf,hB⟩:=hI;simp [DepsOk,Region.binds] at hd
     have e:=ev_of ((hf.out (t:=5) (by decide)).trans e5);refine rs_val (wanted_none rfl) (v:=.pointer (some ⟨wr.heap.size,16,none⟩)) (w':=w') (by simp only [execOp,e];kernel_rfl) ?_;exact⟨_,hf.put hnd hbd 3 rfl _,hB.same hM 3 rfl⟩
    ·skip
     intro L a w' hL hd hI;obtain⟨V,hf,hB⟩:=hI;simp [DepsOk,Region.binds] at hd
     obtain⟨_,_,_,_,_,q6,_,_⟩:=HA.out.box (hbx w' hB.ext);refine rs_val (wanted_none rfl) (ex_load rfl ((hf.ins hnd hbd 3 rfl).trans (congrArg some (show V 3=.pointer (some ⟨wr.heap.size,16,none⟩) from hB.at_ 3 (by simp [hd])))) (u:=.slice oa yo.length oc) (by go_simp)) ?_;exact⟨_,hf.put hnd hbd 4 rfl _,hB.same hM 4 rfl⟩
    ·skip
     intro L a w' hL hd hI;obtain⟨V,hf,hB⟩:=hI;simp [DepsOk,Region.binds] at hd
     have e:=(ev_of ((hf.ins hnd hbd 4 rfl).trans (congrArg some (show V 4=.slice oa yo.length oc from hB.at_ 4 (by simp [hd])))));refine rs_call (wanted_none rfl) (ex_call (vs:=#[.slice oa yo.length oc]) rfl Tryz.func25 (by kernel_rfl) (by rw [List.map_toArray];simp only [List.map_cons,List.map_nil,e])) ((StrClone_any oa yo.length oc yo w' rfl (HOV.out.keep (Kept.all hB.ext)).sl hyo).mono ?_);rintro e9 w9 ⟨a9,c9,rfl,hv9,hb9⟩;refine⟨_,rfl,?_⟩;exact⟨_,hf.put hnd hbd 5 rfl _,hB.step hM 5 hb9 ⟨a9,c9,rfl,hv9.mono fun b hb _=>Nat.le_trans hB.ext.size hb⟩⟩
    ·skip
     intro L a w' hL hd hI;obtain⟨V,hf,hB⟩:=hI;simp [DepsOk,Region.binds] at hd
     have e:=ev_of ((hf.out (t:=5) (by decide)).trans e5);refine rs_val (wanted_none rfl) (v:=.pointer (some ⟨wr.heap.size,17,none⟩)) (w':=w') (by simp only [execOp,e];kernel_rfl) ?_;exact⟨_,hf.put hnd hbd 6 rfl _,hB.same hM 6 rfl⟩
    ·skip
     intro L a w' hL hd hI;obtain⟨V,hf,hB⟩:=hI;simp [DepsOk,Region.binds] at hd
     obtain⟨_,_,_,_,_,_,q7,_⟩:=HA.out.box (hbx w' hB.ext);refine rs_val (wanted_none rfl) (ex_load rfl ((hf.ins hnd hbd 6 rfl).trans (congrArg some (show V 6=.pointer (some ⟨wr.heap.size,17,none⟩) from hB.at_ 6 (by simp [hd])))) (u:=.slice ka ys.length kc) (by go_simp)) ?_;exact⟨_,hf.put hnd hbd 7 rfl _,hB.same hM 7 rfl⟩
    ·skip
     intro L a w' hL hd hI;obtain⟨V,hf,hB⟩:=hI;simp [DepsOk,Region.binds] at hd
     have e:=(ev_of ((hf.ins hnd hbd 7 rfl).trans (congrArg some (show V 7=.slice ka ys.length kc from hB.at_ 7 (by simp [hd])))));refine rs_call (wanted_none rfl) (ex_call (vs:=#[.slice ka ys.length kc]) rfl Tryz.func13 (by kernel_rfl) (by rw [List.map_toArray];simp only [List.map_cons,List.map_nil,e])) ((HYC.out S ka kc w' (HKV.out.later hB.ext)).mono ?_);rintro e9 w9 ⟨a9,c9,rfl,hv9,hb9⟩;refine⟨_,rfl,?_⟩;exact⟨_,hf.put hnd hbd 8 rfl _,hB.step hM 8 hb9 ⟨a9,c9,rfl,hv9.mono fun b hb _=>Nat.le_trans hB.ext.size hb⟩⟩
    ·skip
     intro L a w' hL hd hI;obtain⟨V,hf,hB⟩:=hI;simp [DepsOk,Region.binds] at hd
     have e:=ev_of ((hf.out (t:=5) (by decide)).trans e5);refine rs_val (wanted_none rfl) (v:=.pointer (some ⟨wr.heap.size,5,none⟩)) (w':=w') (by simp only [execOp,e];kernel_rfl) ?_;exact⟨_,hf.put hnd hbd 9 rfl _,hB.same hM 9 rfl⟩
   ·intro L a w' hL hI
    obtain⟨V,hf,hB⟩:=hI;obtain⟨fc',hv2,hfv⟩:=(show TfP W5.heap.size yf (V 2) w' from hB.at_ 2 (hL 2 (by decide)));obtain⟨a5,c5,hv5,hov⟩:=(show SlP W5.heap.size 1 yo.length (scells yo) (V 5) w' from hB.at_ 5 (hL 5 (by decide)));obtain⟨a8,c8,hv8,hkv⟩:=(show SnP W5.heap.size ys (V 8) w' from hB.at_ 8 (hL 8 (by decide)));have hv9:V 9=.pointer (some ⟨wr.heap.size,5,none⟩):=hB.at_ 9 (hL 9 (by decide));have hbx':=hbx w' hB.ext;have ha:=hf.eq;have hA:=HAA.out;obtain⟨rk,rch,rng,rrs,rlo,rhi,rlz,rks,ra,rcp,rka,rkc,fa,fcp,hc⟩:=hfv.open_;have hfe:=hc.eq;rw [hfe] at hv2 hfv;have HFV':=Lib.hid hfv;have HOV':=Lib.hid hov;have HKV':=Lib.hid hkv;have HEX:=Lib.hid hB.ext;have hcq:=HA.out.eq;have hzw:=hB.ext.size;subst ha;subst hA;simp only [putsL,hv2,hv5,hv8,hv9,List.drop_succ_cons,List.drop_zero];have HBXX:=Lib.hid hbx';clear hf hB hM hbd hsz e5 HAA hv2 hv5 hv8 hv9 hfv hov hkv hL hc hfe hbx HFV HOV HKV HYC HYF hnd;obtain⟨z5,hz5'⟩:=blk_any hbx' 5 (by omega);obtain⟨z6,hz6'⟩:=blk_any hbx' 6 (by omega);obtain⟨z7,hz7'⟩:=blk_any hbx' 7 (by omega);obtain⟨z8,hz8'⟩:=blk_any hbx' 8 (by omega);obtain⟨z9,hz9'⟩:=blk_any hbx' 9 (by omega);obtain⟨z10,hz10'⟩:=blk_any hbx' 10 (by omega);obtain⟨z11,hz11'⟩:=blk_any hbx' 11 (by omega);obtain⟨z12,hz12'⟩:=blk_any hbx' 12 (by omega);obtain⟨z13,hz13'⟩:=blk_any hbx' 13 (by omega);obtain⟨z14,hz14'⟩:=blk_any hbx' 14 (by omega);obtain⟨z15,hz15'⟩:=blk_any hbx' 15 (by omega);obtain⟨z16,hz16'⟩:=blk_any hbx' 16 (by omega);obtain⟨z17,hz17'⟩:=blk_any hbx' 17 (by omega);have zf:=blk_free hbx';obtain⟨W7,hW7⟩:∃W7,W7=(((((((((((((w'.setCell ⟨wr.heap.size,5,none⟩ (.int .i64 rk)).setCell ⟨wr.heap.size,6,none⟩ (.string ⟨(rch).toArray⟩)).setCell ⟨wr.heap.size,7,none⟩ (.bool rng)).setCell ⟨wr.heap.size,8,none⟩ (.slice ra rrs.length rcp)).setCell ⟨wr.heap.size,9,none⟩ (.int .i64 rlo)).setCell ⟨wr.heap.size,10,none⟩ (.int .i64 rhi)).setCell ⟨wr.heap.size,11,none⟩ (.bool rlz)).setCell ⟨wr.heap.size,12,none⟩ (.slice rka rks.length rkc)).setCell ⟨wr.heap.size,13,none⟩ (.slice fa yf.fs.length fcp)).setCell ⟨wr.heap.size,14,none⟩ (.bool yf.fold)).setCell ⟨wr.heap.size,15,none⟩ (.bool yf.all)).setCell ⟨wr.heap.size,16,none⟩ (.slice a5 yo.length c5)).setCell ⟨wr.heap.size,17,none⟩ (.slice a8 ys.length c8)):=⟨_,rfl⟩;have hW7':W7=setsL wr.heap.size 5 [.int .i64 rk,.string ⟨(rch).toArray⟩,.bool rng,.slice ra rrs.length rcp,.int .i64 rlo,.int .i64 rhi,.bool rlz,.slice rka rks.length rkc,.slice fa yf.fs.length fcp,.bool yf.fold,.bool yf.all,.slice a5 yo.length c5,.slice a8 ys.length c8] w':=hW7;have HX7:Hid (W7.heap[wr.heap.size]?=some (.cells #[.int .i64 yk,.string ⟨(yt).toArray⟩,.int .i64 yn,.bool yh,.bool yu,.int .i64 rk,.string ⟨(rch).toArray⟩,.bool rng,.slice ra rrs.length rcp,.int .i64 rlo,.int .i64 rhi,.bool rlz,.slice rka rks.length rkc,.slice fa yf.fs.length fcp,.bool yf.fold,.bool yf.all,.slice a5 yo.length c5,.slice a8 ys.length c8] 40 (0,0))):=Lib.hid (by
     have h0:=HBXX.out;rw [hcq] at h0;rw [hW7'];exact setsL_mid (post:=[]) [.int .i64 rk,.string ⟨(rch).toArray⟩,.bool rng,.slice ra rrs.length rcp,.int .i64 rlo,.int .i64 rhi,.bool rlz,.slice rka rks.length rkc,.slice fa yf.fs.length fcp,.bool yf.fold,.bool yf.all,.slice a5 yo.length c5,.slice a8 ys.length c8] (fc++[.slice oa yo.length oc,.slice ka ys.length kc]) [.int .i64 yk,.string ⟨(yt).toArray⟩,.int .i64 yn,.bool yh,.bool yu] (by rw [h0];unfold snc;simp) (by simp [hfl]))
    have hk7:Kept (fun b=>W5.heap.size≤b) w' W7:=⟨by rw [hW7',setsL_size];exact Nat.le_refl _,fun b hb _=>by have:W5.heap.size≤b:=hb;rw [hW7',setsL_other (by omega)]⟩;have HBW:Hid (Below wr.heap.size wr W7):=Lib.hid (by rw [hW7'];exact setsL_below (HB5.out.trans (HEX.out.mono (by omega))) (Nat.le_refl _) _ _);have HV7:Hid (SnV W7 (fun b=>W5.heap.size≤b) [.int .i64 yk,.string ⟨(yt).toArray⟩,.int .i64 yn,.bool yh,.bool yu,.int .i64 rk,.string ⟨(rch).toArray⟩,.bool rng,.slice ra rrs.length rcp,.int .i64 rlo,.int .i64 rhi,.bool rlz,.slice rka rks.length rkc,.slice fa yf.fs.length fcp,.bool yf.fold,.bool yf.all,.slice a5 yo.length c5,.slice a8 ys.length c8] (.mk yk yt yn yh yu yf yo ys)):=Lib.hid (SnV.close (fc:=[.int .i64 rk,.string ⟨(rch).toArray⟩,.bool rng,.slice ra rrs.length rcp,.int .i64 rlo,.int .i64 rhi,.bool rlz,.slice rka rks.length rkc,.slice fa yf.fs.length fcp,.bool yf.fold,.bool yf.all]) (HFV'.out.keep hk7) (HOV'.out.keep hk7) (HKV'.out.keep hk7));have hz7:W7.heap.size=w'.heap.size:=by rw [hW7',setsL_size]
    have HON7:=Lib.hid HV7.out.one;clear hW7' hbx' hk7;go_upto_region 6 with fail
    rw [←hW7];clear hW7 hz5' hz6' hz7' hz8' hz9' hz10' hz11' hz12' hz13' hz14' hz15' hz16' hz17' zf;have hb8:Below W7.heap.size W7 (W7.alloc (.cells #[.int .i64 yk,.string ⟨(yt).toArray⟩,.int .i64 yn,.bool yh,.bool yu,.int .i64 rk,.string ⟨(rch).toArray⟩,.bool rng,.slice ra rrs.length rcp,.int .i64 rlo,.int .i64 rhi,.bool rlz,.slice rka rks.length rkc,.slice fa yf.fs.length fcp,.bool yf.fold,.bool yf.all,.slice a5 yo.length c5,.slice a8 ys.length c8] 40)):=(Below.refl _ _).alloc (Nat.le_refl _) _;have ho7:=(HO5.out.later HBW.out).later hb8;obtain⟨va,vc,rfl⟩:=HO5.out.form;obtain⟨css,hown,hrv⟩:=ho7;rw [hli] at hown hrv;have HOW:=Lib.hid hown;have HRV:=Lib.hid hrv;have HSL:=Lib.hid (Sl.lit (n:=1) (sz:=18) (heap_alloc_new W7 (.cells #[.int .i64 yk,.string ⟨(yt).toArray⟩,.int .i64 yn,.bool yh,.bool yu,.int .i64 rk,.string ⟨(rch).toArray⟩,.bool rng,.slice ra rrs.length rcp,.int .i64 rlo,.int .i64 rhi,.bool rlz,.slice rka rks.length rkc,.slice fa yf.fs.length fcp,.bool yf.fold,.bool yf.all,.slice a5 yo.length c5,.slice a8 ys.length c8] 40)) rfl);have HV8:=Lib.hid (HV7.out.later hb8);have hlt:=HO5.out.lt;rw [hli];clear hown hrv;have hsz9:w.heap.size≤W7.heap.size+1:=by omega
    have hi9:i≤10000000:=by omega
    have HZ7:=Lib.hid hz7;clear hz7;have HON8:Hid (∀u∈(#[.int .i64 yk,.string ⟨(yt).toArray⟩,.int .i64 yn,.bool yh,.bool yu,.int .i64 rk,.string ⟨(rch).toArray⟩,.bool rng,.slice ra rrs.length rcp,.int .i64 rlo,.int .i64 rhi,.bool rlz,.slice rka rks.length rkc,.slice fa yf.fs.length fcp,.bool yf.fold,.bool yf.all,.slice a5 yo.length c5,.slice a8 ys.length c8]:Array Value).toList,u.oneCell'=true):=HON7;go_wp2_with (first|(refine wpList_ldW rfl 40 (.tmp 5) rfl (wr.heap.size) 0 rfl ([.int .i64 yk,.string ⟨(yt).toArray⟩,.int .i64 yn,.bool yh,.bool yu,.int .i64 rk,.string ⟨(rch).toArray⟩,.bool rng,.slice ra rrs.length rcp,.int .i64 rlo,.int .i64 rhi,.bool rlz,.slice rka rks.length rkc,.slice fa yf.fs.length fcp,.bool yf.fold,.bool yf.all,.slice a5 yo.length c5,.slice a8 ys.length c8]) _ (range_blk (ds:=[]) (HX7.out)) snip_under rfl (by rw [snip_size];rfl) ?_)|(at_builtin;refine wpList_appM w.heap.size 40 rfl _ _ 23 rfl Tryz.underlying23 hiN rfl (by decide) rfl HOW.out rfl HSL.out HON8.out hi9 (by decide) (by decide) (by simp only [World.size_alloc];exact hsz9) ?_))
    intro v1 w4 ho1 hg1 hb4 hmv;have hox4:OwnN w4 w.heap.size (fun b=>w.heap.size≤b) v1 (ks.take (i+1)):=by
     rw [HTK.out];refine OwnN.app (ds:=[_]) (m:=1) HRV.out (.cons (HV8.out.mono fun b hb _=>?_) .nil) rfl ?_ hg1 hmv
     ·have hb':W5.heap.size≤b:=hb
      exact⟨by show w.heap.size≤b;omega,fun e=>by have:=(hlt b (show (Value.slice va (ks.take i).length vc).ownBlock=some b from(show (Value.slice va (ks.take i).length vc).ownBlock=(Value.slice va i vc).ownBlock by rw [hli]).trans e)).2;omega⟩
     ·rw [hli];simpa using ho1
    have hb4':Below w.heap.size w w4:=(hb.trans ((HBW.out.trans (hb8.mono HBW.out.size)).mono hB0)).trans hb4;clear ho1 hg1 hmv;go_wp2
    go_roundw
    case rel=>exact⟨i+1,by go_num,by omega,hb4',hox4⟩
    case measure=>simp [intOf];omega
theorem NClone_any (S:Nat→Prop):∀(N:Nat) (ks:List Sn),Sn.partsL ks<N→Sn.smallL ks→ks.length≤1000000→∀(a:Option Addr) (c:Nat) (w:World),SnSl w S a ks.length ks →
  Calls Tryz.prog 13 #[.slice a ks.length c] w fun e w'=>∃a' c',e=.returned (.slice a' ks.length c')∧SnSl w' (fun b=>w.heap.size≤b) a' ks.length ks∧Below w.heap.size w w'
 | 0,ks,h,_,_,_,_,_,_=>by omega
 | N+1,ks,h,hsm,hkl,a,c,w,hx=>SClone_step S ks hsm hkl (fun y hy S' ka kc w' hv=>by
   have h1:=Sn.parts_mem hy;have h2:=Sn.small_mem hsm y hy;obtain⟨yk,yt,yn,yh,yu,yf,yo,ys⟩:=y;obtain⟨_,_,h3,_,h4⟩:=h2;simp only [Sn.parts] at h1;exact NClone_any S' N ys (by omega) h4 h3 ka kc w' hv) a c w hx
end Go.Proofs.YtbgcjpefocdkkaaGreat
set_option maxRecDepth 100000
namespace Go.Proofs.YtbgcjpefocdkkaaGreat
open Go.RowKit
theorem wpList_ldG {P:Program} {ops:Array Oper} {rest:List Oper} {op:Oper} {a:Act} {w:World} {Q:Exit→Act→World→Prop} (hw:Region.wanted op (yielded ops a.tmps)=true) (ty:TypeId) (x:Operand) (ho:op.op=.load ty x)
  (b o:Nat) (hx:a.eval x=.pointer (some ⟨b,o,none⟩)) (cs:List Value) (d:TypeDesc) (hc:w.rangeAt b o cs)
  (hu:P.underlying ty=some d) (hd:d.isRow=true) (hi:(P.info? ty).map (·.size)=some cs.length)
  (h:wpList P ops Q rest (a.put op.dst (.agg cs.toArray)) w):wpList P ops Q (op::rest) a w:=by
 unfold wpList;rw [if_pos hw];refine .inl ?_;unfold Oper.wp execOp;simp only [ho,hx,Instr.loadAt,Instr.sureAddr,Sem.run_bind,Sem.run_pure,Result.andThen_ok,run_loadVar_mid w b o ty cs d hc hu hd hi];exact h
end Go.Proofs.YtbgcjpefocdkkaaGreat
set_option maxRecDepth 100000
namespace Go.Proofs.YtbgcjpefocdkkaaGreat
open Go.RowKit
theorem any_no2 (ks:List Rx):(!anyK ks [0,1])=ks.all fun x=>decide (x.kind≠0∧x.kind≠1):=by
 induction ks with
 | nil=>rfl
 | cons x r ih =>
  simp only [anyK,List.any_cons,List.all_cons,Bool.not_or] at *;rw [ih];congr 1;rw [Bool.eq_iff_iff];simp
theorem any_no1 (ks:List Rx):(!anyK ks [1])=ks.all fun x=>decide (x.kind≠1):=by
 induction ks with
 | nil=>rfl
 | cons x r ih =>
  simp only [anyK,List.any_cons,List.all_cons,Bool.not_or] at *;rw [ih];congr 1;rw [Bool.eq_iff_iff];simp
theorem some_eq {S:Nat→Prop} {xa:Option Addr} {xc m:Nat} {xs:List Rx} {zs:List Int} {a:Option Addr} {n c:Nat} {b:Bool} (w:World) (h0:anyK xs zs=b)
  (hx:RxSl w S xa m xs) (hxn:xs.length≤100000000) (h:Sl w w.heap.size a 1 n (icells zs)) (hn:n≤100000000) :
  Calls Tryz.prog 118 #[.slice xa m xc,.slice a n c] w fun e w'=>e=.returned (.bool b)∧Below w.heap.size w w':=by
 obtain rfl:=hx.len;subst h0;exact some_any S xa xc xs zs a n c w hx hxn h hn
set_option maxHeartbeats 4000000 in
theorem fields_0 (S:Nat→Prop) (c:Str) (ng:Bool) (ra:Option Addr) (rs:List (Str × Str)) (rc:Nat) (lo hi:Int) (lz:Bool) (ka:Option Addr) (ks:List Rx) (kc:Nat) (w:World)
  (hx:RxSl w S ka ks.length ks) (hsm:(Rx.mk 0 c ng rs lo hi lz ks).small1) :
  Calls Tryz.prog 99 #[.agg #[.int .i64 0,.string ⟨(c).toArray⟩,.bool ng,.slice ra rs.length rc,.int .i64 lo,.int .i64 hi,.bool lz,.slice ka ks.length kc]] w fun e w'=>e=.returned (.bool (fieldsB (.mk 0 c ng rs lo hi lz ks)))∧Below w.heap.size w w':=by
 generalize hR:fieldsB (.mk 0 c ng rs lo hi lz ks)=R
 have HR:=Lib.hid hR;clear hR;have HS:Hid (R=(bareV c ng rs.length lo hi lz&&decide (ks.length≠1)&&!anyK ks [0,1])):=Lib.hid (by rw [←HR.out,←bareB_eq 0 c ng rs lo hi lz ks,any_no2];rfl);obtain⟨s1,s2,s3,s4⟩:=hsm;clear HR s3;cases hbv:bareV c ng rs.length lo hi lz with
 | false =>
  have HB:=Lib.hid hbv;have HR:Hid (R=false):=Lib.hid (by rw [HS.out,hbv];rfl);clear hbv;go_enter Tryz.func99,Tryz.ntmps99
  go_wp2_with (go_at_call 115;refine(bare_eq _ HB.out).mono ?_;rintro e w1 ⟨rfl,hb1,hc1⟩;have hq7:=hc1 ⟨w.heap.size,7,none⟩ (.slice ka (ks.length) kc) (by simp))
  go_ret
  exact⟨ret_bool HR.out.symm,((Below.refl _ _).alloc (Nat.le_refl _) _).trans (hb1.mono (by simp))⟩
 | true =>
  have HB:=Lib.hid hbv;have HR:Hid (R=(decide (ks.length≠1)&&!anyK ks [0,1])):=Lib.hid (by rw [HS.out,hbv];rfl);clear hbv;obtain⟨b,hab⟩:∃b,anyK ks [0,1]=b:=⟨_,rfl⟩;have HA:=Lib.hid hab;rw [hab] at HR;clear hab;rcases ks with _|⟨x,_|⟨y,ks⟩⟩
  ·have HR2:Hid (R=!b):=Lib.hid (by rw [HR.out];simp)
   go_enter Tryz.func99,Tryz.ntmps99
   go_wp2_with (first|(((go_at_call 115;refine(bare_eq _ HB.out).mono ?_;rintro e w1 ⟨rfl,hb1,hc1⟩;have hq7:=hc1 ⟨w.heap.size,7,none⟩ (.slice ka (0) kc) (by simp)));have HX1:=Lib.hid ((hx.later ((Below.refl _ _).alloc (Nat.le_refl _) _)).later hb1))|(go_at_call 118;refine(some_eq (zs:=[0,1]) _ HA.out (HX1.out.later ((Below.refl _ _).alloc (Nat.le_refl _) _)) (by first|omega|(simp;omega)) (Sl.lit (n:=2) (heap_alloc_new w1 (.cells #[.int .i64 0,.int .i64 1] 3)) rfl) (by decide)).mono ?_;rintro e w2 ⟨rfl,hb2⟩))
   go_ret
   exact⟨ret_bool HR2.out.symm,(((Below.refl _ _).alloc (Nat.le_refl _) _).trans (hb1.mono (by simp))).trans ((((Below.refl w1.heap.size w1).alloc (Nat.le_refl _) _).trans (hb2.mono (by simp))).mono (by have:=hb1.size;simp at this;omega))⟩
  ·have HR2:Hid (R=false):=Lib.hid (by rw [HR.out];rfl)
   go_enter Tryz.func99,Tryz.ntmps99
   go_wp2_with (go_at_call 115;refine(bare_eq _ HB.out).mono ?_;rintro e w1 ⟨rfl,hb1,hc1⟩;have hq7:=hc1 ⟨w.heap.size,7,none⟩ (.slice ka (1) kc) (by simp))
   go_ret
   exact⟨ret_bool HR2.out.symm,((Below.refl _ _).alloc (Nat.le_refl _) _).trans (hb1.mono (by simp))⟩
  ·have HR2:Hid (R=!b):=Lib.hid (by rw [HR.out];simp)
   simp only [List.length_cons] at s4;go_enter Tryz.func99,Tryz.ntmps99
   go_wp2_with (first|(((go_at_call 115;refine(bare_eq _ HB.out).mono ?_;rintro e w1 ⟨rfl,hb1,hc1⟩;have hq7:=hc1 ⟨w.heap.size,7,none⟩ (.slice ka (ks.length+1+1) kc) (by simp)));have HX1:=Lib.hid ((hx.later ((Below.refl _ _).alloc (Nat.le_refl _) _)).later hb1))|(go_at_call 118;refine(some_eq (zs:=[0,1]) _ HA.out (HX1.out.later ((Below.refl _ _).alloc (Nat.le_refl _) _)) (by first|omega|(simp;omega)) (Sl.lit (n:=2) (heap_alloc_new w1 (.cells #[.int .i64 0,.int .i64 1] 3)) rfl) (by decide)).mono ?_;rintro e w2 ⟨rfl,hb2⟩))
   go_ret
   exact⟨ret_bool HR2.out.symm,(((Below.refl _ _).alloc (Nat.le_refl _) _).trans (hb1.mono (by simp))).trans ((((Below.refl w1.heap.size w1).alloc (Nat.le_refl _) _).trans (hb2.mono (by simp))).mono (by have:=hb1.size;simp at this;omega))⟩
set_option maxHeartbeats 4000000 in
theorem fields_1 (S:Nat→Prop) (c:Str) (ng:Bool) (ra:Option Addr) (rs:List (Str × Str)) (rc:Nat) (lo hi:Int) (lz:Bool) (ka:Option Addr) (ks:List Rx) (kc:Nat) (w:World)
  (hx:RxSl w S ka ks.length ks) (hsm:(Rx.mk 1 c ng rs lo hi lz ks).small1) :
  Calls Tryz.prog 99 #[.agg #[.int .i64 1,.string ⟨(c).toArray⟩,.bool ng,.slice ra rs.length rc,.int .i64 lo,.int .i64 hi,.bool lz,.slice ka ks.length kc]] w fun e w'=>e=.returned (.bool (fieldsB (.mk 1 c ng rs lo hi lz ks)))∧Below w.heap.size w w':=by
 generalize hR:fieldsB (.mk 1 c ng rs lo hi lz ks)=R
 have HR:=Lib.hid hR;clear hR;have HS:Hid (R=(bareV c ng rs.length lo hi lz&&decide (1<ks.length)&&!anyK ks [1])):=Lib.hid (by rw [←HR.out,←bareB_eq 1 c ng rs lo hi lz ks,any_no1];rfl);obtain⟨s1,s2,s3,s4⟩:=hsm;clear HR s3;cases hbv:bareV c ng rs.length lo hi lz with
 | false =>
  have HB:=Lib.hid hbv;have HR:Hid (R=false):=Lib.hid (by rw [HS.out,hbv];rfl);clear hbv;go_enter Tryz.func99,Tryz.ntmps99
  go_wp2_with (go_at_call 115;refine(bare_eq _ HB.out).mono ?_;rintro e w1 ⟨rfl,hb1,hc1⟩;have hq7:=hc1 ⟨w.heap.size,7,none⟩ (.slice ka (ks.length) kc) (by simp))
  go_ret
  exact⟨ret_bool HR.out.symm,((Below.refl _ _).alloc (Nat.le_refl _) _).trans (hb1.mono (by simp))⟩
 | true =>
  have HB:=Lib.hid hbv;have HR:Hid (R=(decide (1<ks.length)&&!anyK ks [1])):=Lib.hid (by rw [HS.out,hbv];rfl);clear hbv;obtain⟨b,hab⟩:∃b,anyK ks [1]=b:=⟨_,rfl⟩;have HA:=Lib.hid hab;rw [hab] at HR;clear hab;rcases ks with _|⟨x,_|⟨y,ks⟩⟩
  ·have HR2:Hid (R=false):=Lib.hid (by rw [HR.out];rfl)
   go_enter Tryz.func99,Tryz.ntmps99
   go_wp2_with (go_at_call 115;refine(bare_eq _ HB.out).mono ?_;rintro e w1 ⟨rfl,hb1,hc1⟩;have hq7:=hc1 ⟨w.heap.size,7,none⟩ (.slice ka (0) kc) (by simp))
   go_ret
   exact⟨ret_bool HR2.out.symm,((Below.refl _ _).alloc (Nat.le_refl _) _).trans (hb1.mono (by simp))⟩
  ·have HR2:Hid (R=false):=Lib.hid (by rw [HR.out];rfl)
   go_enter Tryz.func99,Tryz.ntmps99
   go_wp2_with (go_at_call 115;refine(bare_eq _ HB.out).mono ?_;rintro e w1 ⟨rfl,hb1,hc1⟩;have hq7:=hc1 ⟨w.heap.size,7,none⟩ (.slice ka (1) kc) (by simp))
   go_ret
   exact⟨ret_bool HR2.out.symm,((Below.refl _ _).alloc (Nat.le_refl _) _).trans (hb1.mono (by simp))⟩
  ·have HR2:Hid (R=!b):=Lib.hid (by rw [HR.out];simp)
   simp only [List.length_cons] at s4;go_enter Tryz.func99,Tryz.ntmps99
   go_wp2_with (first|(((go_at_call 115;refine(bare_eq _ HB.out).mono ?_;rintro e w1 ⟨rfl,hb1,hc1⟩;have hq7:=hc1 ⟨w.heap.size,7,none⟩ (.slice ka (ks.length+1+1) kc) (by simp)));have HX1:=Lib.hid ((hx.later ((Below.refl _ _).alloc (Nat.le_refl _) _)).later hb1))|(go_at_call 118;refine(some_eq (zs:=[1]) _ HA.out (HX1.out.later ((Below.refl _ _).alloc (Nat.le_refl _) _)) (by first|omega|(simp;omega)) (Sl.lit (n:=1) (heap_alloc_new w1 (.cells #[.int .i64 1] 3)) rfl) (by decide)).mono ?_;rintro e w2 ⟨rfl,hb2⟩))
   go_ret
   exact⟨ret_bool HR2.out.symm,(((Below.refl _ _).alloc (Nat.le_refl _) _).trans (hb1.mono (by simp))).trans ((((Below.refl w1.heap.size w1).alloc (Nat.le_refl _) _).trans (hb2.mono (by simp))).mono (by have:=hb1.size;simp at this;omega))⟩
def oneB (ks:List Rx):Bool:=match ks with|[x]=>repB x.kind|_=>false
theorem repeated_eq {k:Int} {b:Bool} (w:World) (h:repB k=b):Calls Tryz.prog 117 #[.int .i64 k] w fun e w'=>e=.returned (.bool b)∧w=w':=by
 subst h;exact repeated_any k w
set_option maxHeartbeats 4000000 in
theorem fields_7 (S:Nat→Prop) (c:Str) (ng:Bool) (ra:Option Addr) (rs:List (Str × Str)) (rc:Nat) (lo hi:Int) (lz:Bool) (ka:Option Addr) (ks:List Rx) (kc:Nat) (w:World)
  (hx:RxSl w S ka ks.length ks) (hsm:(Rx.mk 7 c ng rs lo hi lz ks).small1) :
  Calls Tryz.prog 99 #[.agg #[.int .i64 7,.string ⟨(c).toArray⟩,.bool ng,.slice ra rs.length rc,.int .i64 lo,.int .i64 hi,.bool lz,.slice ka ks.length kc]] w fun e w'=>e=.returned (.bool (fieldsB (.mk 7 c ng rs lo hi lz ks)))∧Below w.heap.size w w':=by
 generalize hR:fieldsB (.mk 7 c ng rs lo hi lz ks)=R
 have HR:=Lib.hid hR;clear hR;have HS:Hid (R=(bareV c ng rs.length 0 0 false&&oneB ks&&decide (0≤lo∧lo≤255∧(hi=-1∨lo≤hi∧hi≤255)))):=Lib.hid (by rw [←HR.out,←bareB_eq 7 c ng rs 0 0 false ks];rfl);obtain⟨s1,s2,s3,s4⟩:=hsm;clear HR s3;cases hbv:bareV c ng rs.length 0 0 false with
 | false =>
  have HB:=Lib.hid hbv;have HR:Hid (R=false):=Lib.hid (by rw [HS.out,hbv];rfl);clear hbv;go_enter Tryz.func99,Tryz.ntmps99
  go_wp2
  go_quiet (fail)
  go_wp2_with (go_at_call 115;refine(bare_eq _ HB.out).mono ?_;rintro e w1 ⟨rfl,hb1,hc1⟩;have hq7:=hc1 ⟨w.heap.size,7,none⟩ (.slice ka (ks.length) kc) (by simp [go_sem]))
  go_ret
  exact⟨ret_bool HR.out.symm,((((below_drewN ((Below.refl w.heap.size w).alloc (Nat.le_refl _) _) _).setCell (by simp) _).setCell (by simp) _).setCell (by simp) _).trans (hb1.mono (by simp [World.setCell]))⟩
 | true =>
  have HB:=Lib.hid hbv;have HR:Hid (R=(oneB ks&&decide (0≤lo∧lo≤255∧(hi=-1∨lo≤hi∧hi≤255)))):=Lib.hid (by rw [HS.out,hbv];rfl);clear hbv;rcases ks with _|⟨x,_|⟨y,ks⟩⟩
  ·have HR2:Hid (R=false):=Lib.hid (by rw [HR.out];rfl)
   go_enter Tryz.func99,Tryz.ntmps99
   go_wp2
   go_quiet (fail)
   go_wp2_with (go_at_call 115;refine(bare_eq _ HB.out).mono ?_;rintro e w1 ⟨rfl,hb1,hc1⟩;have hq7:=hc1 ⟨w.heap.size,7,none⟩ (.slice ka (0) kc) (by simp [go_sem]))
   go_ret
   exact⟨ret_bool HR2.out.symm,((((below_drewN ((Below.refl w.heap.size w).alloc (Nat.le_refl _) _) _).setCell (by simp) _).setCell (by simp) _).setCell (by simp) _).trans (hb1.mono (by simp [World.setCell]))⟩
  ·obtain⟨xk,xc,xn,xr,xl,xh,xz,xs⟩:=x
   obtain⟨b,o,_,_,_,_,rfl,_,hbB,_,_,_,q0,_⟩:=hx.cells (m:=0) rfl;simp only [Nat.zero_mul,Nat.add_zero] at q0;obtain⟨rb,hrb⟩:∃rb,repB xk=rb:=⟨_,rfl⟩;have HRB:=Lib.hid hrb;have HR2:Hid (R=(rb&&decide (0≤lo∧lo≤255∧(hi=-1∨lo≤hi∧hi≤255)))):=Lib.hid (by rw [HR.out,←HRB.out];rfl);clear hrb;cases rb
   all_goals
    go_enter Tryz.func99,Tryz.ntmps99
    go_wp2
    go_quiet (fail)
    go_wp2_with (first|(go_at_call 115;refine(bare_eq _ HB.out).mono ?_;rintro e w1 ⟨rfl,hb1,hc1⟩;have hq7:=hc1 ⟨w.heap.size,7,none⟩ (.slice (some ⟨b,o,none⟩) 1 kc) (by simp [go_sem]);have hq0:w1.cell? ⟨b,o,none⟩=some (.int .i64 xk):=hc1 _ _ (by simp [go_sem,World.cell?_alloc_lt,hbB,q0]))|(go_at_call 117;refine(repeated_eq _ HRB.out).mono ?_;rintro e w2 ⟨rfl,rfl⟩))
    all_goals
     go_ret
     refine⟨ret_bool ?_,((((below_drewN ((Below.refl w.heap.size w).alloc (Nat.le_refl _) _) _).setCell (by simp) _).setCell (by simp) _).setCell (by simp) _).trans (hb1.mono (by simp [World.setCell]))⟩;rw [HR2.out];first|rfl|(rw [Bool.true_and,Bool.eq_iff_iff];simp;omega)
  ·have HR2:Hid (R=false):=Lib.hid (by rw [HR.out];rfl)
   go_enter Tryz.func99,Tryz.ntmps99
   go_wp2
   go_quiet (fail)
   go_wp2_with (go_at_call 115;refine(bare_eq _ HB.out).mono ?_;rintro e w1 ⟨rfl,hb1,hc1⟩;have hq7:=hc1 ⟨w.heap.size,7,none⟩ (.slice ka (ks.length+1+1) kc) (by simp [go_sem]))
   go_ret
   exact⟨ret_bool HR2.out.symm,((((below_drewN ((Below.refl w.heap.size w).alloc (Nat.le_refl _) _) _).setCell (by simp) _).setCell (by simp) _).setCell (by simp) _).trans (hb1.mono (by simp [World.setCell]))⟩
theorem fields_any (S:Nat→Prop) (K:Int) (c:Str) (ng:Bool) (ra:Option Addr) (rs:List (Str × Str)) (rc:Nat) (lo hi:Int) (lz:Bool) (ka:Option Addr) (ks:List Rx) (kc:Nat) (w:World)
  (hr:SlS w S ra 2 rs.length (rcells rs)) (hx:RxSl w S ka ks.length ks) (hsm:(Rx.mk K c ng rs lo hi lz ks).small1) :
  Calls Tryz.prog 99 #[.agg #[.int .i64 K,.string ⟨(c).toArray⟩,.bool ng,.slice ra rs.length rc,.int .i64 lo,.int .i64 hi,.bool lz,.slice ka ks.length kc]] w fun e w'=>e=.returned (.bool (fieldsB (.mk K c ng rs lo hi lz ks)))∧Below w.heap.size w w':=by
 by_cases h0:K=0
 ·subst h0;exact fields_0 S c ng ra rs rc lo hi lz ka ks kc w hx hsm
 by_cases h1:K=1
 ·subst h1;exact fields_1 S c ng ra rs rc lo hi lz ka ks kc w hx hsm
 by_cases h2:K=2
 ·subst h2;exact fields_2 c ng ra rs rc lo hi lz ka ks kc w hsm
 by_cases h4:K=4
 ·subst h4;exact fields_4 c ng ra rs rc lo hi lz ka ks kc w hr.sl hsm
 by_cases h7:K=7
 ·subst h7;exact fields_7 S c ng ra rs rc lo hi lz ka ks kc w hx hsm
 by_cases h5:K=5∨K=6
 ·exact fields_one K h5 c ng ra rs rc lo hi lz ka ks kc w hsm
 by_cases h3:K=3∨K=8∨K=9∨K=10∨K=11
 ·exact fields_none K h3 c ng ra rs rc lo hi lz ka ks kc w hsm
 ·exact fields_else K (by omega) c ng ra rs.length rs rc lo hi lz ka ks.length ks kc w
end Go.Proofs.YtbgcjpefocdkkaaGreat
set_option maxRecDepth 100000
namespace Go.Proofs.YtbgcjpefocdkkaaGreat
open Go.RowKit
def FitPost (x:Rx) (left dp:Int) (e:Ending):Prop :=
 ∃l':Int,e=.returned (.tuple #[.int .i64 l',.bool (okB x left dp)])∧(okB x left dp=true→l'=left-x.parts)
def FitRel (ks:List Rx) (R:Bool) (tot dp:Int) (w:World) (t q:Value) (wr:World):Prop :=
 ∃(k:Nat) (l:Int),k≤ks.length∧q=.int .i64 k∧t=.int .i64 l∧0≤l∧l≤100000∧Below w.heap.size w wr∧Hid (okL (ks.drop k) l dp=R)∧Hid (l-Rx.partsL (ks.drop k)=tot)
theorem okL_nil {l dp:Int} (h:0≤l) (h':0≤dp):okL [] l dp=true:=by
 unfold okL;rw [decide_eq_true (show ((Rx.partsL []:Nat):Int)≤l from h),decide_eq_true (show ((Rx.deepL []:Nat):Int)≤dp from h')];rfl
theorem fields_eq {S:Nat→Prop} {K:Int} {c:Str} {ng:Bool} {ra:Option Addr} {rs:List (Str × Str)} {rc:Nat} {lo hi:Int} {lz:Bool} {ka:Option Addr} {ks:List Rx} {kc:Nat} {b:Bool} (w:World)
  (h:fieldsB (.mk K c ng rs lo hi lz ks)=b) (hr:SlS w S ra 2 rs.length (rcells rs)) (hx:RxSl w S ka ks.length ks) (hsm:(Rx.mk K c ng rs lo hi lz ks).small1) :
  Calls Tryz.prog 99 #[.agg #[.int .i64 K,.string ⟨(c).toArray⟩,.bool ng,.slice ra rs.length rc,.int .i64 lo,.int .i64 hi,.bool lz,.slice ka ks.length kc]] w fun e w'=>e=.returned (.bool b)∧Below w.heap.size w w'∧∀a u,w.cell? a=some u→w'.cell? a=some u:=by
 subst h;exact(fields_any S K c ng ra rs rc lo hi lz ka ks kc w hr hx hsm).mono fun _ _ ⟨h1,h2⟩=>⟨h1,h2,cell_kept h2⟩
set_option maxHeartbeats 4000000 in
theorem fits_any (S:Nat→Prop):∀(N:Nat) (x:Rx),x.parts≤N→x.parts≤1000000→x.small→∀(cc:List Value) (w:World) (left dp:Int),RxV w S cc x→-100000≤left→left≤100000→-100000≤dp→dp≤100000 →
  Calls Tryz.prog 85 #[.agg cc.toArray,.int .i64 left,.int .i64 dp] w fun e w'=>FitPost x left dp e∧Below w.heap.size w w'
 | 0,x,h,_,_,_,_,_,_,_,_,_,_,_=>by have:=Rx.parts_pos x;omega
 | N+1,.mk k c ng rs lo hi lz ks,h,hm,hsm,cc,w,left,dp,hv,l0,l1,d0,d1=>by
  obtain⟨ra,rc,ka,kc,rfl,hrs,hx⟩:=hv.open_;obtain⟨hs1,hs2⟩:=hsm;simp only [Rx.parts] at h hm;have hlen:=Rx.len_parts ks;have ih:=fun(y:Rx) (hy:y.parts≤Rx.partsL ks)=>fits_any S N y (by omega) (by omega)
  have IH:=Lib.hid ih;have HSM:=Lib.hid hs2;have HS1:=Lib.hid hs1;have hb0:=(Below.refl w.heap.size w).alloc (Nat.le_refl _) (.cells #[.int .i64 k,.string ⟨(c).toArray⟩,.bool ng,.slice ra rs.length rc,.int .i64 lo,.int .i64 hi,.bool lz,.slice ka ks.length kc] 34);have HX0:=Lib.hid (hx.later hb0);have HRS:=Lib.hid (hrs.keep (Kept.all hb0));clear hx hv hrs ih hs1 hs2;unfold rxc;cases hG:grpB k with
  | true =>
   cases hF:fieldsB (.mk k c ng rs lo hi lz ks) with
   | false =>
    have HF:=Lib.hid hF;have HO:Hid (okB (.mk k c ng rs lo hi lz ks) left dp=false):=Lib.hid (by rw [okB_eq,hF];simp);clear hF;go_enter Tryz.func85,Tryz.ntmps85
    go_wp2_with (first|(go_at_call 98;refine(group_any _ _).mono ?_;rintro e w1 ⟨rfl,rfl⟩;rw [hG])|(go_at_call 99;refine(fields_eq _ HF.out HRS.out HX0.out HS1.out).mono ?_;rintro e w1 ⟨rfl,hb1,hc1⟩;have z1:=hc1 ⟨w.heap.size,7,none⟩ (.slice ka ks.length kc) (by simp)))
    all_goals
     (go_ret2;refine⟨⟨left,by rw [HO.out];rfl,fun h=>by rw [HO.out] at h;cases h⟩,?_⟩;first|exact(Below.refl _ _).alloc (Nat.le_refl _) _|exact((Below.refl _ _).alloc (Nat.le_refl _) _).trans (hb1.mono (by simp)))
   | true =>
    have HF:=Lib.hid hF;by_cases hld:left<1∨dp-1<0
    ·have HO:Hid (okB (.mk k c ng rs lo hi lz ks) left dp=false):=Lib.hid (by
      rw [okB_eq,hG];rcases hld with h|h
      ·rw [decide_eq_false (by omega:¬1≤left)];rfl
      ·simp;omega)
     clear hF;go_enter Tryz.func85,Tryz.ntmps85
     go_wp2_with (first|(go_at_call 98;refine(group_any _ _).mono ?_;rintro e w1 ⟨rfl,rfl⟩;rw [hG])|(go_at_call 99;refine(fields_eq _ HF.out HRS.out HX0.out HS1.out).mono ?_;rintro e w1 ⟨rfl,hb1,hc1⟩;have z1:=hc1 ⟨w.heap.size,7,none⟩ (.slice ka ks.length kc) (by simp)))
     all_goals first
      | (exfalso;omega)
      | (go_ret2;refine⟨⟨left,by rw [HO.out];rfl,fun h=>by rw [HO.out] at h;cases h⟩,?_⟩;first|exact(Below.refl _ _).alloc (Nat.le_refl _) _|exact((Below.refl _ _).alloc (Nat.le_refl _) _).trans (hb1.mono (by simp)))
    ·have hl1:1≤left:=by omega
     have hd0:0≤dp-1:=by omega
     have HO:Hid (okB (.mk k c ng rs lo hi lz ks) left dp=okL ks (left-1) (dp-1)):=Lib.hid (by rw [okB_eq,hG,hF,decide_eq_true hl1];simp;omega);clear hF hld;obtain⟨R,hR⟩:∃R,okL ks (left-1) (dp-1)=R:=⟨_,rfl⟩;have HR0:Hid (okL (ks.drop 0) (left-1) (dp-1)=R):=Lib.hid hR;have HT0:Hid (left-1-Rx.partsL (ks.drop 0)=left-(Rx.mk k c ng rs lo hi lz ks).parts):=Lib.hid (by simp only [Rx.parts,List.drop_zero];omega);obtain⟨tot,htot⟩:∃tot,left-((Rx.mk k c ng rs lo hi lz ks).parts:Int)=tot:=⟨_,rfl⟩;have HOR:Hid (okB (.mk k c ng rs lo hi lz ks) left dp=R):=Lib.hid (by rw [HO.out,hR]);have HTT:=Lib.hid htot;rw [htot] at HT0;clear hR htot HO;go_enter Tryz.func85,Tryz.ntmps85
     go_wp2_with (first|(go_at_call 98;refine(group_any _ _).mono ?_;rintro e w1 ⟨rfl,rfl⟩;rw [hG])|(go_at_call 99;refine(fields_eq _ HF.out HRS.out HX0.out HS1.out).mono ?_;rintro e w1 ⟨rfl,hb1,hc1⟩;have z1:=hc1 ⟨w.heap.size,7,none⟩ (.slice ka ks.length kc) (by simp)))
     have HX1:=Lib.hid ((HX0.out.later (Below.refl _ _)).later hb1);have hbw1:Below w.heap.size w w1:=((Below.refl _ _).alloc (Nat.le_refl _) _).trans (hb1.mono (by simp));have hz1:=hbw1.size;clear hb1 hc1 z1;go_loopw [1,33] (fun t q wr=>FitRel ks R tot (dp-1) w1 t q wr) (fun _ q _=>ks.length-(intOf q).toNat)
     case atStart=>exact⟨0,left-1,by omega,rfl,rfl,by omega,by omega,Below.refl _ _,HR0,HT0⟩
     case round =>
      obtain⟨i,l,hi,rfl,rfl,hl0,hl9,hb,HL,HTL⟩:=hrel;clear HR0 HT0;have hB:=hb.size;cases hd:ks.drop i with
      | nil =>
       have h2:ks.length≤i:=by simpa using hd
       have HE:Hid (R=true):=Lib.hid (by rw [←HL.out,hd,okL_nil hl0 hd0]);have HE2:Hid (l=tot):=Lib.hid (by rw [←HTL.out,hd];simp [Rx.partsL]);clear hd HL HTL;go_wp2
       go_ret2
       exact⟨⟨l,by rw [HOR.out,HE.out];rfl,fun _=>by rw [HE2.out,←HTT.out]⟩,hbw1.trans (hb.mono hz1)⟩
      | cons y r =>
       have HX:=HX1;obtain⟨h2,h3,hr⟩:=ldrop_cons hd;obtain⟨yk,yc,yn,yr,yl,yh,yz,ys⟩:=y;obtain⟨b,o,ya,yrc,yka,ykc,rfl,hS,hbB,_,_,hyv,c0,c1,c2,c3,c4,c5,c6,c7⟩:=(HX.out.later hb).cells h3;have hyp:=Rx.parts_mem (List.mem_of_getElem? h3);have hym:=smallL_mem HSM.out (List.mem_of_getElem? h3);have Hr:=Lib.hid hr;have HE:Hid (R=(okB (.mk yk yc yn yr yl yh yz ys) l (dp-1)&&okL r (l-(Rx.mk yk yc yn yr yl yh yz ys).parts) (dp-1))):=Lib.hid (by rw [←HL.out,hd,okL_cons]);have HE2:Hid (l-(Rx.mk yk yc yn yr yl yh yz ys).parts-Rx.partsL r=tot):=Lib.hid (by rw [←HTL.out,hd];simp only [Rx.partsL];omega);have HYV:=Lib.hid (hyv.later ((Below.refl wr.heap.size wr).alloc (Nat.le_refl _) (.cells (rxc yk yc yn ya yr.length yrc yl yh yz yka ys.length ykc).toArray 34)));unfold rxc at HYV;have HYM:=Lib.hid hym;clear hd HL HTL hr h3 hyv hym;go_wp2_with (go_at_call 85;refine(IH.out _ hyp HYM.out _ _ l (dp-1) HYV.out (by omega) (by omega) (by omega) (by omega)).mono ?_)
       rintro e w2 ⟨⟨l',rfl,hl'⟩,hb2⟩;have hbw2:Below w.heap.size w w2:=hbw1.trans (((hb.alloc hB _).trans (hb2.mono (by simp;omega))).mono hz1);cases hok:okB (.mk yk yc yn yr yl yh yz ys) l (dp-1) with
       | false =>
        have HE3:Hid (R=false):=Lib.hid (by rw [HE.out,hok];rfl);clear hl';go_wp2
        go_ret2
        exact⟨⟨_,by rw [HOR.out,HE3.out];rfl,fun h=>by rw [HOR.out,HE3.out] at h;cases h⟩,hbw2⟩
       | true =>
        have hl2:=hl' hok;have hpp:(Rx.mk yk yc yn yr yl yh yz ys).parts≤l:=by
         have h:=hok;simp only [okB,Bool.and_eq_true,decide_eq_true_eq] at h;exact h.1.2
        have HE3:Hid (okL r l' (dp-1)=R):=Lib.hid (by rw [HE.out,hok,hl2];rfl);have hl3:0≤l':=by omega
        have hl4:l'≤100000:=by omega
        have HE4:Hid (l'-Rx.partsL r=tot):=Lib.hid (by rw [hl2];exact HE2.out);clear hl' hl2;go_wp2
        go_roundw
        case rel=>exact⟨i+1,l',by omega,by go_num,rfl,hl3,hl4,(hb.alloc hB _).trans (hb2.mono (by simp;omega)),Lib.hid (by rw [Hr.out];exact HE3.out),Lib.hid (by rw [Hr.out];exact HE4.out)⟩
        case measure=>simp [intOf];omega
  | false =>
   cases hF:fieldsB (.mk k c ng rs lo hi lz ks) with
   | false =>
    have HF:=Lib.hid hF;have HO:Hid (okB (.mk k c ng rs lo hi lz ks) left dp=false):=Lib.hid (by rw [okB_eq,hF];simp);clear hF;go_enter Tryz.func85,Tryz.ntmps85
    go_wp2_with (first|(go_at_call 98;refine(group_any _ _).mono ?_;rintro e w1 ⟨rfl,rfl⟩;rw [hG])|(go_at_call 99;refine(fields_eq _ HF.out HRS.out HX0.out HS1.out).mono ?_;rintro e w1 ⟨rfl,hb1,hc1⟩;have z1:=hc1 ⟨w.heap.size,7,none⟩ (.slice ka ks.length kc) (by simp)))
    all_goals
     (go_ret2;refine⟨⟨left,by rw [HO.out];rfl,fun h=>by rw [HO.out] at h;cases h⟩,?_⟩;first|exact(Below.refl _ _).alloc (Nat.le_refl _) _|exact((Below.refl _ _).alloc (Nat.le_refl _) _).trans (hb1.mono (by simp)))
   | true =>
    have HF:=Lib.hid hF;by_cases hld:left<1∨dp<0
    ·have HO:Hid (okB (.mk k c ng rs lo hi lz ks) left dp=false):=Lib.hid (by
      rw [okB_eq,hG];rcases hld with h|h
      ·rw [decide_eq_false (by omega:¬1≤left)];rfl
      ·simp;omega)
     clear hF;go_enter Tryz.func85,Tryz.ntmps85
     go_wp2_with (first|(go_at_call 98;refine(group_any _ _).mono ?_;rintro e w1 ⟨rfl,rfl⟩;rw [hG])|(go_at_call 99;refine(fields_eq _ HF.out HRS.out HX0.out HS1.out).mono ?_;rintro e w1 ⟨rfl,hb1,hc1⟩;have z1:=hc1 ⟨w.heap.size,7,none⟩ (.slice ka ks.length kc) (by simp)))
     all_goals first
      | (exfalso;omega)
      | (go_ret2;refine⟨⟨left,by rw [HO.out];rfl,fun h=>by rw [HO.out] at h;cases h⟩,?_⟩;first|exact(Below.refl _ _).alloc (Nat.le_refl _) _|exact((Below.refl _ _).alloc (Nat.le_refl _) _).trans (hb1.mono (by simp)))
    ·have hl1:1≤left:=by omega
     have hd0:0≤dp:=by omega
     have HO:Hid (okB (.mk k c ng rs lo hi lz ks) left dp=okL ks (left-1) (dp)):=Lib.hid (by rw [okB_eq,hG,hF,decide_eq_true hl1];simp;omega);clear hF hld;obtain⟨R,hR⟩:∃R,okL ks (left-1) (dp)=R:=⟨_,rfl⟩;have HR0:Hid (okL (ks.drop 0) (left-1) (dp)=R):=Lib.hid hR;have HT0:Hid (left-1-Rx.partsL (ks.drop 0)=left-(Rx.mk k c ng rs lo hi lz ks).parts):=Lib.hid (by simp only [Rx.parts,List.drop_zero];omega);obtain⟨tot,htot⟩:∃tot,left-((Rx.mk k c ng rs lo hi lz ks).parts:Int)=tot:=⟨_,rfl⟩;have HOR:Hid (okB (.mk k c ng rs lo hi lz ks) left dp=R):=Lib.hid (by rw [HO.out,hR]);have HTT:=Lib.hid htot;rw [htot] at HT0;clear hR htot HO;go_enter Tryz.func85,Tryz.ntmps85
     go_wp2_with (first|(go_at_call 98;refine(group_any _ _).mono ?_;rintro e w1 ⟨rfl,rfl⟩;rw [hG])|(go_at_call 99;refine(fields_eq _ HF.out HRS.out HX0.out HS1.out).mono ?_;rintro e w1 ⟨rfl,hb1,hc1⟩;have z1:=hc1 ⟨w.heap.size,7,none⟩ (.slice ka ks.length kc) (by simp)))
     have HX1:=Lib.hid ((HX0.out.later (Below.refl _ _)).later hb1);have hbw1:Below w.heap.size w w1:=((Below.refl _ _).alloc (Nat.le_refl _) _).trans (hb1.mono (by simp));have hz1:=hbw1.size;clear hb1 hc1 z1;go_loopw [1,33] (fun t q wr=>FitRel ks R tot (dp) w1 t q wr) (fun _ q _=>ks.length-(intOf q).toNat)
     case atStart=>exact⟨0,left-1,by omega,rfl,rfl,by omega,by omega,Below.refl _ _,HR0,HT0⟩
     case round =>
      obtain⟨i,l,hi,rfl,rfl,hl0,hl9,hb,HL,HTL⟩:=hrel;clear HR0 HT0;have hB:=hb.size;cases hd:ks.drop i with
      | nil =>
       have h2:ks.length≤i:=by simpa using hd
       have HE:Hid (R=true):=Lib.hid (by rw [←HL.out,hd,okL_nil hl0 hd0]);have HE2:Hid (l=tot):=Lib.hid (by rw [←HTL.out,hd];simp [Rx.partsL]);clear hd HL HTL;go_wp2
       go_ret2
       exact⟨⟨l,by rw [HOR.out,HE.out];rfl,fun _=>by rw [HE2.out,←HTT.out]⟩,hbw1.trans (hb.mono hz1)⟩
      | cons y r =>
       have HX:=HX1;obtain⟨h2,h3,hr⟩:=ldrop_cons hd;obtain⟨yk,yc,yn,yr,yl,yh,yz,ys⟩:=y;obtain⟨b,o,ya,yrc,yka,ykc,rfl,hS,hbB,_,_,hyv,c0,c1,c2,c3,c4,c5,c6,c7⟩:=(HX.out.later hb).cells h3;have hyp:=Rx.parts_mem (List.mem_of_getElem? h3);have hym:=smallL_mem HSM.out (List.mem_of_getElem? h3);have Hr:=Lib.hid hr;have HE:Hid (R=(okB (.mk yk yc yn yr yl yh yz ys) l (dp)&&okL r (l-(Rx.mk yk yc yn yr yl yh yz ys).parts) (dp))):=Lib.hid (by rw [←HL.out,hd,okL_cons]);have HE2:Hid (l-(Rx.mk yk yc yn yr yl yh yz ys).parts-Rx.partsL r=tot):=Lib.hid (by rw [←HTL.out,hd];simp only [Rx.partsL];omega);have HYV:=Lib.hid (hyv.later ((Below.refl wr.heap.size wr).alloc (Nat.le_refl _) (.cells (rxc yk yc yn ya yr.length yrc yl yh yz yka ys.length ykc).toArray 34)));unfold rxc at HYV;have HYM:=Lib.hid hym;clear hd HL HTL hr h3 hyv hym;go_wp2_with (go_at_call 85;refine(IH.out _ hyp HYM.out _ _ l (dp) HYV.out (by omega) (by omega) (by omega) (by omega)).mono ?_)
       rintro e w2 ⟨⟨l',rfl,hl'⟩,hb2⟩;have hbw2:Below w.heap.size w w2:=hbw1.trans (((hb.alloc hB _).trans (hb2.mono (by simp;omega))).mono hz1);cases hok:okB (.mk yk yc yn yr yl yh yz ys) l (dp) with
       | false =>
        have HE3:Hid (R=false):=Lib.hid (by rw [HE.out,hok];rfl);clear hl';go_wp2
        go_ret2
        exact⟨⟨_,by rw [HOR.out,HE3.out];rfl,fun h=>by rw [HOR.out,HE3.out] at h;cases h⟩,hbw2⟩
       | true =>
        have hl2:=hl' hok;have hpp:(Rx.mk yk yc yn yr yl yh yz ys).parts≤l:=by
         have h:=hok;simp only [okB,Bool.and_eq_true,decide_eq_true_eq] at h;exact h.1.2
        have HE3:Hid (okL r l' (dp)=R):=Lib.hid (by rw [HE.out,hok,hl2];rfl);have hl3:0≤l':=by omega
        have hl4:l'≤100000:=by omega
        have HE4:Hid (l'-Rx.partsL r=tot):=Lib.hid (by rw [hl2];exact HE2.out);clear hl' hl2;go_wp2
        go_roundw
        case rel=>exact⟨i+1,l',by omega,by go_num,rfl,hl3,hl4,(hb.alloc hB _).trans (hb2.mono (by simp;omega)),Lib.hid (by rw [Hr.out];exact HE3.out),Lib.hid (by rw [Hr.out];exact HE4.out)⟩
        case measure=>simp [intOf];omega
theorem RxMay_any (S:Nat→Prop) (x:Rx) (cc:List Value) (w:World) (hm:x.parts≤1000000) (hsm:x.small) (hv:RxV w S cc x) :
  Calls Tryz.prog 78 #[.agg cc.toArray] w fun e w'=>e=.returned (.bool (mayB x))∧Below w.heap.size w w':=by
 obtain⟨k,c,ng,rs,lo,hi,lz,ks⟩:=x;obtain⟨ra,rc,ka,kc,rfl,hrs,hx⟩:=hv.open_;have HV:=Lib.hid (hv.later ((Below.refl w.heap.size w).alloc (Nat.le_refl _) (.cells #[.int .i64 k,.string ⟨(c).toArray⟩,.bool ng,.slice ra rs.length rc,.int .i64 lo,.int .i64 hi,.bool lz,.slice ka ks.length kc] 34)));have HSM:=Lib.hid hsm;have HM:=Lib.hid hm;clear hv hrs hx hsm hm;unfold rxc at HV ⊢;go_enter Tryz.func78,Tryz.ntmps78
 go_wp2_with (go_at_call 85;refine(fits_any S _ _ (Nat.le_refl _) HM.out HSM.out _ _ 512 16 HV.out (by decide) (by decide) (by decide) (by decide)).mono ?_;rintro e w1 ⟨⟨l',rfl,hl'⟩,hb1⟩)
 go_ret
 exact⟨rfl,((Below.refl _ _).alloc (Nat.le_refl _) _).trans (hb1.mono (by simp))⟩
end Go.Proofs.YtbgcjpefocdkkaaGreat
set_option maxRecDepth 100000
namespace Go.Proofs.YtbgcjpefocdkkaaGreat
open Go.RowKit
set_option maxHeartbeats 1000000 in
theorem XMay_any (S:Nat→Prop) (f:Tf) (hsm:f.small) (fc:List Value) (w:World) (hv:TfV w S fc f) :
  Calls Tryz.prog 65 #[.agg fc.toArray] w fun e w'=>e=.returned (.bool (tfMay f))∧Below w.heap.size w w':=by
 obtain⟨rk,rch,rng,rrs,rlo,rhi,rlz,rks,ra,rcp,rka,rkc,fa,fcp,hc⟩:=hv.open_;obtain⟨X,fs,fd,al⟩:=f;obtain⟨hx,hp,hfs⟩:=hsm;have hx1:X=.mk rk rch rng rrs rlo rhi rlz rks:=hc.rx;have hfce:fc=[.int .i64 rk,.string ⟨(rch).toArray⟩,.bool rng,.slice ra rrs.length rcp,.int .i64 rlo,.int .i64 rhi,.bool rlz,.slice rka rks.length rkc,.slice fa fs.length fcp,.bool fd,.bool al]:=hc.eq;obtain⟨W0,hW0⟩:∃W0,W0=w.alloc (.cells fc.toArray 37):=⟨_,rfl⟩;have hb0:Below w.heap.size w W0:=by rw [hW0];exact(Below.refl _ _).alloc (Nat.le_refl _) _
 have HB1:Hid (W0.heap[w.heap.size]?=some (.cells fc.toArray 37 (0,0))):=Lib.hid (by rw [hW0];exact heap_alloc_new w _);have HXV:Hid (RxV W0 S [.int .i64 rk,.string ⟨(rch).toArray⟩,.bool rng,.slice ra rrs.length rcp,.int .i64 rlo,.int .i64 rhi,.bool rlz,.slice rka rks.length rkc] X):=Lib.hid (hx1▸hc.rv.later hb0);have HFS:Hid (SlS W0 S fa 5 fs.length (fcells fs)):=Lib.hid (hc.fv.keep (Kept.all hb0));have HXS:=Lib.hid hx;have HP:=Lib.hid hp;have HFL:=Lib.hid hfs;have HTM:Hid (tfMay ⟨X,fs,fd,al⟩=(mayB X&&mayFs fs)):=Lib.hid rfl;subst hfce;have HW0:=Lib.hid hW0;rw [HTM.out];clear hv hc hx hx1 hW0 hfs hp HTM;have HRM:=Lib.hid (RxMay_any S X _ W0 HP.out HXS.out HXV.out);cases hm:mayB X with
 | false =>
  rw [hm] at HRM;clear hm;go_enter Tryz.func65,Tryz.ntmps65
  go_upto_region 1 with fail
  rw [←HW0.out];clear HW0;go_wp2_with (first
   | (refine wpList_ldW rfl 34 (.tmp 3) rfl w.heap.size 0 rfl [.int .i64 rk,.string ⟨(rch).toArray⟩,.bool rng,.slice ra rrs.length rcp,.int .i64 rlo,.int .i64 rhi,.bool rlz,.slice rka rks.length rkc] _ (range_blk (ds:=[.slice fa fs.length fcp,.bool fd,.bool al]) HB1.out) rx_under rfl (by rw [rx_size];rfl) ?_)
   | (go_at_call 78;refine HRM.out.mono ?_))
  first|rintro e w1 rfl hb1|rintro e w1 ⟨rfl,hb1⟩
  go_wp2
  go_ret
  exact⟨rfl,bel2 hb0 hb1⟩
 | true =>
  rw [hm] at HRM;clear hm;go_enter Tryz.func65,Tryz.ntmps65
  go_upto_region 1 with fail
  rw [←HW0.out];clear HW0;go_wp2_with (first
   | (refine wpList_ldW rfl 34 (.tmp 3) rfl w.heap.size 0 rfl [.int .i64 rk,.string ⟨(rch).toArray⟩,.bool rng,.slice ra rrs.length rcp,.int .i64 rlo,.int .i64 rhi,.bool rlz,.slice rka rks.length rkc] _ (range_blk (ds:=[.slice fa fs.length fcp,.bool fd,.bool al]) HB1.out) rx_under rfl (by rw [rx_size];rfl) ?_)
   | (go_at_call 78;refine HRM.out.mono ?_))
  first|rintro e w1 rfl hb1|rintro e w1 ⟨rfl,hb1⟩
  have hx1:=(hb1.block _ (heap_lt HB1.out)).trans HB1.out;have z8:=blk_cell hx1 8 rfl;have HM:=Lib.hid (May_any fa fs.length fcp fs w1 (HFS.out.keep (Kept.all hb1)).sl HFL.out);clear hx1;go_wp2_with (go_at_call 79;refine HM.out.mono ?_)
  first|rintro e w2 rfl hb2|rintro e w2 ⟨rfl,hb2⟩
  go_wp2
  go_ret
  exact⟨by simp,bel2 (bel2 hb0 hb1) hb2⟩
set_option maxHeartbeats 1000000 in
theorem Nothing_yes (S:Nat→Prop) (k:Int) (t:Str) (n:Int) (o:List Str) (cc:List Value) (w:World) (hv:SnV w S cc (.mk k t n false false tf0 o [])) :
  Calls Tryz.prog 45 #[.agg cc.toArray] w fun e w'=>e=.returned (.bool true)∧Below w.heap.size w w':=by
 obtain⟨W0,hW0⟩:∃W0,W0=w.alloc (.cells cc.toArray 40):=⟨_,rfl⟩;have hb0:Below w.heap.size w W0:=by rw [hW0];exact(Below.refl _ _).alloc (Nat.le_refl _) _
 have HB1:Hid (W0.heap[w.heap.size]?=some (.cells cc.toArray 40 (0,0))):=Lib.hid (by rw [hW0];exact heap_alloc_new w _);have HW0:=Lib.hid hW0;have hcl:=hv.len;have HV0:=Lib.hid (hv.later hb0);obtain⟨fc,oa,oc,ka,kc,A⟩:=hv.at_;obtain⟨k0,k1,k2,k3,k4,k16,k17,kr⟩:=A.box HB1.out;have HFC:=Lib.hid A.fl;have HFV:=Lib.hid (A.fv.keep (Kept.all hb0));clear hW0 A hv;have HXE:=Lib.hid (XSame_any S S tf0 tf0_small fc (rxc 0 [] false none ([]:List Row).length 0 0 0 false none ([]:List Rx).length 0++[.slice none 0 0,.bool false,.bool false]:List Value) W0 HFV.out (TfV.zero W0 S));go_enter Tryz.func45,Tryz.ntmps45
 go_upto_region 1 with fail
 rw [←HW0.out];clear HW0;go_wp2_with (first
  | (refine wpList_ldG (by rfl) 37 (.tmp 18) rfl w.heap.size 5 rfl fc _ kr form_under rfl (by rw [form_size,HFC.out]) ?_)
  | (go_at_call 31;refine HXE.out.mono ?_))
 first|rintro e w1 rfl hb1|rintro e w1 ⟨rfl,hb1⟩
 go_wp2
 go_ret
 exact⟨rfl,bel2 hb0 hb1⟩
set_option maxHeartbeats 1000000 in
theorem Besides_0 (S:Nat→Prop) (k:Int) (t:Str) (n:Int) (o:List Str) (cc:List Value) (w:World) (hv:SnV w S cc (.mk k t n false false tf0 o [])) :
  Calls Tryz.prog 46 #[.agg cc.toArray] w fun e w'=>e=.returned (.bool true)∧Below w.heap.size w w':=by
 obtain⟨W0,hW0⟩:∃W0,W0=w.alloc (.cells cc.toArray 40):=⟨_,rfl⟩;have hb0:Below w.heap.size w W0:=by rw [hW0];exact(Below.refl _ _).alloc (Nat.le_refl _) _
 have HB1:Hid (W0.heap[w.heap.size]?=some (.cells cc.toArray 40 (0,0))):=Lib.hid (by rw [hW0];exact heap_alloc_new w _);have HW0:=Lib.hid hW0;have hcl:=hv.len;have HV0:=Lib.hid (hv.later hb0);obtain⟨fc,oa,oc,ka,kc,A⟩:=hv.at_;obtain⟨k0,k1,k2,k3,k4,k16,k17,kr⟩:=A.box HB1.out;have HFC:=Lib.hid A.fl;have HFV:=Lib.hid (A.fv.keep (Kept.all hb0));clear hW0 A hv;have HNO:=Lib.hid (Nothing_yes S k t n o cc W0 HV0.out);go_enter Tryz.func46,Tryz.ntmps46
 go_upto_region 1 with fail
 rw [←HW0.out];clear HW0;go_wp2_with (first
  | (refine wpList_ldW rfl 40 (.tmp 1) rfl (w.heap.size) 0 rfl (cc) _ (range_blk (ds:=[]) ((by simpa using HB1.out))) snip_under rfl (by rw [(snip_size.trans (by rw [hcl]))];rfl) ?_)
  | (refine wpList_ldW rfl 40 (.tmp 1) rfl w.heap.size 0 rfl cc _ (range_blk (ds:=[]) (by simpa using HB1.out)) snip_under rfl (by rw [snip_size,hcl]) ?_)
  | (go_at_call 45;refine HNO.out.mono ?_))
 first|rintro e w1 rfl hb1|rintro e w1 ⟨rfl,hb1⟩
 go_wp2
 go_ret
 exact⟨rfl,bel2 hb0 hb1⟩
set_option maxHeartbeats 1000000 in
theorem Besides_1 (S:Nat→Prop) (k:Int) (t:Str) (n:Int) (o:List Str) (ks:List Sn) (cc:List Value) (w:World) (hv:SnV w S cc (.mk k t n true false tf0 o ks)) :
  Calls Tryz.prog 46 #[.agg cc.toArray] w fun e w'=>e=.returned (.bool true)∧Below w.heap.size w w':=by
 obtain⟨W0,hW0⟩:∃W0,W0=w.alloc (.cells cc.toArray 40):=⟨_,rfl⟩;have hb0:Below w.heap.size w W0:=by rw [hW0];exact(Below.refl _ _).alloc (Nat.le_refl _) _
 have HB1:Hid (W0.heap[w.heap.size]?=some (.cells cc.toArray 40 (0,0))):=Lib.hid (by rw [hW0];exact heap_alloc_new w _);have HW0:=Lib.hid hW0;have hcl:=hv.len;have HV0:=Lib.hid (hv.later hb0);obtain⟨fc,oa,oc,ka,kc,A⟩:=hv.at_;obtain⟨k0,k1,k2,k3,k4,k16,k17,kr⟩:=A.box HB1.out;have HFC:=Lib.hid A.fl;have HFV:=Lib.hid (A.fv.keep (Kept.all hb0));clear hW0 A hv;have HXE:=Lib.hid (XSame_any S S tf0 tf0_small fc (rxc 0 [] false none ([]:List Row).length 0 0 0 false none ([]:List Rx).length 0++[.slice none 0 0,.bool false,.bool false]:List Value) W0 HFV.out (TfV.zero W0 S));go_enter Tryz.func46,Tryz.ntmps46
 go_upto_region 1 with fail
 rw [←HW0.out];clear HW0;go_wp2_with (first
  | (refine wpList_ldW rfl 37 (.tmp 13) rfl w.heap.size 5 rfl fc _ kr form_under rfl (by rw [form_size,HFC.out]) ?_)
  | (go_at_call 31;refine HXE.out.mono ?_))
 first|rintro e w1 rfl hb1|rintro e w1 ⟨rfl,hb1⟩
 go_wp2
 go_ret
 exact⟨rfl,bel2 hb0 hb1⟩
set_option maxHeartbeats 1000000 in
theorem Besides_2 (S:Nat→Prop) (k:Int) (t:Str) (n:Int) (o:List Str) (f:Tf) (hf:f.small) (hm:tfMay f=true) (cc:List Value) (w:World) (hv:SnV w S cc (.mk k t n false true f o [])) :
  Calls Tryz.prog 46 #[.agg cc.toArray] w fun e w'=>e=.returned (.bool true)∧Below w.heap.size w w':=by
 obtain⟨W0,hW0⟩:∃W0,W0=w.alloc (.cells cc.toArray 40):=⟨_,rfl⟩;have hb0:Below w.heap.size w W0:=by rw [hW0];exact(Below.refl _ _).alloc (Nat.le_refl _) _
 have HB1:Hid (W0.heap[w.heap.size]?=some (.cells cc.toArray 40 (0,0))):=Lib.hid (by rw [hW0];exact heap_alloc_new w _);have HW0:=Lib.hid hW0;have hcl:=hv.len;have HV0:=Lib.hid (hv.later hb0);obtain⟨fc,oa,oc,ka,kc,A⟩:=hv.at_;obtain⟨k0,k1,k2,k3,k4,k16,k17,kr⟩:=A.box HB1.out;have HFC:=Lib.hid A.fl;have HFV:=Lib.hid (A.fv.keep (Kept.all hb0));clear hW0 A hv;have HXM:=Lib.hid (XMay_any S f hf fc W0 HFV.out);rw [hm] at HXM;clear hm hf;go_enter Tryz.func46,Tryz.ntmps46
 go_upto_region 1 with fail
 rw [←HW0.out];clear HW0;go_wp2_with (first
  | (refine wpList_ldG (by rfl) 37 (.tmp 25) rfl w.heap.size 5 rfl fc _ kr form_under rfl (by rw [form_size,HFC.out]) ?_)
  | (go_at_call 65;refine HXM.out.mono ?_))
 first|rintro e w1 rfl hb1|rintro e w1 ⟨rfl,hb1⟩
 go_wp2
 go_ret
 exact⟨rfl,bel2 hb0 hb1⟩
theorem rxZ_eq0 {x:Rx} (h:rxZ x=true):x=rx0:=by
 obtain⟨k,c,ng,rs,lo,hi,lz,ks⟩:=x;simp only [rxZ,Bool.and_eq_true,decide_eq_true_eq,List.isEmpty_iff,Bool.not_eq_true'] at h;obtain⟨rfl,rfl,rfl,rfl,rfl,rfl,rfl,rfl⟩:=h;rfl
theorem tfZ_eq0 {f:Tf} (h:tfZ f=true):f=tf0:=by
 obtain⟨x,fs,fd,al⟩:=f;simp only [tfZ,Bool.and_eq_true,List.isEmpty_iff,Bool.not_eq_true'] at h;obtain⟨h1,rfl,rfl,rfl⟩:=h;rw [rxZ_eq0 h1];rfl
def BesC (x:Sn):Prop:=∀(S:Nat→Prop) (cc:List Value) (w:World),SnV w S cc x→Calls Tryz.prog 46 #[.agg cc.toArray] w fun e w'=>e=.returned (.bool true)∧Below w.heap.size w w'
theorem bes_yes {k:Int} {t:Str} {n:Int} {h u:Bool} {f:Tf} {o:List Str} {ks:List Sn} (hf:f.small) (hb:besidesS (.mk k t n h u f o ks)=true):BesC (.mk k t n h u f o ks):=by
 intro S cc w hv;cases h with
 | true =>
  cases u with
  | true=>cases hb
  | false =>
   have hz:tfZ f=true:=hb;obtain rfl:f=tf0:=tfZ_eq0 hz;exact Besides_1 S k t n o ks cc w hv
 | false =>
  cases u with
  | true =>
   have hb':(ks.isEmpty&&tfMay f)=true:=hb;rw [Bool.and_eq_true,List.isEmpty_iff] at hb';obtain⟨rfl,hm⟩:=hb';exact Besides_2 S k t n o f hf hm cc w hv
  | false =>
   have hb':(ks.isEmpty&&tfZ f)=true:=hb;rw [Bool.and_eq_true,List.isEmpty_iff] at hb';obtain⟨rfl,hz⟩:=hb';obtain rfl:f=tf0:=tfZ_eq0 hz;exact Besides_0 S k t n o cc w hv
end Go.Proofs.YtbgcjpefocdkkaaGreat
