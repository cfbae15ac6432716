/- walk of the reference's time -/
import Derived.Test.YtjggmmaojklmpaaGreatLb6
import Derived.Deep.RegionHeld3
set_option maxRecDepth 100000
set_option maxHeartbeats 4000000
namespace Go.Proofs.YtjggmmaojklmpaaGreat
open Go.RowKit
theorem xL {w:World} {B n g b cap:Nat} {ps:List (Int × Int)} (h:w.ownsRow B 48 2 (.slice (some ⟨b,0,none⟩) n cap) n (jV ps)) (hl:ps.length=n) (hg:g<n) (v:Int × Int) :
  ((w.setCell ⟨b,g*2,none⟩ (.int .i64 v.1)).setCell ⟨b,g*2+1,none⟩ (.int .i64 v.2)).ownsRow B 48 2 (.slice (some ⟨b,0,none⟩) n cap) n (jV (mG ps g v)):=by
 have:=((h.stored (g*2) (.int .i64 v.1)).1.stored (g*2+1) (.int .i64 v.2)).1
 rwa [oP _ _ _ gu] at this
theorem B7 {w:World} {B n g b cap:Nat} {ps:List (Int × Int)} (h:w.ownsRow B 48 2 (.slice (some ⟨b,0,none⟩) n cap) n (jV ps)) (hl:ps.length=n) (hg:g<n) :
  (∃v,w.cell? ⟨b,g*2,none⟩=some v)∧(∃v,w.cell? ⟨b,g*2+1,none⟩=some v)∧w.frozen? ⟨b,g*2,none⟩=false∧w.frozen? ⟨b,g*2+1,none⟩=false:=by
 obtain⟨c1,c2⟩:=oK (Cn (show g<ps.length by omega));exact⟨⟨_,(h.cellAt _ gu).trans c1⟩,⟨_,(h.cellAt _ gu).trans c2⟩,h.frozenAt _,h.frozenAt _⟩
theorem ResV.open {R:Vn} {w:World} {r:Ro} {e:Ending} {w':World} (h:ResV R w r e w'):∃x1 x2 x3,e=.returned (.tuple #[x1,x2,x3])∧ResV R w r (.returned (.tuple #[x1,x2,x3])) w':=by
 have h0:=h;obtain⟨_,_,h3,h4⟩:=h;cases hr:r.1 with
 | none=>have e1:=h3 hr;subst e1;exact⟨_,_,_,rfl,h0⟩
 | some q=>obtain⟨j,ps⟩:=q;obtain⟨a,c,e1,_⟩:=h4 j ps hr;subst e1;exact⟨_,_,_,rfl,h0⟩
theorem ResV.back {R:Vn} {w W:World} {r:Ro} {e:Ending} {w':World} (h:ResV R W r e w') (hf:Fv R w W):ResV R w r e w':=⟨h.1,hf.trans h.2.1,h.2.2.1,h.2.2.2⟩
theorem RunV.lt {R:Vn} {w:World} {fu:Nat} {out:Bool} (h:RunV R w fu out):R.r<w.heap.size:=jO h.box
theorem StkV.ptr {w:World} {S:Nat→Prop} {K:List Nx} {v:Value} (h:StkV w S K v):∃p,v=.pointer p:=by
 cases K with
 | nil=>exact⟨none,h⟩
 | cons k K=>obtain⟨b,_,_,rfl,_⟩:=h;exact⟨_,rfl⟩
theorem Kept.cell {S:Nat→Prop} {w w':World} (h:Kept S w w') {b o:Nat} {u:Value} (hS:S b) (hc:w.cell? ⟨b,o,none⟩=some u):w'.cell? ⟨b,o,none⟩=some u:=by
 have e:=h.2 b hS (World.block_lt_of_cell? w _ hc);simp only [World.cell?] at hc ⊢;rw [e];exact hc
theorem StkV.push {w W:World} {S:Nat→Prop} {K:List Nx} {rv:Value} (k:Nx) (cc:List Value) (h:StkV w S K rv) (hW:W=w.alloc (.cells (nxc k cc rv).toArray 159)) (hS:S w.heap.size) (hc:cc.length=8) (hx:k.kind≠1→RxV w S cc k.x) :
  StkV W S (k::K) (.pointer (some ⟨w.heap.size,0,none⟩)):=by
 have hb:Below w.heap.size w W:=by rw [hW];exact(Below.refl _ _).alloc (Cp _) _
 exact⟨w.heap.size,cc,rv,rfl,hS,by rw [hW];exact heap_alloc_new w _,hc,fun h1=>(hx h1).later hb,h.later hb⟩
def AnsE (R:Vn) (w:World) (r:Ro) (e:Ending) (w':World):Prop:=∃x1 x2 x3,e=.returned (.tuple #[x1,x2,x3])∧ResV R w r (.returned (.tuple #[x1,x2,x3])) w'
structure NodeV (R:Vn) (n i:Nat) (k:Nx):Prop where
 kd:k.kind≠1
 wf:k.x.wf=true
 sm:k.x.small
 pt:k.x.parts≤1000000
 gr:k.g+k.x.groups≤n
def FnC (F:FuncId) (R:Vn) (n:Nat) (ok:Nat→Nx→Prop) (L:Nx→List Nx→Nat→Ps→Nat→Option Ro):Prop :=
 ∀(k:Nx) (K:List Nx) (i:Nat) (ps:Ps) (fu:Nat) (r:Ro),L k K i ps fu=some r→i≤R.C.cs.length→ps.length=n→FitK R n i K→NodeV R n i k→ok i k →
  ∀(w:World) (sv:Value) (a:Option Addr) (c:Nat),StkV w R.S (k::K) sv→RunV R w fu false→SlS w R.S a 2 n (jV ps) →
   Calls Tryz.prog F #[.pointer (some ⟨R.r,0,none⟩),sv,.int .i64 (i:Int),.slice a n c] w (ResV R w r)
def Bj (i:Nat) (k:Nx):Prop:=k.x.kind=7∧(k.many:Int)≤k.x.lo+i
theorem wf7 {c:Str} {ng:Bool} {rs:List (Str × Str)} {lo hi:Int} {lz:Bool} {ks:List Rx} (h:(Rx.mk 7 c ng rs lo hi lz ks).wf=true):∃y,ks=[y]∧y.wf=true∧0≤lo∧lo≤255∧-1≤hi∧hi≤255:=by
 simp only [Rx.wf,Cs] at h;obtain⟨hfl,hks⟩:=h;simp only [kw] at hfl;rw [Co gD,Co gD,Cl gD] at hfl;simp only [Cs,Cj] at hfl;obtain⟨⟨_,hk1⟩,hl⟩:=hfl;match ks,hk1 with
 | [y],_ =>
  simp only [Rx.wfL,Ch] at hks;exact⟨y,rfl,hks,hl.1,hl.2.1,by omega,by omega⟩
structure NdC (w:World) (b:Nat) (kk xk:Int) (c:Str) (ng:Bool) (ra:Option Addr) (rn rc:Nat) (lo hi:Int) (lz:Bool) (ka:Option Addr) (kn kc:Nat) (g m f:Nat) (rv:Value):Prop where
 c0:w.cell? ⟨b,0,none⟩=some (.int .i64 kk)
 c1:w.cell? ⟨b,1,none⟩=some (.int .i64 xk)
 c2:w.cell? ⟨b,2,none⟩=some (.string ⟨c.toArray⟩)
 c3:w.cell? ⟨b,3,none⟩=some (.bool ng)
 c4:w.cell? ⟨b,4,none⟩=some (.slice ra rn rc)
 c5:w.cell? ⟨b,5,none⟩=some (.int .i64 lo)
 c6:w.cell? ⟨b,6,none⟩=some (.int .i64 hi)
 c7:w.cell? ⟨b,7,none⟩=some (.bool lz)
 c8:w.cell? ⟨b,8,none⟩=some (.slice ka kn kc)
 c9:w.cell? ⟨b,9,none⟩=some (.int .i64 (g:Int))
 c10:w.cell? ⟨b,10,none⟩=some (.int .i64 (m:Int))
 c11:w.cell? ⟨b,11,none⟩=some (.int .i64 (f:Int))
 c12:w.cell? ⟨b,12,none⟩=some rv
theorem ndc {w:World} {b:Nat} {kk xk:Int} {c:Str} {ng:Bool} {ra:Option Addr} {rn rc:Nat} {lo hi:Int} {lz:Bool} {ka:Option Addr} {kn kc:Nat} {g m f:Nat} {x:Rx} {rv:Value}
  (h:w.heap[b]?=some (.cells (nxc ⟨kk,x,g,m,f⟩ (rxc xk c ng ra rn rc lo hi lz ka kn kc) rv).toArray 159 (0,0))):NdC w b kk xk c ng ra rn rc lo hi lz ka kn kc g m f rv:=by
 constructor<;>(rw [Cv h];rfl)
theorem NdC.far {w w':World} {b:Nat} {kk xk:Int} {c:Str} {ng:Bool} {ra:Option Addr} {rn rc:Nat} {lo hi:Int} {lz:Bool} {ka:Option Addr} {kn kc:Nat} {g m f:Nat} {rv:Value}
  (h:NdC w b kk xk c ng ra rn rc lo hi lz ka kn kc g m f rv) (hb:Below w.heap.size w w'):NdC w' b kk xk c ng ra rn rc lo hi lz ka kn kc g m f rv :=
 ⟨jP hb _ _ h.c0,jP hb _ _ h.c1,jP hb _ _ h.c2,jP hb _ _ h.c3,jP hb _ _ h.c4,jP hb _ _ h.c5,jP hb _ _ h.c6,jP hb _ _ h.c7,jP hb _ _ h.c8,jP hb _ _ h.c9,jP hb _ _ h.c10,jP hb _ _ h.c11,jP hb _ _ h.c12⟩
def TimeRel (w:World) (G g n:Nat) (a1:Option Addr) (c1:Nat) (ps:Ps) (q:Value) (wr:World):Prop :=
 ∃j:Nat,j≤G∧q=.int .i64 (j:Int)∧Below w.heap.size w wr∧wr.ownsRow w.heap.size 48 2 (.slice a1 n c1) n (jV (kA ps g (g+j)))
theorem time_any {R:Vn} (ok:VnOk R) {n N:Nat} (hn:n≤1000000) (HO:OnC R n N):FnC 161 R n Bj (oH (onR R.C N)):=by
 rintro⟨kk,x,g,many,fr⟩ K i ps fu r hm hi hps hK hnd ⟨h7,hmany⟩ w sv a c' hs hr hp;obtain⟨xk,c,ng,rs,lo,xh,lz,ks⟩:=x;have h7:xk=7:=h7;subst h7;obtain⟨y,hks1,hyw,hlo0,hlo1,hh0,hh1⟩:=wf7 hnd.wf;subst hks1;have hsmy:y.small:=(show Rx.small (.mk 7 c ng rs lo xh lz [y]) from hnd.sm).2.1;have hpty:y.parts≤1000000:=by have:=hnd.pt;simp only [Rx.parts,Rx.partsL] at this;omega
 have hgry:g+y.groups≤n:=by have:=hnd.gr;simp only [Rx.groups,Rx.groupsL] at this;simp at this;omega
 have hgeq:(Rx.mk 7 c ng rs lo xh lz [y]).groups=y.groups:=by simp [Rx.groups,Rx.groupsL]
 have hcs:=ok.cs;simp only [Rx.lo] at hmany;obtain⟨b,cc,rv,rfl,hS,hb,hc8,hx,hrest⟩:=hs;obtain⟨rp,rfl⟩:=hrest.ptr;have hxv:=hx hnd.kd;obtain⟨ra,rc,ka,kc,rfl,hrs,hks⟩:=hxv.open_;obtain⟨yk,yc,yn,yr,yl,yh,yz,ys⟩:=y;obtain⟨kb,ko,ya,yrc,yka,ykc,rfl,hkS,hkB,_,_,hyv,c0,c1,c2,c3,c4,c5,c6,c7⟩:=hks.cells (m:=0) rfl;simp only [Nat.zero_mul,Nat.add_zero] at c0 c1 c2 c3 c4 c5 c6 c7;have KY:Hid (∀W,Fv R w W→W.cell? ⟨kb,ko,none⟩=some (.int .i64 yk)∧W.cell? ⟨kb,ko+1,none⟩=some (.string ⟨yc.toArray⟩)∧W.cell? ⟨kb,ko+2,none⟩=some (.bool yn)∧W.cell? ⟨kb,ko+3,none⟩=some (.slice ya yr.length yrc) ∧
   W.cell? ⟨kb,ko+4,none⟩=some (.int .i64 yl)∧W.cell? ⟨kb,ko+5,none⟩=some (.int .i64 yh)∧W.cell? ⟨kb,ko+6,none⟩=some (.bool yz)∧W.cell? ⟨kb,ko+7,none⟩=some (.slice yka ys.length ykc)):=ab fun W hW =>
  ⟨hW.kept.cell hkS c0,hW.kept.cell hkS c1,hW.kept.cell hkS c2,hW.kept.cell hkS c3,hW.kept.cell hkS c4,hW.kept.cell hkS c5,hW.kept.cell hkS c6,hW.kept.cell hkS c7⟩
 obtain⟨G,hG⟩:∃G,(Rx.mk yk yc yn yr yl yh yz ys).groups=G:=⟨_,rfl⟩;rw [hG] at hgry hgeq;have HGE:Hid (∀W,Below w.heap.size w W→Calls Tryz.prog 107 #[.agg (rxc 7 c ng ra rs.length rc lo xh lz (some ⟨kb,ko,none⟩) 1 kc).toArray] W fun e w'=>e=.returned (.int .i64 (G:Int))∧Below W.heap.size W w'):=ab fun W hW =>
  (mh R.S _ (.mk 7 c ng rs lo xh lz [.mk yk yc yn yr yl yh yz ys]) (Cp _) hnd.pt _ W (hxv.later hW)).mono fun e w' h=>by rw [hgeq] at h;exact h
 have ND:Hid (∀W,Fv R w W→NdC W b kk 7 c ng ra rs.length rc lo xh lz (some ⟨kb,ko,none⟩) 1 kc g many fr (.pointer rp)):=ab fun W hW=>ndc ((hW.kept.2 b hS (jO hb)).trans hb)
 have hm':onR R.C N (nx0 (.mk yk yc yn yr yl yh yz ys) g::⟨2,.mk 7 c ng rs lo xh lz [.mk yk yc yn yr yl yh yz ys],g,many+1,i⟩::K) i (kA ps g (g+G)) fu=some r:=by
  have h1:oH (onR R.C N) ⟨kk,.mk 7 c ng rs lo xh lz [.mk yk yc yn yr yl yh yz ys],g,many,fr⟩ K i ps fu=onR R.C N (nx0 (.mk yk yc yn yr yl yh yz ys) g::⟨2,.mk 7 c ng rs lo xh lz [.mk yk yc yn yr yl yh yz ys],g,many+1,i⟩::K) i (kA ps g (g+(Rx.mk 7 c ng rs lo xh lz [.mk yk yc yn yr yl yh yz ys]).groups)) fu:=rfl;rw [hgeq] at h1;rw [←h1];exact hm
 have hrl:=hr.lt;have HC:Hid (∀wr a1 c1,Below w.heap.size w wr→wr.ownsRow w.heap.size 48 2 (.slice a1 n c1) n (jV (kA ps g (g+G))) →
   ∀W4,W4=(wr.alloc (.cells #[.int .i64 2,.int .i64 7,.string ⟨c.toArray⟩,.bool ng,.slice ra rs.length rc,.int .i64 lo,.int .i64 xh,.bool lz,.slice (some ⟨kb,ko,none⟩) 1 kc,.int .i64 g,.int .i64 ((many:Int)+1),.int .i64 (i:Int),(.pointer rp)] 159)).drew→∀W6,W6=(W4.alloc (.cells #[.int .i64 0,.int .i64 yk,.string ⟨yc.toArray⟩,.bool yn,.slice ya yr.length yrc,.int .i64 yl,.int .i64 yh,.bool yz,.slice yka ys.length ykc,.int .i64 g,.int .i64 0,.int .i64 0,((.pointer (some ⟨wr.heap.size,0,none⟩)))] 159)).drew →
   Calls Tryz.prog 108 #[.pointer (some ⟨R.r,0,none⟩),.pointer (some ⟨W4.heap.size,0,none⟩),.int .i64 (i:Int),.slice a1 n c1] W6 (AnsE R w r)):=ab fun wr a1 c1 hb1 hown W4 hW4 W6 hW6=>by
  have hb4:Below wr.heap.size wr W4:=by rw [hW4];exact((Below.refl _ _).alloc (Cp _) _).drew
  have hb5:Below w.heap.size w W4:=bel2 hb1 hb4;have hb6':Below W4.heap.size W4 W6:=by rw [hW6];exact((Below.refl _ _).alloc (Cp _) _).drew
  have hb6:Below w.heap.size w W6:=bel2 hb5 hb6';have hz1:=hb1.size;have hz5:=hb5.size;have hs4:StkV W4 R.S _ _:=(StkV.push ⟨2,.mk 7 c ng rs lo xh lz [.mk yk yc yn yr yl yh yz ys],g,many+1,i⟩ (rxc 7 c ng ra rs.length rc lo xh lz (some ⟨kb,ko,none⟩) 1 kc) (hrest.later hb1) (W:=wr.alloc (.cells #[.int .i64 2,.int .i64 7,.string ⟨c.toArray⟩,.bool ng,.slice ra rs.length rc,.int .i64 lo,.int .i64 xh,.bool lz,.slice (some ⟨kb,ko,none⟩) 1 kc,.int .i64 g,.int .i64 ((many:Int)+1),.int .i64 (i:Int),(.pointer rp)] 159)) (by simp [nxc,rxc]) (hr.new gu) rfl (fun _=>hxv.later hb1)).later (by rw [hW4];exact(Below.refl _ _).drew);have hs6:StkV W6 R.S _ _:=(StkV.push (nx0 (.mk yk yc yn yr yl yh yz ys) g) (rxc yk yc yn ya yr.length yrc yl yh yz yka ys.length ykc) hs4 (W:=W4.alloc (.cells #[.int .i64 0,.int .i64 yk,.string ⟨yc.toArray⟩,.bool yn,.slice ya yr.length yrc,.int .i64 yl,.int .i64 yh,.bool yz,.slice yka ys.length ykc,.int .i64 g,.int .i64 0,.int .i64 0,((.pointer (some ⟨wr.heap.size,0,none⟩)))] 159)) jz (hr.new gu) rfl (fun _=>hyv.later hb5)).later jn;have hsl:SlS W6 R.S a1 2 n (jV (kA ps g (g+G))):=((mQ hown).keep (Kept.all (bel2 hb4 hb6'))).mono fun b hb _=>hr.new hb
  refine(HO _ i _ fu r hm' hi (by rw [qA _ _ _ gu gu];exact hps) ?_ W6 _ a1 c1 hs6 (hr.later hb6) hsl).mono fun e w' h=>(h.back (Gx.of_below hb6)).open
  intro k hk;rcases Cz.1 hk with rfl|hk
  ·exact⟨.inl rfl,Nat.zero_le _,fun _=>⟨hyw,hsmy,hpty,by rw [←hG] at hgry;exact hgry⟩,(fun h=>by cases h),(fun h=>by cases h)⟩
  rcases Cz.1 hk with rfl|hk
  ·exact⟨.inr (.inr rfl),Cp _,fun _=>⟨hnd.wf,hnd.sm,hnd.pt,hnd.gr⟩,(fun h=>by cases h),fun _=>⟨rfl,by simp only [Rx.lo];omega⟩⟩
  ·exact hK k hk
 have hmb:many≤2000000:=gu;have HSL:=ab (hp.sl.alloc_self (.cells #[] 48));have HFV:=ab hr;have HLEN:=ab hps;obtain⟨ir,hir⟩:=info_parts nB;clear hm hm' hK hnd hx hxv hrest hks hyv hrs hp hb hc8 hr hG hgeq c0 c1 c2 c3 c4 c5 c6 c7 hS hkS hkB HO hyw hsmy hpty;go_enter Tryz.func161,Tryz.ntmps161
 go_wp2_with (at_builtin;refine ke w.heap.size 48 rfl _ _ 49 rfl Tryz.underlying49 hir rfl gD rfl (World.ownsRow_made w #[] 0 (Cp _) jx rfl) rfl HSL.out (mK ps) gu gu gD gF ?_)
 intro v1 w1 ho1 hg1 hb1 _;obtain⟨a1,c1,rfl,hrow⟩:∃a1 c1,v1=.slice a1 n c1∧(0<n→∃b,a1=some ⟨b,0,none⟩):=by
  rcases ho1.2 with⟨rfl,h0⟩|⟨g,cap,cur,rfl,_⟩
  ·exact⟨none,0,by rw [show n=0 by omega],fun h=>by omega⟩
  ·exact⟨some ⟨g,0,none⟩,cap,by first|rfl|(rw [Nat.zero_add]),fun _=>⟨_,rfl⟩⟩
 have hbw:Below w.heap.size w w1:=((Below.refl _ _).alloc (Cp _) _).trans hb1;have HOW1:Hid (w1.ownsRow w.heap.size 48 2 (.slice a1 n c1) n (jV (kA ps g (g+0)))):=ab (by rw [Nat.add_zero,nU];simpa using ho1);clear ho1 hg1 hb1 HSL;go_wp2
 go_loopw [12] (fun q wr=>TimeRel w G g n a1 c1 ps q wr) (fun q _=>G-(intOf q).toNat)
 case atStart=>exact⟨0,Nat.zero_le _,rfl,hbw,HOW1.out⟩
 case round =>
  obtain⟨j,hj,rfl,hb,hown⟩:=hrel;clear HOW1 hbw;have n3:=ND.out wr (Gx.of_below hb);have HBW:=ab hb;have HOW:=ab hown;clear hown;obtain⟨p0,p1,p2,p3,p4,p5,p6,p7,p8,p9,p10,p11,p12⟩:=n3;by_cases hlt:j<G
  ·obtain⟨pb,rfl⟩:=hrow gu
   have hnl:(kA ps g (g+j)).length=n:=by rw [qA _ _ _ gu (by have:=HLEN.out;omega)];exact HLEN.out
   have HNL:=ab hnl;have hst:=py ps g j (by have:=HLEN.out;omega);have HST:=ab hst;have hjg:decide ((j:Int)<(G:Int))=true:=CO gu;clear hnl hst HC;go_wp2_with (go_at_call 107;refine(HGE.out _ HBW.out).mono ?_)
   rintro e w3 ⟨rfl,hb3⟩;have q9:=jP hb3 _ _ p9;have ho3:=kL HOW.out hb3;obtain⟨⟨v1,o1⟩,⟨v2,o2⟩,f1,f2⟩:=B7 ho3 HNL.out (show g+j<n by omega);have hset:=xL ho3 HNL.out (show g+j<n by omega) (-1,-1);rw [HST.out] at hset;have HSET:=ab hset;have hbk:=HBW.out.trans (hb3.mono HBW.out.size);have HB3:Hid (Below w.heap.size w ((w3.setCell ⟨pb,(g+j)*2,none⟩ (.int .i64 (-1))).setCell ⟨pb,(g+j)*2+1,none⟩ (.int .i64 (-1)))):=ab (by
    have hpb:w.heap.size≤pb:=(ho3.lt pb rfl).1;exact(hbk.setCell hpb _).setCell hpb _)
   clear ho3 hset hbk p0 p1 p2 p3 p4 p5 p6 p7 p8 p9 p10 p11 p12;go_wp2
   go_roundw
   case rel=>exact⟨j+1,by omega,by go_num,HB3.out,HSET.out⟩
   case measure=>simp [intOf];omega
  ·have e:j=G:=gu
   subst e;have hjg:decide ((j:Int)<(j:Int))=false:=CP gu;go_wp2_with (go_at_call 107;refine(HGE.out _ HBW.out).mono ?_)
   rintro e w3 ⟨rfl,hb3⟩;have HB3:=ab (HBW.out.trans (hb3.mono HBW.out.size));have HRO:=ab (kL HOW.out hb3);have HCC:=ab (HC.out w3 a1 c1 HB3.out HRO.out);obtain⟨y0,y1,y2,y3,y4,y5,y6,y7⟩:=KY.out w3 (Gx.of_below HB3.out);clear p0 p1 p2 p3 p4 p5 p6 p7 p8 p9 p10 p11 p12;obtain⟨p0,p1,p2,p3,p4,p5,p6,p7,p8,p9,p10,p11,p12⟩:=ND.out w3 (Gx.of_below HB3.out);have HSY:Hid (∀W,Fv R w W→W.cell? ⟨b,8,none⟩=some (.slice (some ⟨kb,ko,none⟩) 1 kc)∧W.cell? ⟨b,9,none⟩=some (.int .i64 (g:Int))∧W.cell? ⟨kb,ko,none⟩=some (.int .i64 yk)∧W.cell? ⟨kb,ko+1,none⟩=some (.string ⟨yc.toArray⟩)∧W.cell? ⟨kb,ko+2,none⟩=some (.bool yn)∧W.cell? ⟨kb,ko+3,none⟩=some (.slice ya yr.length yrc) ∧
     W.cell? ⟨kb,ko+4,none⟩=some (.int .i64 yl)∧W.cell? ⟨kb,ko+5,none⟩=some (.int .i64 yh)∧W.cell? ⟨kb,ko+6,none⟩=some (.bool yz)∧W.cell? ⟨kb,ko+7,none⟩=some (.slice yka ys.length ykc)):=ab fun W hW=>⟨(ND.out W hW).c8,(ND.out W hW).c9,KY.out W hW⟩
   have hwm:IntKind.i64.wrap ((many:Int)+1)=(many:Int)+1:=by rw [IntKind.wrap_i64];omega
   clear HC HRO KY HOW hb3 HBW ND HGE HFV hjg hrow hmany hlo0 hlo1 hh0 hh1 h7 y0 y1 y2 y3 y4 y5 y6 y7;go_upto_region 6 with fail
   go_region_held3 (fun w'=>w'.cell? ⟨b,1,none⟩=some (.int .i64 7)∧w'.cell? ⟨b,2,none⟩=some (.string ⟨c.toArray⟩)∧w'.cell? ⟨b,3,none⟩=some (.bool ng)∧w'.cell? ⟨b,4,none⟩=some (.slice ra rs.length rc)∧w'.cell? ⟨b,5,none⟩=some (.int .i64 lo)∧w'.cell? ⟨b,6,none⟩=some (.int .i64 xh)∧w'.cell? ⟨b,7,none⟩=some (.bool lz)∧w'.cell? ⟨b,8,none⟩=some (.slice (some ⟨kb,ko,none⟩) 1 kc) ∧
    w'.cell? ⟨b,9,none⟩=some (.int .i64 (g:Int))∧w'.cell? ⟨b,10,none⟩=some (.int .i64 (many:Int))∧w'.cell? ⟨b,12,none⟩=some (.pointer rp)) (go_keep) (fail)
   rename_i hqq
   clear hqq p0 p1 p2 p3 p4 p5 p6 p7 p8 p9 p10 p11 p12;try rw [hwm]
   obtain⟨W4,hW4⟩:∃W4,W4=(w3.alloc (.cells #[.int .i64 2,.int .i64 7,.string ⟨c.toArray⟩,.bool ng,.slice ra rs.length rc,.int .i64 lo,.int .i64 xh,.bool lz,.slice (some ⟨kb,ko,none⟩) 1 kc,.int .i64 g,.int .i64 ((many:Int)+1),.int .i64 (i:Int),(.pointer rp)] 159)).drew:=⟨_,rfl⟩;rw [←hW4];have hb4:Below w3.heap.size w3 W4:=by rw [hW4];exact((Below.refl _ _).alloc (Cp _) _).drew
   obtain⟨s8,s9,y0,y1,y2,y3,y4,y5,y6,y7⟩:=HSY.out W4 (Gx.of_below (bel2 HB3.out hb4));have HCD:=ab (HCC.out W4 hW4 _ rfl);clear hW4 hb4 HCC hwm;go_upto_region 7 with fail
   go_region_held3 (fun W=>W.cell? ⟨b,8,none⟩=some (.slice (some ⟨kb,ko,none⟩) 1 kc)∧W.cell? ⟨b,9,none⟩=some (.int .i64 (g:Int))∧W.cell? ⟨kb,ko,none⟩=some (.int .i64 yk)∧W.cell? ⟨kb,ko+1,none⟩=some (.string ⟨yc.toArray⟩)∧W.cell? ⟨kb,ko+2,none⟩=some (.bool yn)∧W.cell? ⟨kb,ko+3,none⟩=some (.slice ya yr.length yrc) ∧
     W.cell? ⟨kb,ko+4,none⟩=some (.int .i64 yl)∧W.cell? ⟨kb,ko+5,none⟩=some (.int .i64 yh)∧W.cell? ⟨kb,ko+6,none⟩=some (.bool yz)∧W.cell? ⟨kb,ko+7,none⟩=some (.slice yka ys.length ykc)) (first|go_keep|assumption)
    (first|(go_at_call 108;refine HCD.out.mono ?_;rintro e w9 ⟨x1,x2,x3,rfl,h9⟩;have hs9:=HSY.out w9 h9.2.1))
   go_wp2
   go_ret3
   exact h9
theorem RunV.char {R:Vn} {w:World} {fu:Nat} {out:Bool} (h:RunV R w fu out) {i:Nat} (hi:i<R.C.cs.length):∃b o,R.ca=some ⟨b,o,none⟩∧w.cell? ⟨b,o+i,none⟩=some (.string ⟨(R.C.cs.getD i []).toArray⟩):=by
 obtain⟨b,o,h1,_,_,h4⟩:=h.ch.2 gu;refine⟨b,o,h1,h4 i _ ?_⟩;simp [kv,List.getD_eq_getElem?_getD,hi]
def tkV (C:Rc) (kd:Int) (c:Str) (ng:Bool) (rs:List (Str × Str)) (i:Nat):Int × Bool :=
 if kd=2∨kd=3∨kd=4 then(if i<C.cs.length then(1,lf C kd c ng rs (C.cs.getD i [])) else(0,false)) else(0,ki C kd i)
def TkP (w:World) (n:Int) (b:Bool) (e:Ending) (w':World):Prop:=e=.returned (.tuple #[.int .i64 n,.bool b])∧Below w.heap.size w w'
theorem tf {n:Int} {a b:Bool} (h:a=b):Ending.returned (.tuple #[.int .i64 n,.bool a])=Ending.returned (.tuple #[.int .i64 n,.bool b]):=by rw [h]
theorem Bm {R:Vn} (ok:VnOk R) {w:World} {fu:Nat} (h:RunV R w fu false) (c:Str) (ng:Bool) (ra:Option Addr) (rs:List (Str × Str)) (rc:Nat) (lo hi:Int) (lz:Bool) (ka:Option Addr) (kn kc:Nat) (i:Nat):Calls Tryz.prog 162 #[.pointer (some ⟨R.r,0,none⟩),.agg (rxc 8 c ng ra rs.length rc lo hi lz ka kn kc).toArray,.int .i64 (i:Int)] w (TkP w 0 (ki R.C 8 i)):=by
 have HE:Hid (ki R.C 8 i=decide (i=0)):=ab (by unfold ki;rw [Cl rfl]);have hcs:=ok.cs;have hb0:Below w.heap.size w (w.alloc (.cells (rxc 8 c ng ra rs.length rc lo hi lz ka kn kc).toArray 25)):=(Below.refl _ _).alloc (Cp _) _;have c0:=jP hb0 _ _ (show w.cell? ⟨R.r,0,none⟩=some (.slice R.ca R.C.cs.length R.cc) by rw [Cv h.box];rfl);have c2:=jP hb0 _ _ (show w.cell? ⟨R.r,2,none⟩=some (.bool R.C.fold) by rw [Cv h.box];rfl);have hch:∀j,(R.C.cs.getD j []).length≤1000000:=fun j=>by
  exact eQ
 have HB0:=ab hb0;clear ok h hch c0 c2;unfold rxc at HB0 hb0 ⊢;go_enter Tryz.func162,Tryz.ntmps162
 go_wp2
 go_ret2
 exact⟨tf (by rw [HE.out,Bool.eq_iff_iff];simp),HB0.out⟩
theorem BT {R:Vn} (ok:VnOk R) {w:World} {fu:Nat} (h:RunV R w fu false) (c:Str) (ng:Bool) (ra:Option Addr) (rs:List (Str × Str)) (rc:Nat) (lo hi:Int) (lz:Bool) (ka:Option Addr) (kn kc:Nat) (i:Nat):Calls Tryz.prog 162 #[.pointer (some ⟨R.r,0,none⟩),.agg (rxc 9 c ng ra rs.length rc lo hi lz ka kn kc).toArray,.int .i64 (i:Int)] w (TkP w 0 (ki R.C 9 i)):=by
 have HE:Hid (ki R.C 9 i=decide (i=R.C.cs.length)):=ab (by unfold ki;rw [Co gD,Cl rfl]);have hcs:=ok.cs;have hb0:Below w.heap.size w (w.alloc (.cells (rxc 9 c ng ra rs.length rc lo hi lz ka kn kc).toArray 25)):=(Below.refl _ _).alloc (Cp _) _;have c0:=jP hb0 _ _ (show w.cell? ⟨R.r,0,none⟩=some (.slice R.ca R.C.cs.length R.cc) by rw [Cv h.box];rfl);have c2:=jP hb0 _ _ (show w.cell? ⟨R.r,2,none⟩=some (.bool R.C.fold) by rw [Cv h.box];rfl);have hch:∀j,(R.C.cs.getD j []).length≤1000000:=fun j=>by
  exact eQ
 have HB0:=ab hb0;clear ok h hch c2;unfold rxc at HB0 hb0 c0 ⊢;have e0:∀x:ExtOf (w.alloc (.cells #[.int .i64 9,.string ⟨c.toArray⟩,.bool ng,.slice ra rs.length rc,.int .i64 lo,.int .i64 hi,.bool lz,.slice ka kn kc] 25)),x.val.cell? ⟨R.r,0,none⟩=some (.slice R.ca R.C.cs.length R.cc):=ExtOf.cell c0;go_enter Tryz.func162,Tryz.ntmps162
 go_upto_region 5 with fail
 refine jS gE gE ?_;repeat (go_big_quiet_step ((fail)))
 refine wpQuiet_nil ?_;rintro _ ⟨xq,rfl⟩;go_wp2
 go_ret2
 exact⟨tf (by rw [HE.out,Bool.eq_iff_iff];simp;omega),HB0.out.trans (xq.ext.mono gF)⟩
theorem xy {R:Vn} (ok:VnOk R) {w:World} {fu:Nat} (h:RunV R w fu false) (c:Str) (ng:Bool) (ra:Option Addr) (rs:List (Str × Str)) (rc:Nat) (lo hi:Int) (lz:Bool) (ka:Option Addr) (kn kc:Nat) (i:Nat) (hi0:i≤R.C.cs.length):Calls Tryz.prog 162 #[.pointer (some ⟨R.r,0,none⟩),.agg (rxc 10 c ng ra rs.length rc lo hi lz ka kn kc).toArray,.int .i64 (i:Int)] w (TkP w 0 (ki R.C 10 i)):=by
 have HE0:Hid (ki R.C 10 i=(((decide (0<i)&&lG (R.C.cs.getD (i-1) [])) != (decide (i<R.C.cs.length)&&lG (R.C.cs.getD i [])))==true)):=ab (by
  unfold ki;rw [Co gD,Co gD];congr 1)
 have hcs:=ok.cs;have hb0:Below w.heap.size w (w.alloc (.cells (rxc 10 c ng ra rs.length rc lo hi lz ka kn kc).toArray 25)):=(Below.refl _ _).alloc (Cp _) _;have c0:=jP hb0 _ _ (show w.cell? ⟨R.r,0,none⟩=some (.slice R.ca R.C.cs.length R.cc) by rw [Cv h.box];rfl);have c2:=jP hb0 _ _ (show w.cell? ⟨R.r,2,none⟩=some (.bool R.C.fold) by rw [Cv h.box];rfl);have hch:∀j,(R.C.cs.getD j []).length≤1000000:=fun j=>by
  exact eQ
 have HB0:=ab hb0;have HO:=ab ok;have HH:=ab (h.later hb0);clear ok h c2;rcases Nat.eq_zero_or_pos i with h0|h0
 ·subst h0
  rcases Nat.eq_zero_or_pos R.C.cs.length with hn|hn
  ·have HE:Hid (ki R.C 10 0=((false != false)==true)):=ab (by rw [HE0.out,hn];rfl)
   rw [hn] at c0;clear hch HE0 hi0;exact aB
  ·obtain⟨b,o,hca,hc⟩:=HH.out.char hn
   rw [hca] at c0;have hl:=hch 0;obtain⟨d,hd⟩:∃d,R.C.cs.getD 0 []=d:=⟨_,rfl⟩;rw [hd] at hl hc;rw [Nat.add_zero] at hc;have HE:Hid (ki R.C 10 0=((false != lG d)==true)):=ab jJ;clear hch HE0 hi0 hd hca;exact aB
 ·obtain⟨b,o,hca,hc⟩:=HH.out.char (show i-1<R.C.cs.length by omega)
  rw [hca] at c0;have hl:=hch (i-1);obtain⟨d,hd⟩:∃d,R.C.cs.getD (i-1) []=d:=⟨_,rfl⟩;rw [hd] at hl hc;obtain⟨i,rfl⟩:∃j,i=j+1:=⟨i-1,by omega⟩;simp only [Nat.add_sub_cancel] at hc hd;rcases Nat.lt_or_ge (i+1) R.C.cs.length with hn|hn
  ·obtain⟨b',o',hca',hc'⟩:=HH.out.char hn
   rw [hca] at hca';injection hca' with hca'
   injection hca' with hb' ho'
   subst hb';subst ho';have hl':=hch (i+1);obtain⟨u,hu⟩:∃u,R.C.cs.getD (i+1) []=u:=⟨_,rfl⟩;rw [hu] at hl' hc';have HE:Hid (ki R.C 10 (i+1)=((lG d != lG u)==true)):=ab iN;clear hch HE0 hi0 hd hca hu h0;exact aB
  ·have hkn:i+1=R.C.cs.length:=gu
   have HE:Hid (ki R.C 10 (i+1)=((lG d != false)==true)):=ab iQ;rw [←hkn] at c0;rw [←hkn] at hcs;clear hch HE0 hi0 hd hca hn hkn h0;exact aB
theorem yo {R:Vn} (ok:VnOk R) {w:World} {fu:Nat} (h:RunV R w fu false) (c:Str) (ng:Bool) (ra:Option Addr) (rs:List (Str × Str)) (rc:Nat) (lo hi:Int) (lz:Bool) (ka:Option Addr) (kn kc:Nat) (i:Nat) (hi0:i≤R.C.cs.length):Calls Tryz.prog 162 #[.pointer (some ⟨R.r,0,none⟩),.agg (rxc 11 c ng ra rs.length rc lo hi lz ka kn kc).toArray,.int .i64 (i:Int)] w (TkP w 0 (ki R.C 11 i)):=by
 have HE0:Hid (ki R.C 11 i=(((decide (0<i)&&lG (R.C.cs.getD (i-1) [])) != (decide (i<R.C.cs.length)&&lG (R.C.cs.getD i [])))==false)):=ab (by
  unfold ki;rw [Co gD,Co gD];congr 1)
 have hcs:=ok.cs;have hb0:Below w.heap.size w (w.alloc (.cells (rxc 11 c ng ra rs.length rc lo hi lz ka kn kc).toArray 25)):=(Below.refl _ _).alloc (Cp _) _;have c0:=jP hb0 _ _ (show w.cell? ⟨R.r,0,none⟩=some (.slice R.ca R.C.cs.length R.cc) by rw [Cv h.box];rfl);have c2:=jP hb0 _ _ (show w.cell? ⟨R.r,2,none⟩=some (.bool R.C.fold) by rw [Cv h.box];rfl);have hch:∀j,(R.C.cs.getD j []).length≤1000000:=fun j=>by
  exact eQ
 have HB0:=ab hb0;have HO:=ab ok;have HH:=ab (h.later hb0);clear ok h c2;rcases Nat.eq_zero_or_pos i with h0|h0
 ·subst h0
  rcases Nat.eq_zero_or_pos R.C.cs.length with hn|hn
  ·have HE:Hid (ki R.C 11 0=((false != false)==false)):=ab (by rw [HE0.out,hn];rfl)
   rw [hn] at c0;clear hch HE0 hi0;exact aC
  ·obtain⟨b,o,hca,hc⟩:=HH.out.char hn
   rw [hca] at c0;have hl:=hch 0;obtain⟨d,hd⟩:∃d,R.C.cs.getD 0 []=d:=⟨_,rfl⟩;rw [hd] at hl hc;rw [Nat.add_zero] at hc;have HE:Hid (ki R.C 11 0=((false != lG d)==false)):=ab jJ;clear hch HE0 hi0 hd hca;exact aC
 ·obtain⟨b,o,hca,hc⟩:=HH.out.char (show i-1<R.C.cs.length by omega)
  rw [hca] at c0;have hl:=hch (i-1);obtain⟨d,hd⟩:∃d,R.C.cs.getD (i-1) []=d:=⟨_,rfl⟩;rw [hd] at hl hc;obtain⟨i,rfl⟩:∃j,i=j+1:=⟨i-1,by omega⟩;simp only [Nat.add_sub_cancel] at hc hd;rcases Nat.lt_or_ge (i+1) R.C.cs.length with hn|hn
  ·obtain⟨b',o',hca',hc'⟩:=HH.out.char hn
   rw [hca] at hca';injection hca' with hca'
   injection hca' with hb' ho'
   subst hb';subst ho';have hl':=hch (i+1);obtain⟨u,hu⟩:∃u,R.C.cs.getD (i+1) []=u:=⟨_,rfl⟩;rw [hu] at hl' hc';have HE:Hid (ki R.C 11 (i+1)=((lG d != lG u)==false)):=ab iN;clear hch HE0 hi0 hd hca hu h0;exact aC
  ·have hkn:i+1=R.C.cs.length:=gu
   have HE:Hid (ki R.C 11 (i+1)=((lG d != false)==false)):=ab iQ;rw [←hkn] at c0;rw [←hkn] at hcs;clear hch HE0 hi0 hd hca hn hkn h0;exact aC
   theorem takes2E {R:Vn} (ok:VnOk R) {w:World} {fu:Nat} (h:RunV R w fu false) (c:Str) (ng:Bool) (ra:Option Addr) (rs:List (Str × Str)) (rc:Nat) (lo hi:Int) (lz:Bool) (ka:Option Addr) (kn kc:Nat):Calls Tryz.prog 162 #[.pointer (some ⟨R.r,0,none⟩),.agg (rxc 2 c ng ra rs.length rc lo hi lz ka kn kc).toArray,.int .i64 (R.C.cs.length:Int)] w (TkP w 0 false):=by
    have hcs:=ok.cs;have hb0:Below w.heap.size w (w.alloc (.cells (rxc 2 c ng ra rs.length rc lo hi lz ka kn kc).toArray 25)):=(Below.refl _ _).alloc (Cp _) _;exact bc
    theorem takes3E {R:Vn} (ok:VnOk R) {w:World} {fu:Nat} (h:RunV R w fu false) (c:Str) (ng:Bool) (ra:Option Addr) (rs:List (Str × Str)) (rc:Nat) (lo hi:Int) (lz:Bool) (ka:Option Addr) (kn kc:Nat):Calls Tryz.prog 162 #[.pointer (some ⟨R.r,0,none⟩),.agg (rxc 3 c ng ra rs.length rc lo hi lz ka kn kc).toArray,.int .i64 (R.C.cs.length:Int)] w (TkP w 0 false):=by
     have hcs:=ok.cs;have hb0:Below w.heap.size w (w.alloc (.cells (rxc 3 c ng ra rs.length rc lo hi lz ka kn kc).toArray 25)):=(Below.refl _ _).alloc (Cp _) _;exact bc
     theorem takes4E {R:Vn} (ok:VnOk R) {w:World} {fu:Nat} (h:RunV R w fu false) (c:Str) (ng:Bool) (ra:Option Addr) (rs:List (Str × Str)) (rc:Nat) (lo hi:Int) (lz:Bool) (ka:Option Addr) (kn kc:Nat):Calls Tryz.prog 162 #[.pointer (some ⟨R.r,0,none⟩),.agg (rxc 4 c ng ra rs.length rc lo hi lz ka kn kc).toArray,.int .i64 (R.C.cs.length:Int)] w (TkP w 0 false):=by
      have hcs:=ok.cs;have hb0:Below w.heap.size w (w.alloc (.cells (rxc 4 c ng ra rs.length rc lo hi lz ka kn kc).toArray 25)):=(Below.refl _ _).alloc (Cp _) _;exact bc
theorem takes3V {R:Vn} (ok:VnOk R) {w:World} {fu:Nat} (h:RunV R w fu false) (c:Str) (ng:Bool) (ra:Option Addr) (rs:List (Str × Str)) (rc:Nat) (lo hi:Int) (lz:Bool) (ka:Option Addr) (kn kc:Nat) (i:Nat) (hi0:i<R.C.cs.length):Calls Tryz.prog 162 #[.pointer (some ⟨R.r,0,none⟩),.agg (rxc 3 c ng ra rs.length rc lo hi lz ka kn kc).toArray,.int .i64 (i:Int)] w (TkP w 1 (lf R.C 3 c ng rs (R.C.cs.getD i []))):=by
 have hcs:=ok.cs;have hb0:Below w.heap.size w (w.alloc (.cells (rxc 3 c ng ra rs.length rc lo hi lz ka kn kc).toArray 25)):=(Below.refl _ _).alloc (Cp _) _;have c0:=jP hb0 _ _ (show w.cell? ⟨R.r,0,none⟩=some (.slice R.ca R.C.cs.length R.cc) by rw [Cv h.box];rfl);have c2:=jP hb0 _ _ (show w.cell? ⟨R.r,2,none⟩=some (.bool R.C.fold) by rw [Cv h.box];rfl);have hch:∀j,(R.C.cs.getD j []).length≤1000000:=fun j=>by
  exact eQ
 have HB0:=ab hb0;obtain⟨b,o,hca,hc⟩:=(h.later hb0).char hi0;rw [hca] at c0;have hl:=hch i;obtain⟨d,hd⟩:∃d,R.C.cs.getD i []=d:=⟨_,rfl⟩;rw [hd] at hl hc;rw [hd];have HE:Hid (lf R.C 3 c ng rs d=(d != [10])):=ab rfl;rw [HE.out];clear ok h hch c2 hd hca HE;unfold rxc at HB0 hb0 c0 hc ⊢;go_enter Tryz.func162,Tryz.ntmps162
 go_wp2
 go_ret2
 exact⟨rfl,HB0.out⟩
theorem takes4V {R:Vn} (ok:VnOk R) {w:World} {fu:Nat} (h:RunV R w fu false) (c:Str) (ng:Bool) (ra:Option Addr) (rs:List (Str × Str)) (rc:Nat) (lo hi:Int) (lz:Bool) (ka:Option Addr) (kn kc:Nat) (i:Nat) (hi0:i<R.C.cs.length) (hr:Sl w w.heap.size ra 2 rs.length (jX rs)) (hn:rs.length≤100000000):Calls Tryz.prog 162 #[.pointer (some ⟨R.r,0,none⟩),.agg (rxc 4 c ng ra rs.length rc lo hi lz ka kn kc).toArray,.int .i64 (i:Int)] w (TkP w 1 (lf R.C 4 c ng rs (R.C.cs.getD i []))):=by
 have hcs:=ok.cs;have hb0:Below w.heap.size w (w.alloc (.cells (rxc 4 c ng ra rs.length rc lo hi lz ka kn kc).toArray 25)):=(Below.refl _ _).alloc (Cp _) _;have c0:=jP hb0 _ _ (show w.cell? ⟨R.r,0,none⟩=some (.slice R.ca R.C.cs.length R.cc) by rw [Cv h.box];rfl);have c2:=jP hb0 _ _ (show w.cell? ⟨R.r,2,none⟩=some (.bool R.C.fold) by rw [Cv h.box];rfl);have hch:∀j,(R.C.cs.getD j []).length≤1000000:=fun j=>by
  exact eQ
 have HB0:=ab hb0;obtain⟨b,o,hca,hc⟩:=(h.later hb0).char hi0;rw [hca] at c0;have hl:=hch i;obtain⟨d,hd⟩:∃d,R.C.cs.getD i []=d:=⟨_,rfl⟩;rw [hd] at hl hc;rw [hd];have HE:Hid (lf R.C 4 c ng rs d=hasS rs ng R.C.fold d):=ab rfl;rw [HE.out];have HR:=ab hr;clear ok h hch hd hca HE hr;unfold rxc at HB0 hb0 c0 c2 hc ⊢;go_enter Tryz.func162,Tryz.ntmps162
 go_upto_region 18 with fail
 have e1:∀x:ExtOf (w.alloc (.cells #[.int .i64 4,.string ⟨c.toArray⟩,.bool ng,.slice ra rs.length rc,.int .i64 lo,.int .i64 hi,.bool lz,.slice ka kn kc] 25)),x.val.cell? ⟨w.heap.size,3,none⟩=some (.slice ra rs.length rc):=ExtOf.cell gF;have e2:∀x:ExtOf (w.alloc (.cells #[.int .i64 4,.string ⟨c.toArray⟩,.bool ng,.slice ra rs.length rc,.int .i64 lo,.int .i64 hi,.bool lz,.slice ka kn kc] 25)),x.val.cell? ⟨R.r,2,none⟩=some (.bool R.C.fold):=ExtOf.cell c2;have e3:∀x:ExtOf (w.alloc (.cells #[.int .i64 4,.string ⟨c.toArray⟩,.bool ng,.slice ra rs.length rc,.int .i64 lo,.int .i64 hi,.bool lz,.slice ka kn kc] 25)),x.val.cell? ⟨w.heap.size,2,none⟩=some (.bool ng):=ExtOf.cell gF;have HH:Hid (∀x:ExtOf (w.alloc (.cells #[.int .i64 4,.string ⟨c.toArray⟩,.bool ng,.slice ra rs.length rc,.int .i64 lo,.int .i64 hi,.bool lz,.slice ka kn kc] 25)),Calls Tryz.prog 184 #[.slice ra rs.length rc,.bool ng,.bool R.C.fold,.string ⟨d.toArray⟩] x.val fun e w'=>e=.returned (.bool (hasS rs ng R.C.fold d))∧Below x.val.heap.size x.val w'):=ab (fun x=>by
  have hb:=HB0.out.trans (x.ext.mono gF);exact HasV_any _ _ _ rs _ _ d _ ((HR.out.keep hb).mono hb.size) hn hl)
 refine jS gE gE ?_;repeat (go_big_quiet_step ((go_at_call 184;exact ku (HH.out _))))
 refine wpQuiet_nil ?_;rintro _ ⟨xq,rfl⟩;go_wp2
 go_ret2
 exact⟨rfl,HB0.out.trans (xq.ext.mono gF)⟩
theorem takes2V {R:Vn} (ok:VnOk R) {w:World} {fu:Nat} (h:RunV R w fu false) (c:Str) (ng:Bool) (ra:Option Addr) (rs:List (Str × Str)) (rc:Nat) (lo hi:Int) (lz:Bool) (ka:Option Addr) (kn kc:Nat) (i:Nat) (hi0:i<R.C.cs.length) (hcl:c.length≤1000000):Calls Tryz.prog 162 #[.pointer (some ⟨R.r,0,none⟩),.agg (rxc 2 c ng ra rs.length rc lo hi lz ka kn kc).toArray,.int .i64 (i:Int)] w (TkP w 1 (lf R.C 2 c ng rs (R.C.cs.getD i []))):=by
 have hcs:=ok.cs;have hb0:Below w.heap.size w (w.alloc (.cells (rxc 2 c ng ra rs.length rc lo hi lz ka kn kc).toArray 25)):=(Below.refl _ _).alloc (Cp _) _;have c0:=jP hb0 _ _ (show w.cell? ⟨R.r,0,none⟩=some (.slice R.ca R.C.cs.length R.cc) by rw [Cv h.box];rfl);have c2:=jP hb0 _ _ (show w.cell? ⟨R.r,2,none⟩=some (.bool R.C.fold) by rw [Cv h.box];rfl);have hch:∀j,(R.C.cs.getD j []).length≤1000000:=fun j=>by
  exact eQ
 have HB0:=ab hb0;obtain⟨b,o,hca,hc⟩:=(h.later hb0).char hi0;rw [hca] at c0;have hl:=hch i;obtain⟨d,hd⟩:∃d,R.C.cs.getD i []=d:=⟨_,rfl⟩;rw [hd] at hl hc;rw [hd];have HE0:Hid (lf R.C 2 c ng rs d=(d==c||R.C.fold&&o4 d==o4 c)):=ab rfl;by_cases hdc:d=c
 ·have hq:(d==c)=true:=by rw [Ci];exact hdc
  have HE:Hid (lf R.C 2 c ng rs d=true):=ab (by rw [HE0.out,hq];rfl);clear HE0 hdc;exact bx
 ·have hq:(d==c)=false:=by rw [CM];exact hdc
  cases hfd:R.C.fold with
  | false =>
   have HE:Hid (lf R.C 2 c ng rs d=false):=ab (by rw [HE0.out,hq,hfd];rfl);rw [hfd] at c2;clear HE0 hdc hfd;exact bx
  | true =>
   have HE:Hid (lf R.C 2 c ng rs d=(o4 d==o4 c)):=ab (by rw [HE0.out,hq,hfd];rfl);rw [hfd] at c2;clear HE0 hdc hfd;clear ok h hch hd hca;unfold rxc at HB0 hb0 c0 c2 hc ⊢;go_enter Tryz.func162,Tryz.ntmps162
   go_upto_region 19 with fail
   have e1:∀x:ExtOf (w.alloc (.cells #[.int .i64 2,.string ⟨c.toArray⟩,.bool ng,.slice ra rs.length rc,.int .i64 lo,.int .i64 hi,.bool lz,.slice ka kn kc] 25)),x.val.cell? ⟨w.heap.size,1,none⟩=some (.string ⟨c.toArray⟩):=ExtOf.cell gF;have e2:=ExtOf.cell c2;refine jS gE gE ?_;repeat (go_big_quiet_step ((go_at_call 172;exact ku (rL _ _ (by first|exact hl|exact hcl)))))
   refine wpQuiet_nil ?_;rintro _ ⟨xq,rfl⟩;go_wp2
   go_ret2
   refine⟨tf ?_,HB0.out.trans (xq.ext.mono gF)⟩;rw [HE.out];first|done|rfl
theorem RunV.set {R:Vn} {w:World} {fu fu':Nat} {o o':Bool} (h:RunV R w fu o) {j:Nat} {u:Value} (hc:(R.cells fu o).set j u=R.cells fu' o') (hf:fu'≤fu):RunV R (w.setCell ⟨R.r,j,none⟩ u) fu' o':=by
 have hk:Kept R.S w (w.setCell ⟨R.r,j,none⟩ u):=⟨by simp [World.setCell],fun b hb _=>heap_setCell_other w _ b u hb.1⟩;refine⟨?_,h.ch.keep hk,h.of.keep hk,by have:=h.fu;omega,fun b h9=>by simp [World.setCell];exact h.dl b h9⟩;rw [heap_setCell_same _ _ _ _ _ _ h.box,←hc];simp
theorem Fv.setR (R:Vn) (w:World) (j:Nat) (u:Value):Fv R w (w.setCell ⟨R.r,j,none⟩ u):=Gx.set w u rfl
theorem RunV.free {R:Vn} {w:World} {fu:Nat} {o:Bool} (h:RunV R w fu o) (j:Nat):w.frozen? ⟨R.r,j,none⟩=false:=by
 simp only [World.frozen?,h.box];simp
theorem RunV.c1 {R:Vn} {w:World} {fu:Nat} {o:Bool} (h:RunV R w fu o):w.cell? ⟨R.r,1,none⟩=some (.slice R.oa (R.C.cs.length+1) R.oc):=by rw [Cv h.box];rfl
theorem RunV.c3 {R:Vn} {w:World} {fu:Nat} {o:Bool} (h:RunV R w fu o):w.cell? ⟨R.r,3,none⟩=some (.int .i64 (fu:Int)):=by rw [Cv h.box];rfl
theorem RunV.c4 {R:Vn} {w:World} {fu:Nat} {o:Bool} (h:RunV R w fu o):w.cell? ⟨R.r,4,none⟩=some (.bool o):=by rw [Cv h.box];rfl
theorem Fv.node {R:Vn} {w w':World} (h:Fv R w w') {b:Nat} (hS:R.S b) {o:Obj} (hb:w.heap[b]?=some o):w'.heap[b]?=some o:=(h.kept.2 b hS (jO hb)).trans hb
def xj (k:Int):Prop:=k=2∨k=3∨k=4∨k=8∨k=9∨k=10∨k=11
theorem zP {R:Vn} (ok:VnOk R) {w:World} {fu:Nat} (h:RunV R w fu false) {xk:Int} (c:Str) (ng:Bool) (ra:Option Addr) (rs:List (Str × Str)) (rc:Nat) (lo hi:Int) (lz:Bool) (ka:Option Addr) (kn kc:Nat) (i:Nat)
  (hk:xj xk) (hi0:i≤R.C.cs.length) (hc:c.length≤1000000) (hr:Sl w w.heap.size ra 2 rs.length (jX rs)) (hn:rs.length≤100000000) :
  Calls Tryz.prog 162 #[.pointer (some ⟨R.r,0,none⟩),.agg (rxc xk c ng ra rs.length rc lo hi lz ka kn kc).toArray,.int .i64 (i:Int)] w (TkP w (tkV R.C xk c ng rs i).1 (tkV R.C xk c ng rs i).2):=by
 unfold tkV;rcases Nat.lt_or_ge i R.C.cs.length with hl|hl
 ·rcases hk with rfl|rfl|rfl|rfl|rfl|rfl|rfl
  ·rw [Cl gD,Cl hl];exact takes2V ok h _ _ _ _ _ _ _ _ _ _ _ i hl hc
  ·rw [Cl gD,Cl hl];exact takes3V ok h _ _ _ _ _ _ _ _ _ _ _ i hl
  ·rw [Cl gD,Cl hl];exact takes4V ok h _ _ _ _ _ _ _ _ _ _ _ i hl hr hn
  ·rw [Co gD];exact Bm ok h _ _ _ _ _ _ _ _ _ _ _ i
  ·rw [Co gD];exact BT ok h _ _ _ _ _ _ _ _ _ _ _ i
  ·rw [Co gD];exact xy ok h _ _ _ _ _ _ _ _ _ _ _ i hi0
  ·rw [Co gD];exact yo ok h _ _ _ _ _ _ _ _ _ _ _ i hi0
 ·have e:i=R.C.cs.length:=gu
  subst e;rcases hk with rfl|rfl|rfl|rfl|rfl|rfl|rfl
  ·rw [Cl gD,Co gu];exact takes2E ok h _ _ _ _ _ _ _ _ _ _ _
  ·rw [Cl gD,Co gu];exact takes3E ok h _ _ _ _ _ _ _ _ _ _ _
  ·rw [Cl gD,Co gu];exact takes4E ok h _ _ _ _ _ _ _ _ _ _ _
  ·rw [Co gD];exact Bm ok h _ _ _ _ _ _ _ _ _ _ _ _
  ·rw [Co gD];exact BT ok h _ _ _ _ _ _ _ _ _ _ _ _
  ·rw [Co gD];exact xy ok h _ _ _ _ _ _ _ _ _ _ _ _ (Cp _)
  ·rw [Co gD];exact yo ok h _ _ _ _ _ _ _ _ _ _ _ _ (Cp _)
theorem wf_leafV {x:Rx} (h:x.wf=true) (h0:x.kind≠0) (h1:x.kind≠1) (h5:x.kind≠5) (h6:x.kind≠6) (h7:x.kind≠7):xj x.kind:=by
 obtain⟨k,c,ng,rs,lo,hi,lz,ks⟩:=x;simp only [Rx.kind] at *;simp only [Rx.wf,Cs] at h;obtain⟨hfl,_⟩:=h;simp only [kw] at hfl;unfold xj;by_cases k2:k=2
 ·exact .inl k2
 by_cases k4:k=4
 ·exact .inr (.inr (.inl k4))
 rw [Co k2,Co k4,Co h7,Co h0,Co h1,Co gu] at hfl;by_cases k3:k=3∨k=8∨k=9∨k=10∨k=11
 ·omega
 ·rw [Co k3] at hfl;cases hfl
theorem wf56 {k:Int} {c:Str} {ng:Bool} {rs:List (Str × Str)} {lo hi:Int} {lz:Bool} {ks:List Rx} (h:(Rx.mk k c ng rs lo hi lz ks).wf=true) (hk:k=5∨k=6):∃y,ks=[y]∧y.wf=true:=by
 simp only [Rx.wf,Cs] at h;obtain⟨hfl,hks⟩:=h;simp only [kw] at hfl;rw [Co gu,Co gu,Co gu,Co gu,Co gu,Cl hk] at hfl;simp only [Cs,Cj] at hfl;match ks,hfl.2 with
 | [y],_ =>
  simp only [Rx.wfL,Ch] at hks;exact⟨y,rfl,hks⟩
theorem xb {C:Rc} {on:OnF} {kk:Int} {xk:Int} {c:Str} {ng:Bool} {rs:List (Str × Str)} {lo hi:Int} {lz:Bool} {ks:List Rx} {g many fr:Nat} {K:List Nx} {i:Nat} {ps:Ps} {fu:Nat} (hf:fu≠0) (hk:xj xk) :
  nZ C on ⟨kk,.mk xk c ng rs lo hi lz ks,g,many,fr⟩ K i ps fu=if (tkV C xk c ng rs i).2=true then on K (i+(tkV C xk c ng rs i).1.toNat) ps (fu-1) else some (none,fu-1,false):=by
 unfold nZ tkV;have h5:¬xk=5:=by unfold xj at hk;omega
 have h6:¬xk=6:=by unfold xj at hk;omega
 simp only [Rx.kind,Rx.chr,Rx.neg,Rx.rows,hf,h5,h6,↓reduceIte];by_cases h2:xk=2∨xk=3∨xk=4
 ·simp only [h2,↓reduceIte]
  by_cases hl:i<C.cs.length
  ·simp only [hl,↓reduceIte,true_and]
   rfl
  ·simp only [hl,↓reduceIte,false_and,C1]
 ·simp only [h2,↓reduceIte]
  rfl
theorem tkV_le {C:Rc} {xk:Int} {c:Str} {ng:Bool} {rs:List (Str × Str)} {i:Nat} (h:(tkV C xk c ng rs i).2=true) (hi:i≤C.cs.length):(tkV C xk c ng rs i).1=((tkV C xk c ng rs i).1.toNat:Int)∧i+(tkV C xk c ng rs i).1.toNat≤C.cs.length:=by
 unfold tkV at h ⊢;split
 ·rename_i h2
  rw [Cl h2] at h;split
  ·refine⟨rfl,?_⟩;show i+1≤_;omega
  ·rename_i h3;rw [Co h3] at h;cases h
 ·exact⟨rfl,hi⟩
end Go.Proofs.YtjggmmaojklmpaaGreat
