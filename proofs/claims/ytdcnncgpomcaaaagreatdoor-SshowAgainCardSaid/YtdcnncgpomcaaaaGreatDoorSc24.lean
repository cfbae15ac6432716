/- walks of snode.same, slices.EqualFunc of parts, snode.Same: of equal ones -/
import Derived.Test.YtdcnncgpomcaaaaGreatDoorSc23
import Derived.Shelf.Strings.Builder1
import Derived.Shelf.Small.Strs
import Derived.Shelf.Strconv.Itoa3
import Derived.Shelf.Slices.Clone
import Derived.Shelf.SlicesE.Clone
set_option maxRecDepth 100000
set_option maxHeartbeats 4000000
namespace Go.Proofs.YtdcnncgpomcaaaaGreatDoor
open Go.RowKit
theorem mh {P:Program} {ops:Array Oper} {rest:List Oper} {op:Oper} {a:Act} {w:World} {Q:Exit→Act→World→Prop} (hw:Region.wanted op (yielded ops a.tmps)=true) (ty:TypeId) (x:Operand) (ho:op.op=.load ty x)
  (b o:Nat) (hx:a.eval x=.pointer (some ⟨b,o,none⟩)) (cs:List Value) (d:TypeDesc) (hc:w.rangeAt b o cs)
  (hu:P.underlying ty=some d) (hd:d.isRow=true) (hi:(P.info? ty).map (·.size)=some cs.length)
  (h:wpList P ops Q rest (a.put op.dst (.agg cs.toArray)) w):wpList P ops Q (op::rest) a w:=by
 unfold wpList;rw [Hu hw];refine .inl ?_;unfold Oper.wp execOp;simp only [ho,hx,Instr.loadAt,Instr.sureAddr,Sem.run_bind,Sem.run_pure,Result.andThen_ok,run_loadVar_mid w b o ty cs d hc hu hd hi];exact h
def Hj (y:Sn):Prop:=∀(S S':Nat→Prop) (cc cc':List Value) (w:World),SnV w S cc y→SnV w S' cc' y →
 Calls Tryz.prog 27 #[.agg cc.toArray,.agg cc'.toArray] w fun e w'=>e=.returned (.bool true)∧Below w.heap.size w w'
theorem NEqualF (S S':Nat→Prop) (a a':Option Addr) (c c':Nat) (ks:List Sn) (w:World) (IH:∀y∈ks,Hj y) (h:SnSl w S a ks.length ks) (h':SnSl w S' a' ks.length ks) (hl:ks.length≤1000000) :
  Calls Tryz.prog 26 #[.slice a ks.length c,.slice a' ks.length c',.func (.func 27) #[] #[]] w fun e w'=>e=.returned (.bool true)∧Below w.heap.size w w':=by
 have H1:=ab h;have H2:=ab h';have HIH:=ab IH;clear h h' IH;go_enter Tryz.func26,Tryz.ntmps26
 go_wp2
 go_loopw [17] (fun q wr=>E2 ks.length w q wr) (fun q _=>ks.length-(intOf q).toNat)
 case atStart=>exact du
 case round =>
  obtain⟨i,hi,rfl,hb⟩:=hrel;cases hd:ks[i]? with
  | none =>
   have h2:ks.length≤i:=gX;exact dv
  | some y =>
   have h2:=(Id.1 hd).1;have HY:=ab (HIH.out y (In hd));obtain⟨b,o,cc,rfl,_,hbB,hyv,hcc⟩:=(H1.out.later hb).at_ hd;obtain⟨b',o',cc',rfl,_,hbB',hyv',hcc'⟩:=(H2.out.later hb).at_ hd;have hrg:wr.rangeAt b (o+i*18) cc:=fun j v hj=>by rw [IJ];exact hcc j v hj
   have hcl:=hyv.len;have hcl':=hyv'.len;obtain⟨W5,hW5⟩:∃W5,W5=wr.alloc (.cells cc.toArray 44):=⟨_,rfl⟩;have HW5:Hid ((wr.alloc (.cells #[.int .i64 0,.string ⟨#[]⟩,.int .i64 0,.bool false,.bool false,.int .i64 0,.string ⟨#[]⟩,.bool false,.slice none 0 0,.int .i64 0,.int .i64 0,.bool false,.slice none 0 0,.slice none 0 0,.bool false,.bool false,.slice none 0 0,.slice none 0 0] 44)).setRow wr.heap.size cc.toArray=W5):=ab gS;have hb5:Below wr.heap.size wr W5:=by rw [hW5];exact(Below.refl _ _).alloc (Ia _) _
   have hx5:W5.heap[wr.heap.size]?=some (.cells cc.toArray 44 (0,0)):=by rw [hW5];exact heap_alloc_new _ _
   have hrg':W5.rangeAt b' (o'+i*18) cc':=fun j v hj=>by rw [IJ];exact(hb5.cell hbB').trans (hcc' j v hj)
   obtain⟨W6,hW6⟩:∃W6,W6=W5.alloc (.cells cc'.toArray 44):=⟨_,rfl⟩;have HW6:Hid ((W5.alloc (.cells #[.int .i64 0,.string ⟨#[]⟩,.int .i64 0,.bool false,.bool false,.int .i64 0,.string ⟨#[]⟩,.bool false,.slice none 0 0,.int .i64 0,.int .i64 0,.bool false,.slice none 0 0,.slice none 0 0,.bool false,.bool false,.slice none 0 0,.slice none 0 0] 44)).setRow W5.heap.size cc'.toArray=W6):=ab (by rw [hW6];exact World.setRow_alloc_new _ _ _ _);have hb6:Below W5.heap.size W5 W6:=by rw [hW6];exact(Below.refl _ _).alloc (Ia _) _
   have HX6:Hid (W6.heap[wr.heap.size]?=some (.cells cc.toArray 44 (0,0))):=ab ((hb6.block _ (ky hx5)).trans hx5);have HY6:Hid (W6.heap[W5.heap.size]?=some (.cells cc'.toArray 44 (0,0))):=ab (by rw [hW6];exact heap_alloc_new _ _);have hb56:=bel2 hb5 hb6;have HC:=ab (HY.out S S' cc cc' W6 (hyv.later hb56) (hyv'.later hb56));have HON:Hid (∀u∈cc.toArray.toList,u.oneCell'=true):=ab (fun u hu=>hyv.one u iD);have HON':Hid (∀u∈cc'.toArray.toList,u.oneCell'=true):=ab (fun u hu=>hyv'.one u iD);clear hd hyv hyv' HY hcc hcc' hW5 hW6 hx5;go_wp2_with (first
    | (refine kA rfl 44 (.tmp 20) rfl b (o+i*18) rfl cc _ hrg kC rfl gG ?_)
    | (refine kA rfl 44 (.tmp 24) rfl b' (o'+i*18) rfl cc' _ hrg' kC rfl (by rw [kF,hcl']) ?_)
    | (refine kA rfl 44 (.tmp 8) rfl wr.heap.size 0 rfl cc _ (kG (ds:=[]) (by simpa using HX6.out)) kC rfl gG ?_)
    | (refine kA rfl 44 (.tmp 9) rfl W5.heap.size 0 rfl cc' _ (kG (ds:=[]) (by simpa using HY6.out)) kC rfl (by rw [kF,hcl']) ?_)
    | (refine kK rfl 44 (.tmp 8) (.tmp 21) rfl (wr.heap.size) (cc.toArray) rfl rfl 44 (#[.int .i64 0,.string ⟨#[]⟩,.int .i64 0,.bool false,.bool false,.int .i64 0,.string ⟨#[]⟩,.bool false,.slice none 0 0,.int .i64 0,.int .i64 0,.bool false,.slice none 0 0,.slice none 0 0,.bool false,.bool false,.slice none 0 0,.slice none 0 0]) (heap_alloc_new wr _) (kF) ii rfl (HON.out) (W:=W5) (HW5.out) ?_)
    | (refine kK rfl 44 (.tmp 9) (.tmp 25) rfl (W5.heap.size) (cc'.toArray) rfl rfl 44 (#[.int .i64 0,.string ⟨#[]⟩,.int .i64 0,.bool false,.bool false,.int .i64 0,.string ⟨#[]⟩,.bool false,.slice none 0 0,.int .i64 0,.int .i64 0,.bool false,.slice none 0 0,.slice none 0 0,.bool false,.bool false,.slice none 0 0,.slice none 0 0]) (heap_alloc_new W5 _) (kF) (by simp [hcl']) rfl (HON'.out) (W:=W6) (HW6.out) ?_)
    | (go_at_call 27;refine HC.out.mono ?_))
   first|rintro e w2 rfl hb2|rintro e w2 ⟨rfl,hb2⟩
   have hb3:Below w.heap.size w w2:=bel2 (bel2 hb hb56) hb2;clear hb2 HC hb56 hb5 hb6;go_wp2
   exact⟨⟨i+1,by omega,by go_num,hb3⟩,by simp [intOf];omega⟩
theorem DF (S S':Nat→Prop) (a a':Option Addr) (c c':Nat) (ks:List Sn) (w:World) (IH:∀y∈ks,Hj y) (h:SnSl w S a ks.length ks) (h':SnSl w S' a' ks.length ks) (hl:ks.length≤1000000) :
  Calls Tryz.prog 14 #[.slice a ks.length c,.slice a' ks.length c'] w fun e w'=>e=.returned (.bool true)∧Below w.heap.size w w':=by
 have HC:=ab (NEqualF S S' a a' c c' ks w IH h h' hl);clear IH h h';go_enter Tryz.func14,Tryz.ntmps14
 go_wp2_with (go_at_call 26;refine HC.out.mono ?_;rintro e w1 ⟨rfl,hb1⟩)
 go_ret
 exact⟨rfl,hb1⟩
def Gw (ks:List Sn):Prop:=∀(S S':Nat→Prop) (a a':Option Addr) (c c':Nat) (w:World),SnSl w S a ks.length ks→SnSl w S' a' ks.length ks →
 Calls Tryz.prog 14 #[.slice a ks.length c,.slice a' ks.length c'] w fun e w'=>e=.returned (.bool true)∧Below w.heap.size w w'
theorem DQ {yk:Int} {yt:Str} {yn:Int} {yh yu:Bool} {yf:Tf} {yo:List Str} {ys:List Sn} (hf:yf.small) (ho:yo.length≤1000000) (HL:Gw ys):Hj (.mk yk yt yn yh yu yf yo ys):=by
 intro S S' cc cc' w hv hv';have hl:=hv.len;have hl':=hv'.len;obtain⟨fc,oa,oc,ka,kc,A⟩:=hv.at_;obtain⟨fc',oa',oc',ka',kc',A'⟩:=hv'.at_;obtain⟨W0,hW0⟩:∃W0,W0=(w.alloc (.cells cc.toArray 44)).alloc (.cells cc'.toArray 44):=⟨_,rfl⟩;have hb0:Below w.heap.size w W0:=by rw [hW0];exact((Below.refl _ _).alloc (Ia _) _).alloc gz _
 have HB1:Hid (W0.heap[w.heap.size]?=some (.cells cc.toArray 44 (0,0))):=ab gL;have HB2:Hid (W0.heap[w.heap.size+1]?=some (.cells cc'.toArray 44 (0,0))):=ab (by
  have:=heap_alloc_new (w.alloc (.cells cc.toArray 44)) (.cells cc'.toArray 44)
  rw [hW0];simpa using this)
 have HXE:=ab (E3 S S' yf hf fc fc' W0 (A.fv.keep (Kept.all hb0)) (A'.fv.keep (Kept.all hb0)));have HFL:=A.fl;have HFL':=A'.fl;have HA:=ab A;have HA':=ab A';have HW0:=ab hW0;have HLL:=ab HL;have HO:=ab ho;obtain⟨k0,k1,k2,k3,k4,k16,k17,kr⟩:=A.box HB1.out;obtain⟨q0,q1,q2,q3,q4,q16,q17,qr⟩:=A'.box HB2.out;clear hv hv' A A' hW0 HL ho;go_enter Tryz.func27,Tryz.ntmps27
 go_upto_region 1 with fail
 rw [←HW0.out];clear HW0;go_wp2_with (first
  | (refine mh ku 41 (.tmp 39) rfl w.heap.size 5 rfl fc _ kr ma rfl (by rw [nY,HFL]) ?_)
  | (refine mh ku 41 (.tmp 41) rfl (w.heap.size+1) 5 rfl fc' _ qr ma rfl (by rw [nY,HFL']) ?_)
  | (go_at_call 45;refine HXE.out.mono ?_))
 first|rintro e w1 rfl hb1|rintro e w1 ⟨rfl,hb1⟩
 have hx1:=(hb1.block _ (ky HB1.out)).trans HB1.out;have hx2:=(hb1.block _ (ky HB2.out)).trans HB2.out;clear k0 k1 k2 k3 k4 k16 k17 kr q0 q1 q2 q3 q4 q16 q17 qr;obtain⟨_,_,_,_,_,k16,_,_⟩:=HA.out.box hx1;obtain⟨_,_,_,_,_,q16,_,_⟩:=HA'.out.box hx2;have hb01:=bel2 hb0 hb1;have HE:=ab (EqualStr oa oa' oc oc' yo w1 (HA.out.ov.keep (Kept.all hb01)).sl (HA'.out.ov.keep (Kept.all hb01)).sl HO.out);go_wp2_with (go_at_call 46;refine HE.out.mono ?_)
 first|rintro e w2 rfl hb2|rintro e w2 ⟨rfl,hb2⟩
 have hy1:=(hb2.block _ (ky hx1)).trans hx1;have hy2:=(hb2.block _ (ky hx2)).trans hx2;clear k16 q16 hx1 hx2;obtain⟨_,_,_,_,_,_,k17,_⟩:=HA.out.box hy1;obtain⟨_,_,_,_,_,_,q17,_⟩:=HA'.out.box hy2;have hb02:=bel2 hb01 hb2;have HS:=ab (HLL.out S S' ka ka' kc kc' w2 (HA.out.kv.later hb02) (HA'.out.kv.later hb02));go_wp2_with (go_at_call 14;refine HS.out.mono ?_)
 first|rintro e w3 rfl hb3|rintro e w3 ⟨rfl,hb3⟩
 have hb03:=bel2 hb02 hb3;clear k17 q17;go_wp2
 go_ret
 exact⟨rfl,hb03⟩
theorem zU:∀(N:Nat) (ks:List Sn),Sn.partsL ks<N→Sn.smallL ks→ks.length≤1000000→Gw ks
 | 0,ks,h,_,_=>by omega
 | N+1,ks,h,hsm,hl=>fun S S' a a' c c' w hx hx'=>DF S S' a a' c c' ks w (fun y hy=>by
   have h1:=Sn.parts_mem hy;have h2:=Sn.small_mem hsm y hy;obtain⟨yk,yt,yn,yh,yu,yf,yo,ys⟩:=y;obtain⟨hf,ho,h3,_,h4⟩:=h2;simp only [Sn.parts] at h1;exact DQ hf ho (zU N ys gj h4 h3)) hx hx' hl
open Go.RowKit
theorem EqRow_no (a a':Option Addr) (n m c c':Nat) (w:World) (h:n≠m):Calls Tryz.prog 78 #[.slice a n c,.slice a' m c'] w fun e w'=>e=.returned (.bool false)∧Below w.heap.size w w':=by
 have g:((n:Int) != (m:Int))=true:=by rw [bne_iff_ne];omega
 have g2:((n:Int)==(m:Int))=false:=by rw [Iu];omega
 go_enter Tryz.func78,Tryz.ntmps78
 go_wp2
 go_ret
 exact⟨rfl,Below.refl _ _⟩
theorem EqFm_no (a a':Option Addr) (n m c c':Nat) (w:World) (h:n≠m):Calls Tryz.prog 63 #[.slice a n c,.slice a' m c'] w fun e w'=>e=.returned (.bool false)∧Below w.heap.size w w':=by
  have g:((n:Int) != (m:Int))=true:=by rw [bne_iff_ne];omega
  have g2:((n:Int)==(m:Int))=false:=by rw [Iu];omega
  go_enter Tryz.func63,Tryz.ntmps63
  go_wp2
  go_ret
  exact⟨rfl,Below.refl _ _⟩
theorem EqFRx_no (a a':Option Addr) (n m c c':Nat) (v:Value) (w:World) (h:n≠m):Calls Tryz.prog 79 #[.slice a n c,.slice a' m c',v] w fun e w'=>e=.returned (.bool false)∧Below w.heap.size w w':=by
 have g:((n:Int) != (m:Int))=true:=by rw [bne_iff_ne];omega
 have g2:((n:Int)==(m:Int))=false:=by rw [Iu];omega
 go_enter Tryz.func79,Tryz.ntmps79
 go_wp2
 go_ret
 exact⟨rfl,Below.refl _ _⟩
def zr8:List Value:=rxc 0 [] false none ([]:List Row).length 0 0 0 false none ([]:List Rx).length 0
theorem zr8_v (w:World) (S:Nat→Prop):RxV w S zr8 rx0:=RxV.close (SlS.none_ _ _ _ _) ⟨[],SlS.none_ _ _ _ _,.nil⟩
theorem EO (S:Nat→Prop) (x:Rx) (hsm:x.small) (cc:List Value) (w:World) (hv:RxV w S cc x) :
  Calls Tryz.prog 62 #[.agg cc.toArray,.agg zr8.toArray] w fun e w'=>e=.returned (.bool (rxZ x))∧Below w.heap.size w w':=by
 by_cases hz:rxZ x=true
 ·rw [hz]
  obtain rfl:x=rx0:=by
   obtain⟨k,c,ng,rs,lo,hi,lz,ks⟩:=x;simp only [rxZ,Ie,Hs,List.isEmpty_iff,IP] at hz;obtain⟨rfl,rfl,rfl,rfl,rfl,rfl,rfl,rfl⟩:=hz;rfl
  exact Gt w hsm hv (zr8_v w S)
 ·have hzf:rxZ x=false:=by simpa using hz
  rw [hzf];obtain⟨k,c,ng,rs,lo,hi,lz,ks⟩:=x;obtain⟨ra,rc,ka,kc,rfl,hrs,hks⟩:=hv.box';clear hsm;have hbn:Below w.heap.size w ((w.alloc (.cells (rxc k c ng ra rs.length rc lo hi lz ka ks.length kc).toArray 38)).alloc (.cells zr8.toArray 38)):=((Below.refl _ _).alloc (Ia _) _).alloc gz _;obtain⟨w0,hw0⟩:∃w0,w0=(w.alloc (.cells (rxc k c ng ra rs.length rc lo hi lz ka ks.length kc).toArray 38)).alloc (.cells zr8.toArray 38):=⟨_,rfl⟩;rw [←hw0] at hbn;have hx1:w0.heap[w.heap.size]?=some (.cells (rxc k c ng ra rs.length rc lo hi lz ka ks.length kc).toArray 38 (0,0)):=by rw [hw0,Below.heap_alloc _ _ _ gz];exact heap_alloc_new w _
  have hx2:w0.heap[w.heap.size+1]?=some (.cells zr8.toArray 38 (0,0)):=by
   rw [hw0];have:=heap_alloc_new (w.alloc (.cells (rxc k c ng ra rs.length rc lo hi lz ka ks.length kc).toArray 38)) (.cells zr8.toArray 38);simpa using this
  have HX1:=ab hx1;have HX2:=ab hx2;have HRS:Hid (Sl w0 w0.heap.size ra 2 rs.length (kR rs)):=ab ((hrs.keep hbn).mono hbn.size);have hl:([]:List Row).length=0:=rfl;have hl2:([]:List Rx).length=0:=rfl;unfold zr8 rxc at hw0 HX2 ⊢;rw [hl,hl2] at hw0 HX2 ⊢;unfold rxc at HX1;obtain⟨rn,hrn⟩:∃rn,rs.length=rn:=⟨_,rfl⟩;rw [hrn] at hw0 HX1 HRS ⊢;obtain⟨e0,e1,e2,e3,e4,e5,e6,e7,e8⟩:=kD HX1.out;obtain⟨d0,d1,d2,d3,d4,d5,d6,d7,d8⟩:=kD HX2.out;clear hks hrs hv hx1 hx2 hl hl2 hz;by_cases c0:k=0
  ·subst c0
   by_cases c1:c=[]
   ·subst c1
    cases ng with
    | true =>
     clear hzf;exact cz
    | false =>
     by_cases c3:rn=0
     ·subst c3
      obtain rfl:rs=[]:=Hv hrn;clear hrn;have HEQ:=ab (wy ra none rc 0 [] w0 HRS.out (Sl.none_ _ _ _ _) gz);have HEQ':Hid (Calls Tryz.prog 78 #[.slice ra 0 rc,.slice none 0 0] w0 fun e w'=>e=.returned (.bool true)∧Below w0.heap.size w0 w'):=HEQ;clear HEQ HRS;by_cases c4:lo=0
      ·subst c4
       by_cases c5:hi=0
       ·subst c5
        cases lz with
        | true =>
         clear hzf;exact bc
        | false =>
         have hkl:ks.length≠0:=fun e=>by
          obtain rfl:ks=[]:=Hv e;simp [rxZ] at hzf
         have HEF:=ab (fun w=>EqFRx_no ka none ks.length 0 kc 0 (.func (.func 62) #[] #[]) w hkl);clear hzf;go_enter Tryz.func62,Tryz.ntmps62
         go_upto_region 1 with fail
         rw [←hw0];clear hw0;go_wp2_with (go_at_call 78;refine HEQ'.out.mono ?_)
         first|rintro e w1 rfl hb1|rintro e w1 ⟨rfl,hb1⟩
         obtain⟨e0,e1,e2,e3,e4,e5,e6,e7,e8⟩:=kD ((hb1.block _ (ky HX1.out)).trans HX1.out);obtain⟨d0,d1,d2,d3,d4,d5,d6,d7,d8⟩:=kD ((hb1.block _ (ky HX2.out)).trans HX2.out);replace hbn:=bel2 hbn hb1;go_wp2_with (go_at_call 79;refine(HEF.out _).mono ?_)
         first|rintro e w2 rfl hb2|rintro e w2 ⟨rfl,hb2⟩
         replace hbn:=bel2 hbn hb2;go_wp2
         go_ret
         exact⟨rfl,hbn⟩
       ·have g5:(hi==0)=false:=by rw [Iu];exact c5
        clear hzf c5;exact bc
      ·have g4:(lo==0)=false:=by rw [Iu];exact c4
       clear hzf c4;exact bc
     ·have HEQ:=ab (fun w=>EqRow_no ra none rn 0 rc 0 w c3)
      clear hzf c3 HRS hrn;go_enter Tryz.func62,Tryz.ntmps62
      go_upto_region 1 with fail
      rw [←hw0];clear hw0;go_wp2_with (go_at_call 78;refine(HEQ.out _).mono ?_)
      first|rintro e w1 rfl hb1|rintro e w1 ⟨rfl,hb1⟩
      replace hbn:=bel2 hbn hb1;go_wp2
      go_ret
      exact⟨rfl,hbn⟩
   ·have hne:(⟨c.toArray⟩:ByteArray)≠⟨#[]⟩:=fun e=>c1 ko
    have hq1:(c==([]:Str))=false:=by simpa using c1
    have hq3:decide (c=([]:Str))=false:=Ix c1;clear hzf c1;exact cz
  ·have g0:(k==0)=false:=by rw [Iu];exact c0
   clear hzf c0;exact cz
def zr11:List Value:=zr8++[.slice none 0 0,.bool false,.bool false]
theorem wV (S:Nat→Prop) (f:Tf) (hsm:f.small) (fc:List Value) (w:World) (hv:TfV w S fc f) :
  Calls Tryz.prog 45 #[.agg fc.toArray,.agg zr11.toArray] w fun e w'=>e=.returned (.bool (tfZ f))∧Below w.heap.size w w':=by
 obtain⟨rk,rch,rng,rrs,rlo,rhi,rlz,rks,ra,rcp,rka,rkc,fa,fcp,hc⟩:=hv.open_;obtain⟨X,fs,fd,al⟩:=f;obtain⟨hx,hp,hfs⟩:=hsm;have hx1:X=.mk rk rch rng rrs rlo rhi rlz rks:=hc.rx;have hfce:fc=[.int .i64 rk,.string ⟨rch.toArray⟩,.bool rng,.slice ra rrs.length rcp,.int .i64 rlo,.int .i64 rhi,.bool rlz,.slice rka rks.length rkc,.slice fa fs.length fcp,.bool fd,.bool al]:=hc.eq;obtain⟨W0,hW0⟩:∃W0,W0=(w.alloc (.cells fc.toArray 41)).alloc (.cells zr11.toArray 41):=⟨_,rfl⟩;have hb0:Below w.heap.size w W0:=by rw [hW0];exact((Below.refl _ _).alloc (Ia _) _).alloc gz _
 have HB1:Hid (W0.heap[w.heap.size]?=some (.cells fc.toArray 41 (0,0))):=ab gL;have HB2:Hid (W0.heap[w.heap.size+1]?=some (.cells zr11.toArray 41 (0,0))):=ab (by
  have:=heap_alloc_new (w.alloc (.cells fc.toArray 41)) (.cells zr11.toArray 41)
  rw [hW0];simpa using this)
 have hXV:RxV W0 S [.int .i64 rk,.string ⟨rch.toArray⟩,.bool rng,.slice ra rrs.length rcp,.int .i64 rlo,.int .i64 rhi,.bool rlz,.slice rka rks.length rkc] X:=hx1▸hc.rv.later hb0;have HXS:=ab (EO S X hx _ W0 hXV);have HFS:Hid (SlS W0 S fa 5 fs.length (l5 fs)):=ab (hc.fv.keep (Kept.all hb0));subst hfce;have HTZ:Hid (tfZ ⟨X,fs,fd,al⟩=(rxZ X&&(fs.isEmpty&&(!fd&&!al)))):=ab rfl;rw [HTZ.out];have HW0:=ab hW0;clear hv hc hx hx1 hW0 hp hXV HTZ;unfold zr11 at HW0 HB2 ⊢;cases hrz:rxZ X with
 | false =>
  rw [hrz] at HXS;clear hrz;go_enter Tryz.func45,Tryz.ntmps45
  go_upto_region 1 with fail
  rw [←HW0.out];clear HW0;go_wp2_with (first
   | (refine kA rfl 38 (.tmp 5) rfl w.heap.size 0 rfl [.int .i64 rk,.string ⟨rch.toArray⟩,.bool rng,.slice ra rrs.length rcp,.int .i64 rlo,.int .i64 rhi,.bool rlz,.slice rka rks.length rkc] _ (kG (ds:=[.slice fa fs.length fcp,.bool fd,.bool al]) HB1.out) lK rfl g8 ?_)
   | (refine kA rfl 38 (.tmp 7) rfl (w.heap.size+1) 0 rfl zr8 _ (kG (ds:=[.slice none 0 0,.bool false,.bool false]) HB2.out) lK rfl g8 ?_)
   | (go_at_call 62;refine HXS.out.mono ?_))
  first|rintro e w1 rfl hb1|rintro e w1 ⟨rfl,hb1⟩
  have hx1:=(hb1.block _ (ky HB1.out)).trans HB1.out;have hx2:=(hb1.block _ (ky HB2.out)).trans HB2.out;clear hx1 hx2;go_wp2
  go_ret
  exact⟨rfl,(bel2 hb0 hb1)⟩
 | true =>
  rw [hrz] at HXS;clear hrz;cases fs with
  | cons g gs =>
   have HE:=ab (fun w=>EqFm_no fa none (g::gs).length 0 fcp 0 w gz);obtain⟨gn,hgn⟩:∃gn,(g::gs).length=gn:=⟨_,rfl⟩;rw [hgn] at HE HB1 HW0 ⊢;have HR:Hid ((true&&((g::gs).isEmpty&&(!fd&&!al)))=false):=ab rfl;rw [HR.out];clear HR HFS hfs;go_enter Tryz.func45,Tryz.ntmps45
   go_upto_region 1 with fail
   rw [←HW0.out];clear HW0 hgn;go_wp2_with (first
    | (refine kA rfl 38 (.tmp 5) rfl w.heap.size 0 rfl [.int .i64 rk,.string ⟨rch.toArray⟩,.bool rng,.slice ra rrs.length rcp,.int .i64 rlo,.int .i64 rhi,.bool rlz,.slice rka rks.length rkc] _ (kG (ds:=[.slice fa gn fcp,.bool fd,.bool al]) HB1.out) lK rfl g8 ?_)
    | (refine kA rfl 38 (.tmp 7) rfl (w.heap.size+1) 0 rfl zr8 _ (kG (ds:=[.slice none 0 0,.bool false,.bool false]) HB2.out) lK rfl g8 ?_)
    | (go_at_call 62;refine HXS.out.mono ?_))
   first|rintro e w1 rfl hb1|rintro e w1 ⟨rfl,hb1⟩
   have hx1:=(hb1.block _ (ky HB1.out)).trans HB1.out;have hx2:=(hb1.block _ (ky HB2.out)).trans HB2.out;have z8:=kz hx1 8 rfl;have y8:w1.cell? ⟨w.heap.size+1,8,none⟩=some (.slice none 0 0):=kz hx2 8 rfl;clear hx1 hx2;go_wp2_with (go_at_call 63;refine(HE.out _).mono ?_)
   first|rintro e w2 rfl hb2|rintro e w2 ⟨rfl,hb2⟩
   go_wp2
   go_ret
   exact⟨rfl,(bel2 (bel2 hb0 hb1) hb2)⟩
  | nil =>
   have HR:Hid ((true&&(([]:List Fm).isEmpty&&(!fd&&!al)))=(!fd&&!al)):=ab rfl;rw [HR.out];clear HR;have hl0:([]:List Fm).length=0:=rfl;rw [hl0] at HB1 HW0 HFS ⊢;clear hl0;cases fd with
   | true =>
    go_enter Tryz.func45,Tryz.ntmps45
    go_upto_region 1 with fail
    rw [←HW0.out];clear HW0;go_wp2_with (first
     | (refine kA rfl 38 (.tmp 5) rfl w.heap.size 0 rfl [.int .i64 rk,.string ⟨rch.toArray⟩,.bool rng,.slice ra rrs.length rcp,.int .i64 rlo,.int .i64 rhi,.bool rlz,.slice rka rks.length rkc] _ (kG (ds:=[.slice fa 0 fcp,.bool true,.bool al]) HB1.out) lK rfl g8 ?_)
     | (refine kA rfl 38 (.tmp 7) rfl (w.heap.size+1) 0 rfl zr8 _ (kG (ds:=[.slice none 0 0,.bool false,.bool false]) HB2.out) lK rfl g8 ?_)
     | (go_at_call 62;refine HXS.out.mono ?_))
    exact aG
   | false =>
    cases al with
    | true =>
     go_enter Tryz.func45,Tryz.ntmps45
     go_upto_region 1 with fail
     rw [←HW0.out];clear HW0;go_wp2_with (first
      | (refine kA rfl 38 (.tmp 5) rfl w.heap.size 0 rfl [.int .i64 rk,.string ⟨rch.toArray⟩,.bool rng,.slice ra rrs.length rcp,.int .i64 rlo,.int .i64 rhi,.bool rlz,.slice rka rks.length rkc] _ (kG (ds:=[.slice fa 0 fcp,.bool false,.bool true]) HB1.out) lK rfl g8 ?_)
      | (refine kA rfl 38 (.tmp 7) rfl (w.heap.size+1) 0 rfl zr8 _ (kG (ds:=[.slice none 0 0,.bool false,.bool false]) HB2.out) lK rfl g8 ?_)
      | (go_at_call 62;refine HXS.out.mono ?_))
     exact aG
    | false =>
     go_enter Tryz.func45,Tryz.ntmps45
     go_upto_region 1 with fail
     rw [←HW0.out];clear HW0;go_wp2_with (first
      | (refine kA rfl 38 (.tmp 5) rfl w.heap.size 0 rfl [.int .i64 rk,.string ⟨rch.toArray⟩,.bool rng,.slice ra rrs.length rcp,.int .i64 rlo,.int .i64 rhi,.bool rlz,.slice rka rks.length rkc] _ (kG (ds:=[.slice fa 0 fcp,.bool false,.bool false]) HB1.out) lK rfl g8 ?_)
      | (refine kA rfl 38 (.tmp 7) rfl (w.heap.size+1) 0 rfl zr8 _ (kG (ds:=[.slice none 0 0,.bool false,.bool false]) HB2.out) lK rfl g8 ?_)
      | (go_at_call 62;refine HXS.out.mono ?_))
     exact aG
def escL (th c:Str):Str :=
 if c=[10] then [92,110] else if c=[13] then [92,114] else if c=[9] then [92,116] else if c=[12] then [92,102] else if c=[11] then [92,118]
 else if th.contains (c.headD 0)=true then 92::c else c
def oftS (lo hi:Int):Str :=
 if lo=0∧hi=-1 then [42] else if lo=1∧hi=-1 then [43] else if lo=0∧hi=1 then [63] else if lo=hi then 123::(dec lo++[125])
 else if hi=-1 then 123::(dec lo++[44,125]) else 123::(dec lo++44::(dec hi++[125]))
def th1:Str:=[94,36,92,46,42,43,63,40,41,91,93,123,125,124,47]
def th2:Str:=[94,45,92,91,93,47]
def rowS (r:Str × Str):Str:=escL th2 r.1++(if r.2=r.1 then [] else 45::escL th2 r.2)
def setS (ng:Bool) (rs:List (Str × Str)):Str:=91::((if ng=true then [94] else [])++(rs.flatMap rowS++[93]))
namespace Rx
mutual
def tell:Rx→Str
 | mk k c ng rs lo hi lz ks =>
  if k=0 then tellL ks
  else if k=1 then tellA false ks
  else if k=2 then escL th1 c
  else if k=3 then [46]
  else if k=8 then [94]
  else if k=9 then [36]
  else if k=10 then [92,98]
  else if k=11 then [92,66]
  else if k=4 then setS ng rs
  else if k=5 then 40::(tellL ks++[41])
  else if k=6 then 40::63::58::(tellL ks++[41])
  else tellL ks++(oftS lo hi++(if lz=true then [63] else []))
def tellL:List Rx→Str
 | []=>[]
 | x::r=>tell x++tellL r
def tellA:Bool→List Rx→Str
 | _,[]=>[]
 | b,x::r=>(if b=true then [124] else [])++(tell x++tellA true r)
end
end Rx
theorem oftS_len {lo hi:Int} (h0:0≤lo) (h1:lo≤255) (h2:hi=-1∨lo≤hi∧hi≤255):(oftS lo hi).length≤12:=by
 have a:=qL h0 (by omega:lo≤9999);unfold oftS;split
 ·simp
 split
 ·simp
 split
 ·simp
 split
 ·simp;omega
 split
 ·simp;omega
 ·have b:=qL (n:=hi) gj gj
  simp;omega
theorem rD (th c:Str):(escL th c).length≤c.length+1:=by
 unfold escL
 (repeat' split)<;>simp_all
theorem wf_mk {k:Int} {c:Str} {ng:Bool} {rs:List (Str × Str)} {lo hi:Int} {lz:Bool} {ks:List Rx} (h:(Rx.mk k c ng rs lo hi lz ks).wf=true):lf (.mk k c ng rs lo hi lz ks)=true∧Rx.wfL ks=true:=by
 simpa [Rx.wf] using h
theorem xY:∀{ks:List Rx} {x:Rx},Rx.wfL ks=true→x∈ks→x.wf=true
 | [],_,_,h=>by simp at h
 | y::r,x,hs,h=>by
  simp only [Rx.wfL,Ie] at hs;rcases Ii.1 h with rfl|h
  ·exact hs.1
  ·exact xY hs.2 h
theorem A8 {k:Int} {c:Str} {ng:Bool} {rs:List (Str × Str)} {lo hi:Int} {lz:Bool} {ks:List Rx} (h:lf (.mk k c ng rs lo hi lz ks)=true) :
  k=0∨k=1∨k=2∨k=3∨k=4∨k=5∨k=6∨k=7∨k=8∨k=9∨k=10∨k=11:=by
 by_cases a:k=0∨k=1∨k=2∨k=3∨k=4∨k=5∨k=6∨k=7∨k=8∨k=9∨k=10∨k=11
 ·exact a
 ·exfalso
  simp only [lf] at h;rw [Hx gj,Hx gj,Hx gj,Hx gj,Hx gj,Hx gj,Hx gj] at h;cases h
theorem vw {c:Str} (h:lG c=true):c≠[]:=by rintro rfl;cases h
theorem E0:∀{rs:List (Str × Str)} {p:Option Str},nC p rs=true→∀r∈rs,r.1≠[]∧r.2≠[]
 | [],_,_,r,hr=>by simp at hr
 | r0::rs,p,h,r,hr=>by
  simp only [nC,Ie] at h;rcases Ii.1 hr with rfl|hr
  ·have h1:=h.1.1
   simp only [rowB,Ie] at h1;exact⟨vw h1.1.1,vw h1.1.2⟩
  ·exact E0 h.2 r hr
end Go.Proofs.YtdcnncgpomcaaaaGreatDoor
namespace Go.Proofs
open Go.Shelf
def Tryz.laysM171_ren:Go.Shelf.Ren:=⟨fun|171=>33|243=>49|246=>66|283=>81|284=>82|285=>83|286=>84|129=>96|317=>95|318=>97|319=>98|320=>99|337=>110|338=>111|n=>n,fun|3=>3|9=>9|2=>2|4=>4|171=>125|0=>0|53=>126|37=>52|5=>5|173=>129|212=>140|51=>141|20=>20|213=>142|46=>70|232=>169|233=>170|n=>n,fun|17=>1|18=>2|19=>3|n=>n⟩
theorem Tryz.laysM171:Go.Proofs.LaysM.n171 Tryz.prog Tryz.laysM171_ren:={
 mixed:=by kernel_rfl
 f129:=Tryz.func96.trans (congrArg some (by kernel_rfl))
 f171:=Tryz.func33.trans (congrArg some (by kernel_rfl))
 f243:=Tryz.func49.trans (congrArg some (by kernel_rfl))
 f246:=Tryz.func66.trans (congrArg some (by kernel_rfl))
 f283:=Tryz.func81.trans (congrArg some (by kernel_rfl))
 f284:=Tryz.func82.trans (congrArg some (by kernel_rfl))
 f285:=Tryz.func83.trans (congrArg some (by kernel_rfl))
 f286:=Tryz.func84.trans (congrArg some (by kernel_rfl))
 f317:=Tryz.func95.trans (congrArg some (by kernel_rfl))
 f318:=Tryz.func97.trans (congrArg some (by kernel_rfl))
 f319:=Tryz.func98.trans (congrArg some (by kernel_rfl))
 f320:=Tryz.func99.trans (congrArg some (by kernel_rfl))
 f337:=Tryz.func110.trans (congrArg some (by kernel_rfl))
 f338:=Tryz.func111.trans (congrArg some (by kernel_rfl))
 t0:=Tryz.underlying0
 a0:=Tryz.isAgg0
 z0:=Tryz.sizeOf0
 v0:=Tryz.zeroValue0
 t2:=Tryz.underlying2
 a2:=Tryz.isAgg2
 z2:=Tryz.sizeOf2
 v2:=Tryz.zeroValue2
 t3:=Tryz.underlying3
 a3:=Tryz.isAgg3
 z3:=Tryz.sizeOf3
 v3:=Tryz.zeroValue3
 t4:=Tryz.underlying4
 a4:=Tryz.isAgg4
 z4:=Tryz.sizeOf4
 v4:=Tryz.zeroValue4
 t5:=Tryz.underlying5
 a5:=Tryz.isAgg5
 z5:=Tryz.sizeOf5
 v5:=Tryz.zeroValue5
 t9:=Tryz.underlying9
 a9:=Tryz.isAgg9
 z9:=Tryz.sizeOf9
 v9:=Tryz.zeroValue9
 t20:=Tryz.underlying20
 a20:=Tryz.isAgg20
 z20:=Tryz.sizeOf20
 v20:=Tryz.zeroValue20
 t37:=Tryz.underlying52
 a37:=Tryz.isAgg52
 z37:=Tryz.sizeOf52
 v37:=Tryz.zeroValue52
 t46:=Tryz.underlying70
 a46:=Tryz.isAgg70
 z46:=Tryz.sizeOf70
 v46:=Tryz.zeroValue70
 t51:=Tryz.underlying141
 a51:=Tryz.isAgg141
 z51:=Tryz.sizeOf141
 v51:=Tryz.zeroValue141
 t53:=Tryz.underlying126
 a53:=Tryz.isAgg126
 z53:=Tryz.sizeOf126
 v53:=Tryz.zeroValue126
 t171:=Tryz.underlying125
 a171:=Tryz.isAgg125
 z171:=Tryz.sizeOf125
 v171:=Tryz.zeroValue125
 t173:=Tryz.underlying129
 a173:=Tryz.isAgg129
 z173:=Tryz.sizeOf129
 v173:=Tryz.zeroValue129
 t212:=Tryz.underlying140
 a212:=Tryz.isAgg140
 z212:=Tryz.sizeOf140
 v212:=Tryz.zeroValue140
 t213:=Tryz.underlying142
 a213:=Tryz.isAgg142
 z213:=Tryz.sizeOf142
 t232:=Tryz.underlying169
 a232:=Tryz.isAgg169
 z232:=Tryz.sizeOf169
 v232:=Tryz.zeroValue169
 t233:=Tryz.underlying170
 a233:=Tryz.isAgg170
 z233:=Tryz.sizeOf170
 v233:=Tryz.zeroValue170
 g17:=by kernel_rfl
 g18:=by kernel_rfl
 g19:=by kernel_rfl
 i0:=by kernel_rfl
 i2:=by kernel_rfl
 i3:=by kernel_rfl
 i4:=by kernel_rfl
 i5:=by kernel_rfl
 i9:=by kernel_rfl
 i20:=by kernel_rfl
 i37:=by kernel_rfl
 i46:=by kernel_rfl
 i51:=by kernel_rfl
 i53:=by kernel_rfl
 i171:=by kernel_rfl
 i173:=by kernel_rfl
 i212:=by kernel_rfl
 i232:=by kernel_rfl
 i233:=by kernel_rfl
 m17:=by kernel_rfl
 m18:=by kernel_rfl
 m19:=by kernel_rfl }
open Go.RowKit Go.Sort Go.Lib in
theorem Tryz.strconv_Itoa (n : Int) (h0 : -9223372036854775808 ≤ n) (h1 : n ≤ 9223372036854775807) (w : World) (htab : Lib.TabIs Tryz.prog w "internal/strconv.uint64pow10" .u64 Lib.pow10Tab) :
  Calls Tryz.prog 33 #[.int .i64 n] w fun e w'=>e=.returned (.string ⟨(Lib.itoa n).toArray⟩)∧∃k os,w'=grow (w.drewN k) os:=Any.strconv_Itoa Tryz.laysM171 n h0 h1 w htab
end Go.Proofs
set_option maxRecDepth 100000
namespace Go.Proofs.YtdcnncgpomcaaaaGreatDoor
open Go.RowKit
def Tab (w : World) : Prop := Lib.TabIs Tryz.prog w "internal/strconv.uint64pow10" .u64 Lib.pow10Tab
theorem tab_name : ∃ g, Tryz.prog.globalNamed "internal/strconv.uint64pow10" = some g := by
 have h : (Tryz.prog.globalNamed "internal/strconv.uint64pow10").isSome = true := by kernel_rfl
 exact Option.isSome_iff_exists.1 h
theorem Tab.keep {w w':World} (h:Tab w) (hb:Below w.heap.size w w'):Tab w':=by
 obtain⟨g,hg⟩:=tab_name;unfold Tab Lib.TabIs World.var? at h ⊢;rw [hg] at h ⊢;simp only [Option.bind_some] at h ⊢;have hlt:g<w.heap.size:=by
  rcases Nat.lt_or_ge g w.heap.size with h'|h'
  ·exact h'
  ·rw [Array.getElem?_eq_none h'] at h;cases h
 rw [hb.block g hlt];exact h
theorem GL : Tryz.prog.globalNamed "internal/strconv.uint64pow10" = some 1 := by kernel_rfl
theorem Tab.lt {w:World} (h:Tab w):1<w.heap.size:=by
 unfold Tab Lib.TabIs World.var? at h;rw [GL] at h;simp only [Option.bind_some] at h;rcases Nat.lt_or_ge 1 w.heap.size with h'|h'
 ·exact h'
 ·rw [Array.getElem?_eq_none h'] at h;cases h
theorem Tab.keepB {w w':World} {B:Nat} (h:Tab w) (hg:1<B) (hb:Below B w w'):Tab w':=by
 unfold Tab Lib.TabIs World.var? at h ⊢;rw [GL] at h ⊢;simp only [Option.bind_some] at h ⊢;rw [hb.block _ hg];exact h
theorem Es (w:World) (n:Nat) (os:Array Obj):Below w.heap.size w (Sort.grow (w.drewN n) os) :=
 ⟨rfl,rfl,rfl,by simp [Sort.grow],fun k hk=>by simp [Sort.grow,Array.getElem?_append_left hk]⟩
theorem rH (n:Int) (w:World) (h0:0≤n) (h1:n≤100000) (ht:Tab w) :
  Calls Tryz.prog 33 #[.int .i64 n] w fun e w'=>e=.returned (.string ⟨(dec n).toArray⟩)∧Below w.heap.size w w':=by
 refine(Tryz.strconv_Itoa n gj gj w ht).mono ?_
 rintro e w' ⟨rfl,k,os,rfl⟩;obtain⟨m,rfl⟩:=Int.eq_ofNat_of_zero_le h0;refine⟨?_,Es w k os⟩;rw [Lib.itoa_nonneg];rfl
open Go.RowKit
theorem tg (th c:Str) (w:World) (hc:c≠[]) (hs:c.length≤10000000) :
  Calls Tryz.prog 55 #[.string ⟨c.toArray⟩,.string ⟨th.toArray⟩] w fun e w'=>e=.returned (.string ⟨(escL th c).toArray⟩)∧w=w':=by
 cases c with
 | nil=>exact absurd rfl hc
 | cons a r =>
  clear hc;simp only [H7] at hs;generalize hR:escL th (a::r)=R
  have HR:=ab hR;clear hR;by_cases hm:th.contains a=true
  ·obtain⟨k,hk⟩:=yK hm
   exact ca
  ·have hk:=um hm
   exact ca
theorem EK (lo hi:Int) (w:World) (h0:0≤lo) (h1:lo≤255) (h2:hi=-1∨lo≤hi∧hi≤255) (ht:Tab w) :
  Calls Tryz.prog 57 #[.int .i64 lo,.int .i64 hi] w fun e w'=>e=.returned (.string ⟨(oftS lo hi).toArray⟩)∧Below w.heap.size w w':=by
 generalize hR:oftS lo hi=R
 have HR:=ab hR;clear hR;have HT:=ab ht;have hl:=qL h0 (by omega:lo≤9999);clear ht;rcases h2 with rfl|⟨h3,h4⟩
 ·by_cases hl0:lo=0
  ·subst hl0
   exact cC
  by_cases hl1:lo=1
  ·subst hl1
   exact cC
  have e0:(lo==0)=false:=by simpa using hl0
  have e1:(lo==1)=false:=by simpa using hl1
  have e2:(lo==-1)=false:= it;have HR2:Hid (R=123::(dec lo++[44,125])):=ab (by
   rw [←HR.out];unfold oftS;rw [Hx gj,Hx gj,Hx gj,Hx gj,Hu rfl])
  clear hl0 hl1 HR;exact bv
 ·have hh:=qL (n:=hi) gj gj
  have e2:(hi==-1)=false:=by rw [Iu];omega
  by_cases hlh:lo=hi
  ·subst hlh
   have HR2:Hid (R=123::(dec lo++[125])):=ab (by
    rw [←HR.out];unfold oftS;rw [Hx gj,Hx gj,Hx gj,Hu rfl])
   clear HR;by_cases hl0:lo=0
   ·subst hl0
    exact bv
   by_cases hl1:lo=1
   ·subst hl1
    exact bv
   ·have e0:(lo==0)=false:=by simpa using hl0
    have e1:(lo==1)=false:=by simpa using hl1
    clear hl0 hl1;exact bv
  ·by_cases hq:lo=0∧hi=1
   ·obtain⟨rfl,rfl⟩:=hq
    exact cC
   have HR2:Hid (R=123::(dec lo++44::(dec hi++[125]))):=ab (by
    rw [←HR.out];unfold oftS;rw [Hx gj,Hx gj,Hx gj,Hx hlh,Hx gj])
   have e3:(lo==hi)=false:=by simpa using hlh
   clear HR;by_cases hl0:lo=0
   ·subst hl0
    have e4:(hi==1)=false:=by rw [Iu];omega
    clear hq hlh;exact bd
   by_cases hl1:lo=1
   ·subst hl1
    clear hq hlh;exact bd
   ·have e0:(lo==0)=false:=by simpa using hl0
    have e1:(lo==1)=false:=by simpa using hl1
    clear hl0 hl1 hq hlh;exact bd
open Go.RowKit
theorem Fr.held {B g:Nat} {w w':World} (h:Fr B [g] [5] w w') {k:Nat} {cs:Array Value} {T:TypeId} {m:Nat × Nat} (hk:w.heap[k]?=some (.cells cs T m)) (hT:T≠5) (hg:k≠g):w'.heap[k]?=some (.cells cs T m) :=
 (h.block k (ky hk) (by simpa using hg) (.inr (by intro e he;simp at he;subst he;simp [xB,hk,hT]))).trans hk
def SetRel (B g:Nat) (rs:List (Str × Str)) (T:Str) (w1:World) (q:Value) (wr:World):Prop :=
 ∃(k:Nat) (acc:Str),k≤rs.length∧q=.int .i64 k∧Bld B g acc wr∧Fr B [g] [5] w1 wr∧acc.length≤20000000∧Hid (acc++(rs.drop k).flatMap rowS=T)
theorem set_any (B g:Nat) (acc:Str) (kd:Int) (c:Str) (ng:Bool) (ra:Option Addr) (rs:List (Str × Str)) (rc:Nat) (lo hi:Int) (lz:Bool) (ka:Option Addr) (kn kc:Nat) (w:World)
  (hbl:Bld B g acc w) (hB:B≤w.heap.size) (hr:Sl w B ra 2 rs.length (kR rs)) (hne:∀r∈rs,r.1≠[]∧r.2≠[]) (hsz:∀r∈rs,r.1.length≤1000000∧r.2.length≤1000000) (hrl:rs.length≤1000000)
  (hlen:(acc++setS ng rs).length≤10000000) :
  Calls Tryz.prog 56 #[.pointer (some ⟨g,0,none⟩),.agg #[.int .i64 kd,.string ⟨c.toArray⟩,.bool ng,.slice ra rs.length rc,.int .i64 lo,.int .i64 hi,.bool lz,.slice ka kn kc]] w fun e w'=>e=.returned (.tuple #[])∧Bld B g (acc++setS ng rs) w'∧Fr B [g] [5] w w':=by
 have HNE:=ab hne;have HSZ:=ab hsz;clear hne hsz;have hal:acc.length≤10000000:=by simp only [Ig] at hlen;omega
 have hgl0:=hbl.lt;cases ng with
 | false =>
  simp only [setS,Ig,H7,IF,if_false,Iz] at hlen;go_enter Tryz.func56,Tryz.ntmps56
  go_wp2_with (go_at_call 34;refine(kQ B _ (acc) 91 _ (hbl.alloc _) gq gq gv gv).mono ?_)
  first|rintro e w1 rfl hbl1 hfr1|rintro e w1 ⟨rfl,hbl1,hfr1⟩
  have hbx0:=hfr1.held (heap_alloc_new w _) gv (Nat.ne_of_gt hbl.lt);have z2:w1.cell? ⟨w.heap.size,2,none⟩=some (.bool false):=by rw [Ic hbx0];rfl
  clear hbx0;have hbx1:=(hfr1).held (heap_alloc_new w _) gv (Nat.ne_of_gt hbl.lt);have z3:w1.cell? ⟨w.heap.size,3,none⟩=some (.slice ra rs.length rc):=by rw [Ic hbx1];rfl
  have hB1:B≤w1.heap.size:=by have:=(hfr1).size;simp at this;omega
  have HR1:=ab (hr.keep (((Below.refl B w).alloc hB _).trans ((hfr1).below gD (by simp;exact hbl.le))));obtain⟨T,hT⟩:∃T,(acc++[91])++rs.flatMap rowS=T:=⟨_,rfl⟩;have HT0:Hid ((acc++[91])++(rs.drop 0).flatMap rowS=T):=ab hT;have HTL:T.length≤15000000:=by rw [←hT];have h:=hlen;simp only [Ig,H7,IE] at h ⊢;omega
  have HTT:=ab hT;have HFR0:=ab hfr1;have HBX:=ab hbx1;clear hT hbx1;go_wp2
  go_loopw [15] (fun q wr=>SetRel B g rs T w1 q wr) (fun q _=>rs.length-(intOf q).toNat)
  case atStart=>exact⟨0,acc++[91],by omega,rfl,hbl1,Fr.refl _ _ _ _,by have h:=hlen;simp only [Ig,H7,IE] at h ⊢;omega,HT0⟩
  case round =>
   exact ar
 | true =>
  simp only [setS,Ig,H7,if_true,IE] at hlen;go_enter Tryz.func56,Tryz.ntmps56
  go_wp2_with (go_at_call 34;refine(kQ B _ (acc) 91 _ (hbl.alloc _) gq gq gv gv).mono ?_)
  first|rintro e w1 rfl hbl1 hfr1|rintro e w1 ⟨rfl,hbl1,hfr1⟩
  have hbx0:=hfr1.held (heap_alloc_new w _) gv (Nat.ne_of_gt hbl.lt);have z2:w1.cell? ⟨w.heap.size,2,none⟩=some (.bool true):=by rw [Ic hbx0];rfl
  have hB1':B≤w1.heap.size:=by have:=hfr1.size;simp at this;omega
  clear hbx0;go_wp2_with (go_at_call 34;refine(kQ B _ (acc++[91]) 94 _ (hbl1) gq gq gv gv).mono ?_)
  first|rintro e w1b rfl hbl1b hfr1b|rintro e w1b ⟨rfl,hbl1b,hfr1b⟩
  have hfrx:=hfr1.trans hfr1b;clear z2;have hbx1:=(hfrx).held (heap_alloc_new w _) gv (Nat.ne_of_gt hbl.lt);have z3:w1b.cell? ⟨w.heap.size,3,none⟩=some (.slice ra rs.length rc):=by rw [Ic hbx1];rfl
  have hB1:B≤w1b.heap.size:=by have:=(hfrx).size;simp at this;omega
  have HR1:=ab (hr.keep (((Below.refl B w).alloc hB _).trans ((hfrx).below gD (by simp;exact hbl.le))));obtain⟨T,hT⟩:∃T,(acc++[91]++[94])++rs.flatMap rowS=T:=⟨_,rfl⟩;have HT0:Hid ((acc++[91]++[94])++(rs.drop 0).flatMap rowS=T):=ab hT;have HTL:T.length≤15000000:=by rw [←hT];have h:=hlen;simp only [Ig,H7,IE] at h ⊢;omega
  have HTT:=ab hT;have HFR0:=ab hfrx;have HBX:=ab hbx1;clear hT hbx1;go_wp2
  go_loopw [15] (fun q wr=>SetRel B g rs T w1b q wr) (fun q _=>rs.length-(intOf q).toNat)
  case atStart=>exact⟨0,acc++[91]++[94],by omega,rfl,hbl1b,Fr.refl _ _ _ _,by have h:=hlen;simp only [Ig,H7,IE] at h ⊢;omega,HT0⟩
  case round =>
   exact ar
open Go.RowKit
def qV (B g:Nat) (out:Str) (w:World) (e:Ending) (w':World):Prop:=e=.returned (.tuple #[])∧Bld B g out w'∧Fr B [g] [5] w w'
def FH (B g:Nat) (ks:List Rx) (f:Nat→List Rx→Str) (T:Str) (w1:World) (q:Value) (wr:World):Prop :=
 ∃(k:Nat) (acc:Str),k≤ks.length∧q=.int .i64 k∧Bld B g acc wr∧Fr B [g] [5] w1 wr∧Hid (acc++f k (ks.drop k)=T)
theorem Kept.fr {B g:Nat} {w w':World} (h:Fr B [g] [5] w w') (hB:B≤w.heap.size) (hg:B≤g):Kept (·<B) w w':=Kept.below (h.below hB (by simpa using hg)) (fun _ h _=>h)
theorem pD (B g:Nat) (acc:Str) (K:Int) (hK:K=3∨K=8∨K=9∨K=10∨K=11) (c:Str) (ng:Bool) (ra:Option Addr) (rs:List (Str × Str)) (rn rc:Nat) (lo hi:Int) (lz:Bool) (ka:Option Addr) (ks:List Rx) (kn kc:Nat) (w:World)
  (hbl:Bld B g acc w) (hB:B≤w.heap.size) (hlen:acc.length≤10000000) :
  Calls Tryz.prog 38 #[.pointer (some ⟨g,0,none⟩),.agg #[.int .i64 K,.string ⟨c.toArray⟩,.bool ng,.slice ra rn rc,.int .i64 lo,.int .i64 hi,.bool lz,.slice ka kn kc]] w fun e w'=>qV B g (acc++(Rx.mk K c ng rs lo hi lz ks).tell) w e w':=by
 have hg:=hbl.lt;rcases hK with rfl|rfl|rfl|rfl|rfl
 ·go_enter Tryz.func38,Tryz.ntmps38
  go_wp2_with (go_at_call 34;refine(kQ B _ (acc) 46 _ (hbl.alloc _) gq gq gv gv).mono ?_)
  exact bb
 ·go_enter Tryz.func38,Tryz.ntmps38
  go_wp2_with (go_at_call 34;refine(kQ B _ (acc) 94 _ (hbl.alloc _) gq gq gv gv).mono ?_)
  exact bb
 ·go_enter Tryz.func38,Tryz.ntmps38
  go_wp2_with (go_at_call 34;refine(kQ B _ (acc) 36 _ (hbl.alloc _) gq gq gv gv).mono ?_)
  exact bb
 ·exact fo
 ·exact fo
theorem GD (B g:Nat) (acc:Str) (c:Str) (ng:Bool) (ra:Option Addr) (rs:List (Str × Str)) (rn rc:Nat) (lo hi:Int) (lz:Bool) (ka:Option Addr) (ks:List Rx) (kn kc:Nat) (w:World)
  (hbl:Bld B g acc w) (hB:B≤w.heap.size) (hlen:acc.length≤10000000) (hc:c≠[]) (hcl:c.length≤1000000) :
  Calls Tryz.prog 38 #[.pointer (some ⟨g,0,none⟩),.agg #[.int .i64 2,.string ⟨c.toArray⟩,.bool ng,.slice ra rn rc,.int .i64 lo,.int .i64 hi,.bool lz,.slice ka kn kc]] w fun e w'=>qV B g (acc++(Rx.mk 2 c ng rs lo hi lz ks).tell) w e w':=by
 have HC:=ab hc;have hq:=rD th1 c;clear hc;go_enter Tryz.func38,Tryz.ntmps38
 go_wp2_with (first|(go_at_call 55;refine(tg _ _ _ HC.out gj).mono ?_;rintro e w2 ⟨rfl,rfl⟩;rw [show [94,36,92,46,42,43,63,40,41,91,93,123,125,124,47]=th1 from rfl])|(go_at_call 32;refine(kU B _ (acc) _ _ (hbl.alloc _) gq gq gq).mono ?_))
 exact bb
theorem show_set (B g:Nat) (acc:Str) (c:Str) (ng:Bool) (ra:Option Addr) (rs:List (Str × Str)) (rc:Nat) (lo hi:Int) (lz:Bool) (ka:Option Addr) (ks:List Rx) (kn kc:Nat) (w:World)
  (hbl:Bld B g acc w) (hB:B≤w.heap.size) (hr:Sl w B ra 2 rs.length (kR rs)) (hne:∀r∈rs,r.1≠[]∧r.2≠[]) (hsz:∀r∈rs,r.1.length≤1000000∧r.2.length≤1000000) (hrl:rs.length≤1000000)
  (hlen:(acc++setS ng rs).length≤10000000) :
  Calls Tryz.prog 38 #[.pointer (some ⟨g,0,none⟩),.agg #[.int .i64 4,.string ⟨c.toArray⟩,.bool ng,.slice ra rs.length rc,.int .i64 lo,.int .i64 hi,.bool lz,.slice ka kn kc]] w fun e w'=>qV B g (acc++(Rx.mk 4 c ng rs lo hi lz ks).tell) w e w':=by
 have HNE:=ab hne;have HSZ:=ab hsz;have HLN:=ab hlen;have HR:=ab (hr.keep ((Below.refl B w).alloc hB (.cells #[.int .i64 4,.string ⟨c.toArray⟩,.bool ng,.slice ra rs.length rc,.int .i64 lo,.int .i64 hi,.bool lz,.slice ka kn kc] 38)));clear hne hsz hlen hr;go_enter Tryz.func38,Tryz.ntmps38
 go_wp2_with (go_at_call 56;refine(set_any B g acc _ _ _ _ rs _ _ _ _ _ _ _ _ (hbl.alloc _) gD HR.out HNE.out HSZ.out hrl HLN.out).mono ?_)
 exact bb
end Go.Proofs.YtdcnncgpomcaaaaGreatDoor
