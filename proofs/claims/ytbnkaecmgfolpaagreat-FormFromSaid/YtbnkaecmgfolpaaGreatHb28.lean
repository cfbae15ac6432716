/- Snippets in memory: what a value of eighteen cells is read as. -/
import Derived.Test.YtbnkaecmgfolpaaGreatHb0a
import Derived.Test.YtbnkaecmgfolpaaGreatHb25
import Derived.Test.YtbnkaecmgfolpaaGreatHb23
set_option maxRecDepth 100000
set_option maxHeartbeats 4000000
namespace Go.Proofs.YtbnkaecmgfolpaaGreat
open Go.RowKit
theorem TfV.zero (w:World) (S:Nat→Prop):TfV w S (rxc 0 [] false none ([]:List Row).length 0 0 0 false none ([]:List Rx).length 0++[.slice none 0 0,.bool false,.bool false]) tf0 :=
 ⟨_,none,0,RxV.close (SlS.none_ _ _ _ _) ⟨[],SlS.none_ _ _ _ _,.nil⟩,SlS.none_ _ _ _ _,rfl⟩
theorem sh:∀(r a:Str),(rxSp r a).2.length≤r.length
 | [],a=>by simp [rxSp]
 | [c],a=>by simp only [rxSp];split<;>simp
 | c::d::r,a=>by
  simp only [rxSp];split
  ·simp
  ·split
   ·have:=sh r (if d.toNat=47 then a++[d] else a++[92,d]);simp;omega
   ·have:=sh (d::r) (a++[c]);simp at this ⊢;omega
theorem xB {x:Rx} {fs:List Fm} {r:Str} {f:Tf} {s:Str} (h:si x fs r=some (f,s)):s.length<r.length:=by
 unfold si at h;have h1:=Ad List.length (Ae (p:=kq) (l:=r));rw [zX] at h1;split at h
 ·cases h
 ·rename_i heq
  rw [heq] at h1;simp at h1;split at h
  ·cases h
  ·injection h with h;injection h with _ h;subst h;omega
theorem yg {r:Str} {f:Tf} {s:Str} (h:mK r=some (f,s)):s.length<r.length:=by
 cases r with
 | nil=>cases h
 | cons c r =>
  simp only [mK] at h;have h1:=sh r [];split at h
  ·split at h
   ·cases h
   ·rename_i heq
    rw [heq] at h1;split at h
    ·cases h
    ·split at h
     ·cases h
     ·cases h
     ·rename_i heq2
      have h2:=(l8 _ _ _ _ heq2).1;have h3:=xB h;simp at *;omega
  ·cases h
theorem sfx_c {c:UInt8} {r s:Str} (h:s <:+ r):s <:+ c::r:=h.trans (AC c r)
theorem sk:∀(r a:Str),(rxSp r a).2 <:+ r
 | [],a=>AD _
 | [c],a=>by
  simp only [rxSp];split
  ·exact AD _
  ·exact List.nil_suffix
 | c::d::r,a=>by
  simp only [rxSp];split
  ·exact AD _
  ·split
   ·exact sfx_c (sfx_c (sk r _))
   ·exact sfx_c (sk (d::r) _)
namespace Sn
end Sn
theorem v6 {x:Rx} {fs:List Fm} {r:Str} {f:Tf} {s:Str} (h:si x fs r=some (f,s)):f.rx=x∧f.fs=fs:=by
 unfold si at h;split at h
 ·cases h
 ·split at h
  ·cases h
  ·injection h with h;injection h with h _;subst h;exact⟨rfl,rfl⟩
open Go.RowKit
theorem yL:tf0.small:=⟨by simp [tf0,rx0,Rx.small,Rx.small1,Rx.smallL],by decide,by decide⟩
open Go.RowKit
theorem ri (tx:Str) (fs:List Fm):(lc tx fs).length≤fs.length+1:=by unfold lc;split<;>simp
theorem mR:∀(k:Nat) (r tx:Str) (fs:List Fm) {gs:List Fm} {s:Str},o4 k r tx fs=some (gs,s)→gs.length≤fs.length+2*r.length+1
 | 0,_,_,_,_,_,h=>by cases h
 | _+1,[],_,_,_,_,h=>by cases h
 | k+1,c::r,tx,fs,gs,s,h=>by
  simp only [o4] at h;split at h
  ·injection h with h;injection h with h h';subst h;subst h'
   have:=ri tx fs
   omega
  ·split at h
   ·split at h
    ·rename_i p hp
     obtain⟨f,s'⟩:=p;have h1:=n6 hp;have h2:=mR k _ _ _ h;have h3:=ri tx fs;simp at h2 ⊢
     omega
    ·have h2:=mR k _ _ _ h
     simp at h2 ⊢;omega
   ·split at h
    ·have h2:=mR k _ _ _ h
     simp at h2 ⊢
     omega
    ·have h2:=mR k _ _ _ h
     simp at h2 ⊢;omega
theorem t8 {r:Str} {f:Tf} {s:Str} (h:mK r=some (f,s)) (hr:r.length≤100000):f.small:=by
 cases r with
 | nil=>cases h
 | cons c r =>
  simp only [mK] at h;split at h
  ·split at h
   ·cases h
   ·rename_i heq
    split at h
    ·cases h
    ·rename_i hx
     split at h
     ·cases h
     ·cases h
     ·rename_i heq2
      obtain⟨h1,h2⟩:=v6 h;have h3:=mR _ _ _ _ heq2;have h4:=(sk r []).length_le;rw [heq] at h4;obtain⟨h5,h6⟩:=pP hx;unfold Tf.small;rw [h1,h2];simp at h3 h4 hr
      exact⟨h5,by omega,by omega⟩
  ·cases h
open Go.RowKit
def EqRel (n:Nat) (w:World) (q:Value) (wr:World):Prop:=∃i:Nat,i≤n∧q=.int .i64 i∧Below w.heap.size w wr
theorem RxV.box' {w:World} {S:Nat→Prop} {cc:List Value} {k:Int} {c:Str} {ng:Bool} {rs:List (Str × Str)} {lo hi:Int} {lz:Bool} {ks:List Rx} (h:RxV w S cc (.mk k c ng rs lo hi lz ks)) :
  ∃ra rc ka kc,cc=rxc k c ng ra rs.length rc lo hi lz ka ks.length kc∧Sl w w.heap.size ra 2 rs.length (iY rs)∧RxSl w S ka ks.length ks:=by
 obtain⟨ra,rc,ka,kc,h1,h2,h3⟩:=h.open_;exact⟨ra,rc,ka,kc,h1,h2.sl,h3⟩
open Go.RowKit
open Go.RowKit
def Same13 (y:Rx):Prop:=∀(S S':Nat→Prop) (cc cc':List Value) (w:World),RxV w S cc y→RxV w S' cc' y →
 Calls Tryz.prog 39 #[.agg cc.toArray,.agg cc'.toArray] w fun e w'=>e=.returned (.bool true)∧Below w.heap.size w w'
theorem qd:∀(N:Nat) (x:Rx),x.parts≤N→x.small→Same13 x
 | 0,x,h,_=>by have:=Rx.parts_pos x;omega
 | N+1,.mk k c ng rs lo hi lz ks,h,hsm=>by
  intro S S' cc cc' w hv hv';obtain⟨ra,rc,ka,kc,rfl,hrs,hks⟩:=hv.box';obtain⟨ra',rc',ka',kc',rfl,hrs',hks'⟩:=hv'.box';obtain⟨⟨s1,s2,s3,s4⟩,hsmL⟩:=hsm;simp only [Rx.parts] at h;have ih:∀y∈ks,Same13 y:=fun y hy=>qd N y ic (kx hsmL hy)
  have HIH:=ab ih;have hbn:Below w.heap.size w ((w.alloc (.cells (rxc k c ng ra rs.length rc lo hi lz ka ks.length kc).toArray 25)).alloc (.cells (rxc k c ng ra' rs.length rc' lo hi lz ka' ks.length kc').toArray 25)):=((Below.refl _ _).alloc (zP _) _).alloc fq _;obtain⟨w0,hw0⟩:∃w0,w0=(w.alloc (.cells (rxc k c ng ra rs.length rc lo hi lz ka ks.length kc).toArray 25)).alloc (.cells (rxc k c ng ra' rs.length rc' lo hi lz ka' ks.length kc').toArray 25):=⟨_,rfl⟩;rw [←hw0] at hbn;have hz0:=hbn.size;have hx1:w0.heap[w.heap.size]?=some (.cells (rxc k c ng ra rs.length rc lo hi lz ka ks.length kc).toArray 25 (0,0)):=by rw [hw0,Below.heap_alloc _ _ _ fq];exact heap_alloc_new w _
  have hx2:w0.heap[w.heap.size+1]?=some (.cells (rxc k c ng ra' rs.length rc' lo hi lz ka' ks.length kc').toArray 25 (0,0)):=by
   rw [hw0];have:=heap_alloc_new (w.alloc (.cells (rxc k c ng ra rs.length rc lo hi lz ka ks.length kc).toArray 25)) (.cells (rxc k c ng ra' rs.length rc' lo hi lz ka' ks.length kc').toArray 25);simpa using this
  have HX1:=ab hx1;have HX2:=ab hx2;have HR1:=ab ((hrs.keep hbn).mono hz0);have HR2:=ab ((hrs'.keep hbn).mono hz0);have HK:=ab (hks.later hbn);have HK':=ab (hks'.later hbn);have HBN:=ab hbn;clear hks hks' hrs hrs' hv hv' ih hx1 hx2 hbn hsmL;unfold rxc at hw0 HX1 HX2 ⊢;go_enter Tryz.func39,Tryz.ntmps39
  go_upto_region 1 with fail
  rw [←hw0];clear hw0;obtain⟨e0,e1,e2,e3,e4,e5,e6,e7,e8⟩:=iR HX1.out;obtain⟨d0,d1,d2,d3,d4,d5,d6,d7,d8⟩:=iR HX2.out;go_wp2
  clear e0 e1 e2 e3 e4 e5 e6 e7 e8 d0 d1 d2 d3 d4 d5 d6 d7 d8;go_loopw [5] (fun q wr=>EqRel rs.length w0 q wr) (fun q _=>rs.length-(intOf q).toNat)
  case atStart=>exact⟨0,by omega,rfl,Below.refl _ _⟩
  case round =>
   obtain⟨i,hi,rfl,hb⟩:=hrel;obtain⟨e0,e1,e2,e3,e4,e5,e6,e7,e8⟩:=iR ((hb.block _ (iN HX1.out)).trans HX1.out);obtain⟨d0,d1,d2,d3,d4,d5,d6,d7,d8⟩:=iR ((hb.block _ (iN HX2.out)).trans HX2.out);clear e0 e1 e2 e4 e5 e6 e8 d0 d1 d2 d4 d5 d6 d8;cases hd:rs[i]? with
   | some r =>
    have h2:=(zQ.1 hd).1;obtain⟨b,o,rfl,hb1,c0,c1⟩:=(HR1.out.keep hb).row hd;obtain⟨b',o',rfl,hb1',c0',c1'⟩:=(HR2.out.keep hb).row hd;obtain⟨x,y⟩:=r;simp only at c0 c1 c0' c1'
    clear hd e7 d7;exact dv
   | none =>
    have h2:rs.length≤i:=fV;have h3:decide (i<rs.length)=false:=by simp;omega
    clear hd;go_wp2
    have HB:=ab hb;clear hb e3 e7 d3 d7;go_loopw [6] (fun q wr2=>EqRel ks.length w0 q wr2) (fun q _=>ks.length-(intOf q).toNat)
    case atStart=>exact⟨0,by omega,rfl,HB.out⟩
    case round =>
     obtain⟨j,hj,rfl,hb⟩:=hrel;obtain⟨e0,e1,e2,e3,e4,e5,e6,e7,e8⟩:=iR ((hb.block _ (iN HX1.out)).trans HX1.out);obtain⟨d0,d1,d2,d3,d4,d5,d6,d7,d8⟩:=iR ((hb.block _ (iN HX2.out)).trans HX2.out);clear e0 e1 e2 e3 e4 e5 e6 e8 d0 d1 d2 d3 d4 d5 d6 d8;cases hd:ks[j]? with
     | none =>
      have h2:ks.length≤j:=fV;clear hd;go_wp2
      go_ret
      exact⟨rfl,bel2 HBN.out hb⟩
     | some y =>
      have h2:=(zQ.1 hd).1;have HY:=ab (HIH.out y (Ar hd));obtain⟨yk,ych,yng,yrs,ylo,yhi,ylz,yks⟩:=y;obtain⟨b,o,yra,yrc,yka,ykc,rfl,_,hb1,_,_,hv1,c0,c1,c2,c3,c4,c5,c6,c7⟩:=(HK.out.later hb).cells hd;obtain⟨b',o',yra',yrc',yka',ykc',rfl,_,hb1',_,_,hv1',c0',c1',c2',c3',c4',c5',c6',c7'⟩:=(HK'.out.later hb).cells hd;have HC:=ab (fun n=>HY.out S S' _ _ (wr.drewN n) (hv1.later (below_drewN (Below.refl _ _) n)) (hv1'.later (below_drewN (Below.refl _ _) n)));unfold rxc at HC;clear hd hv1 hv1' HY;go_wp2
      go_still_tail 10,fp
      go_wp2_with (go_at_call 39;refine(HC.out _).mono ?_)
      rintro e w2 ⟨rfl,hb2⟩;have hb3:Below w0.heap.size w0 w2:=bel2 (below_drewN hb _) hb2;clear hb2 HC;go_wp2
      exact⟨⟨j+1,by omega,by go_num,hb3⟩,by simp [intOf];omega⟩
open Go.RowKit
theorem tz (S S':Nat→Prop) (f:Tf) (hsm:f.small) (fc fc':List Value) (w:World) (hv:TfV w S fc f) (hv':TfV w S' fc' f) :
  Calls Tryz.prog 17 #[.agg fc.toArray,.agg fc'.toArray] w fun e w'=>e=.returned (.bool true)∧Below w.heap.size w w':=by
 obtain⟨rk,rch,rng,rrs,rlo,rhi,rlz,rks,ra,rcp,rka,rkc,fa,fcp,hc⟩:=hv.open_;obtain⟨rk',rch',rng',rrs',rlo',rhi',rlz',rks',ra',rcp',rka',rkc',fa',fcp',hc'⟩:=hv'.open_;obtain⟨X,fs,fd,al⟩:=f;have hx1:X=.mk rk rch rng rrs rlo rhi rlz rks:=hc.rx;have hx2:X=.mk rk' rch' rng' rrs' rlo' rhi' rlz' rks':=hc'.rx;have hxe:=hx1.symm.trans hx2;injection hxe with q1 q2 q3 q4 q5 q6 q7 q8
 subst q1 q2 q3 q4 q5 q6 q7 q8;have hfce:fc=[.int .i64 rk,.string ⟨rch.toArray⟩,.bool rng,.slice ra rrs.length rcp,.int .i64 rlo,.int .i64 rhi,.bool rlz,.slice rka rks.length rkc,.slice fa fs.length fcp,.bool fd,.bool al]:=hc.eq;have hfce':fc'=[.int .i64 rk,.string ⟨rch.toArray⟩,.bool rng,.slice ra' rrs.length rcp',.int .i64 rlo,.int .i64 rhi,.bool rlz,.slice rka' rks.length rkc',.slice fa' fs.length fcp',.bool fd,.bool al]:=hc'.eq;obtain⟨W0,hW0⟩:∃W0,W0=(w.alloc (.cells fc.toArray 28)).alloc (.cells fc'.toArray 28):=⟨_,rfl⟩;have hb0:Below w.heap.size w W0:=by rw [hW0];exact((Below.refl _ _).alloc (zP _) _).alloc fq _
 have HB1:Hid (W0.heap[w.heap.size]?=some (.cells fc.toArray 28 (0,0))):=ab (by rw [hW0,Below.heap_alloc _ _ _ fq];exact heap_alloc_new w _);have HB2:Hid (W0.heap[w.heap.size+1]?=some (.cells fc'.toArray 28 (0,0))):=ab (by
  have:=heap_alloc_new (w.alloc (.cells fc.toArray 28)) (.cells fc'.toArray 28)
  rw [hW0];simpa using this)
 have hXV:RxV W0 S [.int .i64 rk,.string ⟨rch.toArray⟩,.bool rng,.slice ra rrs.length rcp,.int .i64 rlo,.int .i64 rhi,.bool rlz,.slice rka rks.length rkc] X:=hx1▸hc.rv.later hb0;have hXV':RxV W0 S' [.int .i64 rk,.string ⟨rch.toArray⟩,.bool rng,.slice ra' rrs.length rcp',.int .i64 rlo,.int .i64 rhi,.bool rlz,.slice rka' rks.length rkc'] X:=hx1▸hc'.rv.later hb0;have HXS:=ab (qd _ X (zP _) hsm.1 S S' _ _ W0 hXV hXV');have HF:=ab ((SlS.sl hc.fv).keep hb0 |>.mono hb0.size);have HF':=ab ((SlS.sl hc'.fv).keep hb0 |>.mono hb0.size);have hfl:fs.length≤1000000:=hsm.2.2;subst hfce hfce';have HW0:=ab hW0;have HB0:=ab hb0;clear hv hv' hc hc' hx1 hx2 hW0 hb0 hXV hXV' hsm;go_enter Tryz.func17,Tryz.ntmps17
 go_upto_region 1 with fail
 rw [←HW0.out];clear HW0;go_wp2_with (first
  | (refine jr rfl 25 (.tmp 6) rfl w.heap.size 0 rfl [.int .i64 rk,.string ⟨rch.toArray⟩,.bool rng,.slice ra rrs.length rcp,.int .i64 rlo,.int .i64 rhi,.bool rlz,.slice rka rks.length rkc] _ (jt (ds:=[.slice fa fs.length fcp,.bool fd,.bool al]) HB1.out) me rfl g8 ?_)
  | (refine jr rfl 25 (.tmp 8) rfl (w.heap.size+1) 0 rfl [.int .i64 rk,.string ⟨rch.toArray⟩,.bool rng,.slice ra' rrs.length rcp',.int .i64 rlo,.int .i64 rhi,.bool rlz,.slice rka' rks.length rkc'] _ (jt (ds:=[.slice fa' fs.length fcp',.bool fd,.bool al]) HB2.out) me rfl g8 ?_)
  | (go_at_call 39;refine HXS.out.mono ?_))
 first|rintro e w1 rfl hb1|rintro e w1 ⟨rfl,hb1⟩
 have hx1:=(hb1.block _ (iN HB1.out)).trans HB1.out;have hx2:=(hb1.block _ (iN HB2.out)).trans HB2.out;have z8:=iQ hx1 8 rfl;have y8:w1.cell? ⟨w.heap.size+1,8,none⟩=some (.slice fa' fs.length fcp'):=iQ hx2 8 rfl;have z9:=iQ hx1 9 rfl;have y9:w1.cell? ⟨w.heap.size+1,9,none⟩=some (.bool fd):=iQ hx2 9 rfl;have z10:=iQ hx1 10 rfl;have y10:w1.cell? ⟨w.heap.size+1,10,none⟩=some (.bool al):=iQ hx2 10 rfl;have HX1:=ab hx1;have HX2:=ab hx2;have HF1:=ab ((HF.out.keep hb1).mono hb1.size);have HF2:=ab ((HF'.out.keep hb1).mono hb1.size);have HBW:=ab (bel2 HB0.out hb1);clear hx1 hx2 hb1 HF HF' HXS;go_wp2
 clear z8 y8 z9 y9 z10 y10;go_loopw [5] (fun q wr=>EqRel fs.length w1 q wr) (fun q _=>fs.length-(intOf q).toNat)
 case atStart=>exact⟨0,by omega,rfl,Below.refl _ _⟩
 case round =>
  obtain⟨i,hi,rfl,hb⟩:=hrel;have z8:=iQ ((hb.block _ (iN HX1.out)).trans HX1.out) 8 rfl;have y8:wr.cell? ⟨w.heap.size+1,8,none⟩=some (.slice fa' fs.length fcp'):=iQ ((hb.block _ (iN HX2.out)).trans HX2.out) 8 rfl;cases hd:fs[i]? with
  | none =>
   have h2:fs.length≤i:=fV;clear hd;go_wp2
   go_ret
   exact⟨rfl,bel2 HBW.out hb⟩
  | some g =>
   have h2:=(zQ.1 hd).1;obtain⟨b,o,rfl,hb1,c0,c1,c2,c3,c4⟩:=(HF1.out.keep hb).fm hd;obtain⟨b',o',rfl,hb1',d0,d1,d2,d3,d4⟩:=(HF2.out.keep hb).fm hd;obtain⟨fk,fn,fcs,ft,fe⟩:=g;simp only at c0 c1 c2 c3 c4 d0 d1 d2 d3 d4
   clear hd;exact dv
open Go.RowKit
theorem qV {P:Program} {ops:Array Oper} {rest:List Oper} {op:Oper} {a:Act} {w:World} {Q:Exit→Act→World→Prop} (hw:Region.wanted op (yielded ops a.tmps)=true) (ty:TypeId) (x:Operand) (ho:op.op=.load ty x)
  (b o:Nat) (hx:a.eval x=.pointer (some ⟨b,o,none⟩)) (cs:List Value) (d:TypeDesc) (hc:w.rangeAt b o cs)
  (hu:P.underlying ty=some d) (hd:d.isRow=true) (hi:(P.info? ty).map (·.size)=some cs.length)
  (h:wpList P ops Q rest (a.put op.dst (.agg cs.toArray)) w):wpList P ops Q (op::rest) a w:=by
 unfold wpList;rw [zL hw];refine .inl ?_;unfold Oper.wp execOp;simp only [ho,hx,Instr.loadAt,Instr.sureAddr,Sem.run_bind,Sem.run_pure,Result.andThen_ok,run_loadVar_mid w b o ty cs d hc hu hd hi];exact h
open Go.RowKit
def rdF (s:Str) (i:Nat):Tf:=match mK (s.drop i) with|none=>tf0|some (f,_)=>f
def rdJ (s:Str) (i:Nat):Int:=match mK (s.drop i) with|none=>0|some (_,r)=>((s.length-1-r.length:Nat):Int)
def rdB (s:Str) (i:Nat):Bool:=(mK (s.drop i)).isSome
theorem ReadsU (s:Str) (i:Nat) (w:World) (hi:i≤s.length) (hs:s.length≤600000) :
  Calls Tryz.prog 14 #[.string ⟨s.toArray⟩,.int .i64 i] w fun e w'=>∃(rk:Int) (rch:Str) (rng:Bool) (ra:Option Addr) (rn rcp:Nat) (rlo rhi:Int) (rlz:Bool) (rka:Option Addr) (kn rkc:Nat) (fa:Option Addr) (fn fcp:Nat) (fd al:Bool),
   e=.returned (.tuple #[.agg #[.int .i64 rk,.string ⟨rch.toArray⟩,.bool rng,.slice ra rn rcp,.int .i64 rlo,.int .i64 rhi,.bool rlz,.slice rka kn rkc,.slice fa fn fcp,.bool fd,.bool al],.int .i64 (rdJ s i),.bool (rdB s i)]) ∧
   TfV w' (fun b=>w.heap.size≤b) [.int .i64 rk,.string ⟨rch.toArray⟩,.bool rng,.slice ra rn rcp,.int .i64 rlo,.int .i64 rhi,.bool rlz,.slice rka kn rkc,.slice fa fn fcp,.bool fd,.bool al] (rdF s i)∧Below w.heap.size w w':=by
 refine(tV s i w hi hs).mono fun e w'=>?_
 rintro⟨hb,hp⟩;unfold rdF rdJ rdB;cases hf:mK (s.drop i) with
 | none =>
  rw [hf] at hp;exact⟨0,[],false,none,0,0,0,0,false,none,0,0,none,0,0,false,false,hp,TfV.zero w' _,hb⟩
 | some q =>
  obtain⟨f,r⟩:=q;rw [hf] at hp;obtain⟨fc,j,he,hv,h1,h2,h3⟩:=hp;have hj:j=s.length-1-r.length:=by
   have:=Ad List.length h3
   rw [Aw] at this;omega
  subst hj;obtain⟨rk,rch,rng,rrs,rlo,rhi,rlz,rks,ra,rcp,rka,rkc,fa,fcp,hc⟩:=hv.open_;have hfc:=hc.eq;subst hfc;exact⟨rk,rch,rng,ra,rrs.length,rcp,rlo,rhi,rlz,rka,rks.length,rkc,fa,f.fs.length,fcp,f.fold,f.all,he,hv,hb⟩
theorem zB {s:Str} {i:Nat} (h:s.length≤100000):(rdF s i).small:=by
 unfold rdF;cases hf:mK (s.drop i) with
 | none=>exact yL
 | some q=>exact t8 hf (by rw [Aw];omega)
theorem rd_app (p s:Str):rdF (p++s) p.length=rdF s 0∧rdB (p++s) p.length=rdB s 0∧(rdB s 0=false→rdJ s 0=0∧rdJ (p++s) p.length=0)∧(rdB s 0=true→rdJ (p++s) p.length=rdJ s 0+p.length∧0≤rdJ s 0∧rdJ s 0≤s.length):=by
 unfold rdF rdJ rdB;rw [List.drop_left,AF];cases hf:mK s with
 | none=>exact⟨rfl,rfl,fun _=>⟨rfl,rfl⟩,fun h=>by cases h⟩
 | some q =>
  obtain⟨f,r⟩:=q;have:=yg hf
  refine⟨rfl,rfl,fun h=>(by cases h),fun _=>⟨?_,?_,?_⟩⟩
  ·simp only [zX];omega
  ·simp only;omega
  ·simp only;omega
open Go.RowKit
theorem rT (p s:Str) (w:World) (hp:p.length≤maxLen) (hs:s.length≤maxLen) :
  Calls Tryz.prog 8 #[.string ⟨p.toArray⟩,.string ⟨s.toArray⟩] w fun e w'=>e=.returned (.bool true)∧Below w.heap.size w w':=by
 unfold maxLen at hp hs;by_cases hsm:p.length≤80∧s.length≤80
 ·obtain⟨hp1,hs1⟩:=hsm
  have H1:=ab (ReadsU s 0 w (Nat.zero_le _) fg);have H2:=ab (fun w=>ReadsU (p++s) p.length w fq gj);obtain⟨e1,e2,e3,e4⟩:=rd_app p s;have HSM:=ab (zB (s:=s) (i:=0) fg);rw [e1,e2] at H2;obtain⟨J1,hJ1⟩:∃J,rdJ s 0=J:=⟨_,rfl⟩;obtain⟨J2,hJ2⟩:∃J,rdJ (p++s) p.length=J:=⟨_,rfl⟩;obtain⟨B,hB⟩:∃B,rdB s 0=B:=⟨_,rfl⟩;obtain⟨F,hF⟩:∃F,rdF s 0=F:=⟨_,rfl⟩;rw [hJ1,hB,hF] at H1;rw [hJ2,hB,hF] at H2;rw [hJ1,hJ2,hB] at e3 e4;rw [hF] at HSM;clear hJ1 hJ2 hB hF e1 e2;cases B with
  | false =>
   obtain⟨rfl,rfl⟩:=e3 rfl;exact aA
  | true =>
   obtain⟨rfl,h1,h2⟩:=e4 rfl;exact aA
 ·go_enter Tryz.func8,Tryz.ntmps8
  go_wp2_with (go_at_call 11;refine(lA _).mono ?_;rintro e w9 ⟨rfl,hb9⟩)
  all_goals first
   | (go_ret;exact⟨rfl,hb9⟩)
   | (exfalso;omega)
end Go.Proofs.YtbnkaecmgfolpaaGreat
