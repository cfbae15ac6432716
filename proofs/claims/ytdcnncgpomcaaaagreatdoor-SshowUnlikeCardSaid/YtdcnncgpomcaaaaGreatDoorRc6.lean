/- walks of sread: a place in a text -/
import Derived.Test.YtdcnncgpomcaaaaGreatDoorRc5
set_option maxRecDepth 100000
set_option maxHeartbeats 4000000
namespace Go.Proofs.YtdcnncgpomcaaaaGreatDoor
open Go.RowKit
def Pl (x:List Value) (w:World) (g:Nat) (s:Str) (i:Nat):Prop:=w.heap[g]?=some (.cells (.string ⟨s.toArray⟩::.int .i64 i::x).toArray 64 (0,0))∧i≤s.length∧s.length≤1000000
theorem Pl.c0 {x:List Value} {w:World} {g:Nat} {s:Str} {i:Nat} (h:Pl x w g s i):w.cell? ⟨g,0,none⟩=some (.string ⟨s.toArray⟩):=by rw [Jw h.1];rfl
theorem Pl.c1 {x:List Value} {w:World} {g:Nat} {s:Str} {i:Nat} (h:Pl x w g s i):w.cell? ⟨g,1,none⟩=some (.int .i64 i):=by rw [Jw h.1];rfl
theorem Pl.c2 {v:Value} {w:World} {g:Nat} {s:Str} {i:Nat} (h:Pl [v] w g s i):w.cell? ⟨g,2,none⟩=some v:=by rw [Jw h.1];rfl
theorem Pl.free {x:List Value} {w:World} {g:Nat} {s:Str} {i:Nat} (h:Pl x w g s i) (j:Nat):w.frozen? ⟨g,j,none⟩=false:=by unfold World.frozen?;rw [h.1];rfl
theorem Pl.lt {x:List Value} {w:World} {g:Nat} {s:Str} {i:Nat} (h:Pl x w g s i):g<w.heap.size:=kT h.1
theorem Pl.later {x:List Value} {w w':World} {g:Nat} {s:Str} {i:Nat} (h:Pl x w g s i) (hb:Below w.heap.size w w'):Pl x w' g s i:=⟨(hb.block g (kT h.1)).trans h.1,h.2⟩
theorem Pl.set {x:List Value} {w:World} {g:Nat} {s:Str} {i:Nat} (h:Pl x w g s i) {j:Nat} (hj:j≤s.length):Pl x (w.setCell ⟨g,1,none⟩ (.int .i64 j)) g s j :=
 ⟨by rw [heap_setCell_same w _ _ _ _ _ h.1];rfl,hj,h.2.2⟩
theorem Pl.setHi {x:List Value} {w:World} {g:Nat} {s:Str} {i:Nat} (h:Pl x w g s i) {a:Addr} (ha:a.block≠g) (u:Value):Pl x (w.setCell a u) g s i :=
 ⟨(heap_setCell_other w a g u (Ne.symm ha)).trans h.1,h.2⟩
theorem zH (l p:Str) (w:World) (_hs:l.length≤100000000) (_hp:p.length≤100000000) :
  Calls Tryz.prog 58 #[.string ⟨l.toArray⟩,.string ⟨p.toArray⟩] w fun e w'=>e=.returned (.bool (p.isPrefixOf l))∧w=w':=by
 generalize hR:List.isPrefixOf p l=R
 have HR:=ab hR;clear hR;go_enter Tryz.func58,Tryz.ntmps58
 go_wp2
 ·go_ret;refine⟨?_,rfl⟩;rw [←HR.out,D0];try simp
 ·rename_i h2
  go_ret;refine⟨?_,rfl⟩;rw [←HR.out,D0]
  have:(List.take p.length l)≠p:=fun h=>by
   have:=Jp List.length h;simp at this;omega
  simp [this]
theorem CQ {x:List Value} {g:Nat} {s p:Str} {i:Nat} (w:World) (h:Pl x w g s i) (hp:p.length≤1000) :
  Calls Tryz.prog 39 #[.pointer (some ⟨g,0,none⟩),.string ⟨p.toArray⟩] w fun e w'=>e=.returned (.bool (p.isPrefixOf (s.drop i)))∧Below w.heap.size w w':=by
 generalize hR:p.isPrefixOf (s.drop i)=R
 have HR:=ab hR;clear hR;have d0:∀x':ExtOf w,x'.val.cell? ⟨g,0,none⟩=some (.string ⟨s.toArray⟩):=ExtOf.cell h.c0;have d1:∀x':ExtOf w,x'.val.cell? ⟨g,1,none⟩=some (.int .i64 i):=ExtOf.cell h.c1;have hi:=h.2.1;have hl:=h.2.2;have gk0:(0:Int)≤(i:Int):=gN;have gk1:(i:Int)≤(s.length:Int):=gN;have gk2:((i:Int)).toNat=i:=gN;have HP:Hid (∀w,Calls Tryz.prog 58 #[.string ⟨(s.drop i).toArray⟩,.string ⟨p.toArray⟩] w fun e w'=>e=.returned (.bool R)∧Below w.heap.size w w'):=ab fun w=>by
  have:=zH (s.drop i) p w gV gN
  rw [HR.out] at this;exact this.mono fun _ _ ⟨h1,h2⟩=>⟨h1,h2▸Below.refl _ _⟩
 clear h;go_enter Tryz.func39,Tryz.ntmps39
 go_wp2
 refine kZ gT gT ?_;repeat (go_big_quiet_step ((go_at_call 58;exact lW (HP.out _))))
 refine wpQuiet_nil ?_;rintro _ ⟨xq,rfl⟩;go_wp2
 go_ret
 exact⟨rfl,xq.ext⟩
theorem nK {x:List Value} {g:Nat} {s p:Str} {i:Nat} (w:World) (h:Pl x w g s i) (hp:p.length≤1000) (hy:p.isPrefixOf (s.drop i)=true) :
  Calls Tryz.prog 73 #[.pointer (some ⟨g,0,none⟩),.string ⟨p.toArray⟩] w fun e w'=>e=.returned (.bool true)∧Pl x w' g s (i+p.length)∧w.grownBy w' (some g):=by
 have HS:=ab (CQ w h hp);rw [hy] at HS;have HPL:=ab h;have hj:i+p.length≤s.length:=by
  rw [List.isPrefixOf_iff_prefix] at hy;have:=hy.length_le
  have h2:=h.2.1;rw [JU] at this;omega
 have hl:=h.2.2;clear h hy;go_enter Tryz.func73,Tryz.ntmps73
 go_wp2_with (go_at_call 39;refine HS.out.mono ?_)
 rintro e w1 ⟨rfl,hst⟩;have hg1:=kS hst (some g);have h1:=HPL.out.later hst;have c1:=h1.c1;have f1:=h1.free 1;have HP2:=ab (h1.set hj);have hg2:=lp hg1 1 (.int .i64 ((i+p.length:Nat):Int));clear hst h1 hg1 HS HPL;push_cast at HP2 hg2
 go_wp2
 go_ret
 exact⟨rfl,HP2.out,hg2⟩
theorem nl {x:List Value} {g:Nat} {s p:Str} {i:Nat} (w:World) (h:Pl x w g s i) (hp:p.length≤1000) (hy:p.isPrefixOf (s.drop i)=false) :
  Calls Tryz.prog 73 #[.pointer (some ⟨g,0,none⟩),.string ⟨p.toArray⟩] w fun e w'=>e=.returned (.bool false)∧Pl x w' g s i∧w.grownBy w' (some g):=by
 have HS:=ab (CQ w h hp);rw [hy] at HS;have HPL:=ab h;clear h hy;go_enter Tryz.func73,Tryz.ntmps73
 go_wp2_with (go_at_call 39;refine HS.out.mono ?_)
 rintro e w1 ⟨rfl,hst⟩;have hg1:=kS hst (some g);have h1:=HPL.out.later hst;clear hst;go_wp2
 go_ret
 exact⟨rfl,h1,hg1⟩
def PlR (x:List Value) (w:World) (g:Nat) (s:Str) (i:Nat) (r:Str):Prop:=∃j,Pl x w g s j∧s.drop j=r∧i≤j
def NxtR (x:List Value) (g:Nat) (s:Str) (i:Nat) (q:UInt8 × Str) (w:World) (e:Ending) (w':World):Prop :=
 e=.returned (.int .u8 q.1.toNat)∧PlR x w' g s i q.2∧w.grownBy w' (some g)
theorem F4 {x:List Value} {g:Nat} {s th:Str} {i:Nat} {c:UInt8} {r:Str} (w:World) (h:Pl x w g s i) (hd:s.drop i=c::r) (_hth:th.length≤1000) :
  Calls Tryz.prog 42 #[.pointer (some ⟨g,0,none⟩),.string ⟨th.toArray⟩] w fun e w'=>NxtR x g s i (nxtM th (c::r)) w e w':=by
 obtain⟨h2,h3c,hr⟩:=lG hd;have hl:=h.2.2;have HPL:=ab h;have HSEE:Hid (∀x':ExtOf w,Calls Tryz.prog 39 #[.pointer (some ⟨g,0,none⟩),.string ⟨([92]).toArray⟩] x'.val fun e w'=>e=.returned (.bool (decide (c.toNat=92)))∧Below x'.val.heap.size x'.val w'):=ab fun x'=>(CQ (p:=[92]) _ (h.later x'.ext) gU).mono fun _ _ ⟨h1,h2⟩=>⟨by rw [h1,hd,pre1];rfl,h2⟩
 have d0:∀x':ExtOf w,x'.val.cell? ⟨g,0,none⟩=some (.string ⟨s.toArray⟩):=ExtOf.cell h.c0;have d1:∀x':ExtOf w,x'.val.cell? ⟨g,1,none⟩=some (.int .i64 i):=ExtOf.cell h.c1;clear h;by_cases h92:c.toNat=92
 ·rw [JR h92] at HSEE
  have gw:IntKind.i64.wrap ((i:Int)+1)=(i:Int)+1:=IntWalk.i64_in _ gN;cases r with
  | nil =>
   have hq:nxtM th [c]=(c,[]):=rfl;have hlen:=ms hr;have gg:decide (i+1<s.length)=false:=JT gN;have gg2:decide ((i:Int)+1<(s.length:Int))=false:=JT gN;rw [hq];clear hd hq hlen;go_enter Tryz.func42,Tryz.ntmps42
   go_wp2
   refine kZ gT gT ?_;repeat (go_big_quiet_step ((go_at_call 39;exact lW (HSEE.out _))))
   refine wpQuiet_nil ?_;rintro _ ⟨xq,rfl⟩;clear gg gg2 HSEE gw;exact aD
  | cons d r2 =>
   obtain⟨g2,g3,gr⟩:=lG hr;have gg:decide (i+1<s.length)=true:=JR gN;have gg2:decide ((i:Int)+1<(s.length:Int))=true:=JR gN;have gk0:(0:Int)≤(i:Int)+1:=gN;have gk1:(i:Int)+1<(s.length:Int):=gN;have gk2:((i:Int)+1).toNat=i+1:=gN;cases hc:th.contains d with
   | true =>
    have hq:nxtM th (c::d::r2)=(d,r2):=by simp only [nxtM];rw [Jl ⟨h92,hc⟩]
    obtain⟨k,hk⟩:=zn hc;have HIX:Hid (∀x':ExtOf w,Calls Tryz.prog 47 #[.string ⟨th.toArray⟩,.int .u8 d.toNat] x'.val fun e w'=>e=.returned (.int .i64 k)∧Below x'.val.heap.size x'.val w'):=ab fun x'=>(lX x'.val hk).mono fun _ _ ⟨h1,h2⟩=>⟨h1,h2▸Below.refl _ _⟩
    have gi:decide ((0:Int)≤(k:Int))=true:=JR gN;rw [hq];clear hd hq hc hk h3c;have h3:=g3;go_enter Tryz.func42,Tryz.ntmps42
    go_wp2
    refine kZ gT gT ?_;repeat (go_big_quiet_step ((first|(go_at_call 39;exact lW (HSEE.out _))|(go_at_call 47;exact lW (HIX.out _)))))
    refine wpQuiet_nil ?_;rintro _ ⟨xq,rfl⟩;clear gg gg2 HSEE HIX gw gi gk0 gk1 gk2 h3;have hp0:=HPL.out.later xq.ext;have hg0:=kS xq.ext (some g);generalize xq.val=wz at *
    clear d0 d1;obtain⟨wa,hwa⟩:∃wa,wa=wz.setCell ⟨g,1,none⟩ (.int .i64 ((i:Int)+1)):=⟨_,rfl⟩;have hpa:Pl x wa g s (i+1):=by have:=hp0.set (j:=i+1) gN;rw [hwa];push_cast at this;exact this
    have hga:w.grownBy wa (some g):=hwa▸lp hg0 1 _;have c1:=hp0.c1;have f1:=hp0.free 1;go_upto_region 3 with fail
    rw [←hwa];clear hwa hp0 hg0 c1 f1;obtain⟨w4,hw4⟩:∃w4,w4=wa.setCell ⟨g,1,none⟩ (.int .i64 (((i+1):Int)+1)):=⟨_,rfl⟩;have HP4:Hid (Pl x w4 g s ((i+1)+1)):=ab (by have:=hpa.set (j:=(i+1)+1) gN;rw [hw4];push_cast at this;exact this);have hg4:w.grownBy w4 (some g):=hw4▸lp hga 1 _;have c1:=hpa.c1;have f1:=hpa.free 1;push_cast at c1
    go_upto_region 4 with fail
    rw [←hw4];clear hw4 hpa hga c1 f1;have e0:∀x':ExtOf w4,x'.val.cell? ⟨g,0,none⟩=some (.string ⟨s.toArray⟩):=ExtOf.cell HP4.out.c0;have e1:∀x':ExtOf w4,x'.val.cell? ⟨g,1,none⟩=some (.int .i64 (((i+1):Int)+1)):=ExtOf.cell (by have:=HP4.out.c1;push_cast at this;exact this);have gw:IntKind.i64.wrap (((i+1):Int)+1-1)=((i+1):Int):=by rw [show ((i+1):Int)+1-1=(i+1) by omega];exact IntWalk.i64_in _ gN
    have gk0:(0:Int)≤((i+1):Int):=gN;have gk1:((i+1):Int)<(s.length:Int):=gN;have gk2:(((i+1):Int)).toNat=(i+1):=gN;have h3:=g3;refine kZ gT gT ?_;repeat (go_big_quiet_step ((fail)))
    refine wpQuiet_nil ?_;rintro _ ⟨xq,rfl⟩;go_wp2
    go_ret
    refine⟨?_,⟨(i+1)+1,HP4.out.later xq.ext,gr,by omega⟩,kR hg4 (kS xq.ext (some g))⟩;first|rfl|(simp;done)|(simp;omega)|(simp [h3];done)|(simp [h3];omega)
   | false =>
    have hq:nxtM th (c::d::r2)=(c,d::r2):=by simp only [nxtM];rw [Jo (fun e=>by rw [hc] at e;cases e.2)]
    have hk:=vq (th:=th) (c:=d) (by rw [hc];decide);have HIX:Hid (∀x':ExtOf w,Calls Tryz.prog 47 #[.string ⟨th.toArray⟩,.int .u8 d.toNat] x'.val fun e w'=>e=.returned (.int .i64 (-1))∧Below x'.val.heap.size x'.val w'):=ab fun x'=>(lX x'.val hk).mono fun _ _ ⟨h1,h2⟩=>⟨h1,h2▸Below.refl _ _⟩
    rw [hq];clear hd hq hc hk;have h3:=g3;go_enter Tryz.func42,Tryz.ntmps42
    go_wp2
    refine kZ gT gT ?_;repeat (go_big_quiet_step ((first|(go_at_call 39;exact lW (HSEE.out _))|(go_at_call 47;exact lW (HIX.out _)))))
    refine wpQuiet_nil ?_;rintro _ ⟨xq,rfl⟩;clear gg gg2 HSEE HIX gw gk0 gk1 gk2 h3;exact aD
 ·rw [JT h92] at HSEE
  have hq:nxtM th (c::r)=(c,r):=by
   cases r with
   | nil=>rfl
   | cons d r2=>simp only [nxtM];rw [Jo (fun e=>h92 e.1)]
  rw [hq];clear hd hq;go_enter Tryz.func42,Tryz.ntmps42
  go_wp2
  refine kZ gT gT ?_;repeat (go_big_quiet_step ((go_at_call 39;exact lW (HSEE.out _))))
  refine wpQuiet_nil ?_;rintro _ ⟨xq,rfl⟩;clear HSEE;exact aD
def NumS (x:List Value) (g:Nat) (s:Str) (i:Nat) (R:Option (Nat × Str)) (w:World) (e:Ending) (w':World):Prop:=w.grownBy w' (some g) ∧
 match R with
 | none=>e=.returned (.tuple #[.int .i64 0,.bool false])∧Pl x w' g s i
 | some (n,r)=>n<10000∧e=.returned (.tuple #[.int .i64 n,.bool true])∧∃j,Pl x w' g s j∧s.drop j=r∧i<j
def NumSRel (x:List Value) (g:Nat) (s:Str) (i:Nat) (R:Option (Nat × Str)) (w:World) (n q:Value) (wr:World):Prop :=
 ∃k m:Nat,k≤4∧i+k≤s.length∧m<10 ^ k∧q=.int .i64 ((i+k:Nat):Int)∧n=.int .i64 (m:Int)∧Pl x wr g s i∧w.grownBy wr (some g)∧Hid (nf (s.drop (i+k)) k m=R)
theorem Dm {x:List Value} {g:Nat} {s:Str} {i:Nat} (w:World) (h:Pl x w g s i) :
  Calls Tryz.prog 74 #[.pointer (some ⟨g,0,none⟩)] w fun e w'=>NumS x g s i (oC (s.drop i)) w e w':=by
 obtain⟨R,hR⟩:∃R,oC (s.drop i)=R:=⟨_,rfl⟩;rw [hR];have HR:Hid (nf (s.drop (i+0)) 0 0=R):=ab hR;have HPL:=ab h;have hi:=h.2.1;have hl:=h.2.2;have d1:∀x':ExtOf w,x'.val.cell? ⟨g,1,none⟩=some (.int .i64 i):=ExtOf.cell h.c1;clear h hR;go_enter Tryz.func74,Tryz.ntmps74
 go_wp2
 refine kZ gT gT ?_;repeat (go_big_quiet_step ((fail)))
 refine wpQuiet_nil ?_;rintro _ ⟨xq,rfl⟩;have hpq:=HPL.out.later xq.ext;have hgq:=kS xq.ext (some g);generalize xq.val=wq at *
 clear d1 HPL;have HPQ:=ab hpq;have HGQ:=ab hgq;clear hpq hgq;go_wp2
 go_loopw [4,5] (fun n q wr=>NumSRel x g s i R w n q wr) (fun _ q _=>s.length-(intOf q).toNat)
 case atStart=>exact⟨0,0,by omega,by omega,by simp,rfl,rfl,HPQ.out,HGQ.out,HR⟩
 case round =>
  obtain⟨k,m,hk,hik,hm,rfl,rfl,hpl,hg,HF⟩:=hrel;clear HR HPQ HGQ;have hm4:m<10000:=Jt hm (Nat.pow_le_pow_right gN hk);have Hm:=ab hm;have HP:=ab hpl;have c0:=hpl.c0;have c1:=hpl.c1;have f1:=hpl.free 1;have HP2:=ab (hpl.set (j:=i+k) hik);have hg2:=lp hg 1 (.int .i64 ((i+k:Nat):Int));clear hm hpl;cases hd:s.drop (i+k) with
  | nil =>
   have h2:=ms hd;have HF':Hid (nf [] k m=R):=ab iL;have HD:Hid (s.drop (i+k)=[]):=ab hd;clear hd HF;have gl:decide (i+k<s.length)=false:=JT gN;have gl2:decide (((i+k:Nat):Int)<(s.length:Int))=false:=JT gN;push_cast at gl2
   by_cases hk0:k=0
   ·subst hk0
    have hRn:Hid (R=none):=ab (by rw [←HF'.out];(simp [nf]));exact fD
   ·have hRs:Hid (R=some (m,[])):=ab (by rw [←HF'.out];(simp [nf];omega))
    exact fK
  | cons c r =>
   obtain⟨h2,h3,hr⟩:=lG hd;have HF':Hid (nf (c::r) k m=R):=ab iL;have Hr:=ab hr;have HD:=ab hd;have gl:decide (i+k<s.length)=true:=JR gN;have gl2:decide (((i+k:Nat):Int)<(s.length:Int))=true:=JR gN;push_cast at gl2
   clear hd HF hr;by_cases hdg:48≤c.toNat∧c.toNat≤57
   ·by_cases hk4:k=4
    ·subst hk4
     have hRn:Hid (R=none):=ab (by rw [←HF'.out];unfold nf;rw [Jl hdg,Jl rfl]);have hz:((i:Int)+4-i==4)=true:=by rw [Ji];omega
     obtain⟨d1,d2⟩:=hdg;go_wp2
     go_ret2
     exact⟨hg,by rw [hRn.out];exact⟨rfl,HP.out⟩⟩
    ·have HF2:Hid (nf r (k+1) (10*m+(c.toNat-48))=R):=ab (by have h:=HF'.out;unfold nf at h;rw [Jl hdg,Jo hk4] at h;exact h)
     have hz:((i:Int)+k-i==4)=false:=by rw [JP];omega
     obtain⟨d1,d2⟩:=hdg;go_wp2
     go_roundw
     case rel =>
      refine⟨k+1,10*m+(c.toNat-48),by omega,by omega,?_,by go_num,?_,HP.out,hg,?_⟩
      ·have:=Hm.out;rw [Nat.pow_succ];omega
      ·congr 1;omega
      ·exact ab (by rw [show i+(k+1)=i+k+1 from rfl,Hr.out];exact HF2.out)
     case measure=>simp [intOf];omega
   ·by_cases d1:48≤c.toNat
    ·have d2:¬c.toNat≤57:=fun e=>hdg ⟨d1,e⟩
     have q1:decide (48≤c.toNat)=true:=JR d1;have q2:decide (c.toNat≤57)=false:=JT d2;exact bd
    ·have q1:decide (48≤c.toNat)=false:=JT d1
     exact bd
theorem Bs (c:UInt8) (w:World):Calls Tryz.prog 69 #[.int .u8 c.toNat] w fun e w'=>e=.returned (.bool (ny c))∧w=w':=by
 go_enter Tryz.func69,Tryz.ntmps69
 go_wp2
 all_goals (go_ret;refine⟨lM ?_,rfl⟩;unfold ny;rw [Bool.eq_iff_iff];simp only [Js,Jj];first|omega|(simp;omega)|skip)
theorem G3 {s:Str} {c:UInt8} (h:c∈s) (hc:ny c=false):oR s=false:=by
 cases s with
 | nil=>rfl
 | cons a r =>
  simp only [oR];have:(a::r).all ny=false:=by rw [List.all_eq_false];exact⟨c,h,by rw [hc];decide⟩
  rw [this];simp
theorem Gr {c:UInt8} {r:Str} (h:c.toNat≤57):oR (c::r)=false:=by
 simp only [oR];rw [JT (p:=57<c.toNat) gN];simp
theorem Fj {c:UInt8} {r:Str} (h:∀d∈c::r,ny d=true) (h1:57<c.toNat):oR (c::r)=decide ((c::r).length≤64):=by
 simp only [oR];rw [JR h1,List.all_eq_true.2 h];simp
def NmRel (s:Str) (w:World) (q:Value) (wr:World):Prop :=
 ∃i:Nat,i≤s.length∧q=.int .i64 i∧wr=w∧Hid (∀c∈s.take i,ny c=true)∧Hid (0<i→57<(s.headD 0).toNat)
theorem wn (s:Str) (w:World) (hs:s.length≤1000000) :
  Calls Tryz.prog 53 #[.string ⟨s.toArray⟩] w fun e w'=>e=.returned (.bool (oR s))∧w=w':=by
 generalize hR:oR s=R
 have HR:=ab hR;clear hR;go_enter Tryz.func53,Tryz.ntmps53
 go_wp2
 go_loopw [3] (fun q wr=>NmRel s w q wr) (fun q _=>s.length-(intOf q).toNat)
 case atStart=>exact⟨0,by omega,rfl,rfl,ab gU,ab gN⟩
 case round =>
  obtain⟨i,hi,rfl,rfl,HA,HH⟩:=hrel;cases hd:s.drop i with
  | nil =>
   have h2:=ms hd;have hil:i=s.length:=gN;subst hil;have gl:decide (s.length<s.length)=false:=JT gN;cases s with
   | nil =>
    have HR2:Hid (R=false):=ab (by rw [←HR.out];rfl);clear hd HA HH HR;go_wp2
    go_ret
    exact⟨by rw [HR2.out];rfl,rfl⟩
   | cons c r =>
    have HR2:Hid (R=decide ((c::r).length≤64)):=ab (by rw [←HR.out];exact Fj (fun d hd=>HA.out d (by rw [List.take_length];exact hd)) (HH.out gU));clear hd HA HH HR;go_wp2
    go_ret
    refine⟨?_,rfl⟩;rw [HR2.out];exact lM (a:=decide ((r.length:Int)+1≤64)) (by rw [Bool.eq_iff_iff];simp only [Jj,Jr];omega)
  | cons c r =>
   obtain⟨h2,h3,hr⟩:=lG hd;have hmem:c∈s:=by rw [←h3 h2];exact List.getElem_mem h2
   have gl:decide (i<s.length)=true:=JR h2;have HTk:Hid (s.take (i+1)=s.take i++[c]):=ab (by rw [List.take_add_one,Jn h2,h3 h2];rfl);cases hn:ny c with
   | false =>
    have HR2:Hid (R=false):=ab (by rw [←HR.out];exact G3 hmem hn);have HN:Hid (∀w:World,Calls Tryz.prog 69 #[.int .u8 c.toNat] w fun e w'=>e=.returned (.bool false)∧w=w'):=ab jR;clear hd hmem hn HR HA HH hr;exact dL
   | true =>
    have HN:Hid (∀w:World,Calls Tryz.prog 69 #[.int .u8 c.toNat] w fun e w'=>e=.returned (.bool true)∧w=w'):=ab jR;have HA2:Hid (∀d∈s.take (i+1),ny d=true):=ab (by
     rw [HTk.out];intro d hd';rcases JX.1 hd' with hd'|hd'
     ·exact HA.out d hd'
     ·rw [JY] at hd';rw [hd'];exact hn)
    by_cases hi0:i=0
    ·subst hi0
     by_cases h57:c.toNat≤57
     ·have HR2:Hid (R=false):=ab (by rw [←HR.out];rw [JZ] at hd;rw [hd];exact Gr h57)
      clear hd hmem hn HR HA HH hr HTk HA2;exact dL
     ·have HH2:Hid (0<0+1→57<(s.headD 0).toNat):=ab (fun _=>by rw [JZ] at hd;rw [hd];simp;omega)
      clear hd hmem hn HA HH hr HTk;go_wp2_with (go_at_call 69;refine(HN.out _).mono ?_;rintro e w1 ⟨rfl,rfl⟩)
      go_roundw
      case rel=>exact⟨0+1,by omega,by go_num,rfl,HA2,HH2⟩
      case measure=>simp [intOf];omega
    ·have hz:((i:Int)==0)=false:=by rw [JP];omega
     have HH2:Hid (0<i+1→57<(s.headD 0).toNat):=ab (fun _=>HH.out gN);clear hd hmem hn HA HH hr HTk;go_wp2_with (go_at_call 69;refine(HN.out _).mono ?_;rintro e w1 ⟨rfl,rfl⟩)
     go_roundw
     case rel=>exact⟨i+1,by omega,by go_num,rfl,HA2,HH2⟩
     case measure=>simp [intOf];omega
theorem tw_at {α:Type} {p:α→Bool}:∀(l:List α) (m:Nat),(∀c∈l.take m,p c=true)→(∀c r,l.drop m=c::r→p c=false)→l.takeWhile p=l.take m∧l.dropWhile p=l.drop m
 | [],m,_,_=>by simp
 | c::l,0,_,h=>by have:=h c l rfl;simp [this]
 | c::l,m+1,h1,h2=>by
  have hc:p c=true:=h1 c gU;obtain⟨i1,i2⟩:=tw_at l m (fun d hd=>h1 d gW) (fun d r hd=>h2 d r it);rw [List.takeWhile_cons_of_pos hc,List.dropWhile_cons_of_pos hc,i1,i2];exact⟨rfl,rfl⟩
def Cl (r:Str):Option (Str × Str):=if oR (r.takeWhile ny)=true then some (r.takeWhile ny,r.dropWhile ny) else none
def NameS (x:List Value) (g:Nat) (s:Str) (i:Nat) (R:Option (Str × Str)) (w:World) (e:Ending) (w':World):Prop:=w.grownBy w' (some g) ∧
 match R with
 | none=>e=.returned (.tuple #[.string ⟨[].toArray⟩,.bool false])∧Pl x w' g s i
 | some (n,r)=>oR n=true∧e=.returned (.tuple #[.string ⟨n.toArray⟩,.bool true])∧∃j,Pl x w' g s j∧s.drop j=r∧i<j
def NaRel (s:Str) (i:Nat) (w:World) (q:Value) (wr:World):Prop :=
 ∃k:Nat,i≤k∧k≤s.length∧q=.int .i64 k∧wr=w∧Hid (∀c∈(s.drop i).take (k-i),ny c=true)
theorem name_s {x:List Value} {g:Nat} {s:Str} {i:Nat} (w:World) (h:Pl x w g s i) :
  Calls Tryz.prog 75 #[.pointer (some ⟨g,0,none⟩)] w fun e w'=>NameS x g s i (Cl (s.drop i)) w e w':=by
 obtain⟨R,hR⟩:∃R,R=Cl (s.drop i):=⟨_,rfl⟩;rw [←hR];have HR:=ab hR;have HPL:=ab h;have hi:=h.2.1;have hl:=h.2.2;have c0:=h.c0;have c1:=h.c1;clear h hR;go_enter Tryz.func75,Tryz.ntmps75
 go_wp2
 go_loopw [4] (fun q wr=>NaRel s i w q wr) (fun q _=>s.length-(intOf q).toNat)
 case atStart=>exact⟨i,by omega,by omega,rfl,rfl,ab gU⟩
 case round =>
  obtain⟨k,hik0,hk,rfl,rfl,HA⟩:=hrel;have d0:∀x':ExtOf wr,x'.val.cell? ⟨g,0,none⟩=some (.string ⟨s.toArray⟩):=ExtOf.cell c0;have d1:∀x':ExtOf wr,x'.val.cell? ⟨g,1,none⟩=some (.int .i64 i):=ExtOf.cell c1;have gk0:(0:Int)≤(i:Int):=gN;have gk1:(i:Int)≤(k:Int):=gN;have gk2:(k:Int)≤(s.length:Int):=gN;have gk3:((i:Int)).toNat=i:=gN;have gk4:((k:Int)).toNat=k:=gN;have gk5:(0:Int)≤(k:Int):=gN;have HTW:Hid ((∀c r,s.drop k=c::r→ny c=false)→R=if oR ((s.drop i).take (k-i))=true then some ((s.drop i).take (k-i),s.drop k) else none):=ab fun hc=>by
   obtain⟨a,b⟩:=tw_at (s.drop i) (k-i) HA.out (fun c r hcr=>hc c r (by rw [List.drop_drop] at hcr;rw [←hcr];congr 1;omega));rw [HR.out];unfold Cl;rw [a,b,List.drop_drop,show i+(k-i)=k by omega]
  cases hd:s.drop k with
  | nil =>
   have h2:=ms hd;have gl:decide ((k:Int)<(s.length:Int))=false:=JT gN;have HRE:Hid (R=if oR ((s.drop i).take (k-i))=true then some ((s.drop i).take (k-i),s.drop k) else none):=ab (HTW.out (fun c r e=>by rw [hd] at e;cases e));have HN:Hid True:=ab trivial;clear hd HTW HA HR;exact aO
  | cons c r =>
   obtain⟨h2,h3,hr⟩:=lG hd;have gl:decide ((k:Int)<(s.length:Int))=true:=JR gN;have gl1:(k:Int)<(s.length:Int):=gN;cases hn:ny c with
   | false =>
    have HN:Hid (∀w:World,Calls Tryz.prog 69 #[.int .u8 c.toNat] w fun e w'=>e=.returned (.bool false)∧w=w'):=ab jR;have HRE:Hid (R=if oR ((s.drop i).take (k-i))=true then some ((s.drop i).take (k-i),s.drop k) else none):=ab (HTW.out (fun c' r' e=>by rw [hd] at e;injection e with e _;rw [←e];exact hn));clear hd HTW HA HR hn hr;exact aO
   | true =>
    have HN:Hid (∀w:World,Calls Tryz.prog 69 #[.int .u8 c.toNat] w fun e w'=>e=.returned (.bool true)∧w=w'):=ab jR;have HA2:Hid (∀d∈(s.drop i).take (k+1-i),ny d=true):=ab (by
     have e1:(s.drop i).take (k+1-i)=(s.drop i).take (k-i)++[c]:=by
      rw [show k+1-i=(k-i)+1 by omega,List.take_add_one,List.getElem?_drop,show i+(k-i)=k by omega,Jn h2,h3 h2];rfl
     rw [e1];intro d hd';rcases JX.1 hd' with hd'|hd'
     ·exact HA.out d hd'
     ·rw [JY] at hd';rw [hd'];exact hn)
    clear hd HTW HA hn hr d0 d1;go_wp2_with (go_at_call 69;refine(HN.out _).mono ?_;rintro e w1 ⟨rfl,rfl⟩)
    go_roundw
    case rel=>exact⟨k+1,by omega,by omega,by go_num,rfl,HA2⟩
    case measure=>simp [intOf];omega
end Go.Proofs.YtdcnncgpomcaaaaGreatDoor
