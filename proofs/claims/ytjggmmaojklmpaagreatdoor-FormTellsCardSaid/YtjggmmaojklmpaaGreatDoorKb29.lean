/- Regular expressions as trees: the plain functions on them. -/
import Derived.Test.YtjggmmaojklmpaaGreatDoorKb0a
import Derived.Test.YtjggmmaojklmpaaGreatDoorKb17
import Derived.Test.YtjggmmaojklmpaaGreatDoorKb19
import Derived.Deep.AppendLies
set_option maxRecDepth 100000
set_option maxHeartbeats 4000000
namespace Go.Proofs.YtjggmmaojklmpaaGreatDoor
namespace Rx
theorem deep_parts:∀x:Rx,deep x≤parts x:=by
 have key:∀n,∀x:Rx,parts x≤n→deep x≤parts x:=by
  intro n;induction n with
  | zero=>intro x h;have:=parts_pos x;omega
  | succ n ih =>
   rintro⟨k,c,ng,rs,lo,hi,lz,ks⟩ h;have hl:∀l:List Rx,partsL l≤n→deepL l≤partsL l:=by
    intro l;induction l with
    | nil=>intro _;simp [deepL,partsL]
    | cons x r ihl =>
     intro hx;simp only [partsL] at hx;simp only [deepL,partsL];have:=ih x fR;have:=ihl fR;omega
   simp only [parts] at h;have:=hl ks fR
   simp only [deep,parts];split<;>omega
 exact fun x=>key _ x (Dv _)
end Rx
namespace Rx
end Rx
open Go.RowKit
theorem sv (ks:List Rx):Rx.deepL ks≤Rx.partsL ks:=by
 induction ks with
 | nil=>simp [Rx.deepL]
 | cons x r ih=>have:=Rx.deep_parts x;simp only [Rx.deepL,Rx.partsL];omega
def SumRel (ks:List Rx) (f:List Rx→Nat) (op:Nat→Nat→Nat) (R:Nat) (w:World) (t q:Value) (wr:World):Prop :=
 ∃(k d:Nat),k≤ks.length∧q=.int .i64 k∧t=.int .i64 d∧d≤100000000∧Below w.heap.size w wr∧Hid (op d (f (ks.drop k))=R)
open Go.RowKit
theorem qZ (c:UInt8) {b:Bool} (w:World) (h:jE c=b):Calls Tryz.prog 96 #[.int .u8 c.toNat] w fun e w'=>e=.returned (.bool (!b))∧w=w':=by
 subst h;have h256:=po c;go_enter Tryz.func96,Tryz.ntmps96
 go_wp2
 all_goals
  go_ret
  refine⟨jG ?_,rfl⟩;rw [Bool.eq_iff_iff];simp [jE]<;>omega
def mj:Str→Str→List Str
 | cur,[]=>[cur]
 | cur,c::r=>if jE c=true then mj (cur++[c]) r else cur::mj [c] r
def nV:Str→List Str
 | []=>[]
 | c::r=>mj [c] r
theorem tu:∀(r cur:Str),1≤(mj cur r).length
 | [],cur=>by simp [mj]
 | c::r,cur=>by simp only [mj];split<;>simp [tu]
theorem tO:∀(r cur:Str),((mj cur r).length=1)↔r.all jE=true
 | [],cur=>by simp [mj]
 | c::r,cur=>by
  have:=tu r [c]
  have ih:=tO r (cur++[c]);simp only [mj];cases h:jE c with
  | true=>rw [Dr rfl];simp [h,ih]
  | false=>rw [Du fX];simp [h];intro e;rw [e] at this;simp at this
theorem qk:∀(r cur:Str),(mj cur r).length≤r.length+1
 | [],cur=>by simp [mj]
 | c::r,cur=>by
  have h1:=qk r (cur++[c]);have h2:=qk r [c];simp only [mj];split<;>simp<;>omega
theorem vG (c:UInt8) (r:Str):kj (c::r)=(!jE c&&decide ((nV (c::r)).length=1)):=by
 rw [Bool.eq_iff_iff];simp only [kj,Dy,Dp,nV,tO]
theorem tR (l:Str):(nV l).length≤l.length:=by
 cases l with
 | nil=>simp [nV]
 | cons c r=>have:=qk r [c];simp only [nV,Dx];omega
theorem str_info:(Tryz.prog.info? 9).map (fun i=>(i.zero,i.size,i.bytes))=some (some (.string ⟨#[]⟩),1,16):=by kernel_rfl
def SpRelR (l:Str) (T:List Str) (w:World) (o f q:Value) (wr:World):Prop :=
 ∃(i fr:Nat) (out:List Str),q=.int .i64 i∧f=.int .i64 fr∧wr.ownsRow w.heap.size 9 1 o out.length (kS out)∧Below w.heap.size w wr∧1≤i ∧
  ((i≤l.length∧fr<i∧Hid (out++mj ((l.drop fr).take (i-fr)) (l.drop i)=T))∨(i=l.length+1∧Hid (out=T)))
def vL (l:Str) (w:World) (e:Ending) (w':World):Prop :=
 ∃(a:Option Addr) (c:Nat),e=.returned (.slice a (nV l).length c)∧w'.ownsRow w.heap.size 9 1 (.slice a (nV l).length c) (nV l).length (kS (nV l))∧Below w.heap.size w w'
theorem Ad (l:Str) (w:World) (hl:l.length≤1000000) :
  Calls Tryz.prog 97 #[.string ⟨l.toArray⟩] w fun e w'=>vL l w e w':=by
 obtain⟨T,hT⟩:∃T,nV l=T:=⟨_,rfl⟩;unfold vL;rw [hT];have hTN:T.length≤l.length:=by rw [←hT];exact tR l
 have HT:=ab hT;clear hT;have HI0:Hid ((1≤l.length∧0<1∧Hid (([]:List Str)++mj ((l.drop 0).take (1-0)) (l.drop 1)=T))∨(1=l.length+1∧Hid (([]:List Str)=T))):=ab (by
  cases l with
  | nil=>exact .inr ⟨rfl,ab (by rw [←HT.out];rfl)⟩
  | cons c r=>exact .inl ⟨by simp,by omega,ab (by rw [←HT.out];simp [nV])⟩)
 obtain⟨iu,hiu⟩:=info_parts str_info;go_enter Tryz.func97,Tryz.ntmps97
 go_wp2
 go_loopw [3,4,5] (fun o f q wr=>SpRelR l T w o f q wr) (fun _ _ q _=>l.length+1-(intOf q).toNat)
 case atStart=>exact⟨1,0,[],rfl,rfl,World.ownsRow_nil _ _ _ _,Below.refl _ _,by omega,HI0.out⟩
 case round =>
  obtain⟨i,fr,out,rfl,rfl,hown,hb,hi1,HF⟩:=hrel;clear HI0 HT;have hB:=hb.size;rcases HF with⟨hi,hfi,HF⟩|⟨hi,HF⟩
  ·have hol:out.length≤l.length:=by have h:=DQ List.length HF.out;simp only [DE] at h;omega
   by_cases hil:i=l.length
   ·subst hil
    have HE:Hid (out++[(l.drop fr).take (l.length-fr)]=T):=ab (by rw [←HF.out,List.drop_length];rfl);clear HF;go_wp2_with (at_builtin;refine kv w.heap.size 9 rfl _ _ 72 rfl Tryz.underlying72 hiu rfl fU rfl hown rfl gQ rfl gd fR fU hB ?_)
    intro v1 w1 ho1 hg1 hb1 hne1;go_wp2
    go_roundw
    case rel=>exact⟨l.length+1,l.length,_,by go_num,rfl,by rw [←HE.out];simpa [kS] using ho1,hb.trans (hb1.mono (Dv _)),by omega,.inr ⟨rfl,ab rfl⟩⟩
    case measure=>simp [intOf]<;>omega
   ·have hlt:i<l.length:=fR
    have hne:((i:Int)==l.length)=false:=by rw [DV];omega
    cases hd:l.drop i with
    | nil=>have:=kN hd;omega
    | cons c r =>
     obtain⟨_,h3,hr⟩:=kh hd;have HF2:Hid (out++mj ((l.drop fr).take (i-fr)) (c::r)=T):=ab iZ;have Hr:=ab hr;have HD:=ab hd;clear hd HF hr hil;cases hc:jE c with
     | true =>
      go_wp2_with (go_at_call 96;refine(qZ c _ hc).mono ?_;rintro e w1 ⟨rfl,rfl⟩)
      go_roundw
      case rel =>
       refine⟨i+1,fr,out,by go_num,rfl,hown,hb,by omega,.inl ⟨by omega,by omega,ab ?_⟩⟩;rw [Hr.out,←HF2.out];simp only [mj];rw [Dr hc];congr 2
       rw [show i+1-fr=i-fr+1 by omega,List.take_add_one];congr 1
       rw [List.getElem?_drop,show fr+(i-fr)=i by omega,Dt hlt,h3];rfl
      case measure=>simp [intOf]<;>omega
     | false =>
      go_wp2_with (first|(go_at_call 96;refine(qZ c _ hc).mono ?_;rintro e w1 ⟨rfl,rfl⟩)|(at_builtin;refine kv w.heap.size 9 rfl _ _ 72 rfl Tryz.underlying72 hiu rfl fU rfl hown rfl gQ rfl gd fR fU hB ?_))
      intro v1 w1 ho1 hg1 hb1 hne1;go_wp2
      go_roundw
      case rel =>
       refine⟨i+1,i,out++[(l.drop fr).take (i-fr)],by go_num,rfl,by simpa [kS] using ho1,hb.trans (hb1.mono (Dv _)),by omega,.inl ⟨by omega,by omega,ab ?_⟩⟩;rw [Hr.out,←HF2.out];simp only [mj];rw [Du (by rw [hc];simp),HD.out,show i+1-i=1 by omega];simp
      case measure=>simp [intOf]<;>omega
  ·obtain⟨oa,oc,rfl⟩:=jX hown
   have h2:l.length<i:=fR;have HE:=HF;have HOW:=ab hown;clear HF hi hown;go_wp2
   go_ret
   refine⟨oa,oc,?_,?_,hb⟩
   ·rw [←HE.out];rfl
   ·rw [←HE.out];exact HOW.out
theorem xB (l:Str) (w:World) (hl:l.length≤1000000) :
  Calls Tryz.prog 71 #[.string ⟨l.toArray⟩] w fun e w'=>e=.returned (.bool (kj l))∧Below w.heap.size w w':=by
 cases l with
 | nil =>
  go_enter Tryz.func71,Tryz.ntmps71
  go_wp2
  go_ret
  exact⟨rfl,Below.refl _ _⟩
 | cons c r =>
  obtain⟨n,hn⟩:∃n,(nV (c::r)).length=n:=⟨_,rfl⟩;have hP:=vG c r;rw [hn] at hP;rw [hP];have HN:=ab hn;have HL:=ab hl;have hnl:n≤1000001:=by have:=tR (c::r);simp only [Dx] at this hl;omega
  clear hP hn hl;cases hc:jE c with
  | true =>
   go_enter Tryz.func71,Tryz.ntmps71
   go_wp2_with (go_at_call 96;refine(qZ c _ hc).mono ?_;rintro e w1 ⟨rfl,rfl⟩)
   go_ret
   exact⟨rfl,Below.refl _ _⟩
  | false =>
   go_enter Tryz.func71,Tryz.ntmps71
   go_wp2_with (first|(go_at_call 96;refine(qZ c _ hc).mono ?_;rintro e w1 ⟨rfl,rfl⟩)|(go_at_call 97;refine(Ad (c::r) _ HL.out).mono ?_;rintro e w1 ⟨a,cp,rfl,_,hb1⟩;rw [HN.out]))
   go_ret
   refine⟨jG ?_,hb1⟩;rw [Bool.eq_iff_iff];simp;try omega
open Go.RowKit
theorem mc {l:Str} {b:Bool} (w:World) (h:kj l=b) (hl:l.length≤1000000) :
  Calls Tryz.prog 71 #[.string ⟨l.toArray⟩] w fun e w'=>e=.returned (.bool b)∧Below w.heap.size w w':=by
 subst h;exact xB l w hl
theorem wh (a:Option Addr) (n c:Nat) (rs:List (Str × Str)) (w:World) (h:Sl w w.heap.size a 2 n (jN rs)) (hn:n≤1000000) (hsz:∀r∈rs,r.1.length≤1000000∧r.2.length≤1000000) :
  Calls Tryz.prog 72 #[.slice a n c] w fun e w'=>e=.returned (.bool (ox rs))∧Below w.heap.size w w':=by
 obtain rfl:=h.row_len;generalize hR:ox rs=R
 have HR:=ab hR;clear hR;have HR0:Hid (mC none (rs.drop 0)=R):=HR;have HSl:=ab h;have HSz:=ab hsz;clear HR h hsz;go_enter Tryz.func72,Tryz.ntmps72
 go_wp2
 go_loopw [3] (fun q wr=>MayRel rs R w q wr) (fun q _=>rs.length-(intOf q).toNat)
 case atStart=>exact⟨0,none,by omega,rfl,Below.refl _ _,ab (.inl ⟨rfl,rfl⟩),HR0⟩
 case round =>
  obtain⟨k,p,hk,rfl,hb,HP,HF⟩:=hrel;clear HR0;have hB:=hb.size;cases hd:rs.drop k with
  | nil =>
   exact dl
  | cons r0 r =>
   obtain⟨h2,h3,hr⟩:=jO hd;have HF':Hid (mC p (r0::r)=R):=ab iZ;have Hr:=ab hr;obtain⟨b,o,rfl,hbB,c0,c1⟩:=(HSl.out.keep hb).row h3;obtain⟨z1,z2⟩:=HSz.out r0 (DL h3);have HE3:=ab h3;obtain⟨f,t⟩:=r0;replace z1:f.length≤1000000:=z1;replace z2:t.length≤1000000:=z2;clear hd HF hr h3;have e0:∀x:ExtOf (wr.alloc (.cells #[.string ⟨f.toArray⟩,.string ⟨t.toArray⟩] 62)),x.val.cell? ⟨wr.heap.size,0,none⟩=some (.string ⟨f.toArray⟩):=ExtOf.cell fX;have e1:∀x:ExtOf (wr.alloc (.cells #[.string ⟨f.toArray⟩,.string ⟨t.toArray⟩] 62)),x.val.cell? ⟨wr.heap.size,1,none⟩=some (.string ⟨t.toArray⟩):=ExtOf.cell fX;obtain⟨pf,hpf⟩:∃b,kj f=b:=⟨_,rfl⟩;obtain⟨pt,hpt⟩:∃b,kj t=b:=⟨_,rfl⟩;have HP1:=ab hpf;have HP2:=ab hpt;clear hpf hpt;cases pf with
   | false =>
    have HE:Hid (R=false):=ab (by rw [←HF'.out];simp only [mC];rw [show rowB (f,t)=false from by simp [rowB,HP1.out]];rfl);exact bq
   | true =>
    cases pt with
    | false =>
     have HE:Hid (R=false):=ab (by rw [←HF'.out];simp only [mC];rw [show rowB (f,t)=false from by simp [rowB,HP2.out]];rfl);exact bq
    | true =>
     cases hle:leS f t with
     | false =>
      have HE:Hid (R=false):=ab (by rw [←HF'.out];simp only [mC];rw [show rowB (f,t)=false from by simp [rowB,hle]];rfl);exact bq
     | true =>
      have HB:Hid (rowB (f,t)=true):=ab (by simp [rowB,HP1.out,HP2.out,hle]);rcases HP.out with⟨hk0,hp0⟩|⟨j,r',hkj,hj,hpj⟩
      ·have hk0':decide (0<k)=false:=by rw [DM];omega
       have HL:Hid (p=none):=ab hp0;clear hk0 hp0;go_wp2
       refine jF fW fW ?_;repeat (go_big_quiet_step (((go_at_call 71;first|exact kg (mc _ HP1.out fR)|exact kg (mc _ HP2.out fR)))))
       exact cm
      ·obtain⟨b',o',hab,_,d0,d1⟩:=(HSl.out.keep hb).row hj
       obtain⟨rfl,rfl⟩:b=b'∧o=o':=by simpa using hab
       obtain⟨f',t'⟩:=r';have HPJ:=ab hpj;subst hkj;clear hj hpj hab;have d2:∀x:ExtOf (wr.alloc (.cells #[.string ⟨f.toArray⟩,.string ⟨t.toArray⟩] 62)),x.val.cell? ⟨b,o+j*2+1,none⟩=some (.string ⟨t'.toArray⟩):=ExtOf.cell (by rw [World.cell?_alloc_lt _ _ _ fY];exact d1);go_wp2
       refine jF fW fW ?_;repeat (go_big_quiet_step (((go_at_call 71;first|exact kg (mc _ HP1.out fR)|exact kg (mc _ HP2.out fR)))))
       exact bx
open Go.RowKit
theorem CO (k:Int) (c:Str) (ng:Bool) (ra:Option Addr) (rn rc:Nat) (lo hi:Int) (lz:Bool) (ka:Option Addr) (kn kc:Nat) (w:World) :
  Calls Tryz.prog 70 #[.agg #[.int .i64 k,.string ⟨c.toArray⟩,.bool ng,.slice ra rn rc,.int .i64 lo,.int .i64 hi,.bool lz,.slice ka kn kc]] w fun e w'=>e=.returned (.bool (lJ c ng rn lo hi lz))∧Below w.heap.size w w':=by
 generalize hR:lJ c ng rn lo hi lz=R
 have HR:=ab hR;clear hR;have hbw:∀o:Obj,Below w.heap.size w (w.alloc o):=fun o=>(Below.refl _ _).alloc (Dv _) _
 have HBW:=ab hbw;clear hbw;cases c<;>cases ng<;>cases lz
 all_goals
  go_enter Tryz.func70,Tryz.ntmps70
  exact d9
theorem nH {k:Int} {c:Str} {ng:Bool} {ra:Option Addr} {rn rc:Nat} {lo hi:Int} {lz:Bool} {ka:Option Addr} {kn kc:Nat} {b:Bool} (w:World) (h:lJ c ng rn lo hi lz=b) :
  Calls Tryz.prog 70 #[.agg #[.int .i64 k,.string ⟨c.toArray⟩,.bool ng,.slice ra rn rc,.int .i64 lo,.int .i64 hi,.bool lz,.slice ka kn kc]] w fun e w'=>e=.returned (.bool b)∧Below w.heap.size w w'∧∀a u,w.cell? a=some u→w'.cell? a=some u:=by
 subst h;exact(CO k c ng ra rn rc lo hi lz ka kn kc w).mono fun _ _ ⟨h1,h2⟩=>⟨h1,h2,jH h2⟩
def vB (c:Str) (ng:Bool) (rn:Nat) (lo hi:Int) (ks:List Rx):Bool:=lJ c ng rn 0 0 false&&oneB ks&&decide (0≤lo∧lo≤255∧(hi=-1∨lo≤hi∧hi≤255))
theorem wW (S:Nat→Prop) (K:Int) (c:Str) (ng:Bool) (ra:Option Addr) (rn rc:Nat) (lo hi:Int) (lz:Bool) (ka:Option Addr) (ks:List Rx) (kc:Nat) (w:World)
  (hx:RxSl w S ka ks.length ks) (hkl:ks.length≤1000000) :
  Calls Tryz.prog 73 #[.agg #[.int .i64 K,.string ⟨c.toArray⟩,.bool ng,.slice ra rn rc,.int .i64 lo,.int .i64 hi,.bool lz,.slice ka ks.length kc]] w fun e w'=>e=.returned (.bool (vB c ng rn lo hi ks))∧Below w.heap.size w w':=by
 generalize hR:vB c ng rn lo hi ks=R
 have HR:=ab hR;clear hR;have hq:∀{o:Obj},Below w.heap.size w (w.alloc o):=(Below.refl _ _).alloc (Dv _) _;have HQ:=@ab _ @hq;clear hq;rcases ks with _|⟨x,_|⟨y,ks⟩⟩
 ·have HS:Hid (R=false):=ab (by rw [←HR.out];simp [vB,oneB])
  exact dj
 ·by_cases hb:0≤lo∧lo≤255∧(hi=-1∨lo≤hi∧hi≤255)
  ·obtain⟨xk,xc,xn,xr,xl,xh,xz,xs⟩:=x
   obtain⟨b,o,_,_,_,_,rfl,_,hbB,_,_,_,q0,_⟩:=hx.cells (m:=0) rfl;simp only [Nat.zero_mul,Nat.add_zero] at q0;obtain⟨bv,hbv⟩:∃bv,lJ c ng rn 0 0 false=bv:=⟨_,rfl⟩;have HB:=ab hbv;have HS:Hid (R=(bv&&repB xk)):=ab (by rw [←HR.out];unfold vB;rw [hbv,DN hb,Bool.and_true];rfl);clear hbv hx;obtain⟨g1,g2,g3⟩:=hb;rcases g3 with rfl|⟨g3,g4⟩
   all_goals
    cases bv
    all_goals
     go_enter Tryz.func73,Tryz.ntmps73
     go_wp2_with (go_at_call 70;refine(nH _ HB.out).mono ?_;rintro e w1 ⟨rfl,hb1,_⟩)
     all_goals first
      | (exfalso;omega)
      | (go_ret;refine⟨jG ?_,HQ.out.trans (hb1.mono fX)⟩;rw [HS.out];first|rfl|(clear HS HR;rw [Bool.eq_iff_iff];simp_all [repB]))
  ·have HS:Hid (R=false):=ab (by rw [←HR.out];unfold vB;rw [DU hb,Bool.and_false])
   have hb':lo<0∨(0≤lo∧255<lo)∨(0≤lo∧lo≤255∧hi≠-1∧hi<lo)∨(0≤lo∧lo≤255∧hi≠-1∧lo≤hi∧255<hi):=fR;clear hb hx;rcases hb' with g|⟨g1,g2⟩|⟨g1,g2,g3,g4⟩|⟨g1,g2,g3,g4,g5⟩
   ·exact dj
   ·exact dj
   ·exact cj
   ·exact cj
 ·have HS:Hid (R=false):=ab (by rw [←HR.out];simp [vB,oneB])
  have e9:((ks.length:Int)+1+1==1)=false:=by rw [DV];omega
  have e8:((ks.length:Int)+1+1 != 1)=true:=by rw [bne_iff_ne];omega
  go_enter Tryz.func73,Tryz.ntmps73
  go_wp2_with fail
  all_goals first
   | (exfalso;omega)
   | (go_ret;exact⟨jG HS.out.symm,HQ.out⟩)
   | go_ways
open Go.RowKit
theorem oM (S:Nat→Prop):∀(N:Nat) (x:Rx),x.parts≤N→x.parts≤1000000→∀(cc:List Value) (w:World),RxV w S cc x →
  Calls Tryz.prog 43 #[.agg cc.toArray] w fun e w'=>e=.returned (.int .i64 x.parts)∧Below w.heap.size w w'
 | 0,x,h,_,_,_,_=>by have:=Rx.parts_pos x;omega
 | N+1,.mk k c ng rs lo hi lz ks,h,hm,cc,w,hv=>by
  obtain⟨ra,rc,ka,kc,rfl,hrs,hx⟩:=hv.open_;simp only [Rx.parts] at h hm;have hlen:=Rx.len_parts ks;have hdl:=sv ks;have ih:=fun(y:Rx) (hy:y.parts≤Rx.partsL ks)=>oM S N y fR fR
  have IH:=ab ih;obtain⟨w0,hw0⟩:∃w0,w0=w.alloc (.cells #[.int .i64 k,.string ⟨c.toArray⟩,.bool ng,.slice ra rs.length rc,.int .i64 lo,.int .i64 hi,.bool lz,.slice ka ks.length kc] 25):=⟨_,rfl⟩;have hb0:Below w.heap.size w w0:=by rw [hw0];exact(Below.refl _ _).alloc (Dv _) _
  have HX:=ab (hx.later hb0);have Z0:Hid (w0.cell? ⟨w.heap.size,0,none⟩=some (.int .i64 k)):=ab iR;have Z7:Hid (w0.cell? ⟨w.heap.size,7,none⟩=some (.slice ka ks.length kc)):=ab iR;clear hx hv hrs ih;unfold rxc;obtain⟨R,hR⟩:∃R,(Rx.mk k c ng rs lo hi lz ks).parts=R:=⟨_,rfl⟩;have hR6:R≤1000000:=by rw [←hR];simp only [Rx.parts];omega
  have HR0:Hid (1+Rx.partsL (ks.drop 0)=R):=ab hR;rw [hR];clear hR;go_enter Tryz.func43,Tryz.ntmps43
  go_wp2
  rw [←hw0];clear hw0;go_loopw [3,4] (fun t q wr=>SumRel ks Rx.partsL (·+·) R w0 t q wr) (fun _ q _=>ks.length-(intOf q).toNat)
  case atStart=>exact⟨0,1,by omega,rfl,rfl,by omega,Below.refl _ _,HR0⟩
  case round =>
   obtain⟨i,d,hi,rfl,rfl,hd9,hb,HF⟩:=hrel;clear HR0;have hB:=hb.size;have z7:=jH hb _ _ Z7.out;cases hd:ks.drop i with
   | nil =>
    have h2:ks.length≤i:=gm;have HE:Hid (d=R):=ab (by rw [←HF.out,hd];simp [Rx.partsL]);clear hd HF;have hbb:=hb0.trans (hb.mono hb0.size);go_wp2
    go_ret
    exact⟨lC (by have:=HE.out;omega),hbb⟩
   | cons y r =>
    obtain⟨h2,h3,hr⟩:=jO hd;obtain⟨yk,yc,yn,yr,yl,yh,yz,ys⟩:=y;obtain⟨b,o,ya,yrc,yka,ykc,rfl,hS,hbB,_,_,hyv,c0,c1,c2,c3,c4,c5,c6,c7⟩:=(HX.out.later hb).cells h3;have hyp:=Rx.parts_mem (DL h3);have Hr:=ab hr;have HYV:=ab hyv;unfold rxc at HYV;have HE:Hid (d+(Rx.parts (.mk yk yc yn yr yl yh yz ys)+Rx.partsL r)=R):=ab gC;have hle:d+Rx.parts (.mk yk yc yn yr yl yh yz ys)≤1000000:=by have:=HE.out;omega
    clear hd HF hr h3 hyv;go_wp2_with (go_at_call 43;refine(IH.out _ hyp _ _ HYV.out).mono ?_;rintro e w1 ⟨rfl,hb1⟩)
    go_roundw
    case rel=>exact⟨i+1,d+Rx.parts (.mk yk yc yn yr yl yh yz ys),by omega,by go_num,by go_num,by omega,hb.trans (hb1.mono hB),ab (by rw [Hr.out];have h:=HE.out;show d+Rx.parts (.mk yk yc yn yr yl yh yz ys)+Rx.partsL r=R;omega)⟩
    case measure=>simp [intOf];omega
theorem rM (S:Nat→Prop):∀(N:Nat) (x:Rx),x.parts≤N→x.parts≤1000000→∀(cc:List Value) (w:World),RxV w S cc x →
  Calls Tryz.prog 44 #[.agg cc.toArray] w fun e w'=>e=.returned (.int .i64 x.deep)∧Below w.heap.size w w'
 | 0,x,h,_,_,_,_=>by have:=Rx.parts_pos x;omega
 | N+1,.mk k c ng rs lo hi lz ks,h,hm,cc,w,hv=>by
  obtain⟨ra,rc,ka,kc,rfl,hrs,hx⟩:=hv.open_;simp only [Rx.parts] at h hm;have hlen:=Rx.len_parts ks;have hdl:=sv ks;have ih:=fun(y:Rx) (hy:y.parts≤Rx.partsL ks)=>rM S N y fR fR
  have IH:=ab ih;obtain⟨w0,hw0⟩:∃w0,w0=w.alloc (.cells #[.int .i64 k,.string ⟨c.toArray⟩,.bool ng,.slice ra rs.length rc,.int .i64 lo,.int .i64 hi,.bool lz,.slice ka ks.length kc] 25):=⟨_,rfl⟩;have hb0:Below w.heap.size w w0:=by rw [hw0];exact(Below.refl _ _).alloc (Dv _) _
  have HX:=ab (hx.later hb0);have Z0:Hid (w0.cell? ⟨w.heap.size,0,none⟩=some (.int .i64 k)):=ab iR;have Z7:Hid (w0.cell? ⟨w.heap.size,7,none⟩=some (.slice ka ks.length kc)):=ab iR;clear hx hv hrs ih;unfold rxc;obtain⟨R,hR⟩:∃R,Rx.deepL ks=R:=⟨_,rfl⟩;have HR0:Hid (max 0 (Rx.deepL (ks.drop 0))=R):=ab (by simpa using hR);have HD:Hid ((Rx.mk k c ng rs lo hi lz ks).deep=R+if k=5∨k=6 then 1 else 0):=ab (by rw [←hR];rfl);have hR6:R≤1000000:=fR;rw [HD.out];clear hR hdl;go_enter Tryz.func44,Tryz.ntmps44
  go_wp2
  rw [←hw0];clear hw0;go_loopw [3,4] (fun t q wr=>SumRel ks Rx.deepL max R w0 t q wr) (fun _ q _=>ks.length-(intOf q).toNat)
  case atStart=>exact⟨0,0,by omega,rfl,rfl,by omega,Below.refl _ _,HR0⟩
  case round =>
   obtain⟨i,d,hi,rfl,rfl,hd9,hb,HF⟩:=hrel;clear HR0;have hB:=hb.size;have z7:=jH hb _ _ Z7.out;cases hd:ks.drop i with
   | nil =>
    have h2:ks.length≤i:=gm;have HE:Hid (d=R):=ab (by rw [←HF.out,hd];simp [Rx.deepL]);have z0:=jH hb _ _ Z0.out;clear hd HF;have hbb:=hb0.trans (hb.mono hb0.size);by_cases h5:k=5
    ·subst h5
     go_wp2
     go_ret
     exact⟨lC (by have:=HE.out;simp;omega),hbb⟩
    by_cases h6:k=6
    ·subst h6
     go_wp2
     go_ret
     exact⟨lC (by have:=HE.out;simp;omega),hbb⟩
    ·have e5:(k==5)=false:=by simpa using h5
     have e6:(k==6)=false:=by simpa using h6
     have H56:Hid (¬(k=5∨k=6)):=ab fR;clear h5 h6;go_wp2
     go_ret
     exact⟨lC (by have:=HE.out;omega),hbb⟩
   | cons y r =>
    obtain⟨h2,h3,hr⟩:=jO hd;obtain⟨yk,yc,yn,yr,yl,yh,yz,ys⟩:=y;obtain⟨b,o,ya,yrc,yka,ykc,rfl,hS,hbB,_,_,hyv,c0,c1,c2,c3,c4,c5,c6,c7⟩:=(HX.out.later hb).cells h3;have hyp:=Rx.parts_mem (DL h3);have Hr:=ab hr;have HYV:=ab hyv;unfold rxc at HYV;have HE:Hid (max d (max (Rx.deep (.mk yk yc yn yr yl yh yz ys)) (Rx.deepL r))=R):=ab gC;have hyd:=Rx.deep_parts (.mk yk yc yn yr yl yh yz ys);clear hd HF hr h3 hyv;go_wp2_with (go_at_call 44;refine(IH.out _ hyp _ _ HYV.out).mono ?_;rintro e w1 ⟨rfl,hb1⟩)
    go_roundw
    case rel=>exact⟨i+1,max d (Rx.deep (.mk yk yc yn yr yl yh yz ys)),by omega,by go_num,by first|(simp;omega)|(simp;split<;>omega),by omega,hb.trans (hb1.mono hB),ab (by rw [Hr.out,←HE.out];omega)⟩
    case measure=>simp [intOf];omega
open Go.RowKit
def WfRel (ks:List Rx) (F R:Bool) (w:World) (q:Value) (wr:World):Prop :=
 ∃k:Nat,k≤ks.length∧q=.int .i64 k∧Below w.heap.size w wr∧Hid ((Rx.wfL (ks.drop k)&&F)=R)
def AllRel (ks:List Rx) (p:Rx→Bool) (F R:Bool) (w:World) (q:Value) (wr:World):Prop :=
 ∃k:Nat,k≤ks.length∧q=.int .i64 k∧Below w.heap.size w wr∧Hid (((ks.drop k).all p&&F)=R)
def p01 (x:Rx):Bool:=decide (x.kind≠0∧x.kind≠1)
theorem zu (S:Nat→Prop):∀(N:Nat) (x:Rx),x.parts≤N→x.parts≤1000000→x.small→∀(cc:List Value) (w:World),RxV w S cc x →
  Calls Tryz.prog 45 #[.agg cc.toArray] w fun e w'=>e=.returned (.bool x.wf)∧Below w.heap.size w w'
 | 0,x,h,_,_,_,_,_=>by have:=Rx.parts_pos x;omega
 | N+1,.mk k c ng rs lo hi lz ks,h,hm,hsm,cc,w,hv=>by
  obtain⟨ra,rc,ka,kc,rfl,hrs,hx⟩:=hv.open_;obtain⟨⟨s1,s2,s3,s4⟩,hsmL⟩:=hsm;simp only [Rx.parts] at h hm;have hlen:=Rx.len_parts ks;have ih:=fun(y:Rx) (hy:y.parts≤Rx.partsL ks)=>zu S N y fR fR
  have IH:=ab ih;have HSM:=ab hsmL;have HS3:=ab s3;obtain⟨w0,hw0⟩:∃w0,w0=w.alloc (.cells #[.int .i64 k,.string ⟨c.toArray⟩,.bool ng,.slice ra rs.length rc,.int .i64 lo,.int .i64 hi,.bool lz,.slice ka ks.length kc] 25):=⟨_,rfl⟩;have hb0:Below w.heap.size w w0:=by rw [hw0];exact(Below.refl _ _).alloc (Dv _) _
  have hbx0:w0.heap[w.heap.size]?=some (.cells #[.int .i64 k,.string ⟨c.toArray⟩,.bool ng,.slice ra rs.length rc,.int .i64 lo,.int .i64 hi,.bool lz,.slice ka ks.length kc] 25 (0,0)):=by rw [hw0];exact heap_alloc_new w _
  have HX:=ab (hx.later hb0);have HRS:=ab hrs;have HBX:=ab hbx0;obtain⟨R,hR⟩:∃R,(Rx.mk k c ng rs lo hi lz ks).wf=R:=⟨_,rfl⟩;obtain⟨F,hF⟩:∃F,jT (Rx.mk k c ng rs lo hi lz ks)=F:=⟨_,rfl⟩;have HR0:Hid ((Rx.wfL (ks.drop 0)&&F)=R):=ab (by rw [←hR,←hF,Bool.and_comm];rfl);have HF0:=ab hF;rw [hR];clear hx hv hrs ih hsmL s3 hbx0 hR hF;unfold rxc;go_enter Tryz.func45,Tryz.ntmps45
  go_wp2
  rw [←hw0];clear hw0;go_loopw [4] (fun q wr=>WfRel ks F R w0 q wr) (fun q _=>ks.length-(intOf q).toNat)
  case atStart=>exact⟨0,by omega,rfl,Below.refl _ _,HR0⟩
  case round =>
   obtain⟨i,hik,rfl,hb,HL⟩:=hrel;clear HR0;have hB:=hb.size;have hbb:=hb0.trans (hb.mono hb0.size);have hBX1:=(hb.block _ (jA HBX.out)).trans HBX.out;have HBXr:=ab hBX1;cases hd:ks.drop i with
   | cons y r =>
    obtain⟨e0,e1,e2,e3,e4,e5,e6,e7,e8⟩:=jD (hBX1);have hsmy:=fun h3=>kV HSM.out (DL (a:=y) (i:=i) h3)
    have HSY:=ab hsmy;clear hsmy hBX1;obtain⟨h2,h3,hr⟩:=jO hd;obtain⟨yk,yc,yn,yr,yl,yh,yz,ys⟩:=y;obtain⟨b,o,ya,yrc,yka,ykc,rfl,hS,hbB,_,_,hyv,c0,c1,c2,c3,c4,c5,c6,c7⟩:=(HX.out.later hb).cells h3;have hyp:=Rx.parts_mem (DL h3);have Hr:=ab hr;have HYV:=ab hyv;unfold rxc at HYV;have HSY2:=ab (HSY.out h3);have HE:Hid (R=(Rx.wf (.mk yk yc yn yr yl yh yz ys)&&(Rx.wfL r&&F))):=ab (by rw [←HL.out,hd,←Bool.and_assoc];rfl);obtain⟨yb,hyb⟩:∃yb,Rx.wf (.mk yk yc yn yr yl yh yz ys)=yb:=⟨_,rfl⟩;have HYB:=ab hyb;rw [hyb] at HE;clear hd HL hr h3 hyv hyb HSY;cases yb with
    | false =>
     have HE3:Hid (R=false):=ab (by rw [HE.out];rfl);go_wp2_with (go_at_call 45;refine(IH.out _ hyp HSY2.out _ _ HYV.out).mono ?_;rintro e w1 ⟨rfl,hb1⟩;rw [HYB.out])
     go_ret
     exact⟨jG HE3.out.symm,hbb.trans (hb1.mono hbb.size)⟩
    | true =>
     have HE3:Hid ((Rx.wfL r&&F)=R):=ab (by rw [HE.out];rfl);go_wp2_with (go_at_call 45;refine(IH.out _ hyp HSY2.out _ _ HYV.out).mono ?_;rintro e w1 ⟨rfl,hb1⟩;rw [HYB.out])
     go_roundw
     case rel=>exact⟨i+1,by omega,by go_num,hb.trans (hb1.mono hB),ab ju⟩
     case measure=>simp [intOf];omega
   | nil =>
    have h2:ks.length≤i:=gm;have HFR:Hid (F=R):=ab (by rw [←HL.out,hd];rfl);obtain⟨e0,e1,e2,e3,e4,e5,e6,e7,e8⟩:=jD (hBX1);clear hd HL hBX1;by_cases hk0:k=0
    ·subst hk0
     obtain⟨bb,hbv⟩:∃bb,lJ c ng rs.length lo hi lz=bb:=⟨_,rfl⟩;have HB:=ab hbv;have HE:Hid (R=(bb&&decide (ks.length≠1)&&ks.all p01)):=ab (by rw [←HFR.out,←HF0.out,←hbv,←lp 0 c ng rs lo hi lz ks];rfl);clear hbv HFR HF0;obtain⟨F2,hF2⟩:∃b,(bb&&decide (ks.length≠1))=b:=⟨_,rfl⟩;have HF2:=ab hF2;have HK0:Hid (((ks.drop 0).all p01&&F2)=R):=ab iY;clear hF2 HE;have HXr:=ab (HX.out.later hb);obtain⟨wo,rfl⟩:∃wo:World,wo=wr:=⟨_,rfl⟩;go_wp2
     go_loopw [5] (fun q wk=>AllRel ks p01 F2 R wo q wk) (fun q _=>ks.length-(intOf q).toNat)
     case atStart=>exact⟨0,by omega,rfl,Below.refl _ _,HK0⟩
     case round =>
      obtain⟨j,hj,rfl,hbk,HG⟩:=hrel;clear HK0;have hBk:=hbk.size;have hBX2:=(hbk.block _ (jA HBXr.out)).trans HBXr.out;obtain⟨e0,e1,e2,e3,e4,e5,e6,e7,e8⟩:=jD (hBX2);have hbbk:=hbb.trans (hbk.mono hbb.size);clear hBX2;cases hd:ks.drop j with
      | nil =>
       exact bW
      | cons y r =>
       obtain⟨h2,h3,hr⟩:=jO hd;obtain⟨yk,yc,yn,yr,yl,yh,yz,ys⟩:=y;obtain⟨b,o,ya,yrc,yka,ykc,rfl,hS,hbB,_,_,hyv,c0,c1,c2,c3,c4,c5,c6,c7⟩:=(HXr.out.later hbk).cells h3;have Hr:=ab hr;have HG2:Hid (((Rx.mk yk yc yn yr yl yh yz ys::r).all p01&&F2)=R):=ab (by rw [←HG.out,hd]);clear hd HG hr h3 hyv c1 c2 c3 c4 c5 c6 c7;by_cases hy0:yk=0
       ·subst hy0
        exact dK
       by_cases hy1:yk=1
       ·subst hy1
        exact dK
       have n0:(yk==0)=false:=by rw [DV];exact hy0
       have n1:(yk==1)=false:=by rw [DV];exact hy1
       have HN:=ab (And.intro hy0 hy1);clear hy0 hy1;have HE3:Hid ((r.all p01&&F2)=R):=ab (by rw [←HG2.out];simp [p01,Rx.kind,HN.out.1,HN.out.2]);exact dA
    by_cases hk1:k=1
    ·subst hk1
     obtain⟨bb,hbv⟩:∃bb,lJ c ng rs.length lo hi lz=bb:=⟨_,rfl⟩;have HB:=ab hbv;have HE:Hid (R=(bb&&decide (1<ks.length)&&ks.all p1)):=ab (by rw [←HFR.out,←HF0.out,←hbv,←lp 1 c ng rs lo hi lz ks];rfl);clear hbv HFR HF0 hk0;obtain⟨F2,hF2⟩:∃b,(bb&&decide (1<ks.length))=b:=⟨_,rfl⟩;have HF2:=ab hF2;have HK0:Hid (((ks.drop 0).all p1&&F2)=R):=ab iY;clear hF2 HE;have HXr:=ab (HX.out.later hb);obtain⟨wo,rfl⟩:∃wo:World,wo=wr:=⟨_,rfl⟩;go_wp2
     go_loopw [6] (fun q wk=>AllRel ks p1 F2 R wo q wk) (fun q _=>ks.length-(intOf q).toNat)
     case atStart=>exact⟨0,by omega,rfl,Below.refl _ _,HK0⟩
     case round =>
      obtain⟨j,hj,rfl,hbk,HG⟩:=hrel;clear HK0;have hBk:=hbk.size;have hBX2:=(hbk.block _ (jA HBXr.out)).trans HBXr.out;obtain⟨e0,e1,e2,e3,e4,e5,e6,e7,e8⟩:=jD (hBX2);have hbbk:=hbb.trans (hbk.mono hbb.size);clear hBX2;cases hd:ks.drop j with
      | nil =>
       exact bW
      | cons y r =>
       obtain⟨h2,h3,hr⟩:=jO hd;obtain⟨yk,yc,yn,yr,yl,yh,yz,ys⟩:=y;obtain⟨b,o,ya,yrc,yka,ykc,rfl,hS,hbB,_,_,hyv,c0,c1,c2,c3,c4,c5,c6,c7⟩:=(HXr.out.later hbk).cells h3;have Hr:=ab hr;have HG2:Hid (((Rx.mk yk yc yn yr yl yh yz ys::r).all p1&&F2)=R):=ab (by rw [←HG.out,hd]);clear hd HG hr h3 hyv c1 c2 c3 c4 c5 c6 c7;by_cases hy1:yk=1
       ·subst hy1
        have HE3:Hid (R=false):=ab (by rw [←HG2.out];simp [p1,Rx.kind]);go_wp2
        go_ret
        exact⟨jG HE3.out.symm,hbbk⟩
       have n1:(yk==1)=false:=by rw [DV];exact hy1
       have HN:=ab hy1;clear hy1;have HE3:Hid ((r.all p1&&F2)=R):=ab (by rw [←HG2.out];simp [p1,Rx.kind,HN.out]);exact dA
    by_cases hk2:k=2
    ·subst hk2
     obtain⟨bb,hbv⟩:∃bb,lJ [] ng rs.length lo hi lz=bb:=⟨_,rfl⟩;obtain⟨pp,hpv⟩:∃pp,kj c=pp:=⟨_,rfl⟩;have HB:=ab hbv;have HP:=ab hpv;have HE:Hid (R=(bb&&decide (ks.length=0)&&pp)):=ab (by rw [←HFR.out,←HF0.out,←hbv,←hpv,←lp 2 [] ng rs lo hi lz ks];cases ks<;>simp [jT]);clear hbv hpv HFR HF0 hk0 hk1;by_cases hl:ks.length=0
     ·have l0:((ks.length:Int)==0)=true:=by rw [hl];rfl
      have HE2:Hid (R=(bb&&pp)):=ab (by rw [HE.out,hl];simp);clear hl HE;cases bb
      ·exact di
      ·go_wp2_with (first|(go_at_call 70;refine(nH _ HB.out).mono ?_;rintro e w1 ⟨rfl,hb1,_⟩)|(go_at_call 71;refine(mc _ HP.out fR).mono ?_;rintro e w2 ⟨rfl,hb2⟩))
       go_ret
       exact⟨jG HE2.out.symm,bel2 (bel2 (hbb.setCell fX _) hb1) hb2⟩
     ·have l0:((ks.length:Int)==0)=false:=by rw [DV];omega
      have HE2:Hid (R=false):=ab (by rw [HE.out,DU hl];simp);clear hl HE;cases bb
      all_goals
       exact di
    by_cases hk4:k=4
    ·subst hk4
     obtain⟨bb,hbv⟩:∃bb,lJ c false 0 lo hi lz=bb:=⟨_,rfl⟩;have HB:=ab hbv;have HE:Hid (R=(bb&&decide (ks.length=0)&&ox rs)):=ab (by rw [←HFR.out,←HF0.out,←hbv,show (0:Nat)=([]:List (Str × Str)).length from rfl,←lp 4 c false [] lo hi lz ks];cases ks<;>simp [jT]);clear hbv HFR HF0 hk0 hk1 hk2;by_cases hl:ks.length=0
     ·have l0:((ks.length:Int)==0)=true:=by rw [hl];rfl
      have HE2:Hid (R=(bb&&ox rs)):=ab (by rw [HE.out,hl];simp);clear hl HE;cases bb
      ·exact cV
      ·go_wp2_with (first|(((go_at_call 70;refine(nH _ HB.out).mono ?_;rintro e w1 ⟨rfl,hb1,_⟩));have hbq:=bel2 ((hbb.setCell fX _).setCell fX _) hb1;have HR1:=ab (HRS.out.keep (Kept.all hbq)).sl)|(go_at_call 72;refine(wh _ _ _ rs _ HR1.out fR HS3.out).mono ?_;rintro e w2 ⟨rfl,hb2⟩))
       go_ret
       exact⟨jG HE2.out.symm,bel2 hbq hb2⟩
     ·have l0:((ks.length:Int)==0)=false:=by rw [DV];omega
      have HE2:Hid (R=false):=ab (by rw [HE.out,DU hl];simp);clear hl HE;cases bb
      all_goals
       exact cV
    by_cases hk7:k=7
    ·subst hk7
     have HE:Hid (R=vB c ng rs.length lo hi ks):=ab (by rw [←HFR.out,←HF0.out];unfold vB;rw [←lp 7 c ng rs 0 0 false ks];rfl);have HXr:=ab (HX.out.later hb);clear HFR HF0 hk0 hk1 hk2 hk4;go_wp2_with (go_at_call 73;refine(wW S _ _ _ _ _ _ _ _ _ _ _ _ _ HXr.out s4).mono ?_;rintro e w1 ⟨rfl,hb1⟩)
     go_ret
     exact⟨jG HE.out.symm,bel2 hbb hb1⟩
    by_cases hk5:k=5∨k=6
    ·obtain⟨bb,hbv⟩:∃bb,lJ c ng rs.length lo hi lz=bb:=⟨_,rfl⟩
     have HB:=ab hbv;have HE:Hid (R=(bb&&decide (ks.length=1))):=ab (by rw [←HFR.out,←HF0.out,←hbv,←lp k c ng rs lo hi lz ks];rcases hk5 with rfl|rfl<;>rfl);clear hbv HFR HF0 hk0 hk1 hk2 hk4 hk7;rcases hk5 with rfl|rfl
     all_goals
      exact cC
    by_cases hk3:k=3∨k=8∨k=9∨k=10∨k=11
    ·obtain⟨bb,hbv⟩:∃bb,lJ c ng rs.length lo hi lz=bb:=⟨_,rfl⟩
     have HB:=ab hbv;have HE:Hid (R=(bb&&decide (ks.length=0))):=ab (by rw [←HFR.out,←HF0.out,←hbv,←lp k c ng rs lo hi lz ks];rcases hk3 with rfl|rfl|rfl|rfl|rfl<;>cases ks<;>simp [jT]);clear hbv HFR HF0 hk0 hk1 hk2 hk4 hk7 hk5;rcases hk3 with rfl|rfl|rfl|rfl|rfl
     all_goals
      exact cC
    ·have HE:Hid (R=false):=ab (by
      rw [←HFR.out,←HF0.out];simp only [jT];rw [Du hk2,Du hk4,Du hk7,Du hk0,Du hk1,Du hk5,Du hk3])
     have g0:(k==0)=false:=by simpa using hk0
     have g1:(k==1)=false:=by simpa using hk1
     have g2:(k==2)=false:=by simpa using hk2
     have g3:(k==3)=false:=by rw [DV];omega
     have g4:(k==4)=false:=by simpa using hk4
     have g5:(k==5)=false:=by rw [DV];omega
     have g6:(k==6)=false:=by rw [DV];omega
     have g7:(k==7)=false:=by simpa using hk7
     have g8:(k==8)=false:=by rw [DV];omega
     have g9:(k==9)=false:=by rw [DV];omega
     have g10:(k==10)=false:=by rw [DV];omega
     have g11:(k==11)=false:=by rw [DV];omega
     clear hk0 hk1 hk2 hk3 hk4 hk5 hk7;go_wp2
     go_ret
     exact⟨jG HE.out.symm,hbb⟩
open Go.RowKit
theorem ru (n:Int) (w:World) :
  Calls Tryz.prog 40 #[.int .i64 n] w fun e w'=>e=.returned (.string ⟨(lv n).toArray⟩)∧w=w':=by
 by_cases h:1≤n∧n≤5
 ·obtain⟨h1,h2⟩:=h
  have hn:n=1∨n=2∨n=3∨n=4∨n=5:=fR;rcases hn with rfl|rfl|rfl|rfl|rfl
  all_goals
   go_enter Tryz.func40,Tryz.ntmps40
   exact cM
 ·have hz:lv n=[]:=by
   exact dX
  have e1:(n==1)=false:=by rw [DV];omega
  have e2:(n==2)=false:=by rw [DV];omega
  have e3:(n==3)=false:=by rw [DV];omega
  have e4:(n==4)=false:=by rw [DV];omega
  have e5:(n==5)=false:=by rw [DV];omega
  rw [hz];go_enter Tryz.func40,Tryz.ntmps40
  exact cM
open Go.RowKit
def MyRel (fs:List Fm) (R:Bool) (w:World) (q:Value) (wr:World):Prop :=
 ∃(k:Nat) (pt:Bool),k≤fs.length∧q=.int .i64 k∧Below w.heap.size w wr∧Hid ((k=0→pt=false)∧(0<k→∀g,fs[k-1]?=some g→decide (g.kind=0)=pt))∧Hid (mayL pt (fs.drop k)=R)
set_option maxRecDepth 100000 in
theorem zF (a:Option Addr) (n c:Nat) (fs:List Fm) (w:World) (h:Sl w w.heap.size a 5 n (kT fs)) (hn:n≤1000000) :
  Calls Tryz.prog 23 #[.slice a n c] w fun e w'=>e=.returned (.bool (oW fs))∧Below w.heap.size w w':=by
 generalize hR:oW fs=R
 have HR:=ab hR;clear hR;have HR0:Hid (mayL false (fs.drop 0)=R):=HR;obtain rfl:=h.fs_len;have HSl:=ab h;clear HR h;go_enter Tryz.func23,Tryz.ntmps23
 go_wp2
 go_loopw [3] (fun q wr=>MyRel fs R w q wr) (fun q _=>fs.length-(intOf q).toNat)
 case atStart=>exact ey
 case round =>
  obtain⟨k,pt,hk,rfl,hb,HP,HF⟩:=hrel;clear HR0;have hB:=hb.size;cases hd:fs.drop k with
  | nil =>
   have h2:fs.length≤k:=gm;have HF':Hid (R=true):=ab gC;clear hd HF;go_wp2
   go_ret
   exact⟨jG HF'.out.symm,hb⟩
  | cons f r =>
   obtain⟨h2,h3,hr⟩:=jO hd;have HF':Hid (mayL pt (f::r)=R):=ab gR;have Hr:=ab hr;have HK:=ab h3;obtain⟨b,o,rfl,hbB,c0,c1,c2,c3,c4⟩:=(HSl.out.keep hb).fm h3;clear hd HF hr h3;obtain⟨kind,fn,cse,thn,els⟩:=f;have HQ:Hid (R=(mayF ⟨kind,fn,cse,thn,els⟩&&!(decide (kind=0)&&pt)&&mayL (decide (kind=0)) r)):=ab HF'.out.symm;by_cases hk0:kind=0
   ·subst hk0
    clear HF';by_cases hkk:k=0
    ·have hpt:=HP.out.1 hkk
     have hkk':((k:Int)==0)=true:=by rw [Do];omega
     subst hpt;have HKK:=ab hkk;clear hkk;exact bB
    ·obtain⟨g,hg⟩:∃g,fs[k-1]?=some g:=⟨fs[k-1]' fR,Dt fR⟩
     have hpg:=HP.out.2 fR g hg;obtain⟨b',o',hab,_,g0,_⟩:=(HSl.out.keep hb).fm hg;have hbo:b'=b∧o'=o:=by simpa using hab.symm
     obtain⟨rfl,rfl⟩:=hbo;have ek:((k-1:Nat):Int)=(k:Int)-1:=fR;have e1:(k:Int)-1<fs.length∧0≤(k:Int)-1:=fR;have hkk':((k:Int)==0)=false:=by rw [DV];omega
     have hkp:0<k:=fR;obtain⟨gk,gn,gc,gt,ge⟩:=g;have HPG:Hid (pt=decide (gk=0)):=ab hpg.symm;have g1:∀ob:Obj,(wr.alloc ob).cell? ⟨b',o'+(k-1)*5,none⟩=some (.int .i64 gk):=fun ob=>by
      rw [World.cell?_alloc_lt _ _ _ fY];exact g0
     clear hab hpg hkk hg;by_cases hgk:gk=0
     ·have HQ2:Hid (R=false):=ab (by rw [HQ.out,HPG.out];simp [hgk])
      subst hgk;clear HQ;go_wp2
      all_goals (go_ret;exact⟨jG HQ2.out.symm,hb.alloc hB _⟩)
     ·have hpf:pt=false:=by rw [HPG.out];simp [hgk]
      have eg:(gk==0)=false:=by rw [DV];exact hgk
      subst hpf;clear hgk HPG;exact bB
   by_cases hk1:kind=1
   ·subst hk1
    exact aL
   by_cases hk2:kind=2
   ·subst hk2
    clear HF';obtain⟨nm,hnm⟩:∃nm,lv cse=nm:=⟨_,rfl⟩;have HNM:=ab hnm;have HQ2:Hid (R=(decide (0≤fn∧fn≤9999)&&decide (nm≠[])&&decide (thn=[])&&decide (els=[])&&mayL false r)):=ab (by
     rw [HQ.out];simp only [mayF,kJ];rw [Du fU,Du fU,Dr trivial,hnm,Bool.eq_iff_iff];simp;intro _;constructor<;>(intro h;simp_all))
    clear hnm HQ;have HQ:=HQ2;cases nm with
    | nil =>
     go_wp2_with (go_at_call 40;refine(ru _ _).mono ?_;rintro e w1 ⟨rfl,rfl⟩;rw [HNM.out])
     all_goals
      (go_ret;refine⟨jG ?_,hb.alloc hB _⟩;rw [HQ.out];clear HQ HK HSl Hr HP c0 c1 c2 c3 c4;(try unfold mayF kJ);simp;first|done|omega|(simp_all;done)|(simp_all;omega))
    | cons n0 nr =>
     go_wp2_with (go_at_call 40;refine(ru _ _).mono ?_;rintro e w1 ⟨rfl,rfl⟩;rw [HNM.out])
     all_goals first
      | (go_ret;refine⟨jG ?_,hb.alloc hB _⟩;rw [HQ.out];clear HQ HK HSl Hr HP c0 c1 c2 c3 c4;(try unfold mayF kJ);simp;first|done|omega|(simp_all;done)|(simp_all;omega))
      | (go_roundw;(case rel=>exact⟨k+1,false,by omega,by go_num,hb.alloc hB _,ab ⟨fun h=>by omega,fun _ g hg=>by rw [show k+1-1=k from rfl,HK.out] at hg;injection hg with hg;subst hg;rfl⟩,ab gu⟩);(case measure=>simp [intOf];omega))
   by_cases hk3:kind=3
   ·subst hk3
    exact aL
   by_cases hk4:kind=4
   ·subst hk4
    exact aL
   by_cases hk5:kind=5
   ·subst hk5
    exact aL
   ·have HE:Hid (R=false):=ab (by
     rw [HQ.out];simp only [mayF];rw [Du hk0,Du hk1,Du hk2,Du hk3,Du hk4,Du hk5];simp)
    have g0:(kind==0)=false:=by simpa using hk0
    have g1:(kind==1)=false:=by simpa using hk1
    have g2:(kind==2)=false:=by simpa using hk2
    have g3:(kind==3)=false:=by simpa using hk3
    have g4:(kind==4)=false:=by simpa using hk4
    have g5:(kind==5)=false:=by simpa using hk5
    clear hk0 hk1 hk2 hk3 hk4 hk5 HQ HF';go_wp2
    all_goals (go_ret;exact⟨jG HE.out.symm,hb.alloc hB _⟩)
open Go.RowKit
theorem tA (W:World) (n:Nat) (z:Int) (hz:z=n):(convert 48 9 (.slice (some ⟨W.heap.size,0,none⟩) 1 1)).run Tryz.prog (W.alloc (.cells #[.int .u8 (48+z % 10)] 5))=.ok (.string ⟨([UInt8.ofNat (48+n % 10)]).toArray⟩) (W.alloc (.cells #[.int .u8 (48+z % 10)] 5)):=by
 subst hz;refine oH (B:=W.heap.size) (n:=1) Tryz.underlying48 Tryz.underlying5 Tryz.underlying9 ?_;refine⟨rfl,.inr ⟨W.heap.size,1,_,rfl,Dv _,heap_alloc_new W _,by decide,by decide,rfl,?_⟩⟩;simp [kx]
 omega
def DgRel (R:Str) (W0:World) (q p:Value) (wr:World):Prop:=∃(m:Nat) (s:Str),m≤10000∧s.length+m≤20000∧q=.int .i64 m∧p=.string ⟨s.toArray⟩∧Below W0.heap.size W0 wr∧Hid ((if m<10 then [] else Lib.decDigits (m / 10))++s=R)
theorem sK (m:Nat):(if m<10 then [] else Lib.decDigits (m / 10))++[UInt8.ofNat (48+m % 10)]=Lib.decDigits m:=by
 rw [Lib.decDigits.eq_1 m];by_cases h:m<10
 ·rw [Dr h,dif_pos h,Nat.mod_eq_of_lt h];rfl
 ·rw [Du h,dif_neg h]
theorem sZ (n:Nat) (w:World) (hn:n≤10000) :
  Calls Tryz.prog 38 #[.int .i64 n] w fun e w'=>e=.returned (.string ⟨(Lib.decDigits n).toArray⟩)∧Below w.heap.size w w':=by
 generalize hR:Lib.decDigits n=R
 have HR:=ab hR;clear hR;have hc:=tA w n n rfl;go_enter Tryz.func38,Tryz.ntmps38
 go_wp2
 go_loopw [0,3] (fun q p wr=>DgRel R w q p wr) (fun q _ _=>(intOf q).toNat)
 case atStart=>exact⟨n,[UInt8.ofNat (48+n % 10)],by omega,by simp;omega,rfl,by simp,(Below.refl _ _).alloc (Dv _) _,ab (by rw [←HR.out];exact sK n)⟩
 case round =>
  obtain⟨m,s,hm,hs,rfl,rfl,hb,HF⟩:=hrel;have hc2:=tA wr (m / 10) ((m:Int) / 10) fR;have hB:=hb.size;by_cases h9:m<10
  ·have HE:Hid (R=s):=ab (by rw [←HF.out,Dr h9];rfl)
   have g9:decide ((10:Int)≤m)=false:=by rw [DM];omega
   go_wp2
   go_ret
   exact⟨kQ HE.out.symm,hb⟩
  ·have HE:Hid (Lib.decDigits (m / 10)++s=R):=ab (by rw [←HF.out,Du h9])
   go_wp2
   go_roundw
   case rel=>exact⟨m / 10,UInt8.ofNat (48+m / 10 % 10)::s,by omega,by simp;omega,by go_num,by simp,hb.alloc hB _,ab (by rw [←HE.out,←sK (m / 10)];simp)⟩
   case measure=>simp [intOf];omega
open Go.RowKit
def SgRel (th:Str) (a:UInt8) (q:Value):Prop:=∃k:Nat,k≤th.length∧q=.int .i64 k∧Hid ((th.drop k).contains a=th.contains a)
theorem sign_any (th c:Str) (w:World) (hc:c≠[]) (hs:c.length≤10000000) (ht:th.length≤1000) :
  Calls Tryz.prog 64 #[.string ⟨c.toArray⟩,.string ⟨th.toArray⟩] w fun e w'=>e=.returned (.string ⟨(escL th c).toArray⟩)∧∃n,w'=w.drewN n:=by
 generalize hR:escL th c=R
 have HR:=ab hR;clear hR;by_cases h1:c=[10]
 ·subst h1
  exact bX
 by_cases h2:c=[13]
 ·subst h2
  exact bX
 by_cases h3:c=[9]
 ·subst h3
  exact bX
 by_cases h4:c=[12]
 ·subst h4
  exact bX
 by_cases h5:c=[11]
 ·subst h5
  exact bX
 cases c with
 | nil=>exact absurd rfl hc
 | cons a r =>
  clear hc;have HE:Hid (R=if th.contains a=true then 92::a::r else a::r):=ab (by
   rw [←HR.out];unfold escL;rw [Du h1,Du h2,Du h3,Du h4,Du h5];rfl)
  have HM0:Hid ((th.drop 0).contains a=th.contains a):=ab rfl;clear HR;rcases r with _|⟨b,r⟩
  ·have n1:(a==10)=false:=by simpa using h1
   have n2:(a==13)=false:=by simpa using h2
   have n3:(a==9)=false:=by simpa using h3
   have n4:(a==12)=false:=by simpa using h4
   have n5:(a==11)=false:=by simpa using h5
   clear h1 h2 h3 h4 h5 hs;exact aW
  ·clear h1 h2 h3 h4 h5
   simp only [Dx] at hs;exact aW
end Go.Proofs.YtjggmmaojklmpaaGreatDoor
