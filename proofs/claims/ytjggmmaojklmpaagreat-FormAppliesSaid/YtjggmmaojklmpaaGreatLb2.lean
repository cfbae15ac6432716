/- The order of rows; walks of cmp.Compare, cmp.Or, the comparison of rows. -/
import Derived.Test.YtjggmmaojklmpaaGreatLb1
import Derived.StillTailTactics
import Derived.Lib.LazyBuf
set_option maxRecDepth 100000
set_option maxHeartbeats 4000000
namespace Go.Proofs.YtjggmmaojklmpaaGreat
open Go.RowKit
theorem kV:∀a:Str,Op.bytesLess a a=false
 | []=>rfl
 | c::r=>by simp [Op.bytesLess,kV r]
theorem oM:∀{a b c:Str},Op.bytesLess a b=true→Op.bytesLess b c=true→Op.bytesLess a c=true
 | _,[],_,h,_=>by simp [Op.bytesLess] at h
 | _,_::_,[],_,h=>by simp [Op.bytesLess] at h
 | [],_::_,_::_,_,_=>rfl
 | x::a,y::b,z::c,h1,h2=>by
  simp only [Op.bytesLess,CG,Cs,Cj,Ci] at h1 h2 ⊢;rcases h1 with h1|⟨rfl,h1⟩<;>rcases h2 with h2|⟨rfl,h2⟩
  ·exact .inl (UInt8.lt_trans h1 h2)
  ·exact .inl h1
  ·exact .inl h2
  ·exact .inr ⟨rfl,oM h1 h2⟩
theorem nv:∀a b:Str,Op.bytesLess a b=true∨a=b∨Op.bytesLess b a=true
 | [],[]=>.inr (.inl rfl)
 | [],_::_=>.inl rfl
 | _::_,[]=>.inr (.inr rfl)
 | x::a,y::b=>by
  simp only [Op.bytesLess,CG,Cs,Cj,Ci];rcases Nat.lt_trichotomy x.toNat y.toNat with h|h|h
  ·exact .inl (.inl (UInt8.lt_iff_toNat_lt.2 h))
  ·obtain rfl:=Ck.1 h
   rcases nv a b with h|rfl|h
   ·exact .inl (.inr ⟨rfl,h⟩)
   ·exact .inr (.inl rfl)
   ·exact .inr (.inr (.inr ⟨rfl,h⟩))
  ·exact .inr (.inr (.inl (UInt8.lt_iff_toNat_lt.2 h)))
theorem oS {a b:Str} (h:Op.bytesLess a b=true):Op.bytesLess b a=false:=by
 cases h2:Op.bytesLess b a with
 | false=>rfl
 | true=>have:=oM h h2;rw [kV] at this;cases this
def cmpS (a b:Str):Int:=if Op.bytesLess a b=true then -1 else if a=b then 0 else 1
def cmpR (a b:Str × Str):Int:=if cmpS a.1 b.1=0 then cmpS a.2 b.2 else cmpS a.1 b.1
theorem qv (a b:Str):(cmpS a b=-1∧Op.bytesLess a b=true)∨(cmpS a b=0∧a=b)∨(cmpS a b=1∧Op.bytesLess b a=true):=by
 unfold cmpS;rcases nv a b with h|rfl|h
 ·rw [Cl h];exact .inl ⟨rfl,h⟩
 ·rw [Co (by rw [kV];simp),Cl rfl];exact .inr (.inl ⟨rfl,rfl⟩)
 ·have h2:=oS h
  rw [Co (by rw [h2];simp),Co (by rintro rfl;rw [kV] at h;cases h)];exact .inr (.inr ⟨rfl,h⟩)
theorem zZ (a:Str) (w:World):Calls Tryz.prog 195 #[.string ⟨a.toArray⟩] w fun e w'=>e=.returned (.bool false)∧w=w':=by
 go_enter Tryz.func195,Tryz.ntmps195
 go_wp2
 go_ret
 exact⟨jU gF,rfl⟩
theorem rq (a b:Str) (w:World):Calls Tryz.prog 188 #[.string ⟨a.toArray⟩,.string ⟨b.toArray⟩] w fun e w'=>e=.returned (.int .i64 (cmpS a b))∧w=w':=by
 have hc:=ab (qv a b);generalize hR:cmpS a b=R
 have HR:=ab hR;clear hR;rcases nv a b with h|rfl|h
 ·have HE:Hid (R=-1):=ab (by rw [←HR.out];unfold cmpS;rw [Cl h])
  exact ck
 ·have HE:Hid (R=0):=ab (by rw [←HR.out];unfold cmpS;rw [Co (by rw [kV];simp),Cl rfl])
  have h1:=kV a;have h2:leS a a=true:=by simp [leS]
  exact ck
 ·have h2:=oS h
  have hne:a≠b:=by rintro rfl;rw [kV] at h;cases h
  have HE:Hid (R=1):=ab (by rw [←HR.out];unfold cmpS;rw [Co (by rw [h2];simp),Co hne]);have h3:leS a b=false:=by simp [leS,h2,hne]
  have h4:(a==b)=false:=by simpa using hne
  exact ck
def OrRel (a b:Int) (w:World) (q:Value) (wr:World):Prop:=wr=w∧(q=.int .i64 0∨(q=.int .i64 1∧a=0)∨(q=.int .i64 2∧a=0∧b=0))
theorem Or_any (a b:Int) (g c:Nat) (w:World) (h0:w.cell? ⟨g,0,none⟩=some (.int .i64 a)) (h1:w.cell? ⟨g,1,none⟩=some (.int .i64 b)) :
  Calls Tryz.prog 187 #[.slice (some ⟨g,0,none⟩) 2 c] w fun e w'=>e=.returned (.int .i64 (if a=0 then b else a))∧w=w':=by
 go_enter Tryz.func187,Tryz.ntmps187
 by_cases ha:a=0
 ·subst ha
  by_cases hb:b=0
  ·subst hb
   go_wp2
   go_loopw [8] (fun q wr=>OrRel 0 0 w q wr) (fun q _=>2-(intOf q).toNat)
   case atStart=>exact⟨rfl,.inl rfl⟩
   case round =>
    obtain⟨rfl,rfl|⟨rfl,_⟩|⟨rfl,_⟩⟩:=hrel
    ·exact em
    ·go_wp2
     go_roundw
     case rel=>exact⟨rfl,.inr (.inr ⟨rfl,rfl,rfl⟩)⟩
     case measure=>simp [intOf]
    ·exact cw
  ·have hbb:(b==0)=false:=by simpa using hb
   have hbb':(b != 0)=true:=by simpa using hb
   have HB:=ab hb;clear hb;go_wp2
   go_loopw [8] (fun q wr=>OrRel 0 b w q wr) (fun q _=>2-(intOf q).toNat)
   case atStart=>exact⟨rfl,.inl rfl⟩
   case round =>
    obtain⟨rfl,rfl|⟨rfl,_⟩|⟨rfl,_,hx⟩⟩:=hrel
    ·exact em
    ·go_wp2
     go_ret
     exact⟨lD gF,rfl⟩
    ·exact absurd hx HB.out
 ·have haa:(a==0)=false:=by simpa using ha
  have haa':(a != 0)=true:=by simpa using ha
  have HA:=ab ha;clear ha;go_wp2
  go_loopw [8] (fun q wr=>OrRel a b w q wr) (fun q _=>2-(intOf q).toNat)
  case atStart=>exact⟨rfl,.inl rfl⟩
  case round =>
   obtain⟨rfl,rfl|⟨rfl,hx⟩|⟨rfl,hx,_⟩⟩:=hrel
   ·go_wp2
    go_ret
    exact⟨lD (by first|rfl|rw [Co HA.out]),rfl⟩
   ·exact absurd hx HA.out
   ·exact absurd hx HA.out
theorem qY (a b:Str × Str) (w:World) :
  Calls Tryz.prog 186 #[.agg #[.string ⟨(a.1).toArray⟩,.string ⟨(a.2).toArray⟩],.agg #[.string ⟨(b.1).toArray⟩,.string ⟨(b.2).toArray⟩]] w fun e w'=>e=.returned (.int .i64 (cmpR a b))∧Below w.heap.size w w':=by
 obtain⟨a1,a2⟩:=a;obtain⟨b1,b2⟩:=b;generalize hR:cmpR (a1,a2) (b1,b2)=R
 have HR:=ab hR;clear hR;obtain⟨W,hW⟩:∃W,W=(w.alloc (.cells #[.string ⟨a1.toArray⟩,.string ⟨a2.toArray⟩] 72)).alloc (.cells #[.string ⟨b1.toArray⟩,.string ⟨b2.toArray⟩] 72):=⟨_,rfl⟩;have hb0:Below w.heap.size w W:=by rw [hW];exact((Below.refl _ _).alloc (Cp _) _).alloc gF _
 have d0:W.cell? ⟨w.heap.size,0,none⟩=some (.string ⟨a1.toArray⟩):=by rw [hW];simp
 have d1:W.cell? ⟨w.heap.size,1,none⟩=some (.string ⟨a2.toArray⟩):=by rw [hW];simp
 have d2:W.cell? ⟨w.heap.size+1,0,none⟩=some (.string ⟨b1.toArray⟩):=by rw [hW];simp
 have d3:W.cell? ⟨w.heap.size+1,1,none⟩=some (.string ⟨b2.toArray⟩):=by rw [hW];simp
 have HC1:Hid (∀w,Calls Tryz.prog 188 #[.string ⟨a1.toArray⟩,.string ⟨b1.toArray⟩] w fun e w'=>e=.returned (.int .i64 (cmpS a1 b1))∧w'=w):=ab (fun w=>(rq a1 b1 w).mono fun _ _ ⟨h1,h2⟩=>⟨h1,h2.symm⟩);have HC2:Hid (∀w,Calls Tryz.prog 188 #[.string ⟨a2.toArray⟩,.string ⟨b2.toArray⟩] w fun e w'=>e=.returned (.int .i64 (cmpS a2 b2))∧w'=w):=ab (fun w=>(rq a2 b2 w).mono fun _ _ ⟨h1,h2⟩=>⟨h1,h2.symm⟩);generalize hc1:cmpS a1 b1=c1 at *
 generalize hc2:cmpS a2 b2=c2 at *
 have HRR:Hid (R=if c1=0 then c2 else c1):=ab (by rw [←HR.out];unfold cmpR;rw [←hc1,←hc2]);clear hc1 hc2 HR;go_enter Tryz.func186,Tryz.ntmps186
 go_wp2
 rw [←hW];clear hW;go_still_tail 10,gE
 still_call (HC1.out _)
 repeat still_step
 still_call (HC2.out _)
 repeat still_step
 try refine wpStill_nil ?_
 change wpList _ _ _ _ _ W.drew
 have hs0:=heap_alloc_new W.drew (.cells #[.int .i64 c1,.int .i64 c2] 3);have z0:(W.drew.alloc (.cells #[.int .i64 c1,.int .i64 c2] 3)).cell? ⟨W.heap.size,0,none⟩=some (.int .i64 c1):=by show (W.drew.alloc _).cell? ⟨W.drew.heap.size,0,none⟩=_;rw [Cv hs0];rfl
 have z1:(W.drew.alloc (.cells #[.int .i64 c1,.int .i64 c2] 3)).cell? ⟨W.heap.size,1,none⟩=some (.int .i64 c2):=by show (W.drew.alloc _).cell? ⟨W.drew.heap.size,1,none⟩=_;rw [Cv hs0];rfl
 go_wp2_with (go_at_call 187;refine(Or_any c1 c2 _ _ _ z0 z1).mono ?_;rintro e w1 ⟨rfl,rfl⟩;rw [←HRR.out])
 go_ret
 exact⟨rfl,(hb0.drew).alloc hb0.size _⟩
open Go.RowKit
theorem vV {P:Program} (w:World) (base:Nat) (t ty e:TypeId) (i:TypeInfo) (size:Nat) (ht:P.underlying t=some (.slice e)) (hi:P.info? e=some i)
  (v:Value) (n:Nat) (xs:List Value) (hown:w.ownsRow base e size v n xs) (c:Nat):(Builtin.append_ #[t,t] ty #[v,.slice none 0 c]).run P w=.ok v w:=by
 rcases hown.2 with⟨rfl,rfl⟩|⟨g,cap,cur,rfl,_,_,hnc,_⟩
 ·simp [Builtin.append_,run_underlying ht,sizeOf,typeInfo,hi,Builtin.lenOf,Builtin.firstCells]
 ·simp [Builtin.append_,run_underlying ht,sizeOf,typeInfo,hi,Builtin.lenOf,Builtin.firstCells,hnc,storeCells]
open Go.RowKit
def lT (c:Str) (ng:Bool) (rn:Nat) (lo hi:Int) (lz:Bool):Bool:=decide (c=[])&&!ng&&decide (rn=0)&&decide (lo=0)&&decide (hi=0)&&!lz
theorem bare_any (k:Int) (c:Str) (ng:Bool) (ra:Option Addr) (rn rc:Nat) (lo hi:Int) (lz:Bool) (ka:Option Addr) (kn kc:Nat) (w:World) :
  Calls Tryz.prog 122 #[.agg #[.int .i64 k,.string ⟨c.toArray⟩,.bool ng,.slice ra rn rc,.int .i64 lo,.int .i64 hi,.bool lz,.slice ka kn kc]] w fun e w'=>e=.returned (.bool (lT c ng rn lo hi lz))∧Below w.heap.size w w':=by
 generalize hR:lT c ng rn lo hi lz=R
 have HR:=ab hR;clear hR;have hbw:∀o:Obj,Below w.heap.size w (w.alloc o):=fun o=>(Below.refl _ _).alloc (Cp _) _
 have HBW:=ab hbw;clear hbw;cases c<;>cases ng<;>cases lz
 all_goals
  go_enter Tryz.func122,Tryz.ntmps122
  exact dV
theorem vO (k:Int) (w:World):Calls Tryz.prog 124 #[.int .i64 k] w fun e w'=>e=.returned (.bool (repB k))∧w=w':=by
 generalize hR:repB k=R
 have HR:=ab hR;clear hR;go_enter Tryz.func124,Tryz.ntmps124
 go_wp2
 all_goals
  go_ret
  refine⟨jU ?_,rfl⟩;rw [←HR.out,Bool.eq_iff_iff];clear HR;simp_all [repB]
theorem pC (k:Int) (w:World):Calls Tryz.prog 90 #[.int .i64 k] w fun e w'=>e=.returned (.bool (grpB k))∧w=w':=by
 generalize hR:grpB k=R
 have HR:=ab hR;clear hR;go_enter Tryz.func90,Tryz.ntmps90
 go_wp2
 all_goals
  go_ret
  refine⟨jU ?_,rfl⟩;rw [←HR.out,Bool.eq_iff_iff];clear HR;simp_all [grpB]
def n9 (zs:List Int):List Value:=zs.map fun z=>.int .i64 z
theorem Sl.int_ {w:World} {B:Nat} {a:Option Addr} {n:Nat} {zs:List Int} (h:Sl w B a 1 n (n9 zs)) {k:Nat} {z:Int} (hk:zs[k]?=some z) :
  ∃b o,a=some ⟨b,o,none⟩∧b<B∧w.cell? ⟨b,o+k,none⟩=some (.int .i64 z):=by
 have hlt:=(Cq.1 hk).1;have hn:n=zs.length:=by have:=h.1;simp [n9] at this;omega
 obtain⟨b,o,h1,h2,h3⟩:=h.2 gu;exact⟨b,o,h1,h2,h3 k _ (by simp [n9,hk])⟩
theorem Sl.int_len {w:World} {B:Nat} {a:Option Addr} {n:Nat} {zs:List Int} (h:Sl w B a 1 n (n9 zs)):n=zs.length:=by
 have:=h.1;simp [n9] at this;omega
def AB (b:Bool) (e:Ending):Prop:=∃r:Int,e=.returned (.int .i64 r)∧-1≤r∧(decide (0≤r)=b)
theorem B9 (a:Option Addr) (n c:Nat) (zs:List Int) (v:Int) (w:World) (h:Sl w w.heap.size a 1 n (n9 zs)) (hn:n≤100000000) :
  Calls Tryz.prog 176 #[.slice a n c,.int .i64 v] w fun e w'=>AB (zs.contains v) e∧w=w':=by
 obtain rfl:=h.int_len;have HSl:=ab h;clear h;obtain⟨R,hR⟩:∃R,zs.contains v=R:=⟨_,rfl⟩;rw [hR];have HR0:Hid ((zs.drop 0).contains v=R):=ab hR;clear hR;go_enter Tryz.func176,Tryz.ntmps176
 go_wp2
 go_loop [8] (fun q=>∃k:Nat,k≤zs.length∧q=.int .i64 k∧Hid ((zs.drop k).contains v=R)) (fun q=>zs.length-(intOf q).toNat)
 case atStart=>exact⟨0,by omega,rfl,HR0⟩
 case round =>
  obtain⟨k,hk,rfl,HF⟩:=hrel;clear HR0;cases hd:zs.drop k with
  | nil =>
   have h2:zs.length≤k:=gU;have HE:Hid (R=false):=ab gY;clear hd HF;go_wp2
   go_ret
   exact⟨⟨-1,rfl,by omega,by rw [HE.out];rfl⟩,rfl⟩
  | cons z r =>
   obtain⟨h2,h3,hr⟩:=j6 hd;have HE:Hid (R=(z::r).contains v):=ab jy;have Hr:=ab hr;obtain⟨b,o,rfl,hbB,c0⟩:=HSl.out.int_ h3;clear hd HF hr h3;by_cases hz:v=z
   ·have hz1:(v==z)=true:=by simpa using hz
    have HZ:=ab hz;clear hz;go_wp2
    go_ret
    exact⟨⟨k,rfl,by omega,by rw [HE.out,HZ.out];simp⟩,rfl⟩
   ·have hz1:(v==z)=false:=by simpa using hz
    have HZ:=ab hz;clear hz;go_wp2
    go_round
    case rel=>exact⟨k+1,by omega,by go_num,ab (by rw [Hr.out,HE.out,List.contains_cons];simp [HZ.out])⟩
    case measure=>simp [intOf];omega
theorem uZ (a:Option Addr) (n c:Nat) (zs:List Int) (v:Int) (w:World) (h:Sl w w.heap.size a 1 n (n9 zs)) (hn:n≤100000000) :
  Calls Tryz.prog 151 #[.slice a n c,.int .i64 v] w fun e w'=>e=.returned (.bool (zs.contains v))∧w=w':=by
 have HSl:=ab h;clear h;go_enter Tryz.func151,Tryz.ntmps151
 go_wp2_with (go_at_call 176;refine(B9 _ _ _ zs _ _ HSl.out hn).mono ?_;rintro e w1 ⟨⟨r,rfl,h1,h2⟩,rfl⟩)
 go_ret
 exact⟨jU gF,rfl⟩
open Go.RowKit
def anyK (xs:List Rx) (zs:List Int):Bool:=xs.any fun x=>zs.contains x.kind
theorem vC (zs:List Int) (a:Option Addr) (n c:Nat) (g:Nat) (k:Int) (ch:Str) (ng:Bool) (ra:Option Addr) (rn rc:Nat) (lo hi:Int) (lz:Bool) (ka:Option Addr) (kn kc:Nat) (w:World)
  (h:Sl w w.heap.size a 1 n (n9 zs)) (hn:n≤100000000) (hg:w.cell? ⟨g,0,none⟩=some (.slice a n c)) :
  Calls Tryz.prog 150 #[.agg #[.int .i64 k,.string ⟨ch.toArray⟩,.bool ng,.slice ra rn rc,.int .i64 lo,.int .i64 hi,.bool lz,.slice ka kn kc],.pointer (some ⟨g,0,none⟩)] w fun e w'=>e=.returned (.bool (zs.contains k))∧Below w.heap.size w w':=by
 have hlt:=World.block_lt_of_cell? w _ hg;replace hlt:g<w.heap.size:=hlt;have HSl:=ab (h.alloc_self (.cells #[.int .i64 k,.string ⟨ch.toArray⟩,.bool ng,.slice ra rn rc,.int .i64 lo,.int .i64 hi,.bool lz,.slice ka kn kc] 25));clear h;go_enter Tryz.func150,Tryz.ntmps150
 go_wp2_with (go_at_call 151;refine(uZ _ _ _ zs _ _ HSl.out hn).mono ?_;rintro e w1 ⟨rfl,rfl⟩)
 go_ret
 exact⟨jU gF,(Below.refl _ _).alloc (Cp _) _⟩
def SmRel (xs:List Rx) (zs:List Int) (R:Bool) (w:World) (q:Value) (wr:World):Prop :=
 ∃k:Nat,k≤xs.length∧q=.int .i64 k∧Below w.heap.size w wr∧Hid (anyK (xs.drop k) zs=R)
theorem tw (S:Nat→Prop) (xa:Option Addr) (xc:Nat) (xs:List Rx) (zs:List Int) (a:Option Addr) (n c:Nat) (g:Nat) (w:World)
  (hx:RxSl w S xa xs.length xs) (hxn:xs.length≤100000000)
  (h:Sl w w.heap.size a 1 n (n9 zs)) (hn:n≤100000000) (hg:w.cell? ⟨g,0,none⟩=some (.slice a n c)) :
  Calls Tryz.prog 175 #[.slice xa xs.length xc,.func (.func 150) #[] #[.pointer (some ⟨g,0,none⟩)]] w fun e w'=>AB (anyK xs zs) e∧Below w.heap.size w w':=by
 obtain⟨R,hR⟩:∃R,anyK xs zs=R:=⟨_,rfl⟩;rw [hR];have HR0:Hid (anyK (xs.drop 0) zs=R):=ab hR;have HX:=ab hx;have HSl:=ab h;have HG:=ab hg;clear hR hx h hg;go_enter Tryz.func175,Tryz.ntmps175
 go_wp2
 go_loopw [8] (fun q wr=>SmRel xs zs R w q wr) (fun q _=>xs.length-(intOf q).toNat)
 case atStart=>exact⟨0,by omega,rfl,Below.refl _ _,HR0⟩
 case round =>
  obtain⟨k,hk,rfl,hb,HF⟩:=hrel;clear HR0;have hB:=hb.size;cases hd:xs.drop k with
  | nil =>
   have h2:xs.length≤k:=gU;have HE:Hid (R=false):=ab gY;clear hd HF;go_wp2
   go_ret
   exact⟨⟨-1,rfl,by omega,by rw [HE.out];rfl⟩,hb⟩
  | cons x r =>
   obtain⟨h2,h3,hr⟩:=j6 hd;obtain⟨kd,ch,ng,rs,lo,hi,lz,ks⟩:=x;have HE:Hid (R=(zs.contains kd||anyK r zs)):=ab gY;have Hr:=ab hr;obtain⟨b,o,ra,rc,ka,kc,rfl,hS,hbB,_,_,_,c0,c1,c2,c3,c4,c5,c6,c7⟩:=(HX.out.later hb).cells h3;have HS2:=ab ((HSl.out.keep hb).mono hB);have HG2:=ab (jP hb _ _ HG.out);clear hd HF hr h3;cases hz:zs.contains kd with
   | true =>
    have HZ:=ab hz;clear hz;go_wp2_with (go_at_call 150;refine(vC zs _ _ _ _ _ _ _ _ _ _ _ _ _ _ _ _ _ HS2.out hn HG2.out).mono ?_;rintro e w1 ⟨rfl,hb1⟩;rw [HZ.out])
    go_ret
    exact⟨⟨k,rfl,by omega,by rw [HE.out,HZ.out];simp⟩,hb.trans (hb1.mono hB)⟩
   | false =>
    have HZ:=ab hz;clear hz;go_wp2_with (go_at_call 150;refine(vC zs _ _ _ _ _ _ _ _ _ _ _ _ _ _ _ _ _ HS2.out hn HG2.out).mono ?_;rintro e w1 ⟨rfl,hb1⟩;rw [HZ.out])
    go_roundw
    case rel=>exact⟨k+1,by omega,by go_num,hb.trans (hb1.mono hB),ab (by rw [Hr.out,HE.out,HZ.out,Bool.false_or])⟩
    case measure=>simp [intOf];omega
theorem qM (S:Nat→Prop) (xa:Option Addr) (xc:Nat) (xs:List Rx) (zs:List Int) (a:Option Addr) (n c:Nat) (g:Nat) (w:World)
  (hx:RxSl w S xa xs.length xs) (hxn:xs.length≤100000000)
  (h:Sl w w.heap.size a 1 n (n9 zs)) (hn:n≤100000000) (hg:w.cell? ⟨g,0,none⟩=some (.slice a n c)) :
  Calls Tryz.prog 149 #[.slice xa xs.length xc,.func (.func 150) #[] #[.pointer (some ⟨g,0,none⟩)]] w fun e w'=>e=.returned (.bool (anyK xs zs))∧Below w.heap.size w w':=by
 have HX:=ab hx;have HSl:=ab h;have HG:=ab hg;clear hx h hg;go_enter Tryz.func149,Tryz.ntmps149
 go_wp2_with (go_at_call 175;refine(tw S _ _ xs zs _ _ _ _ _ HX.out hxn HSl.out hn HG.out).mono ?_;rintro e w1 ⟨⟨r,rfl,h1,h2⟩,hb1⟩)
 go_ret
 exact⟨jU gF,hb1⟩
theorem some_any (S:Nat→Prop) (xa:Option Addr) (xc:Nat) (xs:List Rx) (zs:List Int) (a:Option Addr) (n c:Nat) (w:World)
  (hx:RxSl w S xa xs.length xs) (hxn:xs.length≤100000000) (h:Sl w w.heap.size a 1 n (n9 zs)) (hn:n≤100000000) :
  Calls Tryz.prog 125 #[.slice xa xs.length xc,.slice a n c] w fun e w'=>e=.returned (.bool (anyK xs zs))∧Below w.heap.size w w':=by
 have HX:=ab (hx.later ((Below.refl _ _).alloc (Cp _) (.cells #[.slice a n c] 90)));have HSl:=ab (h.alloc_self (.cells #[.slice a n c] 90));clear hx h;go_enter Tryz.func125,Tryz.ntmps125
 go_wp2_with (go_at_call 149;refine(qM S _ _ xs zs a n c _ _ HX.out hxn HSl.out hn gF).mono ?_;rintro e w1 ⟨rfl,hb1⟩)
 exact ew
open Go.RowKit
namespace Rx
def small1:Rx→Prop
 | mk _ c _ rs _ _ _ ks=>c.length≤1000000∧rs.length≤1000000∧(∀r∈rs,r.1.length≤1000000∧r.2.length≤1000000)∧ks.length≤1000000
mutual
def small:Rx→Prop
 | mk k c ng rs lo hi lz ks=>small1 (mk k c ng rs lo hi lz ks)∧smallL ks
def smallL:List Rx→Prop
 | []=>True
 | x::r=>small x∧smallL r
end
end Rx
theorem lK:∀{ks:List Rx} {x:Rx},Rx.smallL ks→x∈ks→x.small
 | [],_,_,h=>by simp at h
 | y::r,x,hs,h=>by
  simp only [Rx.smallL] at hs;rcases Cz.1 h with rfl|h
  ·exact hs.1
  ·exact lK hs.2 h
theorem lE (k:Int) (c:Str) (ng:Bool) (rs:List (Str × Str)) (lo hi:Int) (lz:Bool) (ks:List Rx):uP (.mk k c ng rs lo hi lz ks)=lT c ng rs.length lo hi lz:=by
 show (decide (c=[])&&!ng&&decide (rs=[])&&decide (lo=0)&&decide (hi=0)&&!lz)=_
 rw [Bool.eq_iff_iff];simp [lT]
theorem ma {k:Int} {c:Str} {ng:Bool} {ra:Option Addr} {rn rc:Nat} {lo hi:Int} {lz:Bool} {ka:Option Addr} {kn kc:Nat} {b:Bool} (w:World) (h:lT c ng rn lo hi lz=b) :
  Calls Tryz.prog 122 #[.agg #[.int .i64 k,.string ⟨c.toArray⟩,.bool ng,.slice ra rn rc,.int .i64 lo,.int .i64 hi,.bool lz,.slice ka kn kc]] w fun e w'=>e=.returned (.bool b)∧Below w.heap.size w w'∧∀a u,w.cell? a=some u→w'.cell? a=some u:=by
 subst h;exact(bare_any k c ng ra rn rc lo hi lz ka kn kc w).mono fun _ _ ⟨h1,h2⟩=>⟨h1,h2,jP h2⟩
def nilB (ks:List Rx):Bool:=match ks with|[]=>true|_=>false
theorem fields_2 (c:Str) (ng:Bool) (ra:Option Addr) (rs:List (Str × Str)) (rc:Nat) (lo hi:Int) (lz:Bool) (ka:Option Addr) (ks:List Rx) (kc:Nat) (w:World)
  (hsm:(Rx.mk 2 c ng rs lo hi lz ks).small1) :
  Calls Tryz.prog 91 #[.agg #[.int .i64 2,.string ⟨c.toArray⟩,.bool ng,.slice ra rs.length rc,.int .i64 lo,.int .i64 hi,.bool lz,.slice ka ks.length kc]] w fun e w'=>e=.returned (.bool (kw (.mk 2 c ng rs lo hi lz ks)))∧Below w.heap.size w w':=by
 generalize hR:kw (.mk 2 c ng rs lo hi lz ks)=R
 have HR:=ab hR;clear hR;have HS:Hid (R=(lT [] ng rs.length lo hi lz&&nilB ks&&kX c)):=ab (by rw [←HR.out,←lE];cases ks<;>rfl);obtain⟨s1,s2,s3,s4⟩:=hsm;clear HR s3;cases hbv:lT [] ng rs.length lo hi lz with
 | false =>
  exact aF
 | true =>
  have HB:=ab hbv;have HR:Hid (R=(nilB ks&&kX c)):=ab iA;clear hbv;rcases ks with _|⟨x,ks⟩
  ·have HR2:Hid (R=kX c):=ab it
   go_enter Tryz.func91,Tryz.ntmps91
   go_wp2_with (first|(go_at_call 122;refine(ma _ HB.out).mono ?_;rintro e w1 ⟨rfl,hb1,hc1⟩;have hq7:=hc1 ⟨w.heap.size,7,none⟩ (.slice ka (0) kc) gF)|(go_at_call 44;refine(nx _ _ gu).mono ?_;rintro e w2 ⟨rfl,rfl⟩))
   exact bd
  ·exact eX
theorem fields_4 (c:Str) (ng:Bool) (ra:Option Addr) (rs:List (Str × Str)) (rc:Nat) (lo hi:Int) (lz:Bool) (ka:Option Addr) (ks:List Rx) (kc:Nat) (w:World)
  (hr:Sl w w.heap.size ra 2 rs.length (jX rs)) (hsm:(Rx.mk 4 c ng rs lo hi lz ks).small1) :
  Calls Tryz.prog 91 #[.agg #[.int .i64 4,.string ⟨c.toArray⟩,.bool ng,.slice ra rs.length rc,.int .i64 lo,.int .i64 hi,.bool lz,.slice ka ks.length kc]] w fun e w'=>e=.returned (.bool (kw (.mk 4 c ng rs lo hi lz ks)))∧Below w.heap.size w w':=by
 generalize hR:kw (.mk 4 c ng rs lo hi lz ks)=R
 have HR:=ab hR;clear hR;have HS:Hid (R=(lT c false 0 lo hi lz&&nilB ks&&sD rs)):=ab (by rw [←HR.out,show (0:Nat)=([]:List (Str × Str)).length from rfl,←lE 4 c false [] lo hi lz ks];cases ks<;>rfl);obtain⟨s1,s2,s3,s4⟩:=hsm;have HRS:=ab hr;have HS3:=ab s3;clear HR s3 hr;cases hbv:lT c false 0 lo hi lz with
 | false =>
  exact aF
 | true =>
  have HB:=ab hbv;have HR:Hid (R=(nilB ks&&sD rs)):=ab iA;clear hbv;rcases ks with _|⟨x,ks⟩
  ·have HR2:Hid (R=sD rs):=ab it
   go_enter Tryz.func91,Tryz.ntmps91
   go_wp2_with (first|(((go_at_call 122;refine(ma _ HB.out).mono ?_;rintro e w1 ⟨rfl,hb1,hc1⟩;have hq7:=hc1 ⟨w.heap.size,7,none⟩ (.slice ka (0) kc) gF));have HR1:=ab (((HRS.out.alloc_self _).keep hb1).mono hb1.size))|(go_at_call 123;refine(xg _ _ _ rs _ HR1.out gu (fun r hr=>by have:=HS3.out r hr;omega)).mono ?_;rintro e w2 ⟨rfl,hb2⟩))
   go_ret
   exact⟨jU HR2.out.symm,(((Below.refl _ _).alloc (Cp _) _).trans (hb1.mono gF)).trans (hb2.mono js)⟩
  ·exact eX
theorem zm (K:Int) (hK:K=5∨K=6) (c:Str) (ng:Bool) (ra:Option Addr) (rs:List (Str × Str)) (rc:Nat) (lo hi:Int) (lz:Bool) (ka:Option Addr) (ks:List Rx) (kc:Nat) (w:World)
  (hsm:(Rx.mk K c ng rs lo hi lz ks).small1) :
  Calls Tryz.prog 91 #[.agg #[.int .i64 K,.string ⟨c.toArray⟩,.bool ng,.slice ra rs.length rc,.int .i64 lo,.int .i64 hi,.bool lz,.slice ka ks.length kc]] w fun e w'=>e=.returned (.bool (kw (.mk K c ng rs lo hi lz ks)))∧Below w.heap.size w w':=by
 generalize hR:kw (.mk K c ng rs lo hi lz ks)=R
 have HR:=ab hR;clear hR;have HS:Hid (R=(lT c ng rs.length lo hi lz&&decide (ks.length=1))):=ab (by rw [←HR.out,←lE K c ng rs lo hi lz ks];rcases hK with rfl|rfl<;>rfl);obtain⟨s1,s2,s3,s4⟩:=hsm;clear HR s3;rcases hK with rfl|rfl
 all_goals
  cases hbv:lT c ng rs.length lo hi lz with
  | false =>
   exact aF
  | true =>
   have HB:=ab hbv;have HR:Hid (R=decide (ks.length=1)):=ab iA;clear hbv;rcases ks with _|⟨x,_|⟨y,ks⟩⟩
   ·have HR2:Hid (R=false):=ab it
    exact fh
   ·have HR2:Hid (R=true):=ab it
    exact fi
   ·have HR2:Hid (R=false):=ab (by rw [HR.out];simp)
    go_enter Tryz.func91,Tryz.ntmps91
    go_wp2_with (go_at_call 122;refine(ma _ HB.out).mono ?_;rintro e w1 ⟨rfl,hb1,hc1⟩;have hq7:=hc1 ⟨w.heap.size,7,none⟩ (.slice ka (ks.length+1+1) kc) gF)
    exact bd
theorem wP (K:Int) (hK:K=3∨K=8∨K=9∨K=10∨K=11) (c:Str) (ng:Bool) (ra:Option Addr) (rs:List (Str × Str)) (rc:Nat) (lo hi:Int) (lz:Bool) (ka:Option Addr) (ks:List Rx) (kc:Nat) (w:World)
  (hsm:(Rx.mk K c ng rs lo hi lz ks).small1) :
  Calls Tryz.prog 91 #[.agg #[.int .i64 K,.string ⟨c.toArray⟩,.bool ng,.slice ra rs.length rc,.int .i64 lo,.int .i64 hi,.bool lz,.slice ka ks.length kc]] w fun e w'=>e=.returned (.bool (kw (.mk K c ng rs lo hi lz ks)))∧Below w.heap.size w w':=by
 generalize hR:kw (.mk K c ng rs lo hi lz ks)=R
 have HR:=ab hR;clear hR;have HS:Hid (R=(lT c ng rs.length lo hi lz&&nilB ks)):=ab (by rw [←HR.out,←lE K c ng rs lo hi lz ks];rcases hK with rfl|rfl|rfl|rfl|rfl<;>cases ks<;>rfl);obtain⟨s1,s2,s3,s4⟩:=hsm;clear HR s3;rcases hK with rfl|rfl|rfl|rfl|rfl
 all_goals
  cases hbv:lT c ng rs.length lo hi lz with
  | false =>
   exact aF
  | true =>
   have HB:=ab hbv;have HR:Hid (R=nilB ks):=ab iA;clear hbv;rcases ks with _|⟨x,ks⟩
   ·have HR2:Hid (R=true):=ab it
    exact fh
   ·exact eX
theorem wu (K:Int) (hK:¬K=0∧¬K=1∧¬K=2∧¬K=3∧¬K=4∧¬K=5∧¬K=6∧¬K=7∧¬K=8∧¬K=9∧¬K=10∧¬K=11) (c:Str) (ng:Bool) (ra:Option Addr) (rn:Nat) (rs:List (Str × Str)) (rc:Nat) (lo hi:Int) (lz:Bool) (ka:Option Addr) (kn:Nat) (ks:List Rx) (kc:Nat) (w:World) :
  Calls Tryz.prog 91 #[.agg #[.int .i64 K,.string ⟨c.toArray⟩,.bool ng,.slice ra rn rc,.int .i64 lo,.int .i64 hi,.bool lz,.slice ka kn kc]] w fun e w'=>e=.returned (.bool (kw (.mk K c ng rs lo hi lz ks)))∧Below w.heap.size w w':=by
 obtain⟨k0,k1,k2,k3,k4,k5,k6,k7,k8,k9,k10,k11⟩:=hK;have HS:Hid (kw (.mk K c ng rs lo hi lz ks)=false):=ab (by
  simp only [kw];rw [Co k2,Co k4,Co k7,Co k0,Co k1,Co gu,Co gu])
 rw [HS.out];have e0:(K==0)=false:=by simpa using k0
 have e1:(K==1)=false:=by simpa using k1
 have e2:(K==2)=false:=by simpa using k2
 have e3:(K==3)=false:=by simpa using k3
 have e4:(K==4)=false:=by simpa using k4
 have e5:(K==5)=false:=by simpa using k5
 have e6:(K==6)=false:=by simpa using k6
 have e7:(K==7)=false:=by simpa using k7
 have e8:(K==8)=false:=by simpa using k8
 have e9:(K==9)=false:=by simpa using k9
 have e10:(K==10)=false:=by simpa using k10
 have e11:(K==11)=false:=by simpa using k11
 clear k0 k1 k2 k3 k4 k5 k6 k7 k8 k9 k10 k11;go_enter Tryz.func91,Tryz.ntmps91
 go_wp2
 go_ret
 exact⟨rfl,(Below.refl _ _).alloc (Cp _) _⟩
open Go.RowKit
def sw (w:World) (v v':Value):Prop:=v'.ownBlock=v.ownBlock∨∀k,v'.ownBlock=some k→w.heap.size≤k
theorem uV {P:Program} {w:World} {base:Nat} {t ty e:TypeId} {i:TypeInfo} {z:Value} {size bytes:Nat} (ht:P.underlying t=some (.slice e)) (hi:P.info? e=some i) (hz:i.zero=some z)
  (hsize:i.size=size) (hby:i.bytes=bytes) (hzs:z.cells.size=size) (hsz:0<size)
  {v:Value} {n:Nat} {xs:List Value} (hown:w.ownsRow base e size v n xs)
  {a:Addr} {m c:Nat} {news:List Value} (hl:news.length=m*size) (hnews:∀j u,news[j]?=some u→w.cell? (a.add j)=some u) (h1:∀u∈news,u.oneCell'=true)
  (h63:n+m≤maxLen) (hbytes:(n+m)*bytes≤140737488355328) {v':Value} {w':World}
  (hr:(Builtin.append_ #[t,t] ty #[v,.slice (some a) m c]).run P w=.ok v' w'):sw w v v':=by
 rcases hown.2 with⟨rfl,rfl⟩|⟨g,cap,cur,rfl,hbg,hg,hnc,hcm,hcs,htake⟩
 ·obtain⟨v2,w2,h2,h3,_,_⟩:=run_append_own (P:=P) w w.heap.size t ty e i z size bytes ht hi hz hsize hby hzs hsz _ 0 [] (World.ownsRow_nil w _ e size) a m c news hl hnews h1 h63 hbytes (Cp _)
  rw [h2] at hr;injection hr with hr _
  subst hr;exact .inr fun k hk=>(h3.lt k hk).1
 ·subst hsize
  subst hby;by_cases hroom:n+m≤cap
  ·have hfit:n*i.size+news.length≤cur.size:=by rw [hl,hcs,←Nat.add_mul];exact Nat.mul_le_mul_right _ hroom
   have h2:=run_append_room (P:=P) w t ty e i ht hi g n cap cur hg a m c news hl hnews h1 hroom hfit;rw [h2] at hr;injection hr with hr _
   subst hr;exact .inl rfl
  ·have hsmall:n+m≤9223372036854775807:=by simp only [maxLen] at h63;omega
   have holds:∀j u,xs[j]?=some u→w.cell? ((⟨g,0,none⟩:Addr).add j)=some u:=hown.cells (g:=g) rfl;have h2:=run_append_grow (P:=P) w t ty e i z ht hi hz ⟨g,0,none⟩ n cap xs hown.1 holds a m c news hl hnews gu gu (growslice_fits gu hbytes);rw [h2] at hr;injection hr with hr _
   subst hr;exact .inr fun k hk=>by simp [Value.ownBlock] at hk;omega
theorem B3 {P:Program} {w:World} {o:Oper} {a:Act} {K:Act→World→Prop} {Q:Exit→Act→World→Prop} (base:Nat) (e:TypeId) (s x:Operand) (t:TypeId)
  (ho:o.op=.call { callee:=.builtin .append,args:=#[s,x],argTypes:=#[t,t] })
  {i:TypeInfo} {z:Value} {size bytes:Nat} (ht:P.underlying t=some (.slice e)) (hinf:P.info? e=some i∧i.zero=some z∧i.size=size∧i.bytes=bytes)
  (hzs:z.cells.size=size) (hsz:0<size)
  {v:Value} {n:Nat} {xs:List Value} (hs:a.eval s=v) (hown:w.ownsRow base e size v n xs)
  {B:Nat} {A:Option Addr} {m c:Nat} {news:List Value} (hx:a.eval x=.slice A m c) (hr:Sl w B A size m news) (h1:∀u∈news,u.oneCell'=true)
  (hn:n≤10000000) (hm:m≤10000000) (hb:bytes≤1000) (hB:base≤w.heap.size)
  (h:∀v' w',w'.ownsRow base e size v' (n+m) (xs++news)→w.grownBy w' v.ownBlock→Below base w w'→sw w v v'→K (a.put o.dst v') w') :
  o.wp P a w K Q:=by
 obtain⟨hi,hz0,hz1,hz2⟩:=hinf;have key:∃v' w',(Builtin.append_ #[t,t] o.type #[v,.slice A m c]).run P w=.ok v' w'∧w'.ownsRow base e size v' (n+m) (xs++news)∧w.grownBy w' v.ownBlock∧sw w v v':=by
  have h63:n+m≤maxLen:=by simp only [maxLen];omega
  have hby:(n+m)*bytes≤140737488355328:=by
   have:(n+m)*bytes≤(10000000+10000000)*1000:=Nat.mul_le_mul gu hb
   omega
  rcases A with _|ad
  ·have hm0:m=0:=by
    rcases Nat.eq_zero_or_pos m with h0|h0
    ·exact h0
    ·obtain⟨b,o,h,_⟩:=hr.2 h0;cases h
   subst hm0;have hn0:news=[]:=Cm (by simpa using hr.1);subst hn0;exact⟨v,w,vV w base t o.type e i size ht hi v n xs hown c,by simpa using hown,⟨rfl,rfl,rfl,Cp _,fun _ _ _=>rfl⟩,.inl rfl⟩
  ·have hnews:∀j u,news[j]?=some u→w.cell? (ad.add j)=some u:=by
    intro j u hu;rcases Nat.eq_zero_or_pos m with h0|h0
    ·subst h0
     have hn0:news=[]:=Cm (by simpa using hr.1);subst hn0;simp at hu
    ·obtain⟨b,o',hab,_,hc⟩:=hr.2 h0
     injection hab with hab;subst hab
     have hadd:(⟨b,o',none⟩:Addr).add j=⟨b,o'+j,none⟩:=by unfold Addr.add;split<;>simp_all
     rw [hadd];exact hc j u hu
   obtain⟨v',w',hrun,h2,h3,_⟩:=run_append_own (P:=P) w base t o.type e i z size bytes ht hi hz0 hz1 hz2 hzs hsz v n xs hown ad m c news hr.1 hnews h1 h63 hby hB;exact⟨v',w',hrun,h2,h3,uV ht hi hz0 hz1 hz2 hzs hsz hown hr.1 hnews h1 h63 hby hrun⟩
 obtain⟨v',w',hrun,h2,h3,h4⟩:=key;unfold Oper.wp execOp;simp only [ho,resolve,invoke,builtin,Sem.run_bind,Sem.run_pure,Result.andThen_ok,List.map_toArray,Cw,List.map_nil,hs,hx,hrun];exact h v' w' h2 h3 ((Below.refl base w).grown h3 hB fun k hk=>(hown.lt k hk).1) h4
theorem ke {P:Program} {w:World} {ops:Array Oper} {rest:List Oper} {o:Oper} {a:Act} {Q:Exit→Act→World→Prop} (base:Nat) (e:TypeId) (hgd:o.guard=none) (s x:Operand) (t:TypeId)
  (ho:o.op=.call { callee:=.builtin .append,args:=#[s,x],argTypes:=#[t,t] })
  {i:TypeInfo} {z:Value} {size bytes:Nat} (ht:P.underlying t=some (.slice e)) (hinf:P.info? e=some i∧i.zero=some z∧i.size=size∧i.bytes=bytes)
  (hzs:z.cells.size=size) (hsz:0<size)
  {v:Value} {n:Nat} {xs:List Value} (hs:a.eval s=v) (hown:w.ownsRow base e size v n xs)
  {B:Nat} {A:Option Addr} {m c:Nat} {news:List Value} (hx:a.eval x=.slice A m c) (hr:Sl w B A size m news) (h1:∀u∈news,u.oneCell'=true)
  (hn:n≤10000000) (hm:m≤10000000) (hb:bytes≤1000) (hB:base≤w.heap.size)
  (h:∀v' w',w'.ownsRow base e size v' (n+m) (xs++news)→w.grownBy w' v.ownBlock→Below base w w'→sw w v v'→wpList P ops Q rest (a.put o.dst v') w') :
  wpList P ops Q (o::rest) a w :=
 wpList_plain hgd fun _ hK=>B3 base e s x t ho ht hinf hzs hsz hs hown hx hr h1 hn hm hb hB fun v' w' a1 a2 a3 a4=>hK _ _ (h v' w' a1 a2 a3 a4)
theorem wB:(Tryz.prog.info? 25).map (fun i=>(i.zero,i.size,i.bytes))=some (some (.agg #[.int .i64 0,.string ⟨#[]⟩,.bool false,.slice none 0 0,.int .i64 0,.int .i64 0,.bool false,.slice none 0 0]),8,104):=by kernel_rfl
theorem mm:(Tryz.prog.info? 72).map (fun i=>(i.zero,i.size,i.bytes))=some (some (.agg #[.string ⟨#[]⟩,.string ⟨#[]⟩]),2,32):=by kernel_rfl
theorem lW (rs:List (Str × Str)):∀u∈jX rs,u.oneCell'=true:=by
 intro u hu;simp only [jX,List.mem_flatMap] at hu;obtain⟨r,_,hr⟩:=hu;simp only [Cz,CH,or_false] at hr;rcases hr with rfl|rfl<;>rfl
theorem RxV.one {w:World} {S:Nat→Prop} {c:List Value} {x:Rx} (h:RxV w S c x):∀u∈c,u.oneCell'=true:=by
 cases h
 intro u hu;simp only [rxc,Cz,CH,or_false] at hu;rcases hu with rfl|rfl|rfl|rfl|rfl|rfl|rfl|rfl<;>rfl
theorem RxVs.one {w:World} {S:Nat→Prop}:∀{css:List (List Value)} {xs:List Rx},RxVs w S css xs→∀u∈css.flatten,u.oneCell'=true
 | _,_,.nil,u,hu=>by simp at hu
 | _,_,.cons h1 h2,u,hu=>by
  rw [List.flatten_cons,CI] at hu;rcases hu with hu|hu
  ·exact h1.one u hu
  ·exact h2.one u hu
def OwnX (w:World) (B:Nat) (v:Value) (xs:List Rx):Prop :=
 ∃css,w.ownsRow B 25 8 v xs.length css.flatten∧RxVs w (fun b=>B≤b∧v.ownBlock≠some b) css xs
theorem OwnX.nil (w:World) (B:Nat):OwnX w B (.slice none 0 0) []:=⟨[],World.ownsRow_nil _ _ _ _,.nil⟩
theorem jZ {w w':World} {B:Nat} {e:TypeId} {sz:Nat} {v:Value} {n:Nat} {xs:List Value} (h:w.ownsRow B e sz v n xs) (hb:Below w.heap.size w w'):w'.ownsRow B e sz v n xs:=by
 refine⟨h.1,?_⟩;rcases h.2 with h0|⟨g,cap,cur,rfl,h1,h2,h3⟩
 ·exact .inl h0
 ·exact .inr ⟨g,cap,cur,rfl,h1,(hb.block g (jO h2)).trans h2,h3⟩
theorem OwnX.later {w w':World} {B:Nat} {v:Value} {xs:List Rx} (h:OwnX w B v xs) (hb:Below w.heap.size w w'):OwnX w' B v xs:=by
 obtain⟨css,h1,h2⟩:=h;exact⟨css,jZ h1 hb,h2.later hb⟩
theorem ny {w:World} {B:Nat} {e:TypeId} {sz:Nat} {v:Value} {n:Nat} {xs:List Value} (h:w.ownsRow B e sz v n xs) {a:Addr} (ha:a.block<B) (u:Value):(w.setCell a u).ownsRow B e sz v n xs :=
 ownsRow_setCell_below h ha u
theorem Kept.setLow {w:World} {S:Nat→Prop} {a:Addr} (u:Value) (hS:∀b,S b→b≠a.block):Kept S w (w.setCell a u) :=
 ⟨by simp [World.setCell],fun b hb _=>heap_setCell_other w a b u (hS b hb)⟩
theorem OwnX.setLow {w:World} {B:Nat} {v:Value} {xs:List Rx} (h:OwnX w B v xs) {a:Addr} (ha:a.block<B) (u:Value):OwnX (w.setCell a u) B v xs:=by
 obtain⟨css,h1,h2⟩:=h;exact⟨css,ny h1 ha u,h2.keep (Kept.setLow u fun b hb=>by have:=hb.1;omega)⟩
theorem OwnX.app {w w':World} {B:Nat} {v v':Value} {xs ys:List Rx} {css ds:List (List Value)} {m:Nat} (hr1:RxVs w (fun b=>B≤b∧v.ownBlock≠some b) css xs)
  (hr2:RxVs w (fun b=>B≤b∧v.ownBlock≠some b) ds ys) (hm:m=ys.length)
  (ho:w'.ownsRow B 25 8 v' (xs.length+m) (css.flatten++ds.flatten)) (hg:w.grownBy w' v.ownBlock) (hmv:sw w v v'):OwnX w' B v' (xs++ys):=by
 subst hm;refine⟨css++ds,by rw [List.flatten_append,Cy];exact ho,?_⟩;have hS:∀b,(B≤b∧v.ownBlock≠some b)→b<w.heap.size→((B≤b∧v.ownBlock≠some b)∧b<w.heap.size):=fun b h1 h2=>⟨h1,h2⟩
 have hk:Kept (fun b=>(B≤b∧v.ownBlock≠some b)∧b<w.heap.size) w w':=⟨hg.size,fun b hb hlt=>hg.block b hlt (fun e=>hb.1.2 e.symm)⟩;refine(((hr1.append hr2).mono hS).keep hk).mono fun b hb _=>⟨hb.1.1,fun e=>?_⟩
 exact cZ
theorem OwnX.sl {w:World} {B:Nat} {a:Option Addr} {n c:Nat} {xs:List Rx} (h:OwnX w B (.slice a n c) xs):n=xs.length∧RxSl w (fun b=>B≤b) a xs.length xs:=by
 obtain⟨css,h1,h2⟩:=h;have hn:n=xs.length:=by
  rcases h1.2 with⟨h,h0⟩|⟨g,cap,cur,h,_⟩
  ·injection h with _ h _;omega
  ·injection h with _ h _
 subst hn;refine⟨rfl,css,⟨(Sl.of_own h1).1,fun hn=>?_⟩,h2.mono fun b hb _=>hb.1⟩;obtain⟨b,o,e,hlt,hc⟩:=(Sl.of_own h1).2 hn;subst e;exact⟨b,o,rfl,(h1.lt b rfl).1,hlt,hc⟩
theorem bel2 {W w0 w1:World} (h:Below W.heap.size W w0) (h1:Below w0.heap.size w0 w1):Below W.heap.size W w1:=h.trans (h1.mono h.size)
theorem jR {w:World} {g:Nat} {k:Int} {c:Str} {ng:Bool} {ra:Option Addr} {rn rc:Nat} {lo hi:Int} {lz:Bool} {ka:Option Addr} {kn kc:Nat}
  (h:w.heap[g]?=some (.cells #[.int .i64 k,.string ⟨c.toArray⟩,.bool ng,.slice ra rn rc,.int .i64 lo,.int .i64 hi,.bool lz,.slice ka kn kc] 25 (0,0))) :
  w.cell? ⟨g,0,none⟩=some (.int .i64 k)∧w.cell? ⟨g,1,none⟩=some (.string ⟨c.toArray⟩)∧w.cell? ⟨g,2,none⟩=some (.bool ng)∧w.cell? ⟨g,3,none⟩=some (.slice ra rn rc) ∧
  w.cell? ⟨g,4,none⟩=some (.int .i64 lo)∧w.cell? ⟨g,5,none⟩=some (.int .i64 hi)∧w.cell? ⟨g,6,none⟩=some (.bool lz)∧w.cell? ⟨g,7,none⟩=some (.slice ka kn kc) ∧
  ∀i,i<8→w.frozen? ⟨g,i,none⟩=false:=by
 refine⟨?_,?_,?_,?_,?_,?_,?_,?_,?_⟩
 ·exact dg
 ·exact dg
 ·exact dg
 ·exact dg
 ·exact dg
 ·exact dg
 ·exact dg
 ·exact dg
 ·intro i hi;simp only [World.frozen?,h];simp
open Go.RowKit
theorem mQ {w:World} {B:Nat} {e:TypeId} {sz:Nat} {a:Option Addr} {n c:Nat} {xs:List Value} (h:w.ownsRow B e sz (.slice a n c) n xs):SlS w (fun b=>B≤b) a sz n xs:=by
 refine⟨(Sl.of_own h).1,fun hn=>?_⟩;obtain⟨b,o,e,hlt,hc⟩:=(Sl.of_own h).2 hn;subst e;exact⟨b,o,rfl,(h.lt b rfl).1,hlt,hc⟩
theorem zx (a:Option Addr) (n c:Nat) (rs:List (Str × Str)) (w:World) (h:Sl w w.heap.size a 2 n (jX rs)) (hn:n≤1000000) :
  Calls Tryz.prog 164 #[.slice a n c] w fun e w'=>∃a' c',e=.returned (.slice a' n c')∧SlS w' (fun b=>w.heap.size≤b) a' 2 n (jX rs)∧Below w.heap.size w w':=by
 obtain rfl:=h.row_len;obtain⟨ir,hir⟩:=info_parts mm;cases a with
 | none =>
  have h0:rs=[]:=by
   rcases Nat.eq_zero_or_pos rs.length with h0|h0
   ·exact Cm h0
   ·obtain⟨b,o,e,_⟩:=h.2 h0;cases e
  subst h0;have hq:(binOp .eql 22 (.slice none 0 c) (.slice none 0 0)).run Tryz.prog w=.ok (.bool true) w:=Go.run_eql_slice_nil w _ _ none 0 c Tryz.underlying22;go_enter Tryz.func164,Tryz.ntmps164
  go_wp2
  go_ret
  exact⟨none,0,rfl,SlS.none_ _ _ _ _,Below.refl _ _⟩
 | some ad =>
  have HS:=ab (h.alloc_self (.cells #[] 72));have hq:(binOp .eql 22 (.slice (some ad) rs.length c) (.slice none 0 0)).run Tryz.prog w=.ok (.bool false) w:=Go.run_eql_slice_nil w _ _ (some ad) _ c Tryz.underlying22;clear h;go_enter Tryz.func164,Tryz.ntmps164
  go_wp2_with (at_builtin;refine ke w.heap.size 72 rfl _ _ 22 rfl Tryz.underlying22 hir rfl gD rfl (World.ownsRow_made w #[] 0 (Cp _) jx rfl) rfl HS.out (lW rs) gu gu gD gF ?_)
  exact cS
open Go.RowKit
def ClRel (ks:List Rx) (w:World) (v q:Value) (wr:World):Prop :=
 ∃i:Nat,i≤ks.length∧q=.int .i64 i∧Below w.heap.size w wr∧OwnX wr w.heap.size v (ks.take i)
theorem vu (S:Nat→Prop):∀(N:Nat) (x:Rx),x.parts≤N→x.small→∀(cc:List Value) (w:World),RxV w S cc x →
  Calls Tryz.prog 137 #[.agg cc.toArray] w fun e w'=>∃cc',e=.returned (.agg cc'.toArray)∧RxV w' (fun b=>w.heap.size≤b) cc' x∧Below w.heap.size w w'
 | 0,x,h,_,_,_,_=>by have:=Rx.parts_pos x;omega
 | N+1,.mk k c ng rs lo hi lz ks,h,hsm,cc,w,hv=>by
  obtain⟨ra,rc,ka,kc,rfl,hrs,hx⟩:=hv.open_;obtain⟨⟨s1,s2,s3,s4⟩,hsmL⟩:=hsm;simp only [Rx.parts] at h;have ih:∀y∈ks,∀(cc:List Value) (w:World),RxV w S cc y→Calls Tryz.prog 137 #[.agg cc.toArray] w fun e w'=>∃cc',e=.returned (.agg cc'.toArray)∧RxV w' (fun b=>w.heap.size≤b) cc' y∧Below w.heap.size w w' :=
   fun y hy=>vu S N y iG (lK hsmL hy)
  have IH:=ab ih;obtain⟨ix,hix⟩:=info_parts wB;obtain⟨w0,hw0⟩:∃w0,w0=(w.alloc (.cells #[.int .i64 k,.string ⟨c.toArray⟩,.bool ng,.slice ra rs.length rc,.int .i64 lo,.int .i64 hi,.bool lz,.slice ka ks.length kc] 25)).alloc (.cells #[.int .i64 0,.string ⟨#[]⟩,.bool false,.slice none 0 0,.int .i64 0,.int .i64 0,.bool false,.slice none 0 0] 25):=⟨_,rfl⟩;have hb0:Below w.heap.size w w0:=by rw [hw0];exact((Below.refl _ _).alloc (Cp _) _).alloc gF _
  have hz0:w0.heap.size=w.heap.size+2:=by rw [hw0];simp
  have hbx0:w0.heap[w.heap.size]?=some (.cells #[.int .i64 k,.string ⟨c.toArray⟩,.bool ng,.slice ra rs.length rc,.int .i64 lo,.int .i64 hi,.bool lz,.slice ka ks.length kc] 25 (0,0)):=by
   rw [hw0,Below.heap_alloc _ _ _ gF];exact heap_alloc_new w _
  have hby0:w0.heap[w.heap.size+1]?=some (.cells #[.int .i64 0,.string ⟨#[]⟩,.bool false,.slice none 0 0,.int .i64 0,.int .i64 0,.bool false,.slice none 0 0] 25 (0,0)):=by
   rw [hw0];have:=heap_alloc_new (w.alloc (.cells #[.int .i64 k,.string ⟨c.toArray⟩,.bool ng,.slice ra rs.length rc,.int .i64 lo,.int .i64 hi,.bool lz,.slice ka ks.length kc] 25)) (.cells #[.int .i64 0,.string ⟨#[]⟩,.bool false,.slice none 0 0,.int .i64 0,.int .i64 0,.bool false,.slice none 0 0] 25)
   simpa using this
  have HX:=ab hx;have HRS:=ab (hrs.keep (Kept.all hb0)).sl;have HBX0:=ab hbx0;have HBY0:=ab hby0;have HW0:=ab hw0;rw [hw0] at HRS;clear hx hv hrs ih hsmL hbx0 hby0 hw0;unfold rxc;go_enter Tryz.func137,Tryz.ntmps137
  go_wp2_with (go_at_call 164;refine(zx _ _ _ rs _ HRS.out s2).mono ?_)
  rintro e w1 ⟨ra',rc',rfl,hrs1,hb1⟩;rw [←HW0.out] at hb1 hrs1;have hbx1:=(hb1.block _ (jO HBX0.out)).trans HBX0.out;have hby1:=(hb1.block _ (jO HBY0.out)).trans HBY0.out;obtain⟨w2,hw2⟩:∃w2,w2=w1.setCell ⟨w.heap.size,3,none⟩ (.slice ra' rs.length rc'):=⟨_,rfl⟩;have HW2:=ab hw2;obtain⟨e0,e1,e2,e3,e4,e5,e6,e7,e8⟩:=jR hbx1;go_wp2
  rw [←hw2];have hbw1:=bel2 hb0 hb1;have hz1:=hb1.size;have hbw2:Below w.heap.size w w2:=by rw [hw2];exact hbw1.setCell (Cp _) _
  have HBX2:Hid (w2.heap[w.heap.size]?=some (.cells #[.int .i64 k,.string ⟨c.toArray⟩,.bool ng,.slice ra' rs.length rc',.int .i64 lo,.int .i64 hi,.bool lz,.slice ka ks.length kc] 25 (0,0))):=ab (by
   rw [hw2,heap_setCell_same w1 _ _ _ _ _ hbx1];rfl)
  have HBY2:Hid (w2.heap[w.heap.size+1]?=some (.cells #[.int .i64 0,.string ⟨#[]⟩,.bool false,.slice none 0 0,.int .i64 0,.int .i64 0,.bool false,.slice none 0 0] 25 (0,0))):=ab (by
   rw [hw2,heap_setCell_other w1 _ _ _ gF];exact hby1)
  have HRS2:Hid (SlS w2 (fun b=>w.heap.size+2≤b) ra' 2 rs.length (jX rs)):=ab (by
   rw [hw2];rw [hz0] at hrs1;exact hrs1.keep (Kept.setLow _ fun b hb=>by have:w.heap.size+2≤b:=hb;simp;omega))
  have HX2:=ab (HX.out.later hbw2);have hz2:w.heap.size+2≤w2.heap.size:=by rw [hw2];simp [World.setCell];omega
  clear hb1 hbx1 hby1 hrs1 e0 e1 e2 e3 e4 e5 e6 e7 e8 hw2;go_loopw [3,13] (fun v q wr=>ClRel ks w2 v q wr) (fun _ q _=>ks.length-(intOf q).toNat)
  case atStart=>exact eJ
  case round =>
   obtain⟨i,hik,rfl,hb,hox⟩:=hrel;have hB:=hb.size;have hbb:=hbw2.trans (hb.mono gu);cases hd:ks.drop i with
   | nil =>
    have h2:ks.length≤i:=gU;have hbxr:=(hb.block _ (jO HBX2.out)).trans HBX2.out;have hbyr:=(hb.block _ (jO HBY2.out)).trans HBY2.out;obtain⟨e0,e1,e2,e3,e4,e5,e6,e7,e8⟩:=jR hbxr;obtain⟨f0,f1,f2,f3,f4,f5,f6,f7,f8⟩:=jR (c:=[]) hbyr;rw [List.take_of_length_le h2] at hox;obtain⟨css,hown,hrv⟩:=hox;obtain⟨va,vc,rfl⟩:=j7 hown;have hxs:=OwnX.sl ⟨css,hown,hrv⟩;clear hd hown hrv hbxr hbyr;go_wp2
    have HRr:SlS wr (fun b=>w.heap.size+2≤b) ra' 2 rs.length (jX rs):=HRS2.out.keep (Kept.all hb);have hxr:RxSl wr (fun b=>w.heap.size+2≤b) va ks.length ks:=hxs.2.mono fun b hb _=>by have:w2.heap.size≤b:=hb;show w.heap.size+2≤b;omega
    refine CJ (v:=.agg #[.int .i64 k,.string ⟨c.toArray⟩,.bool ng,.slice ra' rs.length rc',.int .i64 lo,.int .i64 hi,.bool lz,.slice va ks.length vc]) (by simp [results,Tryz.results137,go_sem,f0,f1,f2,f3,f4,f5,f6,f7]) rfl ?_;refine⟨rxc k c ng ra' rs.length rc' lo hi lz va ks.length vc,?_,RxV.mono (S:=fun b=>w.heap.size+2≤b) (fun b hb _=>by have:w.heap.size+2≤b:=hb;show w.heap.size≤b;omega) (RxV.close ?_ ?_),?_⟩
    ·rfl
    ·iterate 9 (refine SlS.keep ?_ (Kept.setLow _ (fun b hb=>by have:w.heap.size+2≤b:=hb;simp;omega)))
     exact HRr
    ·iterate 9 (refine RxSl.keep ?_ (Kept.setLow _ (fun b hb=>by have:w.heap.size+2≤b:=hb;simp;omega)))
     exact hxr
    ·iterate 9 (refine Below.setCell ?_ gF _)
     exact hbb
   | cons y r =>
    obtain⟨h2,h3,hr⟩:=j6 hd;have hym:=CF h3;have HYM:=ab (IH.out y hym);have HTK:Hid (ks.take (i+1)=ks.take i++[y]):=ab (by rw [List.take_add_one,h3];rfl);obtain⟨yk,yc,yn,yr,yl,yh,yz,ys⟩:=y;obtain⟨b,o,ya,yrc,yka,ykc,rfl,hS,hbB,_,_,hyv,c0,c1,c2,c3,c4,c5,c6,c7⟩:=(HX2.out.later hb).cells h3;have HYV:=ab (hyv.later ((Below.refl wr.heap.size wr).alloc (Cp _) (.cells (rxc yk yc yn ya yr.length yrc yl yh yz yka ys.length ykc).toArray 25)));unfold rxc at HYV;obtain⟨css,hown,hrv⟩:=hox;have hli:(ks.take i).length=i:=by rw [CK];omega
    rw [hli] at hown;have HLI:=ab hli;clear hli;obtain⟨va,vc,rfl⟩:=j7 hown;have hlt:=hown.lt;have hbr:∀ob:Obj,Below wr.heap.size wr (wr.alloc ob):=fun ob=>(Below.refl _ _).alloc (Cp _) _
    clear hd hr h3 hyv hym;go_wp2_with (go_at_call 137;refine(HYM.out _ _ HYV.out).mono ?_)
    rintro e w3 ⟨cc',rfl,hcv,hb3⟩;obtain⟨za,zc,zka,zkc,rfl,hzr,hzx⟩:=hcv.open_;have hb3':Below wr.heap.size wr w3:=(hbr _).trans (hb3.mono gF);have hz3:=hb3'.size;have ho3:=jZ (jZ hown hb3') ((Below.refl w3.heap.size w3).alloc (Cp _) (.cells (rxc yk yc yn za yr.length zc yl yh yz zka ys.length zkc).toArray 25));have hsl:=Sl.lit (n:=1) (sz:=8) (heap_alloc_new w3 (.cells (rxc yk yc yn za yr.length zc yl yh yz zka ys.length zkc).toArray 25)) rfl;have hrv3:=(hrv.later hb3').later ((Below.refl w3.heap.size w3).alloc (Cp _) (.cells (rxc yk yc yn za yr.length zc yl yh yz zka ys.length zkc).toArray 25));have hcv3:=hcv.later ((Below.refl w3.heap.size w3).alloc (Cp _) (.cells (rxc yk yc yn za yr.length zc yl yh yz zka ys.length zkc).toArray 25));have hone:=hcv.one;unfold rxc at ho3 hsl hrv3 hcv3 hone;have HO3:=ab ho3;have HSL:=ab hsl;have HRV3:=ab hrv3;have HCV3:=ab hcv3;have HONE:=ab hone;clear ho3 hsl hrv3 hcv3 hone hown hrv hcv hzr hzx hb3;unfold rxc;go_wp2_with (at_builtin;refine ke w2.heap.size 25 rfl _ _ 23 rfl Tryz.underlying23 hix rfl gD rfl HO3.out rfl HSL.out HONE.out gu gu gD gH ?_)
    intro v1 w4 ho1 hg1 hb4 hmv;have hox4:OwnX w4 w2.heap.size v1 (ks.take (i+1)):=by
     rw [HTK.out];refine OwnX.app (ds:=[_]) (m:=1) HRV3.out (.cons (HCV3.out.mono fun b hb _=>?_) .nil) rfl ?_ hg1 hmv
     ·have hb':wr.heap.size+1≤b:=by simpa using hb
      exact⟨by omega,fun e=>by have:=(hlt b e).2;omega⟩
     ·rw [HLI.out];simpa using ho1
    have hb4':Below w2.heap.size w2 w4:=(bel2 hb (hb3'.trans ((Below.refl w3.heap.size w3).alloc (Cp _) (.cells #[.int .i64 yk,.string ⟨yc.toArray⟩,.bool yn,.slice za yr.length zc,.int .i64 yl,.int .i64 yh,.bool yz,.slice zka ys.length zkc] 25) |>.mono hz3))).trans hb4;exact cF
open Go.RowKit
def lN (kd:Int) (xs:List Rx):List Rx:=xs.flatMap fun x=>if x.kind=kd then x.kids else [x]
theorem zp (kd:Int) (xs:List Rx) (x:Rx):lN kd (xs++[x])=lN kd xs++(if x.kind=kd then x.kids else [x]):=by simp [lN]
theorem pW (kd:Int):∀xs:List Rx,(lN kd xs).length≤Rx.partsL xs
 | []=>by simp [lN]
 | x::r=>by
  have ih:=pW kd r;have he:lN kd (x::r)=(if x.kind=kd then x.kids else [x])++lN kd r:=by simp [lN]
  have hp:=Rx.parts_pos x;have hk:x.kids.length+1≤x.parts:=by
   obtain⟨_,_,_,_,_,_,_,ks⟩:=x;have:=Rx.len_parts ks
   simp only [Rx.kids,Rx.parts];omega
  rw [he,Cy];simp only [Rx.partsL];split
  ·omega
  ·simp;omega
theorem wT (xs:List Rx):∀i:Nat,Rx.partsL (xs.take i)≤Rx.partsL xs:=by
 induction xs with
 | nil=>intro i;simp
 | cons x r ih =>
  intro i;cases i with
  | zero=>simp [Rx.partsL]
  | succ i=>have:=ih i;simp only [List.take_succ_cons,Rx.partsL];omega
def FlRel (kd:Int) (xs:List Rx) (w:World) (v q:Value) (wr:World):Prop :=
 ∃i:Nat,i≤xs.length∧q=.int .i64 i∧Below w.heap.size w wr∧OwnX wr w.heap.size v (lN kd (xs.take i))
theorem Kept.trans {S:Nat→Prop} {a b c:World} (h1:Kept S a b) (h2:Kept S b c):Kept S a c :=
 ⟨Ct h1.1 h2.1,fun k hk hl=>(h2.2 k hk (Cu hl h1.1)).trans (h1.2 k hk hl)⟩
theorem Kept.sub {S S':Nat→Prop} {a b:World} (h:Kept S a b) (hS:∀k,S' k→S k):Kept S' a b:=⟨h.1,fun k hk hl=>h.2 k (hS k hk) hl⟩
theorem qH {w:World} {B:Nat} {e:TypeId} {sz:Nat} {v:Value} {n:Nat} {xs:List Value} (h:w.ownsRow B e sz v n xs) {a:Addr} (ha:v.ownBlock≠some a.block) (u:Value):(w.setCell a u).ownsRow B e sz v n xs :=
 ownsRow_setCell_other h ha u
theorem x8 (S:Nat→Prop) (kd:Int) (a:Option Addr) (c:Nat) (xs:List Rx) (w:World) (hx:RxSl w S a xs.length xs) (hp:Rx.partsL xs≤1000000) (hsm:Rx.smallL xs) :
  Calls Tryz.prog 112 #[.int .i64 kd,.slice a xs.length c] w fun e w'=>∃a' c',e=.returned (.slice a' (lN kd xs).length c')∧RxSl w' (fun b=>w.heap.size≤b) a' (lN kd xs).length (lN kd xs)∧Below w.heap.size w w':=by
 have HX:=ab hx;have HSM:=ab hsm;have hlp:=Rx.len_parts xs;obtain⟨ix,hix⟩:=info_parts wB;clear hx hsm;go_enter Tryz.func112,Tryz.ntmps112
 go_wp2
 go_loopw [5,10] (fun v q wr=>FlRel kd xs w v q wr) (fun _ q _=>xs.length-(intOf q).toNat)
 case atStart=>exact eJ
 case round =>
  obtain⟨i,hik,rfl,hb,hox⟩:=hrel;have hB:=hb.size;cases hd:xs.drop i with
  | nil =>
   have h2:xs.length≤i:=gU;rw [List.take_of_length_le h2] at hox;obtain⟨css,hown,hrv⟩:=hox;obtain⟨va,vc,rfl⟩:=j7 hown;have HXS:=ab (OwnX.sl ⟨css,hown,hrv⟩).2;clear hd hown hrv;go_wp2
   go_ret
   exact⟨va,vc,rfl,HXS.out,hb⟩
  | cons y r =>
   obtain⟨h2,h3,hr⟩:=j6 hd;have hym:=CF h3;have hyp:=Rx.parts_mem hym;have HYS:=ab (lK HSM.out hym);have HTK:Hid (lN kd (xs.take (i+1))=lN kd (xs.take i)++(if y.kind=kd then y.kids else [y])):=ab (by
    rw [List.take_add_one,h3];exact zp kd _ y)
   have hfl:=pW kd (xs.take i);have hpt:=wT xs i;obtain⟨yk,yc,yn,yr,yl,yh,yz,ys⟩:=y;have hyl:=Rx.len_parts ys;simp only [Rx.parts] at hyp;obtain⟨b,o,ya,yrc,yka,ykc,rfl,hS,hbB,_,_,hyv,c0,c1,c2,c3,c4,c5,c6,c7⟩:=(HX.out.later hb).cells h3;obtain⟨w0,hw0⟩:∃w0,w0=wr.alloc (.cells #[.int .i64 yk,.string ⟨yc.toArray⟩,.bool yn,.slice ya yr.length yrc,.int .i64 yl,.int .i64 yh,.bool yz,.slice yka ys.length ykc] 25):=⟨_,rfl⟩;have hb0:Below wr.heap.size wr w0:=by rw [hw0];exact(Below.refl _ _).alloc (Cp _) _
   have hbx0:w0.heap[wr.heap.size]?=some (.cells #[.int .i64 yk,.string ⟨yc.toArray⟩,.bool yn,.slice ya yr.length yrc,.int .i64 yl,.int .i64 yh,.bool yz,.slice yka ys.length ykc] 25 (0,0)):=by rw [hw0];exact heap_alloc_new wr _
   have HYV:=ab (hyv.later hb0);have hz0:w0.heap.size=wr.heap.size+1:=by rw [hw0];simp
   have HW0:=ab hw0;rw [hw0] at HYV;unfold rxc at HYV;obtain⟨css,hown,hrv⟩:=hox;generalize hFL:lN kd (xs.take i)=fl at *
   obtain⟨va,vc,rfl⟩:=j7 hown;have hlt:=hown.lt;clear hd hr h3 hyv hym hw0;go_wp2_with (go_at_call 137;refine(vu S _ _ (Cp _) HYS.out _ _ HYV.out).mono ?_)
   rintro e w3 ⟨cc',rfl,hcv,hb3⟩;rw [←HW0.out] at hb3 hcv;obtain⟨za,zc,zka,zkc,rfl,hzr,hzx⟩:=hcv.open_;have hb3':=bel2 hb0 hb3;have hz3:=hb3.size;have hbx3:=(hb3.block _ (jO hbx0)).trans hbx0;have HBX3:=ab hbx3;obtain⟨e0,e1,e2,e3,e4,e5,e6,e7,e8⟩:=jR hbx3;have HOWN3:=ab (jZ hown hb3');have HRV0:=ab hrv;have HCV3:=ab hcv;have HZX:=ab hzx;clear hown hrv hcv hzr hzx hbx3;have hgo:∀g,va=some g→g.block≠wr.heap.size:=fun g hg e=>by have:=(hlt g.block (by rw [hg];rfl)).2;omega
   have hob:(Value.slice va fl.length vc).ownBlock≠some wr.heap.size:=fun e=>by have:=(hlt _ e).2;omega
   have hkF:Kept (fun b=>b≠wr.heap.size) w3 ((((((((((w3).setCell ⟨wr.heap.size,0,none⟩ (.int .i64 yk)).setCell ⟨wr.heap.size,1,none⟩ (.string ⟨yc.toArray⟩)).setCell ⟨wr.heap.size,2,none⟩ (.bool yn)).setCell ⟨wr.heap.size,3,none⟩ (.slice za yr.length zc)).setCell ⟨wr.heap.size,4,none⟩ (.int .i64 yl)).setCell ⟨wr.heap.size,5,none⟩ (.int .i64 yh)).setCell ⟨wr.heap.size,6,none⟩ (.bool yz)).setCell ⟨wr.heap.size,7,none⟩ (.slice zka ys.length zkc))):=by
    iterate 7 (refine Kept.trans ?_ (Kept.setLow _ (fun b hb=>hb)))
    exact Kept.setLow _ (fun b hb=>hb)
   have hoF:((((((((((w3).setCell ⟨wr.heap.size,0,none⟩ (.int .i64 yk)).setCell ⟨wr.heap.size,1,none⟩ (.string ⟨yc.toArray⟩)).setCell ⟨wr.heap.size,2,none⟩ (.bool yn)).setCell ⟨wr.heap.size,3,none⟩ (.slice za yr.length zc)).setCell ⟨wr.heap.size,4,none⟩ (.int .i64 yl)).setCell ⟨wr.heap.size,5,none⟩ (.int .i64 yh)).setCell ⟨wr.heap.size,6,none⟩ (.bool yz)).setCell ⟨wr.heap.size,7,none⟩ (.slice zka ys.length zkc))).ownsRow w.heap.size 25 8 (.slice va fl.length vc) fl.length css.flatten:=by
    iterate 8 (refine qH ?_ hob _)
    exact HOWN3.out
   have hrF:RxVs ((((((((((w3).setCell ⟨wr.heap.size,0,none⟩ (.int .i64 yk)).setCell ⟨wr.heap.size,1,none⟩ (.string ⟨yc.toArray⟩)).setCell ⟨wr.heap.size,2,none⟩ (.bool yn)).setCell ⟨wr.heap.size,3,none⟩ (.slice za yr.length zc)).setCell ⟨wr.heap.size,4,none⟩ (.int .i64 yl)).setCell ⟨wr.heap.size,5,none⟩ (.int .i64 yh)).setCell ⟨wr.heap.size,6,none⟩ (.bool yz)).setCell ⟨wr.heap.size,7,none⟩ (.slice zka ys.length zkc))) (fun b=>w.heap.size≤b∧(Value.slice va fl.length vc).ownBlock≠some b) css fl :=
    ((RxVs.keep (S:=fun b=>(w.heap.size≤b∧(Value.slice va fl.length vc).ownBlock≠some b)∧b<wr.heap.size) (hkF.sub fun b hb e=>by have:=hb.2;omega)
     ((HRV0.out.mono (fun b hb hl=>⟨hb,hl⟩)).later hb3')).mono fun b hb _=>hb.1)
   have hcF:RxV ((((((((((w3).setCell ⟨wr.heap.size,0,none⟩ (.int .i64 yk)).setCell ⟨wr.heap.size,1,none⟩ (.string ⟨yc.toArray⟩)).setCell ⟨wr.heap.size,2,none⟩ (.bool yn)).setCell ⟨wr.heap.size,3,none⟩ (.slice za yr.length zc)).setCell ⟨wr.heap.size,4,none⟩ (.int .i64 yl)).setCell ⟨wr.heap.size,5,none⟩ (.int .i64 yh)).setCell ⟨wr.heap.size,6,none⟩ (.bool yz)).setCell ⟨wr.heap.size,7,none⟩ (.slice zka ys.length zkc))) (fun b=>w.heap.size≤b∧(Value.slice va fl.length vc).ownBlock≠some b) [.int .i64 yk,.string ⟨yc.toArray⟩,.bool yn,.slice za yr.length zc,.int .i64 yl,.int .i64 yh,.bool yz,.slice zka ys.length zkc] (.mk yk yc yn yr yl yh yz ys) :=
    (HCV3.out.keep (hkF.sub fun b hb e=>by have:w0.heap.size≤b:=hb;omega)).mono fun b hb _=>by
     have hb':w0.heap.size≤b:=hb;exact⟨by omega,fun e=>by have:=(hlt b e).2;omega⟩
   have hbF:Below w.heap.size w ((((((((((w3).setCell ⟨wr.heap.size,0,none⟩ (.int .i64 yk)).setCell ⟨wr.heap.size,1,none⟩ (.string ⟨yc.toArray⟩)).setCell ⟨wr.heap.size,2,none⟩ (.bool yn)).setCell ⟨wr.heap.size,3,none⟩ (.slice za yr.length zc)).setCell ⟨wr.heap.size,4,none⟩ (.int .i64 yl)).setCell ⟨wr.heap.size,5,none⟩ (.int .i64 yh)).setCell ⟨wr.heap.size,6,none⟩ (.bool yz)).setCell ⟨wr.heap.size,7,none⟩ (.slice zka ys.length zkc))):=by
    iterate 8 (refine Below.setCell ?_ gH _)
    exact bel2 hb hb3'
   have HOF:=ab hoF;have HRF:=ab hrF;have HCF:=ab hcF;have hzF:w.heap.size≤((((((((((w3).setCell ⟨wr.heap.size,0,none⟩ (.int .i64 yk)).setCell ⟨wr.heap.size,1,none⟩ (.string ⟨yc.toArray⟩)).setCell ⟨wr.heap.size,2,none⟩ (.bool yn)).setCell ⟨wr.heap.size,3,none⟩ (.slice za yr.length zc)).setCell ⟨wr.heap.size,4,none⟩ (.int .i64 yl)).setCell ⟨wr.heap.size,5,none⟩ (.int .i64 yh)).setCell ⟨wr.heap.size,6,none⟩ (.bool yz)).setCell ⟨wr.heap.size,7,none⟩ (.slice zka ys.length zkc))).heap.size:=hbF.size;clear hkF hoF hrF hcF;by_cases hkk:yk=kd
   ·have hkb:(yk==kd)=true:=by simpa using hkk
    have HTK2:Hid (lN kd (xs.take (i+1))=fl++ys):=ab (by rw [HTK.out,Cl (show (Rx.mk yk yc yn yr yl yh yz ys).kind=kd from hkk)];rfl);obtain⟨_,_,_,_,hq,_,hzF2⟩:=HCF.out.open_;unfold rxc at hq;simp only [List.cons.injEq,Value.slice.injEq,and_true,true_and] at hq;obtain⟨⟨rfl,rfl⟩,rfl,rfl⟩:=hq;obtain⟨ds,hds,hdv⟩:=hzF2;have HDS:=ab hds.sl;have HDV:=ab hdv;clear hkk hds hdv;unfold rxc;go_wp2_with (at_builtin;refine ke w.heap.size 25 rfl _ _ 23 rfl Tryz.underlying23 hix rfl gD rfl HOF.out rfl HDS.out HDV.out.one gu gu gD hzF ?_)
    intro v1 w4 ho1 hg1 hb4 hmv;have hox4:OwnX w4 w.heap.size v1 (lN kd (xs.take (i+1))):=by
     rw [HTK2.out];exact OwnX.app HRF.out HDV.out rfl ho1 hg1 hmv
    have hb4':=hbF.trans hb4;exact cF
   ·have hkb:(yk==kd)=false:=by simpa using hkk
    have HTK2:Hid (lN kd (xs.take (i+1))=fl++[.mk yk yc yn yr yl yh yz ys]):=ab (by rw [HTK.out,Co (show ¬(Rx.mk yk yc yn yr yl yh yz ys).kind=kd from hkk)]);have hsl:=Sl.lit (n:=1) (sz:=8) (heap_alloc_new ((((((((((w3).setCell ⟨wr.heap.size,0,none⟩ (.int .i64 yk)).setCell ⟨wr.heap.size,1,none⟩ (.string ⟨yc.toArray⟩)).setCell ⟨wr.heap.size,2,none⟩ (.bool yn)).setCell ⟨wr.heap.size,3,none⟩ (.slice za yr.length zc)).setCell ⟨wr.heap.size,4,none⟩ (.int .i64 yl)).setCell ⟨wr.heap.size,5,none⟩ (.int .i64 yh)).setCell ⟨wr.heap.size,6,none⟩ (.bool yz)).setCell ⟨wr.heap.size,7,none⟩ (.slice zka ys.length zkc))) (.cells #[.int .i64 yk,.string ⟨yc.toArray⟩,.bool yn,.slice za yr.length zc,.int .i64 yl,.int .i64 yh,.bool yz,.slice zka ys.length zkc] 25)) rfl;have hszF:((((((((((w3).setCell ⟨wr.heap.size,0,none⟩ (.int .i64 yk)).setCell ⟨wr.heap.size,1,none⟩ (.string ⟨yc.toArray⟩)).setCell ⟨wr.heap.size,2,none⟩ (.bool yn)).setCell ⟨wr.heap.size,3,none⟩ (.slice za yr.length zc)).setCell ⟨wr.heap.size,4,none⟩ (.int .i64 yl)).setCell ⟨wr.heap.size,5,none⟩ (.int .i64 yh)).setCell ⟨wr.heap.size,6,none⟩ (.bool yz)).setCell ⟨wr.heap.size,7,none⟩ (.slice zka ys.length zkc))).heap.size=w3.heap.size:=jF;rw [hszF] at hsl;have hone:=HCF.out.one;have ho3:=jZ HOF.out ((Below.refl ((((((((((w3).setCell ⟨wr.heap.size,0,none⟩ (.int .i64 yk)).setCell ⟨wr.heap.size,1,none⟩ (.string ⟨yc.toArray⟩)).setCell ⟨wr.heap.size,2,none⟩ (.bool yn)).setCell ⟨wr.heap.size,3,none⟩ (.slice za yr.length zc)).setCell ⟨wr.heap.size,4,none⟩ (.int .i64 yl)).setCell ⟨wr.heap.size,5,none⟩ (.int .i64 yh)).setCell ⟨wr.heap.size,6,none⟩ (.bool yz)).setCell ⟨wr.heap.size,7,none⟩ (.slice zka ys.length zkc))).heap.size ((((((((((w3).setCell ⟨wr.heap.size,0,none⟩ (.int .i64 yk)).setCell ⟨wr.heap.size,1,none⟩ (.string ⟨yc.toArray⟩)).setCell ⟨wr.heap.size,2,none⟩ (.bool yn)).setCell ⟨wr.heap.size,3,none⟩ (.slice za yr.length zc)).setCell ⟨wr.heap.size,4,none⟩ (.int .i64 yl)).setCell ⟨wr.heap.size,5,none⟩ (.int .i64 yh)).setCell ⟨wr.heap.size,6,none⟩ (.bool yz)).setCell ⟨wr.heap.size,7,none⟩ (.slice zka ys.length zkc)))).alloc (Cp _) (.cells #[.int .i64 yk,.string ⟨yc.toArray⟩,.bool yn,.slice za yr.length zc,.int .i64 yl,.int .i64 yh,.bool yz,.slice zka ys.length zkc] 25));have hrv3:=HRF.out.later ((Below.refl ((((((((((w3).setCell ⟨wr.heap.size,0,none⟩ (.int .i64 yk)).setCell ⟨wr.heap.size,1,none⟩ (.string ⟨yc.toArray⟩)).setCell ⟨wr.heap.size,2,none⟩ (.bool yn)).setCell ⟨wr.heap.size,3,none⟩ (.slice za yr.length zc)).setCell ⟨wr.heap.size,4,none⟩ (.int .i64 yl)).setCell ⟨wr.heap.size,5,none⟩ (.int .i64 yh)).setCell ⟨wr.heap.size,6,none⟩ (.bool yz)).setCell ⟨wr.heap.size,7,none⟩ (.slice zka ys.length zkc))).heap.size ((((((((((w3).setCell ⟨wr.heap.size,0,none⟩ (.int .i64 yk)).setCell ⟨wr.heap.size,1,none⟩ (.string ⟨yc.toArray⟩)).setCell ⟨wr.heap.size,2,none⟩ (.bool yn)).setCell ⟨wr.heap.size,3,none⟩ (.slice za yr.length zc)).setCell ⟨wr.heap.size,4,none⟩ (.int .i64 yl)).setCell ⟨wr.heap.size,5,none⟩ (.int .i64 yh)).setCell ⟨wr.heap.size,6,none⟩ (.bool yz)).setCell ⟨wr.heap.size,7,none⟩ (.slice zka ys.length zkc)))).alloc (Cp _) (.cells #[.int .i64 yk,.string ⟨yc.toArray⟩,.bool yn,.slice za yr.length zc,.int .i64 yl,.int .i64 yh,.bool yz,.slice zka ys.length zkc] 25))
    have hcv3:=HCF.out.later ((Below.refl ((((((((((w3).setCell ⟨wr.heap.size,0,none⟩ (.int .i64 yk)).setCell ⟨wr.heap.size,1,none⟩ (.string ⟨yc.toArray⟩)).setCell ⟨wr.heap.size,2,none⟩ (.bool yn)).setCell ⟨wr.heap.size,3,none⟩ (.slice za yr.length zc)).setCell ⟨wr.heap.size,4,none⟩ (.int .i64 yl)).setCell ⟨wr.heap.size,5,none⟩ (.int .i64 yh)).setCell ⟨wr.heap.size,6,none⟩ (.bool yz)).setCell ⟨wr.heap.size,7,none⟩ (.slice zka ys.length zkc))).heap.size ((((((((((w3).setCell ⟨wr.heap.size,0,none⟩ (.int .i64 yk)).setCell ⟨wr.heap.size,1,none⟩ (.string ⟨yc.toArray⟩)).setCell ⟨wr.heap.size,2,none⟩ (.bool yn)).setCell ⟨wr.heap.size,3,none⟩ (.slice za yr.length zc)).setCell ⟨wr.heap.size,4,none⟩ (.int .i64 yl)).setCell ⟨wr.heap.size,5,none⟩ (.int .i64 yh)).setCell ⟨wr.heap.size,6,none⟩ (.bool yz)).setCell ⟨wr.heap.size,7,none⟩ (.slice zka ys.length zkc)))).alloc (Cp _) (.cells #[.int .i64 yk,.string ⟨yc.toArray⟩,.bool yn,.slice za yr.length zc,.int .i64 yl,.int .i64 yh,.bool yz,.slice zka ys.length zkc] 25));have HO3:=ab ho3;have HSL:=ab hsl;have HRV3':=ab hrv3;have HCV3':=ab hcv3;have HONE:=ab hone;have hzF':w.heap.size≤(((((((((((w3).setCell ⟨wr.heap.size,0,none⟩ (.int .i64 yk)).setCell ⟨wr.heap.size,1,none⟩ (.string ⟨yc.toArray⟩)).setCell ⟨wr.heap.size,2,none⟩ (.bool yn)).setCell ⟨wr.heap.size,3,none⟩ (.slice za yr.length zc)).setCell ⟨wr.heap.size,4,none⟩ (.int .i64 yl)).setCell ⟨wr.heap.size,5,none⟩ (.int .i64 yh)).setCell ⟨wr.heap.size,6,none⟩ (.bool yz)).setCell ⟨wr.heap.size,7,none⟩ (.slice zka ys.length zkc))).alloc (.cells #[.int .i64 yk,.string ⟨yc.toArray⟩,.bool yn,.slice za yr.length zc,.int .i64 yl,.int .i64 yh,.bool yz,.slice zka ys.length zkc] 25)).heap.size:=by rw [CL];omega
    have hbF':=hbF.alloc hzF (.cells #[.int .i64 yk,.string ⟨yc.toArray⟩,.bool yn,.slice za yr.length zc,.int .i64 yl,.int .i64 yh,.bool yz,.slice zka ys.length zkc] 25);clear hkk ho3 hsl hrv3 hcv3 hone;unfold rxc;go_wp2_with (at_builtin;refine ke w.heap.size 25 rfl _ _ 23 rfl Tryz.underlying23 hix rfl gD rfl HO3.out rfl HSL.out HONE.out gu gu gD hzF' ?_)
    intro v1 w4 ho1 hg1 hb4 hmv;have hox4:OwnX w4 w.heap.size v1 (lN kd (xs.take (i+1))):=by
     rw [HTK2.out];exact OwnX.app (ds:=[_]) (m:=1) HRV3'.out (.cons HCV3'.out .nil) rfl (by simpa using ho1) hg1 hmv
    have hb4':=hbF'.trans hb4;exact cF
end Go.Proofs.YtjggmmaojklmpaaGreat
