/- walks of rxtree: Seq, Alt -/
import Derived.Test.YtbnkaecmgfolpaaGreatHb4
import Derived.StillTailTactics
set_option maxRecDepth 100000
set_option maxHeartbeats 4000000
namespace Go.Proofs.YtbnkaecmgfolpaaGreat
open Go.RowKit
def mE (l:List Rx):Rx:=.mk 0 [] false [] 0 0 false l
def pZ (l:List Rx):Rx:=.mk 1 [] false [] 0 0 false l
def seqR (xs:List Rx):Rx:=match jT 0 xs with|[x]=>x|l=>mE l
def altR (xs:List Rx):Rx:=match jT 1 xs with|[]=>mE []|[x]=>x|l=>pZ l
theorem ue (S:Nat→Prop) (a:Option Addr) (c:Nat) (xs:List Rx) (w:World) (hx:RxSl w S a xs.length xs) (hp:Rx.partsL xs≤1000000) (hsm:Rx.smallL xs) :
  Calls Tryz.prog 18 #[.slice a xs.length c] w fun e w'=>∃cc',e=.returned (.agg cc'.toArray)∧RxV w' (fun b=>w.heap.size≤b) cc' (seqR xs)∧Below w.heap.size w w':=by
 unfold seqR;obtain⟨w0,hw0⟩:∃w0,w0=w.alloc (.cells #[.int .i64 0,.string ⟨#[]⟩,.bool false,.slice none 0 0,.int .i64 0,.int .i64 0,.bool false,.slice none 0 0] 25):=⟨_,rfl⟩;have hb0:Below w.heap.size w w0:=by rw [hw0];exact(Below.refl _ _).alloc (zP _) _
 have hz0:w0.heap.size=w.heap.size+1:=by rw [hw0];simp
 have hby0:w0.heap[w.heap.size]?=some (.cells #[.int .i64 0,.string ⟨#[]⟩,.bool false,.slice none 0 0,.int .i64 0,.int .i64 0,.bool false,.slice none 0 0] 25 (0,0)):=by rw [hw0];exact heap_alloc_new w _
 have HX0:=ab (hx.later hb0);rw [hw0] at HX0;have HSM:=ab hsm;have HW0:=ab hw0;have HBY0:=ab hby0;have hfl:=oE 0 xs;clear hx hsm hw0 hby0;generalize hL:jT 0 xs=L at *
 go_enter Tryz.func18,Tryz.ntmps18
 go_wp2_with (go_at_call 40;refine(vr S 0 _ _ xs _ HX0.out hp HSM.out).mono ?_)
 rintro e w1 ⟨a1,c1,rfl,hx1,hb1⟩;rw [hL] at hx1 ⊢;rw [←HW0.out] at hb1 hx1;have hbw1:=bel2 hb0 hb1;obtain⟨f0,f1,f2,f3,f4,f5,f6,f7,f8⟩:=iR (c:=[]) ((hb1.block _ (iN HBY0.out)).trans HBY0.out);replace hx1:RxSl w1 (fun b=>w.heap.size+1≤b) a1 L.length L:=hx1.mono fun b hb _=>by have:w0.heap.size≤b:=hb;show w.heap.size+1≤b;omega
 clear hL hb1;rcases L with _|⟨y,_|⟨z,L⟩⟩
 ·have HX1:=ab hx1
  clear hx1;go_wp2
  refine Al (v:=.agg #[.int .i64 0,.string ⟨[].toArray⟩,.bool false,.slice none ([]:List (Str × Str)).length 0,.int .i64 0,.int .i64 0,.bool false,.slice a1 ([]:List Rx).length c1]) gd rfl ?_;refine⟨rxc 0 [] false none ([]:List (Str × Str)).length 0 0 0 false a1 ([]:List Rx).length c1,rfl,RxV.mono (S:=fun b=>w.heap.size+1≤b) (fun b hb _=>by have:w.heap.size+1≤b:=hb;show w.heap.size≤b;omega) (RxV.close ?_ ?_),?_⟩
  ·exact bS
  ·exact cn
  ·exact eH
 ·obtain⟨yk,yc,yn,yr,yl,yh,yz,ys⟩:=y
  obtain⟨b,o,ya,yrc,yka,ykc,rfl,hS,hbB,hyr,hyx,hyv,c0,c1',c2,c3,c4,c5,c6,c7⟩:=hx1.cells (m:=0) rfl;simp only [Nat.zero_mul,Nat.add_zero] at c0 c1' c2 c3 c4 c5 c6 c7;have HYR:=ab hyr;have HYX:=ab hyx;clear hyr hyx hyv;go_wp2
  refine Al (v:=.agg #[.int .i64 yk,.string ⟨yc.toArray⟩,.bool yn,.slice ya yr.length yrc,.int .i64 yl,.int .i64 yh,.bool yz,.slice yka ys.length ykc]) gd rfl ?_;exact bG
 ·have HX1:=ab hx1
  have hne:(((z::L).length:Int)+1==1)=false:=by rw [Aj];simp;omega
  have hne2:((L.length:Int)+1+1==1)=false:=by rw [Aj];omega
  clear hx1;go_wp2
  refine Al (v:=.agg #[.int .i64 0,.string ⟨[].toArray⟩,.bool false,.slice none ([]:List (Str × Str)).length 0,.int .i64 0,.int .i64 0,.bool false,.slice a1 (y::z::L).length c1]) gd rfl ?_;refine⟨rxc 0 [] false none ([]:List (Str × Str)).length 0 0 0 false a1 (y::z::L).length c1,rfl,RxV.mono (S:=fun b=>w.heap.size+1≤b) (fun b hb _=>by have:w.heap.size+1≤b:=hb;show w.heap.size≤b;omega) (RxV.close ?_ ?_),?_⟩
  ·exact bS
  ·exact cn
  ·exact eH
theorem Alt_any (S:Nat→Prop) (a:Option Addr) (c:Nat) (xs:List Rx) (w:World) (hx:RxSl w S a xs.length xs) (hp:Rx.partsL xs≤1000000) (hsm:Rx.smallL xs) :
  Calls Tryz.prog 77 #[.slice a xs.length c] w fun e w'=>∃cc',e=.returned (.agg cc'.toArray)∧RxV w' (fun b=>w.heap.size≤b) cc' (altR xs)∧Below w.heap.size w w':=by
 unfold altR;obtain⟨w0,hw0⟩:∃w0,w0=w.alloc (.cells #[.int .i64 0,.string ⟨#[]⟩,.bool false,.slice none 0 0,.int .i64 0,.int .i64 0,.bool false,.slice none 0 0] 25):=⟨_,rfl⟩;have hb0:Below w.heap.size w w0:=by rw [hw0];exact(Below.refl _ _).alloc (zP _) _
 have hz0:w0.heap.size=w.heap.size+1:=by rw [hw0];simp
 have hby0:w0.heap[w.heap.size]?=some (.cells #[.int .i64 0,.string ⟨#[]⟩,.bool false,.slice none 0 0,.int .i64 0,.int .i64 0,.bool false,.slice none 0 0] 25 (0,0)):=by rw [hw0];exact heap_alloc_new w _
 have HX0:=ab (hx.later hb0);rw [hw0] at HX0;have HSM:=ab hsm;have HW0:=ab hw0;have HBY0:=ab hby0;have hfl:=oE 1 xs;clear hx hsm hw0 hby0;generalize hL:jT 1 xs=L at *
 go_enter Tryz.func77,Tryz.ntmps77
 go_wp2_with (go_at_call 40;refine(vr S 1 _ _ xs _ HX0.out hp HSM.out).mono ?_)
 rintro e w1 ⟨a1,c1,rfl,hx1,hb1⟩;rw [hL] at hx1 ⊢;rw [←HW0.out] at hb1 hx1;have hbw1:=bel2 hb0 hb1;obtain⟨f0,f1,f2,f3,f4,f5,f6,f7,f8⟩:=iR (c:=[]) ((hb1.block _ (iN HBY0.out)).trans HBY0.out);replace hx1:RxSl w1 (fun b=>w.heap.size+1≤b) a1 L.length L:=hx1.mono fun b hb _=>by have:w0.heap.size≤b:=hb;show w.heap.size+1≤b;omega
 clear hL hb1;rcases L with _|⟨y,_|⟨z,L⟩⟩
 ·clear hx1
  go_wp2
  refine Al (v:=.agg #[.int .i64 0,.string ⟨[].toArray⟩,.bool false,.slice none ([]:List (Str × Str)).length 0,.int .i64 0,.int .i64 0,.bool false,.slice none ([]:List Rx).length 0]) gf rfl ?_;refine⟨rxc 0 [] false none ([]:List (Str × Str)).length 0 0 0 false none ([]:List Rx).length 0,rfl,RxV.mono (S:=fun b=>w.heap.size+1≤b) (fun b hb _=>by have:w.heap.size+1≤b:=hb;show w.heap.size≤b;omega) (RxV.close ?_ ?_),?_⟩
  ·exact bS
  ·iterate 8 (refine RxSl.keep ?_ (Kept.setLow _ (fun b hb=>by have:w.heap.size+1≤b:=hb;simp;omega)))
   exact⟨[],SlS.none_ _ _ _ _,.nil⟩
  ·exact eH
 ·obtain⟨yk,yc,yn,yr,yl,yh,yz,ys⟩:=y
  obtain⟨b,o,ya,yrc,yka,ykc,rfl,hS,hbB,hyr,hyx,hyv,c0,c1',c2,c3,c4,c5,c6,c7⟩:=hx1.cells (m:=0) rfl;simp only [Nat.zero_mul,Nat.add_zero] at c0 c1' c2 c3 c4 c5 c6 c7;have HYR:=ab hyr;have HYX:=ab hyx;clear hyr hyx hyv;go_wp2
  refine Al (v:=.agg #[.int .i64 yk,.string ⟨yc.toArray⟩,.bool yn,.slice ya yr.length yrc,.int .i64 yl,.int .i64 yh,.bool yz,.slice yka ys.length ykc]) gf rfl ?_;exact bG
 ·have HX1:=ab hx1
  have hne0:((L.length:Int)+1+1==0)=false:=by rw [Aj];omega
  have hne2:((L.length:Int)+1+1==1)=false:=by rw [Aj];omega
  clear hx1;go_wp2
  refine Al (v:=.agg #[.int .i64 1,.string ⟨[].toArray⟩,.bool false,.slice none ([]:List (Str × Str)).length 0,.int .i64 0,.int .i64 0,.bool false,.slice a1 (y::z::L).length c1]) gf rfl ?_;refine⟨rxc 1 [] false none ([]:List (Str × Str)).length 0 0 0 false a1 (y::z::L).length c1,rfl,RxV.mono (S:=fun b=>w.heap.size+1≤b) (fun b hb _=>by have:w.heap.size+1≤b:=hb;show w.heap.size≤b;omega) (RxV.close ?_ ?_),?_⟩
  ·exact bS
  ·exact cn
  ·exact eH
theorem jK:∀a:Str,Op.bytesLess a a=false
 | []=>rfl
 | c::r=>by simp [Op.bytesLess,jK r]
theorem lR:∀{a b c:Str},Op.bytesLess a b=true→Op.bytesLess b c=true→Op.bytesLess a c=true
 | _,[],_,h,_=>by simp [Op.bytesLess] at h
 | _,_::_,[],_,h=>by simp [Op.bytesLess] at h
 | [],_::_,_::_,_,_=>rfl
 | x::a,y::b,z::c,h1,h2=>by
  simp only [Op.bytesLess,Ai,Am,zJ,zI] at h1 h2 ⊢;rcases h1 with h1|⟨rfl,h1⟩<;>rcases h2 with h2|⟨rfl,h2⟩
  ·exact .inl (UInt8.lt_trans h1 h2)
  ·exact .inl h1
  ·exact .inl h2
  ·exact .inr ⟨rfl,lR h1 h2⟩
theorem lZ:∀a b:Str,Op.bytesLess a b=true∨a=b∨Op.bytesLess b a=true
 | [],[]=>.inr (.inl rfl)
 | [],_::_=>.inl rfl
 | _::_,[]=>.inr (.inr rfl)
 | x::a,y::b=>by
  simp only [Op.bytesLess,Ai,Am,zJ,zI];rcases Nat.lt_trichotomy x.toNat y.toNat with h|h|h
  ·exact .inl (.inl (UInt8.lt_iff_toNat_lt.2 h))
  ·obtain rfl:=zK.1 h
   rcases lZ a b with h|rfl|h
   ·exact .inl (.inr ⟨rfl,h⟩)
   ·exact .inr (.inl rfl)
   ·exact .inr (.inr (.inr ⟨rfl,h⟩))
  ·exact .inr (.inr (.inl (UInt8.lt_iff_toNat_lt.2 h)))
theorem nl {a b:Str} (h:Op.bytesLess a b=true):Op.bytesLess b a=false:=by
 cases h2:Op.bytesLess b a with
 | false=>rfl
 | true=>have:=lR h h2;rw [jK] at this;cases this
def cmpS (a b:Str):Int:=if Op.bytesLess a b=true then -1 else if a=b then 0 else 1
def cmpR (a b:Str × Str):Int:=if cmpS a.1 b.1=0 then cmpS a.2 b.2 else cmpS a.1 b.1
theorem oX (a b:Str):(cmpS a b=-1∧Op.bytesLess a b=true)∨(cmpS a b=0∧a=b)∨(cmpS a b=1∧Op.bytesLess b a=true):=by
 unfold cmpS;rcases lZ a b with h|rfl|h
 ·rw [zL h];exact .inl ⟨rfl,h⟩
 ·rw [zO (by rw [jK];simp),zL rfl];exact .inr (.inl ⟨rfl,rfl⟩)
 ·have h2:=nl h
  rw [zO (by rw [h2];simp),zO (by rintro rfl;rw [jK] at h;cases h)];exact .inr (.inr ⟨rfl,h⟩)
theorem xp (a:Str) (w:World):Calls Tryz.prog 80 #[.string ⟨a.toArray⟩] w fun e w'=>e=.returned (.bool false)∧w=w':=by
 go_enter Tryz.func80,Tryz.ntmps80
 go_wp2
 go_ret
 exact⟨i9 fq,rfl⟩
theorem qj (a b:Str) (w:World):Calls Tryz.prog 49 #[.string ⟨a.toArray⟩,.string ⟨b.toArray⟩] w fun e w'=>e=.returned (.int .i64 (cmpS a b))∧w=w':=by
 have hc:=ab (oX a b);generalize hR:cmpS a b=R
 have HR:=ab hR;clear hR;rcases lZ a b with h|rfl|h
 ·have HE:Hid (R=-1):=ab (by rw [←HR.out];unfold cmpS;rw [zL h])
  exact bX
 ·have HE:Hid (R=0):=ab (by rw [←HR.out];unfold cmpS;rw [zO (by rw [jK];simp),zL rfl])
  have h1:=jK a;have h2:leS a a=true:=by simp [leS]
  exact bX
 ·have h2:=nl h
  have hne:a≠b:=by rintro rfl;rw [jK] at h;cases h
  have HE:Hid (R=1):=ab (by rw [←HR.out];unfold cmpS;rw [zO (by rw [h2];simp),zO hne]);have h3:leS a b=false:=by simp [leS,h2,hne]
  have h4:(a==b)=false:=by simpa using hne
  exact bX
def OrRel (a b:Int) (w:World) (q:Value) (wr:World):Prop:=wr=w∧(q=.int .i64 0∨(q=.int .i64 1∧a=0)∨(q=.int .i64 2∧a=0∧b=0))
theorem Or_any (a b:Int) (g c:Nat) (w:World) (h0:w.cell? ⟨g,0,none⟩=some (.int .i64 a)) (h1:w.cell? ⟨g,1,none⟩=some (.int .i64 b)) :
  Calls Tryz.prog 48 #[.slice (some ⟨g,0,none⟩) 2 c] w fun e w'=>e=.returned (.int .i64 (if a=0 then b else a))∧w=w':=by
 go_enter Tryz.func48,Tryz.ntmps48
 by_cases ha:a=0
 ·subst ha
  by_cases hb:b=0
  ·subst hb
   go_wp2
   go_loopw [8] (fun q wr=>OrRel 0 0 w q wr) (fun q _=>2-(intOf q).toNat)
   case atStart=>exact⟨rfl,.inl rfl⟩
   case round =>
    obtain⟨rfl,rfl|⟨rfl,_⟩|⟨rfl,_⟩⟩:=hrel
    ·exact dG
    ·go_wp2
     go_roundw
     case rel=>exact⟨rfl,.inr (.inr ⟨rfl,rfl,rfl⟩)⟩
     case measure=>simp [intOf]
    ·exact cM
  ·have hbb:(b==0)=false:=by simpa using hb
   have hbb':(b != 0)=true:=by simpa using hb
   have HB:=ab hb;clear hb;go_wp2
   go_loopw [8] (fun q wr=>OrRel 0 b w q wr) (fun q _=>2-(intOf q).toNat)
   case atStart=>exact⟨rfl,.inl rfl⟩
   case round =>
    obtain⟨rfl,rfl|⟨rfl,_⟩|⟨rfl,_,hx⟩⟩:=hrel
    ·exact dG
    ·go_wp2
     go_ret
     exact⟨mU fq,rfl⟩
    ·exact absurd hx HB.out
 ·have haa:(a==0)=false:=by simpa using ha
  have haa':(a != 0)=true:=by simpa using ha
  have HA:=ab ha;clear ha;go_wp2
  go_loopw [8] (fun q wr=>OrRel a b w q wr) (fun q _=>2-(intOf q).toNat)
  case atStart=>exact⟨rfl,.inl rfl⟩
  case round =>
   obtain⟨rfl,rfl|⟨rfl,hx⟩|⟨rfl,hx,_⟩⟩:=hrel
   ·go_wp2
    go_ret
    exact⟨mU (by first|rfl|rw [zO HA.out]),rfl⟩
   ·exact absurd hx HA.out
   ·exact absurd hx HA.out
theorem pC (a b:Str × Str) (w:World) :
  Calls Tryz.prog 47 #[.agg #[.string ⟨(a.1).toArray⟩,.string ⟨(a.2).toArray⟩],.agg #[.string ⟨(b.1).toArray⟩,.string ⟨(b.2).toArray⟩]] w fun e w'=>e=.returned (.int .i64 (cmpR a b))∧Below w.heap.size w w':=by
 obtain⟨a1,a2⟩:=a;obtain⟨b1,b2⟩:=b;generalize hR:cmpR (a1,a2) (b1,b2)=R
 have HR:=ab hR;clear hR;obtain⟨W,hW⟩:∃W,W=(w.alloc (.cells #[.string ⟨a1.toArray⟩,.string ⟨a2.toArray⟩] 58)).alloc (.cells #[.string ⟨b1.toArray⟩,.string ⟨b2.toArray⟩] 58):=⟨_,rfl⟩;have hb0:Below w.heap.size w W:=by rw [hW];exact((Below.refl _ _).alloc (zP _) _).alloc fq _
 have d0:W.cell? ⟨w.heap.size,0,none⟩=some (.string ⟨a1.toArray⟩):=by rw [hW];simp
 have d1:W.cell? ⟨w.heap.size,1,none⟩=some (.string ⟨a2.toArray⟩):=by rw [hW];simp
 have d2:W.cell? ⟨w.heap.size+1,0,none⟩=some (.string ⟨b1.toArray⟩):=by rw [hW];simp
 have d3:W.cell? ⟨w.heap.size+1,1,none⟩=some (.string ⟨b2.toArray⟩):=by rw [hW];simp
 have HC1:Hid (∀w,Calls Tryz.prog 49 #[.string ⟨a1.toArray⟩,.string ⟨b1.toArray⟩] w fun e w'=>e=.returned (.int .i64 (cmpS a1 b1))∧w'=w):=ab (fun w=>(qj a1 b1 w).mono fun _ _ ⟨h1,h2⟩=>⟨h1,h2.symm⟩);have HC2:Hid (∀w,Calls Tryz.prog 49 #[.string ⟨a2.toArray⟩,.string ⟨b2.toArray⟩] w fun e w'=>e=.returned (.int .i64 (cmpS a2 b2))∧w'=w):=ab (fun w=>(qj a2 b2 w).mono fun _ _ ⟨h1,h2⟩=>⟨h1,h2.symm⟩);generalize hc1:cmpS a1 b1=c1 at *
 generalize hc2:cmpS a2 b2=c2 at *
 have HRR:Hid (R=if c1=0 then c2 else c1):=ab (by rw [←HR.out];unfold cmpR;rw [←hc1,←hc2]);clear hc1 hc2 HR;go_enter Tryz.func47,Tryz.ntmps47
 go_wp2
 rw [←hW];clear hW;go_still_tail 10,fp
 still_call (HC1.out _)
 repeat still_step
 still_call (HC2.out _)
 repeat still_step
 try refine wpStill_nil ?_
 change wpList _ _ _ _ _ W.drew
 have hs0:=heap_alloc_new W.drew (.cells #[.int .i64 c1,.int .i64 c2] 3);have z0:(W.drew.alloc (.cells #[.int .i64 c1,.int .i64 c2] 3)).cell? ⟨W.heap.size,0,none⟩=some (.int .i64 c1):=by show (W.drew.alloc _).cell? ⟨W.drew.heap.size,0,none⟩=_;rw [zT hs0];rfl
 have z1:(W.drew.alloc (.cells #[.int .i64 c1,.int .i64 c2] 3)).cell? ⟨W.heap.size,1,none⟩=some (.int .i64 c2):=by show (W.drew.alloc _).cell? ⟨W.drew.heap.size,1,none⟩=_;rw [zT hs0];rfl
 go_wp2_with (go_at_call 48;refine(Or_any c1 c2 _ _ _ z0 z1).mono ?_;rintro e w1 ⟨rfl,rfl⟩;rw [←HRR.out])
 go_ret
 exact⟨rfl,(hb0.drew).alloc hb0.size _⟩
abbrev Row:=Str × Str
def RO (w:World) (B g cap:Nat) (rs:List Row):Prop:=w.ownsRow B 58 2 (.slice (some ⟨g,0,none⟩) rs.length cap) rs.length (iY rs)
theorem RO.at_ {w:World} {B g cap:Nat} {rs:List Row} (h:RO w B g cap rs) {i:Nat} {r:Row} (hi:rs[i]?=some r) :
  w.cell? ⟨g,i*2,none⟩=some (.string ⟨(r.1).toArray⟩)∧w.cell? ⟨g,i*2+1,none⟩=some (.string ⟨(r.2).toArray⟩):=by
 have hlt:=(zQ.1 hi).1;obtain⟨c1,c2⟩:=qH hi;exact⟨by rw [h.cellAt _ fg];exact c1,by rw [h.cellAt _ fg];exact c2⟩
theorem RO.free {w:World} {B g cap:Nat} {rs:List Row} (h:RO w B g cap rs) (j:Nat):w.frozen? ⟨g,j,none⟩=false:=h.frozenAt j
theorem rI:∀(rs:List Row) (i:Nat) (y:Row),i<rs.length→iY (rs.set i y)=((iY rs).set (i*2) (.string ⟨(y.1).toArray⟩)).set (i*2+1) (.string ⟨(y.2).toArray⟩)
 | [],i,y,h=>by simp at h
 | r::rs,0,y,_=>by simp [iY]
 | r::rs,i+1,y,h=>by
  have ih:=rI rs i y fS;have h1:∀l:List Row,iY (r::l)=.string ⟨(r.1).toArray⟩::.string ⟨(r.2).toArray⟩::iY l:=fun l=>by simp [iY]
  rw [List.set_cons_succ,h1,h1,ih,show (i+1)*2=i*2+2 by omega];rfl
theorem RO.set {w:World} {B g cap:Nat} {rs:List Row} (h:RO w B g cap rs) {i:Nat} (y:Row) (hi:i<rs.length) :
  RO ((w.setCell ⟨g,i*2,none⟩ (.string ⟨(y.1).toArray⟩)).setCell ⟨g,i*2+1,none⟩ (.string ⟨(y.2).toArray⟩)) B g cap (rs.set i y):=by
 have h1:=((h.stored (i*2) (.string ⟨(y.1).toArray⟩)).1.stored (i*2+1) (.string ⟨(y.2).toArray⟩)).1;unfold RO;rw [rI rs i y hi,List.length_set];exact h1
theorem iZ {w w':World} {g:Nat} (h:w.grownBy w' (some g)) (o:Nat) (u:Value):w.grownBy (w'.setCell ⟨g,o,none⟩ u) (some g) :=
 ⟨h.os,h.tape,h.output,by simp [World.setCell];exact h.size,fun k hk hne=>(heap_setCell_other w' ⟨g,o,none⟩ k u (fun e=>hne (by simp [e]))).trans (h.block k hk hne)⟩
theorem lw {w w' w2:World} {row:Option Nat} (h:w.grownBy w' row) (hb:Below w'.heap.size w' w2):w.grownBy w2 row :=
 ⟨hb.os.trans h.os,hb.tape.trans h.tape,hb.output.trans h.output,zR h.size hb.size,fun k hk hne=>(hb.block k (zS hk h.size)).trans (h.block k hk hne)⟩
theorem iK {a b c:World} {row:Option Nat} (h1:a.grownBy b row) (h2:b.grownBy c row):a.grownBy c row :=
 ⟨h2.os.trans h1.os,h2.tape.trans h1.tape,h2.output.trans h1.output,zR h1.size h2.size,fun k hk hne=>(h2.block k (zS hk h1.size) hne).trans (h1.block k hk hne)⟩
theorem jp (w:World) (row:Option Nat):w.grownBy w row:=⟨rfl,rfl,rfl,zP _,fun _ _ _=>rfl⟩
theorem nB {w w':World} {row:Option Nat} (h:w.grownBy w' row):w.grownBy w'.drew row:=⟨h.os,h.tape,h.output,h.size,h.block⟩
def kO (rs:List Row) (i j:Nat):List Row:=match rs[i]?,rs[j]? with|some x,some y=>(rs.set i y).set j x|_,_=>rs
theorem kW (rs:List Row) (i j:Nat):(kO rs i j).length=rs.length:=by
 unfold kO;split<;>simp
theorem vw {rs:List Row} {i j:Nat} {x y:Row} (hi:rs[i]?=some x) (hj:rs[j]?=some y):kO rs i j=(rs.set i y).set j x:=by
 unfold kO;rw [hi,hj]
theorem RO.swap {w:World} {B g cap:Nat} {rs:List Row} (h:RO w B g cap rs) {i j:Nat} {x y:Row} (hi:rs[i]?=some x) (hj:rs[j]?=some y) :
  RO ((((w.setCell ⟨g,i*2,none⟩ (.string ⟨(y.1).toArray⟩)).setCell ⟨g,i*2+1,none⟩ (.string ⟨(y.2).toArray⟩)).setCell ⟨g,j*2,none⟩ (.string ⟨(x.1).toArray⟩)).setCell ⟨g,j*2+1,none⟩ (.string ⟨(x.2).toArray⟩)).drew B g cap (kO rs i j):=by
 have h1:=(zQ.1 hi).1;have h2:=(zQ.1 hj).1;rw [vw hi hj];exact((h.set y h1).set x (by simpa using h2):RO _ _ _ _ _)
def SwRel (B g cap a b n:Nat) (N:Nat) (R:List Row) (w:World) (q:Value) (wr:World):Prop :=
 ∃(i:Nat) (rs:List Row),i≤n∧q=.int .i64 i∧RO wr B g cap rs∧w.grownBy wr (some g)∧rs.length=N ∧
  Hid ((List.range' i (n-i)).foldl (fun l k=>kO l (a+k) (b+k)) rs=R)
def pV (rs:List Row) (a b n:Nat):List Row:=(List.range' 0 n).foldl (fun l k=>kO l (a+k) (b+k)) rs
theorem rQ (B g cap:Nat) (rs:List Row) (a b n:Nat) (f:Value) (w:World) (h:RO w B g cap rs) (ha:a+n≤rs.length) (hb:b+n≤rs.length) (hl:rs.length≤1000000) :
  Calls Tryz.prog 174 #[.slice (some ⟨g,0,none⟩) rs.length cap,.int .i64 a,.int .i64 b,.int .i64 n,f] w fun e w'=>e=.returned (.tuple #[])∧RO w' B g cap (pV rs a b n)∧w.grownBy w' (some g):=by
 obtain⟨R,hR⟩:∃R,pV rs a b n=R:=⟨_,rfl⟩;rw [hR];have HR0:Hid ((List.range' 0 (n-0)).foldl (fun l k=>kO l (a+k) (b+k)) rs=R):=ab hR;obtain⟨N,hN⟩:∃N,N=rs.length:=⟨_,rfl⟩;have HN:=ab hN;have HRO:=ab h;rw [←hN] at ha hb hl ⊢;clear hR h hN;go_enter Tryz.func174,Tryz.ntmps174
 go_wp2
 go_loopw [10] (fun q wr=>SwRel B g cap a b n N R w q wr) (fun q _=>n-(intOf q).toNat)
 case atStart=>exact⟨0,rs,by omega,rfl,HRO.out,jp _ _,HN.out.symm,HR0⟩
 case round =>
  obtain⟨i,l,hin,rfl,hro,hg,hlN,HF⟩:=hrel;clear HR0 HRO HN;by_cases h2:i<n
  ·obtain⟨x,hx⟩:∃x,l[a+i]?=some x:=⟨_,zN fg⟩
   obtain⟨y,hy⟩:∃y,l[b+i]?=some y:=⟨_,zN fg⟩;obtain⟨c1,c2⟩:=hro.at_ hx;obtain⟨c3,c4⟩:=hro.at_ hy;have f:=fun j=>hro.free j
   have HF2:Hid ((List.range' (i+1) (n-(i+1))).foldl (fun l k=>kO l (a+k) (b+k)) (kO l (a+i) (b+i))=R):=ab (by
    rw [←HF.out,show n-i=(n-(i+1))+1 by omega,List.range'_succ,Au])
   have hsw:=hro.swap hx hy;have HSW:=ab hsw;have hgs:=nB (iZ (iZ (iZ (iZ hg ((a+i)*2) (.string ⟨(y.1).toArray⟩)) ((a+i)*2+1) (.string ⟨(y.2).toArray⟩)) ((b+i)*2) (.string ⟨(x.1).toArray⟩)) ((b+i)*2+1) (.string ⟨(x.2).toArray⟩));have HGS:=ab hgs;have hro2:=hro.set y (i:=a+i) fg;obtain⟨z,hz⟩:∃z,(l.set (a+i) y)[b+i]?=some z:=⟨_,zN fr⟩;obtain⟨c5,c6⟩:=hro2.at_ hz;have f2:=fun j=>hro2.free j
   obtain⟨x1,x2⟩:=x;obtain⟨y1,y2⟩:=y;clear hsw hgs HF hro hx hy hz hro2;go_wp2
   go_region
   go_wp2
   exact⟨⟨i+1,kO l (a+i) (b+i),by omega,by go_num,HSW.out,HGS.out,by rw [kW];exact hlN,HF2⟩,by simp [intOf];omega⟩
  ·have hni:i=n:=fg
   have HE:Hid (l=R):=ab (by rw [←HF.out,hni,Nat.sub_self];rfl);clear HF;go_wp2
   go_end0
   exact⟨rfl,by rw [←HE.out];exact hro,hg⟩
theorem nJ (a b:Nat):∀(ks:List Nat) (rs:List Row),(ks.foldl (fun l k=>kO l (a+k) (b+k)) rs).length=rs.length
 | [],rs=>rfl
 | k::ks,rs=>by rw [Au,nJ a b ks,kW]
theorem mY (rs:List Row) (a b n:Nat):(pV rs a b n).length=rs.length:=nJ _ _ _ _
theorem mN {B g cap N:Nat} {rs:List Row} {a b n:Nat} {az bz nz:Int} (f:Value) (w:World) (h:RO w B g cap rs) (hN:rs.length=N) (h1:az=a) (h2:bz=b) (h3:nz=n) (ha:a+n≤N) (hb:b+n≤N) (hl:N≤1000000) :
  Calls Tryz.prog 174 #[.slice (some ⟨g,0,none⟩) N cap,.int .i64 az,.int .i64 bz,.int .i64 nz,f] w fun e w'=>e=.returned (.tuple #[])∧RO w' B g cap (pV rs a b n)∧w.grownBy w' (some g):=by
 subst h1 h2 h3 hN;exact rQ B g cap rs a b n f w h ha hb hl
def rotL:Nat→List Row→Nat→Nat→Nat→List Row
 | 0,rs,_,_,_=>rs
 | k+1,rs,m,i,j =>
  if i=j then pV rs (m-i) m i
  else if j<i then rotL k (pV rs (m-i) m j) m (i-j) j
  else rotL k (pV rs (m-i) (m+j-i) i) m i (j-i)
def RtRel (B g cap m N:Nat) (R:List Row) (w:World) (p q:Value) (wr:World):Prop :=
 ∃(i j k:Nat) (rs:List Row),p=.int .i64 i∧q=.int .i64 j∧0<i∧0<j∧i≤m∧m+j≤N∧i+j≤k∧RO wr B g cap rs∧w.grownBy wr (some g)∧rs.length=N∧Hid (rotL k rs m i j=R)
theorem wE (B g cap N:Nat) (rs:List Row) (a m b:Nat) (f:Value) (w:World) (h:RO w B g cap rs) (hN:rs.length=N) (ha:a<m) (hb:m<b) (hbn:b≤N) (hl:N≤1000000) :
  Calls Tryz.prog 150 #[.slice (some ⟨g,0,none⟩) N cap,.int .i64 a,.int .i64 m,.int .i64 b,f] w fun e w'=>e=.returned (.tuple #[])∧RO w' B g cap (rotL (b-a) rs m (m-a) (b-m))∧w.grownBy w' (some g):=by
 obtain⟨R,hR⟩:∃R,rotL (b-a) rs m (m-a) (b-m)=R:=⟨_,rfl⟩;rw [hR];have HR:=ab hR;have HRO:=ab h;clear hR h;go_enter Tryz.func150,Tryz.ntmps150
 go_wp2
 go_loopw [10,11] (fun p q wr=>RtRel B g cap m N R w p q wr) (fun p q _=>(intOf p).toNat+(intOf q).toNat)
 case atStart=>exact⟨m-a,b-m,b-a,rs,by go_num,by go_num,by omega,by omega,by omega,by omega,by omega,HRO.out,jp _ _,hN,HR⟩
 case round =>
  obtain⟨i,j,k,l,rfl,rfl,hi,hj,him,hjn,hk,hro,hg,hlN,HF⟩:=hrel;clear HR HRO hN;obtain⟨k,rfl⟩:∃k',k=k'+1:=⟨k-1,by omega⟩;by_cases hij:i=j
  ·subst hij
   have HE:Hid (pV l (m-i) m i=R):=ab (by rw [←HF.out];simp only [rotL];rw [zL trivial]);have HO:=ab (mN (az:=(m:Int)-i) (bz:=m) (nz:=i) f wr hro hlN fg rfl rfl (a:=m-i) (b:=m) (n:=i) fg fg hl);clear HF hro;go_wp2_with (go_at_call 174;refine HO.out.mono ?_;rintro e w1 ⟨rfl,hr1,hg1⟩)
   go_end0
   exact⟨rfl,by rw [←HE.out];exact hr1,iK hg hg1⟩
  ·have e1:((i:Int)==j)=false:=by rw [Aj];omega
   have e2:((i:Int) != j)=true:=by rw [bne_iff_ne];omega
   by_cases hlt:j<i
   ·have HE:Hid (rotL k (pV l (m-i) m j) m (i-j) j=R):=ab (by rw [←HF.out];simp only [rotL];rw [zO hij,zL hlt])
    have HO:=ab (mN (az:=(m:Int)-i) (bz:=m) (nz:=j) f wr hro hlN fg rfl rfl (a:=m-i) (b:=m) (n:=j) fg fg hl);clear HF hro hij;go_wp2_with (go_at_call 174;refine HO.out.mono ?_;rintro e w1 ⟨rfl,hr1,hg1⟩)
    go_roundw
    case rel=>exact⟨i-j,j,k,_,by go_num,rfl,by omega,by omega,by omega,by omega,by omega,hr1,iK hg hg1,by rw [mY];exact hlN,HE⟩
    case measure=>simp [intOf];omega
   ·have HE:Hid (rotL k (pV l (m-i) (m+j-i) i) m i (j-i)=R):=ab (by rw [←HF.out];simp only [rotL];rw [zO hij,zO hlt])
    have HO:=ab (mN (az:=(m:Int)-i) (bz:=(m:Int)+j-i) (nz:=i) f wr hro hlN fg fg rfl (a:=m-i) (b:=m+j-i) (n:=i) fg fg hl);have hlt2:i<j:=fg;clear HF hro hij;go_wp2_with (go_at_call 174;refine HO.out.mono ?_;rintro e w1 ⟨rfl,hr1,hg1⟩)
    go_roundw
    case rel=>exact⟨i,j-i,k,_,rfl,by go_num,by omega,by omega,by omega,by omega,by omega,hr1,iK hg hg1,by rw [mY];exact hlN,HE⟩
    case measure=>simp [intOf];omega
def oz (a:Nat):Nat→List Row→List Row
 | 0,rs=>rs
 | j+1,rs=>match rs[j+1]?,rs[j]? with
  | some x,some y=>if a<j+1∧cmpR x y<0 then oz a j (kO rs (j+1) j) else rs
  | _,_=>rs
def kZ (a:Nat):Nat→Nat→List Row→List Row
 | 0,_,rs=>rs
 | k+1,i,rs=>kZ a k (i+1) (oz a i rs)
theorem pI (a:Nat):∀(j:Nat) (rs:List Row),(oz a j rs).length=rs.length
 | 0,rs=>rfl
 | j+1,rs=>by
  simp only [oz];split
  ·split
   ·rw [pI a j,kW]
   ·rfl
  ·rfl
theorem nu (a:Nat):∀(k i:Nat) (rs:List Row),(kZ a k i rs).length=rs.length
 | 0,_,_=>rfl
 | k+1,i,rs=>by simp only [kZ];rw [nu a k,pI]
def InRel (B g cap a b N:Nat) (R:List Row) (w:World) (q:Value) (wr:World):Prop :=
 ∃(i:Nat) (rs:List Row),q=.int .i64 i∧a<i∧(i≤b∨i=a+1)∧RO wr B g cap rs∧w.grownBy wr (some g)∧rs.length=N∧Hid (kZ a (b-i) i rs=R)
def IjRel (B g cap a i N:Nat) (R:List Row) (w:World) (q:Value) (wr:World):Prop :=
 ∃(j:Nat) (rs:List Row),q=.int .i64 j∧a≤j∧j≤i∧RO wr B g cap rs∧w.grownBy wr (some g)∧rs.length=N∧Hid (oz a j rs=R)
theorem rL (B g cap N:Nat) (rs:List Row) (a b:Nat) (w:World) (h:RO w B g cap rs) (hN:rs.length=N) (hbn:b≤N) (hl:N≤1000000) (haN:a≤N) :
  Calls Tryz.prog 113 #[.slice (some ⟨g,0,none⟩) N cap,.int .i64 a,.int .i64 b,.func (.func 47) #[] #[]] w fun e w'=>e=.returned (.tuple #[])∧RO w' B g cap (kZ a (b-(a+1)) (a+1) rs)∧w.grownBy w' (some g):=by
 obtain⟨R,hR⟩:∃R,kZ a (b-(a+1)) (a+1) rs=R:=⟨_,rfl⟩;rw [hR];have HR:=ab hR;have HRO:=ab h;clear hR h;go_enter Tryz.func113,Tryz.ntmps113
 go_wp2
 go_loopw [8] (fun q wr=>InRel B g cap a b N R w q wr) (fun q _=>b-(intOf q).toNat)
 case atStart=>exact⟨a+1,rs,by go_num,by omega,.inr rfl,HRO.out,jp _ _,hN,HR⟩
 case round =>
  obtain⟨i,l,rfl,hai,hib,hro,hg,hlN,HF⟩:=hrel;clear HR HRO hN;by_cases hlt:i<b
  ·obtain⟨T,hT⟩:∃T,oz a i l=T:=⟨_,rfl⟩
   have HT0:=ab hT;have HTN:T.length=N:=by rw [←hT,pI];exact hlN
   have HE:Hid (kZ a (b-(i+1)) (i+1) T=R):=ab (by rw [←HF.out,show b-i=(b-(i+1))+1 by omega];simp only [kZ];rw [hT]);have HRO:=ab hro;clear HF hT hib hro;obtain⟨wo,rfl⟩:∃wo:World,wo=wr:=⟨_,rfl⟩;go_wp2
   go_loopw [9] (fun q wk=>IjRel B g cap a i N T wo q wk) (fun q _=>(intOf q).toNat)
   case atStart=>exact⟨i,l,rfl,by omega,by omega,HRO.out,jp _ _,hlN,HT0⟩
   case round =>
    obtain⟨j,lj,rfl,haj,hji,hroj,hgj,hljN,HG⟩:=hrel;clear HT0 HRO hlN;by_cases hja:a<j
    ·obtain⟨j,rfl⟩:∃j',j=j'+1:=⟨j-1,by omega⟩
     obtain⟨x,hx⟩:∃x,lj[j+1]?=some x:=⟨_,zN fg⟩;obtain⟨y,hy⟩:∃y,lj[j]?=some y:=⟨_,zN fg⟩;obtain⟨c1,c2⟩:=hroj.at_ hx;obtain⟨c3,c4⟩:=hroj.at_ hy;obtain⟨x1,x2⟩:=x;obtain⟨y1,y2⟩:=y;obtain⟨cv,hcv⟩:∃cv,cmpR (x1,x2) (y1,y2)=cv:=⟨_,rfl⟩;have HG2:Hid ((if a<j+1∧cv<0 then oz a j (kO lj (j+1) j) else lj)=T):=ab (by
      rw [←HG.out,←hcv];simp only [oz];rw [hx,hy])
     have HCV:Hid (∀w:World,Calls Tryz.prog 47 #[.agg #[.string ⟨x1.toArray⟩,.string ⟨x2.toArray⟩],.agg #[.string ⟨y1.toArray⟩,.string ⟨y2.toArray⟩]] w fun e w'=>e=.returned (.int .i64 cv)∧Below w.heap.size w w'):=ab (fun w=>by
      rw [←hcv];exact pC (x1,x2) (y1,y2) w)
     have d1:∀x:ExtOf wr,x.val.cell? ⟨g,(j+1)*2,none⟩=some (.string ⟨x1.toArray⟩):=ExtOf.cell c1;have d2:∀x:ExtOf wr,x.val.cell? ⟨g,(j+1)*2+1,none⟩=some (.string ⟨x2.toArray⟩):=ExtOf.cell c2;have d3:∀x:ExtOf wr,x.val.cell? ⟨g,j*2,none⟩=some (.string ⟨y1.toArray⟩):=ExtOf.cell c3;have d4:∀x:ExtOf wr,x.val.cell? ⟨g,j*2+1,none⟩=some (.string ⟨y2.toArray⟩):=ExtOf.cell c4;have HX:=ab hx;have HY:=ab hy;have HROJ:=ab hroj;have hgt:decide (a<j+1)=true:=Av fg;have hgt2:decide ((a:Int)<(j:Int)+1)=true:=Av fg;clear hcv hx hy hroj HG c1 c2 c3 c4;go_wp2
     refine iS fp fp ?_;repeat (go_big_quiet_step ((go_at_call 47;exact jB (HCV.out _))))
     refine wpQuiet_nil ?_;rintro _ ⟨xq,rfl⟩;have hrq:RO xq.val B g cap lj:=iX HROJ.out xq.ext;have hgq:=lw hgj xq.ext;obtain⟨w5,hw5⟩:∃w5,w5=xq.val:=⟨_,rfl⟩;rw [←hw5] at hrq hgq ⊢;clear hw5;clear xq;by_cases hc0:cv<0
     ·have hc0':decide (cv<0)=true:=Av hc0
      have HE2:Hid (oz a j (kO lj (j+1) j)=T):=ab (by rw [←HG2.out,zL ⟨hja,hc0⟩]);obtain⟨c1,c2⟩:=hrq.at_ HX.out;obtain⟨c3,c4⟩:=hrq.at_ HY.out;have f:=fun k=>hrq.free k
      have hro2:=hrq.set (y1,y2) (i:=j+1) fg;obtain⟨z,hz⟩:∃z,(lj.set (j+1) (y1,y2))[j]?=some z:=⟨_,zN fr⟩;obtain⟨c5,c6⟩:=hro2.at_ hz;have f2:=fun k=>hro2.free k
      dsimp only at c1 c2 c3 c4 c5 c6 f2
      clear c5 c6 f2;obtain⟨z1,z2⟩:=z;have c5:((w5.setCell ⟨g,(j+1)*2,none⟩ (.string ⟨y1.toArray⟩)).setCell ⟨g,(j+1)*2+1,none⟩ (.string ⟨y2.toArray⟩)).cell? ⟨g,j*2,none⟩=some (.string ⟨z1.toArray⟩):=(hro2.at_ hz).1;have c6:((w5.setCell ⟨g,(j+1)*2,none⟩ (.string ⟨y1.toArray⟩)).setCell ⟨g,(j+1)*2+1,none⟩ (.string ⟨y2.toArray⟩)).cell? ⟨g,j*2+1,none⟩=some (.string ⟨z2.toArray⟩):=(hro2.at_ hz).2;have hsw:=hrq.swap HX.out HY.out;dsimp only at hsw
      have HSW:=ab hsw;have HGS:=ab (nB (iZ (iZ (iZ (iZ hgq ((j+1)*2) (.string ⟨y1.toArray⟩)) ((j+1)*2+1) (.string ⟨y2.toArray⟩)) (j*2) (.string ⟨x1.toArray⟩)) (j*2+1) (.string ⟨x2.toArray⟩)));go_wp2
      clear hrq hgq hro2 hz hc0 HG2 d1 d2 d3 d4 hsw hgt hgt2 hc0';go_region
      go_wp2
      go_roundw
      case rel=>exact⟨j,kO lj (j+1) j,by go_num,by omega,by omega,HSW.out,HGS.out,by rw [kW];exact hljN,HE2⟩
      case measure=>simp [intOf]
     ·have hc0':decide (cv<0)=false:=Ah hc0
      have HE2:Hid (lj=T):=ab (by rw [←HG2.out,zO (fun q=>hc0 q.2)]);have hc9:0≤cv:=fg;clear hc0 HG2 d1 d2 d3 d4;go_wp2
      exact⟨⟨i+1,T,by go_num,by omega,.inl fg,by rw [←HE2.out];exact hrq,iK hg hgq,HTN,HE⟩,by simp [intOf];omega⟩
    ·have hja':j≤a:=fg
     have HE2:Hid (lj=T):=ab (by
      rw [←HG.out];cases j with
      | zero=>rfl
      | succ j =>
       simp only [oz];split
       ·rw [zO (fun q=>hja q.1)]
       ·rfl)
     have hgt:decide (a<j)=false:=Ah fg;clear hja HG;go_wp2
     refine iS fp fp ?_;repeat (go_big_quiet_step ((fail)))
     refine wpQuiet_nil ?_;rintro _ ⟨xq,rfl⟩;go_wp2
     exact⟨⟨i+1,T,by go_num,by omega,.inl fg,by rw [←HE2.out];exact iX hroj xq.ext,iK hg (lw hgj xq.ext),HTN,HE⟩,by simp [intOf];omega⟩
  ·have HE:Hid (l=R):=ab (by rw [←HF.out,show b-i=0 by omega];rfl)
   clear HF;go_wp2
   go_end0
   exact⟨rfl,by rw [←HE.out];exact hro,hg⟩
def bs (p:Nat→Bool):Nat→Nat→Nat→Nat
 | 0,i,_=>i
 | k+1,i,j=>if i<j then(if p ((i+j) / 2)=true then bs p k ((i+j) / 2+1) j else bs p k i ((i+j) / 2)) else i
theorem sg (p:Nat→Bool):∀(k i j:Nat),i≤j→i≤bs p k i j∧bs p k i j≤j
 | 0,i,j,h=>by simp [bs];exact h
 | k+1,i,j,h=>by
  simp only [bs];split
  ·split
   ·have:=sg p k ((i+j) / 2+1) j fg;omega
   ·have:=sg p k i ((i+j) / 2) fg;omega
  ·omega
def ltAt (rs:List Row) (x y:Nat):Bool:=match rs[x]?,rs[y]? with|some r,some s=>decide (cmpR r s<0)|_,_=>false
theorem sN {rs:List Row} {x y:Nat} {r s:Row} (h1:rs[x]?=some r) (h2:rs[y]?=some s):ltAt rs x y=decide (cmpR r s<0):=by
 unfold ltAt;rw [h1,h2]
def upSw (rs:List Row) (a n:Nat):List Row:=(List.range' a n).foldl (fun l k=>kO l k (k+1)) rs
def dnSw:Nat→List Row→Nat→List Row
 | 0,rs,_=>rs
 | n+1,rs,m=>dnSw n (kO rs m (m-1)) (m-1)
theorem vz:∀(n:Nat) (rs:List Row) (m:Nat),(dnSw n rs m).length=rs.length
 | 0,_,_=>rfl
 | n+1,rs,m=>by simp only [dnSw];rw [vz n,kW]
theorem upSw_len (rs:List Row) (a n:Nat):(upSw rs a n).length=rs.length:=by
 unfold upSw;have:∀(ks:List Nat) (rs:List Row),(ks.foldl (fun l k=>kO l k (k+1)) rs).length=rs.length:=by
  intro ks;induction ks with
  | nil=>intro rs;rfl
  | cons k ks ih=>intro rs;rw [Au,ih,kW]
 exact this _ _
def qu (B g cap:Nat) (rs:List Row) (p:Nat→Bool) (lo hi T:Nat) (w:World) (q s:Value) (wr:World):Prop :=
 ∃(i j k:Nat),q=.int .i64 i∧s=.int .i64 j∧lo≤i∧i≤j∧j≤hi∧j-i≤k∧RO wr B g cap rs∧w.grownBy wr (some g)∧Hid (bs p k i j=T)
def UpRel (B g cap N i:Nat) (R:List Row) (w:World) (q:Value) (wr:World):Prop :=
 ∃(k:Nat) (rs:List Row),q=.int .i64 k∧k+1≤i∧RO wr B g cap rs∧w.grownBy wr (some g)∧rs.length=N∧Hid (upSw rs k (i-1-k)=R)
theorem tt (B g cap N:Nat) (rs:List Row) (a b:Nat) (w:World) (h:RO w B g cap rs) (hN:rs.length=N) (hab:a+1<b) (hbn:b≤N) (hl:N≤1000000) :
  Calls Tryz.prog 114 #[.slice (some ⟨g,0,none⟩) N cap,.int .i64 a,.int .i64 ((a:Int)+1),.int .i64 b,.func (.func 47) #[] #[]] w fun e w'=>e=.returned (.tuple #[])∧RO w' B g cap (upSw rs a (bs (fun h=>ltAt rs h a) b (a+1) b-1-a))∧w.grownBy w' (some g):=by
 obtain⟨T,hT⟩:∃T,bs (fun h=>ltAt rs h a) b (a+1) b=T:=⟨_,rfl⟩;have hbd:=sg (fun h=>ltAt rs h a) b (a+1) b fg;rw [hT] at hbd ⊢;have HT:=ab hT;have HRO:=ab h;have e1:((a:Int)+1-a)=1:=fg;obtain⟨R,hR⟩:∃R,upSw rs a (T-1-a)=R:=⟨_,rfl⟩;have HR:=ab hR;rw [hR];clear hT h hR;go_enter Tryz.func114,Tryz.ntmps114
 go_wp2
 go_loopw [10,11] (fun q s wr=>qu B g cap rs (fun h=>ltAt rs h a) (a+1) b T w q s wr) (fun q s _=>(intOf s).toNat-(intOf q).toNat)
 case atStart=>exact⟨a+1,b,b,by go_num,rfl,by omega,by omega,by omega,by omega,HRO.out,jp _ _,HT⟩
 case round =>
  obtain⟨i,j,k,rfl,rfl,hi,hij,hj,hk,hro,hg,HF⟩:=hrel;clear HT HRO;by_cases hlt:i<j
  ·obtain⟨k,rfl⟩:∃k',k=k'+1:=⟨k-1,by omega⟩
   obtain⟨H,hH⟩:∃H,(i+j) / 2=H:=⟨_,rfl⟩;have hH2:((i:Int)+j) / 2=(H:Int):=fg;have hHb:i≤H∧H<j:=fg;obtain⟨x,hx⟩:∃x,rs[H]?=some x:=⟨_,zN fg⟩;obtain⟨y,hy⟩:∃y,rs[a]?=some y:=⟨_,zN fg⟩;obtain⟨c1,c2⟩:=hro.at_ hx;obtain⟨c3,c4⟩:=hro.at_ hy;obtain⟨x1,x2⟩:=x;obtain⟨y1,y2⟩:=y;obtain⟨cv,hcv⟩:∃cv,cmpR (x1,x2) (y1,y2)=cv:=⟨_,rfl⟩;have HCV:Hid (∀w:World,Calls Tryz.prog 47 #[.agg #[.string ⟨x1.toArray⟩,.string ⟨x2.toArray⟩],.agg #[.string ⟨y1.toArray⟩,.string ⟨y2.toArray⟩]] w fun e w'=>e=.returned (.int .i64 cv)∧Below w.heap.size w w'):=ab (fun w=>by
    rw [←hcv];exact pC (x1,x2) (y1,y2) w)
   have d1:∀x:ExtOf wr,x.val.cell? ⟨g,(H)*2,none⟩=some (.string ⟨x1.toArray⟩):=ExtOf.cell c1;have d2:∀x:ExtOf wr,x.val.cell? ⟨g,(H)*2+1,none⟩=some (.string ⟨x2.toArray⟩):=ExtOf.cell c2;have d3:∀x:ExtOf wr,x.val.cell? ⟨g,(a)*2,none⟩=some (.string ⟨y1.toArray⟩):=ExtOf.cell c3;have d4:∀x:ExtOf wr,x.val.cell? ⟨g,(a)*2+1,none⟩=some (.string ⟨y2.toArray⟩):=ExtOf.cell c4;have HX:=ab hx;have HY:=ab hy;have HROJ:=ab hro;clear hx hy c1 c2 c3 c4;have HF2:Hid ((if cv<0 then bs (fun h=>ltAt rs h a) k (H+1) j else bs (fun h=>ltAt rs h a) k i H)=T):=ab (by
    have hp:ltAt rs H a=decide (cv<0):=by rw [sN HX.out HY.out,hcv]
    rw [←HF.out];simp only [bs,hlt,if_true,hH,hp,zJ])
   clear hcv hH HF hro;go_wp2
   refine iS fp fp ?_;repeat (go_big_quiet_step ((go_at_call 47;exact jB (HCV.out _))))
   refine wpQuiet_nil ?_;rintro _ ⟨xq,rfl⟩;have hrq:RO xq.val B g cap rs:=iX HROJ.out xq.ext;have hgq:=lw hg xq.ext;clear d1 d2 d3 d4;by_cases hc0:cv<0
   ·have hc0':decide (cv<0)=true:=Av hc0
    have HE2:=ab ((zL hc0).symm.trans HF2.out);exact eu
   ·have hc0':decide (cv<0)=false:=Ah hc0
    have hc9:0≤cv:=fg;have HE2:=ab ((zO hc0).symm.trans HF2.out);clear hc0;exact ew
  ·have hij2:i=T:=by
    exact cS
   subst hij2;have HRO:=ab hro;clear HF hro hk;obtain⟨wo,rfl⟩:∃wo:World,wo=wr:=⟨_,rfl⟩;go_wp2
   go_loopw [13] (fun q wk=>UpRel B g cap N i R wo q wk) (fun q _=>i-(intOf q).toNat)
   case atStart=>exact⟨a,rs,rfl,by omega,HRO.out,jp _ _,hN,HR⟩
   case round =>
    obtain⟨m,l,rfl,hmi,hrol,hgl,hlN,HG⟩:=hrel;clear HR HRO;by_cases hm:m+1<i
    ·obtain⟨x,hx⟩:∃x,l[m]?=some x:=⟨_,zN fg⟩
     obtain⟨y,hy⟩:∃y,l[m+1]?=some y:=⟨_,zN fg⟩;have HG2:Hid (upSw (kO l m (m+1)) (m+1) (i-1-(m+1))=R):=ab (by
      rw [←HG.out,show i-1-m=(i-1-(m+1))+1 by omega];simp only [upSw];rw [List.range'_succ,Au])
     clear HG;obtain⟨c1,c2⟩:=(hrol).at_ hx;obtain⟨c3,c4⟩:=(hrol).at_ hy;have f:=fun k=>(hrol).free k
     have hro2:=(hrol).set y (i:=m) fg;obtain⟨z,hz⟩:∃z,(l.set m y)[(m+1)]?=some z:=⟨_,zN fr⟩;obtain⟨c5,c6⟩:=hro2.at_ hz;have f2:=fun k=>hro2.free k
     have HSW:=ab ((hrol).swap hx hy);have HGS:=ab (nB (iZ (iZ (iZ (iZ hgl ((m)*2) (.string ⟨(y.1).toArray⟩)) ((m)*2+1) (.string ⟨(y.2).toArray⟩)) (((m+1))*2) (.string ⟨(x.1).toArray⟩)) (((m+1))*2+1) (.string ⟨(x.2).toArray⟩)));clear hx hy hz hro2 hrol hgl;obtain⟨x1,x2⟩:=x;obtain⟨y1,y2⟩:=y;go_wp2
     go_region
     go_wp2
     go_roundw
     case rel=>exact⟨m+1,kO l m (m+1),by go_num,by omega,HSW.out,HGS.out,by rw [kW];exact hlN,HG2⟩
     case measure=>simp [intOf];omega
    ·have HE:Hid (l=R):=ab (by rw [←HG.out,show i-1-m=0 by omega];rfl)
     exact cT
def DnRel (B g cap N i hi:Nat) (R:List Row) (w:World) (q:Value) (wr:World):Prop :=
 ∃(k:Nat) (rs:List Row),q=.int .i64 k∧i≤k∧k≤hi∧RO wr B g cap rs∧w.grownBy wr (some g)∧rs.length=N∧Hid (dnSw (k-i) rs k=R)
theorem rS (B g cap N:Nat) (rs:List Row) (a m:Nat) (w:World) (h:RO w B g cap rs) (hN:rs.length=N) (ham:a+1<m) (hbn:m+1≤N) (hl:N≤1000000) :
  Calls Tryz.prog 114 #[.slice (some ⟨g,0,none⟩) N cap,.int .i64 a,.int .i64 m,.int .i64 ((m:Int)+1),.func (.func 47) #[] #[]] w fun e w'=>e=.returned (.tuple #[])∧RO w' B g cap (dnSw (m-bs (fun h=>!ltAt rs m h) m a m) rs m)∧w.grownBy w' (some g):=by
 obtain⟨T,hT⟩:∃T,bs (fun h=>!ltAt rs m h) m a m=T:=⟨_,rfl⟩;have hbd:=sg (fun h=>!ltAt rs m h) m a m fg;rw [hT] at hbd ⊢;have HT:=ab hT;have HRO:=ab h;have e1:((m:Int)-a==1)=false:=by rw [Aj];omega
 have e2:((m:Int)+1-m)=1:=fg;obtain⟨R,hR⟩:∃R,dnSw (m-T) rs m=R:=⟨_,rfl⟩;have HR:=ab hR;rw [hR];clear hT h hR;go_enter Tryz.func114,Tryz.ntmps114
 go_wp2
 go_loopw [14,15] (fun q s wr=>qu B g cap rs (fun h=>!ltAt rs m h) a m T w q s wr) (fun q s _=>(intOf s).toNat-(intOf q).toNat)
 case atStart=>exact⟨a,m,m,rfl,rfl,by omega,by omega,by omega,by omega,HRO.out,jp _ _,HT⟩
 case round =>
  obtain⟨i,j,k,rfl,rfl,hi,hij,hj,hk,hro,hg,HF⟩:=hrel;clear HT HRO;by_cases hlt:i<j
  ·obtain⟨k,rfl⟩:∃k',k=k'+1:=⟨k-1,by omega⟩
   obtain⟨H,hH⟩:∃H,(i+j) / 2=H:=⟨_,rfl⟩;have hH2:((i:Int)+j) / 2=(H:Int):=fg;have hHb:i≤H∧H<j:=fg;obtain⟨x,hx⟩:∃x,rs[m]?=some x:=⟨_,zN fg⟩;obtain⟨y,hy⟩:∃y,rs[H]?=some y:=⟨_,zN fg⟩;obtain⟨c1,c2⟩:=hro.at_ hx;obtain⟨c3,c4⟩:=hro.at_ hy;obtain⟨x1,x2⟩:=x;obtain⟨y1,y2⟩:=y;obtain⟨cv,hcv⟩:∃cv,cmpR (x1,x2) (y1,y2)=cv:=⟨_,rfl⟩;have HCV:Hid (∀w:World,Calls Tryz.prog 47 #[.agg #[.string ⟨x1.toArray⟩,.string ⟨x2.toArray⟩],.agg #[.string ⟨y1.toArray⟩,.string ⟨y2.toArray⟩]] w fun e w'=>e=.returned (.int .i64 cv)∧Below w.heap.size w w'):=ab (fun w=>by
    rw [←hcv];exact pC (x1,x2) (y1,y2) w)
   have d1:∀x:ExtOf wr,x.val.cell? ⟨g,(m)*2,none⟩=some (.string ⟨x1.toArray⟩):=ExtOf.cell c1;have d2:∀x:ExtOf wr,x.val.cell? ⟨g,(m)*2+1,none⟩=some (.string ⟨x2.toArray⟩):=ExtOf.cell c2;have d3:∀x:ExtOf wr,x.val.cell? ⟨g,(H)*2,none⟩=some (.string ⟨y1.toArray⟩):=ExtOf.cell c3;have d4:∀x:ExtOf wr,x.val.cell? ⟨g,(H)*2+1,none⟩=some (.string ⟨y2.toArray⟩):=ExtOf.cell c4;have HX:=ab hx;have HY:=ab hy;have HROJ:=ab hro;clear hx hy c1 c2 c3 c4;have HF2:Hid ((if cv<0 then bs (fun h=>!ltAt rs m h) k i H else bs (fun h=>!ltAt rs m h) k (H+1) j)=T):=ab (by
    have hp:(!ltAt rs m H)=!decide (cv<0):=by rw [sN HX.out HY.out,hcv]
    rw [←HF.out];simp only [bs,hlt,if_true,hH,hp];by_cases hc:cv<0<;>simp [hc])
   clear hcv hH HF hro;go_wp2
   refine iS fp fp ?_;repeat (go_big_quiet_step ((go_at_call 47;exact jB (HCV.out _))))
   refine wpQuiet_nil ?_;rintro _ ⟨xq,rfl⟩;have hrq:RO xq.val B g cap rs:=iX HROJ.out xq.ext;have hgq:=lw hg xq.ext;clear d1 d2 d3 d4;by_cases hc0:cv<0
   ·have hc0':decide (cv<0)=true:=Av hc0
    exact fb
   ·have hc0':decide (cv<0)=false:=Ah hc0
    exact eZ
  ·have hij2:i=T:=by
    exact cS
   subst hij2;have HRO:=ab hro;clear HF hro hk;obtain⟨wo,rfl⟩:∃wo:World,wo=wr:=⟨_,rfl⟩;go_wp2
   go_loopw [17] (fun q wk=>DnRel B g cap N i m R wo q wk) (fun q _=>(intOf q).toNat)
   case atStart=>exact⟨m,rs,rfl,by omega,by omega,HRO.out,jp _ _,hN,HR⟩
   case round =>
    obtain⟨d,l,rfl,hid,hdm,hrol,hgl,hlN,HG⟩:=hrel;clear HR HRO;by_cases hm:i<d
    ·obtain⟨d,rfl⟩:∃d',d=d'+1:=⟨d-1,by omega⟩
     obtain⟨x,hx⟩:∃x,l[d+1]?=some x:=⟨_,zN fg⟩;obtain⟨y,hy⟩:∃y,l[d]?=some y:=⟨_,zN fg⟩;have HG2:Hid (dnSw (d-i) (kO l (d+1) d) d=R):=ab (by
      rw [←HG.out,show d+1-i=(d-i)+1 by omega];simp only [dnSw];rw [Nat.add_sub_cancel])
     clear HG;obtain⟨c1,c2⟩:=(hrol).at_ hx;obtain⟨c3,c4⟩:=(hrol).at_ hy;have f:=fun k=>(hrol).free k
     have hro2:=(hrol).set y (i:=(d+1)) fg;obtain⟨z,hz⟩:∃z,(l.set (d+1) y)[d]?=some z:=⟨_,zN fr⟩;obtain⟨c5,c6⟩:=hro2.at_ hz;have f2:=fun k=>hro2.free k
     have HSW:=ab ((hrol).swap hx hy);have HGS:=ab (nB (iZ (iZ (iZ (iZ hgl (((d+1))*2) (.string ⟨(y.1).toArray⟩)) (((d+1))*2+1) (.string ⟨(y.2).toArray⟩)) ((d)*2) (.string ⟨(x.1).toArray⟩)) ((d)*2+1) (.string ⟨(x.2).toArray⟩)));clear hx hy hz hro2 hrol hgl;obtain⟨x1,x2⟩:=x;obtain⟨y1,y2⟩:=y;have ed:(d:Int)+1-1=d:=fg;go_wp2
     clear ed;go_region
     go_wp2
     go_roundw
     case rel=>exact⟨d,kO l (d+1) d,by go_num,by omega,by omega,HSW.out,HGS.out,by rw [kW];exact hlN,HG2⟩
     case measure=>simp [intOf]
    ·have HE:Hid (l=R):=ab (by rw [←HG.out,show d-i=0 by omega];rfl)
     exact cT
theorem pz:∀(k:Nat) (rs:List Row) (m i j:Nat),(rotL k rs m i j).length=rs.length
 | 0,_,_,_,_=>rfl
 | k+1,rs,m,i,j=>by
  simp only [rotL];split
  ·rw [mY]
  ·split
   ·rw [pz k,mY]
   ·rw [pz k,mY]
def sLo (a m b:Nat):Nat:=if (a+b) / 2<m then(a+b) / 2+m-b else a
def sHi (a m b:Nat):Nat:=if (a+b) / 2<m then(a+b) / 2 else m
def symM:Nat→List Row→Nat→Nat→Nat→List Row
 | 0,rs,_,_,_=>rs
 | f+1,rs,a,m,b =>
  if m=a+1 then upSw rs a (bs (fun h=>ltAt rs h a) b m b-1-a)
  else if b=m+1 then dnSw (m-bs (fun h=>!ltAt rs m h) m a m) rs m
  else
   let M:=(a+b) / 2
   let s:=bs (fun c=>!ltAt rs (M+m-1-c) c) b (sLo a m b) (sHi a m b)
   let e:=M+m-s
   let r1:=if s<m∧m<e then rotL (e-s) rs m (m-s) (e-m) else rs
   let r2:=if a<s∧s<M then symM f r1 a s M else r1
   if M<e∧e<b then symM f r2 M e b else r2
theorem nj:∀(f:Nat) (rs:List Row) (a m b:Nat),(symM f rs a m b).length=rs.length
 | 0,_,_,_,_=>rfl
 | f+1,rs,a,m,b=>by
  simp only [symM];have ih:=nj f
  (repeat' split)<;>simp only [ih,pz,upSw_len,vz]
def symT (f:Nat) (r1:List Row) (a s M e b:Nat):List Row :=
 if M<e∧e<b then symM f (if a<s∧s<M then symM f r1 a s M else r1) M e b else(if a<s∧s<M then symM f r1 a s M else r1)
theorem vA (f:Nat) (rs:List Row) (a b:Nat):symM (f+1) rs a (a+1) b=upSw rs a (bs (fun h=>ltAt rs h a) b (a+1) b-1-a):=by
 rw [symM];exact zL rfl
theorem tU {f:Nat} {rs:List Row} {a m:Nat} (h:¬m=a+1):symM (f+1) rs a m (m+1)=dnSw (m-bs (fun h=>!ltAt rs m h) m a m) rs m:=by
 rw [symM];exact(zO h).trans (zL rfl)
theorem vP {f:Nat} {rs:List Row} {a m b:Nat} (h1:¬m=a+1) (h2:¬b=m+1) :
  symM (f+1) rs a m b=symT f (if bs (fun c=>!ltAt rs ((a+b) / 2+m-1-c) c) b (sLo a m b) (sHi a m b)<m∧m<(a+b) / 2+m-bs (fun c=>!ltAt rs ((a+b) / 2+m-1-c) c) b (sLo a m b) (sHi a m b) then
   rotL ((a+b) / 2+m-bs (fun c=>!ltAt rs ((a+b) / 2+m-1-c) c) b (sLo a m b) (sHi a m b)-bs (fun c=>!ltAt rs ((a+b) / 2+m-1-c) c) b (sLo a m b) (sHi a m b)) rs m (m-bs (fun c=>!ltAt rs ((a+b) / 2+m-1-c) c) b (sLo a m b) (sHi a m b)) ((a+b) / 2+m-bs (fun c=>!ltAt rs ((a+b) / 2+m-1-c) c) b (sLo a m b) (sHi a m b)-m) else rs)
   a (bs (fun c=>!ltAt rs ((a+b) / 2+m-1-c) c) b (sLo a m b) (sHi a m b)) ((a+b) / 2) ((a+b) / 2+m-bs (fun c=>!ltAt rs ((a+b) / 2+m-1-c) c) b (sLo a m b) (sHi a m b)) b:=by
 rw [symM];exact(zO h1).trans (zO h2)
def stA:Nat→List Row→Nat→Nat→List Row
 | 0,rs,_,_=>rs
 | k+1,rs,a,n=>if a+20≤n then stA k (kZ a (a+20-(a+1)) (a+1) rs) (a+20) n else kZ a (n-(a+1)) (a+1) rs
def stB:Nat→List Row→Nat→Nat→Nat→List Row
 | 0,rs,_,_,_=>rs
 | k+1,rs,a,s,n=>if a+2*s≤n then stB k (symM (2*s) rs a (a+s) (a+2*s)) (a+2*s) s n else if a+s<n then symM (n-a) rs a (a+s) n else rs
def stC:Nat→List Row→Nat→Nat→List Row
 | 0,rs,_,_=>rs
 | k+1,rs,s,n=>if s<n then stC k (stB (n+1) rs 0 s n) (2*s) n else rs
def stL (rs:List Row):List Row:=stC (rs.length+1) (stA (rs.length+1) rs 0 rs.length) 20 rs.length
theorem uO:∀(k:Nat) (rs:List Row) (a n:Nat),(stA k rs a n).length=rs.length
 | 0,_,_,_=>rfl
 | k+1,rs,a,n=>by
  simp only [stA];split
  ·rw [uO k,nu]
  ·rw [nu]
theorem ur:∀(k:Nat) (rs:List Row) (a s n:Nat),(stB k rs a s n).length=rs.length
 | 0,_,_,_,_=>rfl
 | k+1,rs,a,s,n=>by
  simp only [stB];split
  ·rw [ur k,nj]
  ·split
   ·rw [nj]
   ·rfl
theorem zF:∀(k:Nat) (rs:List Row) (s n:Nat),(stC k rs s n).length=rs.length
 | 0,_,_,_=>rfl
 | k+1,rs,s,n=>by
  simp only [stC];split
  ·rw [zF k,ur]
  ·rfl
theorem rm (A:List Row):A=[]∨∃B y,A=B++[y]:=by
 rcases List.eq_nil_or_concat A with h|⟨B,y,h⟩
 ·exact .inl h
 ·exact .inr ⟨B,y,by simpa using h⟩
def mxS (a b:Str):Str:=if Op.bytesLess a b=true then b else a
def mrgS (out:List Row) (r:Row):List Row:=match out.getLast? with
 | none=>[r]
 | some q=>if leS r.1 q.2=true then out.dropLast++[(q.1,mxS q.2 r.2)] else out++[r]
def mrgL (ss:List Row):List Row:=ss.foldl mrgS []
def filR (rs:List Row):List Row:=rs.filter rowB
def kG (rs:List Row):List Row:=mrgL (stL (filR rs))
theorem sK (r:Row):mrgS [] r=[r]:=rfl
theorem uI {B:List Row} {q r:Row} (h:leS r.1 q.2=true):mrgS (B++[q]) r=B++[(q.1,mxS q.2 r.2)]:=by
 unfold mrgS;rw [List.getLast?_concat];simp [h]
theorem ux {B:List Row} {q r:Row} (h:leS r.1 q.2=false):mrgS (B++[q]) r=B++[q]++[r]:=by
 unfold mrgS;rw [List.getLast?_concat];simp [h]
theorem xx {ss:List Row} {i:Nat} {r:Row} (h:ss[i]?=some r):mrgL (ss.take (i+1))=mrgS (mrgL (ss.take i)) r:=by
 unfold mrgL;rw [List.take_add_one,h,List.foldl_append];rfl
theorem mrgS_len (out:List Row) (r:Row):(mrgS out r).length≤out.length+1:=by
 unfold mrgS;split
 ·simp
 ·rename_i q hq
  have:out≠[]:=by rintro rfl;simp at hq
  have:=List.length_pos_iff.2 this
  split<;>simp<;>omega
theorem vJ (ss:List Row):(mrgL ss).length≤ss.length:=by
 have key:∀(l out:List Row),(l.foldl mrgS out).length≤out.length+l.length:=by
  intro l;induction l with
  | nil=>intro out;simp
  | cons r l ih=>intro out;have h1:=ih (mrgS out r);have h2:=mrgS_len out r;simp only [Au,zW];omega
 simpa [mrgL] using key ss []
theorem xL {rs:List Row} {i:Nat} {r:Row} (h:rs[i]?=some r):filR (rs.take (i+1))=filR (rs.take i)++(if rowB r=true then [r] else []):=by
 unfold filR;rw [List.take_add_one,h,List.filter_append];cases hr:rowB r<;>simp [hr]
theorem rO (rs:List Row):(filR rs).length≤rs.length:=List.length_filter_le _ _
theorem xK (rs:List Row):(stL rs).length=rs.length:=by unfold stL;rw [zF,uO]
theorem mp (l:List Row) (r:Row):iY (l++[r])=iY l++[.string ⟨(r.1).toArray⟩,.string ⟨(r.2).toArray⟩]:=by simp [iY]
def U1Rel (rs:List Row) (w:World) (v q:Value) (wr:World):Prop :=
 ∃i:Nat,i≤rs.length∧q=.int .i64 i∧Below w.heap.size w wr∧wr.ownsRow w.heap.size 58 2 v (filR (rs.take i)).length (iY (filR (rs.take i)))
def U2Rel (ss:List Row) (a:Option Addr) (w:World) (v q:Value) (wr:World):Prop :=
 ∃i:Nat,i≤ss.length∧q=.int .i64 i∧Below w.heap.size w wr∧wr.ownsRow w.heap.size 58 2 v (mrgL (ss.take i)).length (iY (mrgL (ss.take i)))∧SlS wr (fun b=>v.ownBlock≠some b) a 2 ss.length (iY ss)
theorem yd {P:Program} (w:World) (ts:Array TypeId) (t:TypeId) (x y:Str):(Builtin.max_ ts t #[.string ⟨x.toArray⟩,.string ⟨y.toArray⟩]).run P w=.ok (.string ⟨(mxS x y).toArray⟩) w:=by
 unfold mxS;cases h:Op.bytesLess x y<;>simp [Builtin.max_,Builtin.max2,Op.stringOp,asBool,h]
theorem xX {w w':World} {v v':Value} {a:Option Addr} {sz n:Nat} {cs:List Value} (h:SlS w (fun b=>v.ownBlock≠some b) a sz n cs) (hg:w.grownBy w' v.ownBlock) (hm:sx w v v') :
  SlS w' (fun b=>v'.ownBlock≠some b) a sz n cs:=by
 have h1:SlS w (fun b=>v.ownBlock≠some b∧b<w.heap.size) a sz n cs:=h.mono fun b h1 h2=>⟨h1,h2⟩
 have h2:=h1.keep (w':=w') ⟨hg.size,fun b hb hlt=>hg.block b hlt (by first|exact hb.1|exact fun e=>hb.1 e.symm)⟩;refine h2.mono fun b hb _=>?_
 rcases hm with e|e
 ·rw [e];exact hb.1
 ·intro h3;have:=e b h3;omega
theorem zy {w:World} {B g cap:Nat} {L:List Row} {q:Row} {n:Nat} (h:w.ownsRow B 58 2 (.slice (some ⟨g,0,none⟩) n cap) n (iY (L++[q]))) (t:Str) :
  (w.setCell ⟨g,L.length*2+1,none⟩ (.string ⟨t.toArray⟩)).ownsRow B 58 2 (.slice (some ⟨g,0,none⟩) n cap) n (iY (L++[(q.1,t)])):=by
 have h1:=(h.stored (L.length*2+1) (.string ⟨t.toArray⟩)).1;have e:(iY (L++[q])).set (L.length*2+1) (.string ⟨t.toArray⟩)=iY (L++[(q.1,t)]):=by
  rw [mp,mp,List.set_append_right _ _ (by rw [kL];omega),kL,show L.length*2+1-L.length*2=1 by omega];rfl
 rw [e] at h1;exact h1
theorem own_at {w:World} {B g cap:Nat} {L:List Row} {q:Row} {n:Nat} (h:w.ownsRow B 58 2 (.slice (some ⟨g,0,none⟩) n cap) n (iY (L++[q]))) :
  w.cell? ⟨g,L.length*2,none⟩=some (.string ⟨(q.1).toArray⟩)∧w.cell? ⟨g,L.length*2+1,none⟩=some (.string ⟨(q.2).toArray⟩)∧∀j,w.frozen? ⟨g,j,none⟩=false:=by
 obtain⟨c1,c2⟩:=qH (rs:=L++[q]) (k:=L.length) (r:=q) fq;have hl:L.length+1=n:=by have:=h.1;rw [kL,zX,List.length_singleton] at this;omega
 exact⟨by rw [h.cellAt _ fg];exact c1,by rw [h.cellAt _ fg];exact c2,fun j=>h.frozenAt j⟩
theorem rZ (f:Value) (w:World):Calls Tryz.prog 113 #[.slice none 0 0,.int .i64 0,.int .i64 0,f] w fun e w'=>e=.returned (.tuple #[])∧w'=w:=by
 go_enter Tryz.func113,Tryz.ntmps113
 go_wp2
 go_loopw [8] (fun q wr=>q=.int .i64 1∧wr=w) (fun _ _=>0)
 case atStart=>exact⟨rfl,rfl⟩
 case round =>
  exact dt
theorem qO (w:World) :
  Calls Tryz.prog 46 #[.slice none 0 0,.func (.func 47) #[] #[]] w fun e w'=>e=.returned (.tuple #[])∧w'=w:=by
 have hst:Calls Tryz.prog 79 #[.slice none 0 0,.int .i64 0,.func (.func 47) #[] #[]] w fun e w'=>e=.returned (.tuple #[])∧w'=w:=by
  go_enter Tryz.func79,Tryz.ntmps79
  go_wp2
  go_loopw [7,8] (fun p q wr=>p=.int .i64 0∧q=.int .i64 20∧wr=w) (fun _ _ _=>0)
  case atStart=>exact⟨rfl,rfl,rfl⟩
  case round =>
   obtain⟨rfl,rfl,rfl⟩:=hrel;go_wp2_with (go_at_call 113;refine(rZ _ _).mono ?_)
   rintro e w1 ⟨rfl,hw1⟩;subst hw1;obtain⟨wo,hwo⟩:∃wo:World,wo=w1:=⟨_,rfl⟩;rw [←hwo];go_wp2
   go_loopw [6] (fun q wr=>q=.int .i64 20∧wr=wo) (fun _ _=>0)
   case atStart=>exact⟨rfl,hwo.symm⟩
   case round =>
    exact dt
 go_enter Tryz.func46,Tryz.ntmps46
 go_wp2_with (go_at_call 79;refine hst.mono ?_;rintro e w1 ⟨rfl,rfl⟩)
 go_end0
 exact⟨rfl,rfl⟩
def jz (c:UInt8):List Row:=if c=100 then [([48],[57])] else if c=119 then [([48],[57]),([65],[90]),([95],[95]),([97],[122])] else if c=115 then [([9],[13]),([32],[32])] else []
def lf (c:UInt8):Bool:=c==100||c==119||c==115
def oG (L:List Row) (b:Bool) (w:World) (e:Ending) (w':World):Prop :=
 ∃a k,e=.returned (.tuple #[.slice a L.length k,.bool b])∧SlS w' (fun x=>w.heap.size≤x) a 2 L.length (iY L)∧Below w.heap.size w w'∧(b=true→∃x,a=some x)
theorem uG {w:World} {B:Nat} {n sz:Nat} {cs:Array Value} {t:TypeId} (hB:B≤w.heap.size) (hl:cs.toList.length=n*sz) (h:Sl (w.alloc (.cells cs t)) (w.alloc (.cells cs t)).heap.size (some ⟨w.heap.size,0,none⟩) sz n cs.toList) :
  SlS (w.alloc (.cells cs t)) (fun x=>B≤x) (some ⟨w.heap.size,0,none⟩) sz n cs.toList :=
 ⟨hl,fun hn=>by
  obtain⟨b,o,h1,h2,h3⟩:=h.2 hn;injection h1 with h1
  injection h1 with h1 h4
  subst h1 h4;exact⟨_,_,rfl,hB,h2,h3⟩⟩
theorem tf (c:UInt8) (w:World):Calls Tryz.prog 171 #[.int .u8 c.toNat] w fun e w'=>oG (jz c) (lf c) w e w':=by
 have hb:=(Below.refl w.heap.size w).alloc (zP _) (.cells #[.string ⟨(([48]:Str)).toArray⟩,.string ⟨(([57]:Str)).toArray⟩] 58);by_cases h1:c=100
 ·subst h1
  show Calls Tryz.prog 171 #[.int .u8 (100:Nat)] w fun e w'=>oG [([48],[57])] true w e w'
  go_enter Tryz.func171,Tryz.ntmps171
  go_wp2
  go_ret2
  refine⟨_,_,rfl,?_,hb.alloc fq _,fun _=>⟨_,rfl⟩⟩;have hs:=uG (B:=w.heap.size) (w:=w.alloc (.cells #[.string ⟨(([48]:Str)).toArray⟩,.string ⟨(([57]:Str)).toArray⟩] 58)) (t:=58) (cs:=#[.string ⟨(([48]:Str)).toArray⟩,.string ⟨(([57]:Str)).toArray⟩]) (n:=1) (sz:=2) fq rfl (Sl.lit (heap_alloc_new _ _) rfl);rw [At] at hs;exact hs
 by_cases h2:c=119
 ·subst h2
  show Calls Tryz.prog 171 #[.int .u8 (119:Nat)] w fun e w'=>oG [([48],[57]),([65],[90]),([95],[95]),([97],[122])] true w e w'
  go_enter Tryz.func171,Tryz.ntmps171
  go_wp2
  go_ret2
  refine⟨_,_,rfl,?_,hb.alloc fq _,fun _=>⟨_,rfl⟩⟩;have hs:=uG (B:=w.heap.size) (w:=w.alloc (.cells #[.string ⟨(([48]:Str)).toArray⟩,.string ⟨(([57]:Str)).toArray⟩] 58)) (t:=58) (cs:=#[.string ⟨(([48]:Str)).toArray⟩,.string ⟨(([57]:Str)).toArray⟩,.string ⟨(([65]:Str)).toArray⟩,.string ⟨(([90]:Str)).toArray⟩,.string ⟨(([95]:Str)).toArray⟩,.string ⟨(([95]:Str)).toArray⟩,.string ⟨(([97]:Str)).toArray⟩,.string ⟨(([122]:Str)).toArray⟩]) (n:=4) (sz:=2) fq rfl (Sl.lit (heap_alloc_new _ _) rfl);rw [At] at hs;exact hs
 by_cases h3:c=115
 ·subst h3
  show Calls Tryz.prog 171 #[.int .u8 (115:Nat)] w fun e w'=>oG [([9],[13]),([32],[32])] true w e w'
  go_enter Tryz.func171,Tryz.ntmps171
  go_wp2
  go_ret2
  refine⟨_,_,rfl,?_,hb.alloc fq _,fun _=>⟨_,rfl⟩⟩;have hs:=uG (B:=w.heap.size) (w:=w.alloc (.cells #[.string ⟨(([48]:Str)).toArray⟩,.string ⟨(([57]:Str)).toArray⟩] 58)) (t:=58) (cs:=#[.string ⟨(([9]:Str)).toArray⟩,.string ⟨(([13]:Str)).toArray⟩,.string ⟨(([32]:Str)).toArray⟩,.string ⟨(([32]:Str)).toArray⟩]) (n:=2) (sz:=2) fq rfl (Sl.lit (heap_alloc_new _ _) rfl);rw [At] at hs;exact hs
 ·have hL:jz c=[]:=by simp [jz,h1,h2,h3]
  have hB:lf c=false:=by simp [lf,h1,h2,h3]
  have n1:c.toNat≠100:=fun e=>h1 (zK.1 e)
  have n2:c.toNat≠119:=fun e=>h2 (zK.1 e)
  have n3:c.toNat≠115:=fun e=>h3 (zK.1 e)
  rw [hL,hB];clear hL hB h1 h2 h3;go_enter Tryz.func171,Tryz.ntmps171
  go_wp2
  go_ret2
  exact⟨none,0,rfl,SlS.none_ _ _ _ _,hb,fun h=>by cases h⟩
end Go.Proofs.YtbnkaecmgfolpaaGreat
