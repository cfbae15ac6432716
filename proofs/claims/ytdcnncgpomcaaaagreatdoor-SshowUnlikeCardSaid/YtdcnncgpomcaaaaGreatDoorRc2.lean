/- walks of char: inside, end, Proper; of rxset: row, May -/
import Derived.Test.YtdcnncgpomcaaaaGreatDoorRc1
import Derived.Lib.LazyBuf
set_option maxRecDepth 100000
set_option maxHeartbeats 4000000
namespace Go.Proofs.YtdcnncgpomcaaaaGreatDoor
open Go.RowKit
def tW (l:Str) (i:Nat):Nat:=i+1+((l.drop (i+1)).takeWhile lf).length
theorem Fk (c:Int) (w:World) :
  Calls Tryz.prog 102 #[.int .u8 c] w fun e w'=>e=.returned (.bool (decide (128≤c∧c≤191)))∧w=w':=by
 by_cases h:128≤c∧c≤191
 ·obtain⟨h1,h2⟩:=h
  have hR:decide (128≤c∧c≤191)=true:=by simp;omega
  rw [hR];clear hR;go_enter Tryz.func102,Tryz.ntmps102
  exact dq
 ·have hR:decide (128≤c∧c≤191)=false:=gQ
  rw [hR];clear hR;go_enter Tryz.func102,Tryz.ntmps102
  go_wp2
  all_goals
   go_ret
   refine⟨lM ?_,rfl⟩;simp<;>omega
theorem vo (c:UInt8) {b:Bool} (w:World) (h:lf c=b) :
  Calls Tryz.prog 102 #[.int .u8 c.toNat] w fun e w'=>e=.returned (.bool b)∧w=w':=by
 refine(Fk (c.toNat:Int) w).mono ?_
 rintro e w' ⟨rfl,rfl⟩;refine⟨lM ?_,rfl⟩;rw [←h,Bool.eq_iff_iff];simp [lf];omega
theorem GJ (l:Str) (i:Nat) (w:World) (hi:i≤100000000) (hs:l.length≤100000000) :
  Calls Tryz.prog 103 #[.string ⟨l.toArray⟩,.int .i64 i] w fun e w'=>e=.returned (.int .i64 (tW l i))∧w=w':=by
 generalize hR:tW l i=R
 have HR:=ab hR;clear hR;have HR0:Hid (i+1+0+((l.drop (i+1+0)).takeWhile lf).length=R):=HR;clear HR;go_enter Tryz.func103,Tryz.ntmps103
 go_wp2
 go_loop [1] (fun q=>∃k:Nat,k≤l.length∧q=.int .i64 ((i+1+k:Nat):Int)∧Hid (i+1+k+((l.drop (i+1+k)).takeWhile lf).length=R)) (fun q=>l.length-(intOf q).toNat)
 case atStart=>exact⟨0,by omega,by go_num,HR0⟩
 case round =>
  obtain⟨k,hk,rfl,HF⟩:=hrel;clear HR0;cases hd:l.drop (i+1+k) with
  | nil =>
   have h2:=ms hd;have HE:Hid (i+1+k=R):=ab iE;clear hd HF;go_wp2
   go_ret
   exact⟨nA (by rw [←HE.out];omega),rfl⟩
  | cons c r =>
   obtain⟨h2,h3,hr⟩:=lG hd;have HE:Hid (i+1+k+((c::r).takeWhile lf).length=R):=ab kO;have Hr:=ab hr;clear hd HF hr;cases hc:lf c with
   | true =>
    go_wp2_with (go_at_call 102;refine(vo c _ hc).mono ?_;rintro e w1 ⟨rfl,rfl⟩)
    go_round
    case rel =>
     refine⟨k+1,by omega,by go_num,ab ?_⟩;rw [show i+1+(k+1)=i+1+k+1 from rfl,Hr.out,←HE.out,List.takeWhile_cons_of_pos hc];simp;omega
    case measure=>simp [intOf];omega
   | false =>
    go_wp2_with (go_at_call 102;refine(vo c _ hc).mono ?_;rintro e w1 ⟨rfl,rfl⟩)
    go_ret
    refine⟨nA ?_,rfl⟩;rw [←HE.out,List.takeWhile_cons_of_neg (by simp [hc])];simp
theorem ti:∀r:Str,((r.takeWhile lf).length=r.length)↔r.all lf=true
 | []=>by simp
 | c::r=>by
  have ih:=ti r;cases hc:lf c with
  | true=>rw [List.takeWhile_cons_of_pos hc];simp only [Jr,List.all_cons,hc,JG,←ih];omega
  | false=>rw [List.takeWhile_cons_of_neg (by simp [hc])];simp [hc]
theorem qv (l:Str) (w:World) (hs:l.length≤100000000) :
  Calls Tryz.prog 89 #[.string ⟨l.toArray⟩] w fun e w'=>e=.returned (.bool (l5 l))∧w=w':=by
 cases l with
 | nil =>
  go_enter Tryz.func89,Tryz.ntmps89
  exact dq
 | cons c r =>
  have hE:tW (c::r) 0=1+(r.takeWhile lf).length:=by simp [tW]
  have hta:=ti r;obtain⟨E,hE2⟩:∃E,tW (c::r) 0=E:=⟨_,rfl⟩;have HE:=ab hE;have HTA:=ab hta;clear hE hta;cases hc:lf c with
  | true =>
   have hP:l5 (c::r)=false:=by simp [l5,hc]
   rw [hP];clear hP hE2;go_enter Tryz.func89,Tryz.ntmps89
   go_wp2_with (go_at_call 102;refine(vo c _ hc).mono ?_;rintro e w1 ⟨rfl,rfl⟩)
   go_ret
   exact⟨rfl,rfl⟩
  | false =>
   have hP:l5 (c::r)=decide ((E:Int)=((c::r).length:Int)):=by
    rw [Bool.eq_iff_iff,Jj,←hE2,HE.out];simp only [l5,hc,Bool.not_false,JG,←HTA.out,Jr];omega
   have HP:=ab hP;have HE2:=ab hE2;clear hP hE2;rw [HP.out];go_enter Tryz.func89,Tryz.ntmps89
   go_wp2_with (first|(go_at_call 102;refine(vo c _ hc).mono ?_;rintro e w1 ⟨rfl,rfl⟩)|(go_at_call 103;refine(GJ (c::r) 0 _ gN hs).mono ?_;rintro e w1 ⟨rfl,rfl⟩;rw [HE2.out]))
   go_ret
   refine⟨lM ?_,rfl⟩;rw [Bool.eq_iff_iff];simp
theorem Hi (f t:Str) (w:World) (hf:f.length≤100000000) (ht:t.length≤100000000) :
  Calls Tryz.prog 104 #[.agg #[.string ⟨f.toArray⟩,.string ⟨t.toArray⟩]] w fun e w'=>e=.returned (.bool (rowB (f,t)))∧Below w.heap.size w w':=by
 generalize hR:rowB (f,t)=R
 have HR:=ab hR;clear hR;cases h1:l5 f with
 | false =>
  have HE:Hid (R=false):=ab (by rw [←HR.out];simp [rowB,h1]);exact cK
 | true =>
  cases h2:l5 t with
  | false =>
   have HE:Hid (R=false):=ab (by rw [←HR.out];simp [rowB,h2]);exact cK
  | true =>
   have HE:Hid (R=leS f t):=ab (by rw [←HR.out];simp [rowB,h1,h2]);go_enter Tryz.func104,Tryz.ntmps104
   go_wp2_with (go_at_call 89;refine(qv _ _ gN).mono ?_;rintro e w1 ⟨rfl,rfl⟩)
   go_ret
   exact⟨lM (by rw [HE.out]),(Below.refl _ _).alloc (Ju _) _⟩
open Go.RowKit
structure ExtOf (w:World) where
 val:World
 ext:Below w.heap.size w val
instance (w:World):Nonempty (ExtOf w):=⟨⟨w,Below.refl _ _⟩⟩
theorem kZ {P:Program} {id:Nat} {Q:Exit→Act→World→Prop} {a:Act} {w:World} {l:List Oper} (hm:P.follows .mixedOrders=true) (hB:Region.lexB .any l.toArray=true)
  (h:wpQuiet P l.toArray (fun w'=>∃x:ExtOf w,w'=x.val) (fun a'=>∀w',(∃x:ExtOf w,w'=x.val)→Q .normal a' w') l a):(Code.region id l.toArray true).wp P Q a w :=
 wp_region_quiet (C:=fun w'=>∃x:ExtOf w,w'=x.val) hm hB ⟨⟨w.drew,(Below.refl _ _).drew⟩,rfl⟩ gQ
theorem lW {P:Program} {f:FuncId} {args:Array Value} {w:World} {x:ExtOf w} {v:Value} (h:Calls P f args x.val fun e w'=>e=.returned v∧Below x.val.heap.size x.val w') :
  Calls P f args x.val fun e w''=>e=.returned v∧∃y:ExtOf w,w''=y.val :=
 h.mono fun _ w' ⟨he,hb⟩=>⟨he,⟨w',x.ext.trans (hb.mono x.ext.size)⟩,rfl⟩
theorem ExtOf.cell {w:World} {a:Addr} {u:Value} (h:w.cell? a=some u) (x:ExtOf w):x.val.cell? a=some u :=
 (x.ext.cell (World.block_lt_of_cell? w a h)).trans h
open Go.RowKit
theorem He {f t:Str} {b:Bool} (w:World) (h:rowB (f,t)=b) (hf:f.length≤100000000) (ht:t.length≤100000000) :
  Calls Tryz.prog 104 #[.agg #[.string ⟨f.toArray⟩,.string ⟨t.toArray⟩]] w fun e w'=>e=.returned (.bool b)∧Below w.heap.size w w':=by
 subst h;exact Hi f t w hf ht
def MayRel (rs:List (Str × Str)) (R:Bool) (w:World) (q:Value) (wr:World):Prop :=
 ∃(k:Nat) (p:Option Str),k≤rs.length∧q=.int .i64 k∧Below w.heap.size w wr∧Hid ((k=0∧p=none)∨∃j r,k=j+1∧rs[j]?=some r∧p=some r.2)∧Hid (oh p (rs.drop k)=R)
theorem C8 (a:Option Addr) (n c:Nat) (rs:List (Str × Str)) (w:World) (h:Sl w w.heap.size a 2 n (lw rs)) (hn:n≤100000000) (hsz:∀r∈rs,r.1.length≤100000000∧r.2.length≤100000000) :
  Calls Tryz.prog 90 #[.slice a n c] w fun e w'=>e=.returned (.bool (oY rs))∧Below w.heap.size w w':=by
 obtain rfl:=h.row_len;generalize hR:oY rs=R
 have HR:=ab hR;clear hR;have HR0:Hid (oh none (rs.drop 0)=R):=HR;have HSl:=ab h;have HSz:=ab hsz;clear HR h hsz;go_enter Tryz.func90,Tryz.ntmps90
 go_wp2
 go_loopw [7] (fun q wr=>MayRel rs R w q wr) (fun q _=>rs.length-(intOf q).toNat)
 case atStart=>exact⟨0,none,by omega,rfl,Below.refl _ _,ab (.inl ⟨rfl,rfl⟩),HR0⟩
 case round =>
  obtain⟨k,p,hk,rfl,hb,HP,HF⟩:=hrel;clear HR0;have hB:=hb.size;cases hd:rs.drop k with
  | nil =>
   have h2:rs.length≤k:=it;have HE:Hid (R=true):=ab iE;clear hd HF;go_wp2
   go_ret
   exact⟨lM HE.out.symm,hb⟩
  | cons r0 r =>
   obtain⟨h2,h3,hr⟩:=lC hd;have HF':Hid (oh p (r0::r)=R):=ab kO;have Hr:=ab hr;obtain⟨b,o,rfl,hbB,c0,c1⟩:=(HSl.out.keep hb).row h3;obtain⟨z1,z2⟩:=HSz.out r0 (JH h3);have HE3:=ab h3;obtain⟨f,t⟩:=r0;replace z1:f.length≤100000000:=z1;replace z2:t.length≤100000000:=z2;clear hd HF hr h3;have e0:∀x:ExtOf (wr.alloc (.cells #[.string ⟨f.toArray⟩,.string ⟨t.toArray⟩] 93)),x.val.cell? ⟨wr.heap.size,0,none⟩=some (.string ⟨f.toArray⟩):=ExtOf.cell gU;have e1:∀x:ExtOf (wr.alloc (.cells #[.string ⟨f.toArray⟩,.string ⟨t.toArray⟩] 93)),x.val.cell? ⟨wr.heap.size,1,none⟩=some (.string ⟨t.toArray⟩):=ExtOf.cell gU;cases hB1:rowB (f,t) with
   | false =>
    have HB:=ab hB1;have HE:Hid (R=false):=ab (by rw [←HF'.out];simp only [oh];rw [HB.out];rfl);clear hB1;go_wp2
    refine kZ gT gT ?_;repeat (go_big_quiet_step (((go_at_call 104;exact lW (He _ HB.out gN gN)))))
    refine wpQuiet_nil ?_;rintro _ ⟨xq,rfl⟩;exact ev
   | true =>
    have HB:=ab hB1;clear hB1;rcases HP.out with⟨hk0,hp0⟩|⟨j,r',hkj,hj,hpj⟩
    ·have hk0':decide (0<k)=false:=by rw [JJ];omega
     have HL:Hid (p=none):=ab hp0;clear hk0 hp0;go_wp2
     refine kZ gT gT ?_;repeat (go_big_quiet_step (((go_at_call 104;exact lW (He _ HB.out gN gN)))))
     refine wpQuiet_nil ?_;rintro _ ⟨xq,rfl⟩;go_wp2
     go_roundw
     case rel=>exact⟨k+1,some t,by omega,by go_num,(hb.alloc hB _).trans (xq.ext.mono gV),ab (.inr ⟨k,(f,t),rfl,HE3.out,rfl⟩),ab (by rw [Hr.out,←HF'.out];simp only [oh];rw [HB.out];simp [HL.out])⟩
     case measure=>simp [intOf];omega
    ·obtain⟨b',o',hab,_,d0,d1⟩:=(HSl.out.keep hb).row hj
     obtain⟨rfl,rfl⟩:b=b'∧o=o':=by simpa using hab
     obtain⟨f',t'⟩:=r';have HPJ:=ab hpj;subst hkj;clear hj hpj hab;have d2:∀x:ExtOf (wr.alloc (.cells #[.string ⟨f.toArray⟩,.string ⟨t.toArray⟩] 93)),x.val.cell? ⟨b,o+j*2+1,none⟩=some (.string ⟨t'.toArray⟩):=ExtOf.cell (by rw [World.cell?_alloc_lt _ _ _ gV];exact d1);have d1':(wr.alloc (.cells #[.string ⟨f.toArray⟩,.string ⟨t.toArray⟩] 93)).cell? ⟨b,o+j*2+1,none⟩=some (.string ⟨t'.toArray⟩):=by
      rw [World.cell?_alloc_lt _ _ _ gV];exact d1
     go_wp2
     refine kZ gT gT ?_;repeat (go_big_quiet_step (((go_at_call 104;exact lW (He _ HB.out gN gN)))))
     refine wpQuiet_nil ?_;rintro _ ⟨xq,rfl⟩;cases hL1:leS f t' with
     | true =>
      have HE:Hid (R=false):=ab (by rw [←HF'.out,HPJ.out];simp only [oh];rw [HB.out,hL1];rfl);exact ev
     | false =>
      have HL:=ab hL1;go_wp2
      go_roundw
      case rel=>exact⟨j+1+1,some t,by omega,by go_num,(hb.alloc hB _).trans (xq.ext.mono gV),ab (.inr ⟨j+1,(f,t),rfl,HE3.out,rfl⟩),ab (by rw [Hr.out,←HF'.out,HPJ.out];simp only [oh];rw [HB.out,HL.out];rfl)⟩
      case measure=>simp [intOf];omega
open Go.RowKit
def qh (c:Str) (ng:Bool) (rn:Nat) (lo hi:Int) (lz:Bool):Bool:=decide (c=[])&&!ng&&decide (rn=0)&&decide (lo=0)&&decide (hi=0)&&!lz
theorem bare_any (k:Int) (c:Str) (ng:Bool) (ra:Option Addr) (rn rc:Nat) (lo hi:Int) (lz:Bool) (ka:Option Addr) (kn kc:Nat) (w:World) :
  Calls Tryz.prog 88 #[.agg #[.int .i64 k,.string ⟨c.toArray⟩,.bool ng,.slice ra rn rc,.int .i64 lo,.int .i64 hi,.bool lz,.slice ka kn kc]] w fun e w'=>e=.returned (.bool (qh c ng rn lo hi lz))∧Below w.heap.size w w':=by
 generalize hR:qh c ng rn lo hi lz=R
 have HR:=ab hR;clear hR;have hbw:∀o:Obj,Below w.heap.size w (w.alloc o):=fun o=>(Below.refl _ _).alloc (Ju _) _
 have HBW:=ab hbw;clear hbw;cases c<;>cases ng<;>cases lz
 all_goals
  go_enter Tryz.func88,Tryz.ntmps88
  go_wp2
  all_goals
   go_ret
   refine⟨lM ?_,HBW.out _⟩;rw [←HR.out,Bool.eq_iff_iff];simp [qh, *]
theorem AF (k:Int) (w:World):Calls Tryz.prog 91 #[.int .i64 k] w fun e w'=>e=.returned (.bool (repB k))∧w=w':=by
 generalize hR:repB k=R
 have HR:=ab hR;clear hR;go_enter Tryz.func91,Tryz.ntmps91
 go_wp2
 all_goals
  go_ret
  refine⟨lM ?_,rfl⟩;rw [←HR.out,Bool.eq_iff_iff];clear HR;simp_all [repB]
theorem tj (k:Int) (w:World):Calls Tryz.prog 70 #[.int .i64 k] w fun e w'=>e=.returned (.bool (grpB k))∧w=w':=by
 generalize hR:grpB k=R
 have HR:=ab hR;clear hR;go_enter Tryz.func70,Tryz.ntmps70
 go_wp2
 all_goals
  go_ret
  refine⟨lM ?_,rfl⟩;rw [←HR.out,Bool.eq_iff_iff];clear HR;simp_all [grpB]
def qY (zs:List Int):List Value:=zs.map fun z=>.int .i64 z
theorem Sl.int_ {w:World} {B:Nat} {a:Option Addr} {n:Nat} {zs:List Int} (h:Sl w B a 1 n (qY zs)) {k:Nat} {z:Int} (hk:zs[k]?=some z) :
  ∃b o,a=some ⟨b,o,none⟩∧b<B∧w.cell? ⟨b,o+k,none⟩=some (.int .i64 z):=by
 have hlt:=(Jx.1 hk).1;have hn:n=zs.length:=by have:=h.1;simp [qY] at this;omega
 obtain⟨b,o,h1,h2,h3⟩:=h.2 gN;exact⟨b,o,h1,h2,h3 k _ (by simp [qY,hk])⟩
theorem Sl.int_len {w:World} {B:Nat} {a:Option Addr} {n:Nat} {zs:List Int} (h:Sl w B a 1 n (qY zs)):n=zs.length:=by
 have:=h.1;simp [qY] at this;omega
def Io (b:Bool) (e:Ending):Prop:=∃r:Int,e=.returned (.int .i64 r)∧-1≤r∧(decide (0≤r)=b)
theorem IJ (a:Option Addr) (n c:Nat) (zs:List Int) (v:Int) (w:World) (h:Sl w w.heap.size a 1 n (qY zs)) (hn:n≤100000000) :
  Calls Tryz.prog 114 #[.slice a n c,.int .i64 v] w fun e w'=>Io (zs.contains v) e∧w=w':=by
 obtain rfl:=h.int_len;have HSl:=ab h;clear h;obtain⟨R,hR⟩:∃R,zs.contains v=R:=⟨_,rfl⟩;rw [hR];have HR0:Hid ((zs.drop 0).contains v=R):=ab hR;clear hR;go_enter Tryz.func114,Tryz.ntmps114
 go_wp2
 go_loop [8] (fun q=>∃k:Nat,k≤zs.length∧q=.int .i64 k∧Hid ((zs.drop k).contains v=R)) (fun q=>zs.length-(intOf q).toNat)
 case atStart=>exact⟨0,by omega,rfl,HR0⟩
 case round =>
  obtain⟨k,hk,rfl,HF⟩:=hrel;clear HR0;cases hd:zs.drop k with
  | nil =>
   have h2:zs.length≤k:=it;have HE:Hid (R=false):=ab iE;clear hd HF;go_wp2
   go_ret
   exact⟨⟨-1,rfl,by omega,by rw [HE.out];rfl⟩,rfl⟩
  | cons z r =>
   obtain⟨h2,h3,hr⟩:=lC hd;have HE:Hid (R=(z::r).contains v):=ab kO;have Hr:=ab hr;obtain⟨b,o,rfl,hbB,c0⟩:=HSl.out.int_ h3;clear hd HF hr h3;by_cases hz:v=z
   ·have hz1:(v==z)=true:=by simpa using hz
    have HZ:=ab hz;clear hz;go_wp2
    go_ret
    exact⟨⟨k,rfl,by omega,by rw [HE.out,HZ.out];simp⟩,rfl⟩
   ·have hz1:(v==z)=false:=by simpa using hz
    have HZ:=ab hz;clear hz;go_wp2
    go_round
    case rel=>exact⟨k+1,by omega,by go_num,ab (by rw [Hr.out,HE.out,List.contains_cons];simp [HZ.out])⟩
    case measure=>simp [intOf];omega
theorem Al (a:Option Addr) (n c:Nat) (zs:List Int) (v:Int) (w:World) (h:Sl w w.heap.size a 1 n (qY zs)) (hn:n≤100000000) :
  Calls Tryz.prog 107 #[.slice a n c,.int .i64 v] w fun e w'=>e=.returned (.bool (zs.contains v))∧w=w':=by
 have HSl:=ab h;clear h;go_enter Tryz.func107,Tryz.ntmps107
 go_wp2_with (go_at_call 114;refine(IJ _ _ _ zs _ _ HSl.out hn).mono ?_;rintro e w1 ⟨⟨r,rfl,h1,h2⟩,rfl⟩)
 go_ret
 exact⟨lM gU,rfl⟩
open Go.RowKit
def anyK (xs:List Rx) (zs:List Int):Bool:=xs.any fun x=>zs.contains x.kind
theorem By (zs:List Int) (a:Option Addr) (n c:Nat) (g:Nat) (k:Int) (ch:Str) (ng:Bool) (ra:Option Addr) (rn rc:Nat) (lo hi:Int) (lz:Bool) (ka:Option Addr) (kn kc:Nat) (w:World)
  (h:Sl w w.heap.size a 1 n (qY zs)) (hn:n≤100000000) (hg:w.cell? ⟨g,0,none⟩=some (.slice a n c)) :
  Calls Tryz.prog 106 #[.agg #[.int .i64 k,.string ⟨ch.toArray⟩,.bool ng,.slice ra rn rc,.int .i64 lo,.int .i64 hi,.bool lz,.slice ka kn kc],.pointer (some ⟨g,0,none⟩)] w fun e w'=>e=.returned (.bool (zs.contains k))∧Below w.heap.size w w':=by
 have hlt:=World.block_lt_of_cell? w _ hg;replace hlt:g<w.heap.size:=hlt;have HSl:=ab (h.alloc_self (.cells #[.int .i64 k,.string ⟨ch.toArray⟩,.bool ng,.slice ra rn rc,.int .i64 lo,.int .i64 hi,.bool lz,.slice ka kn kc] 38));clear h;go_enter Tryz.func106,Tryz.ntmps106
 go_wp2_with (go_at_call 107;refine(Al _ _ _ zs _ _ HSl.out hn).mono ?_;rintro e w1 ⟨rfl,rfl⟩)
 go_ret
 exact⟨lM gU,(Below.refl _ _).alloc (Ju _) _⟩
def SmRel (xs:List Rx) (zs:List Int) (R:Bool) (w:World) (q:Value) (wr:World):Prop :=
 ∃k:Nat,k≤xs.length∧q=.int .i64 k∧Below w.heap.size w wr∧Hid (anyK (xs.drop k) zs=R)
theorem zr (S:Nat→Prop) (xa:Option Addr) (xc:Nat) (xs:List Rx) (zs:List Int) (a:Option Addr) (n c:Nat) (g:Nat) (w:World)
  (hx:RxSl w S xa xs.length xs) (hxn:xs.length≤100000000)
  (h:Sl w w.heap.size a 1 n (qY zs)) (hn:n≤100000000) (hg:w.cell? ⟨g,0,none⟩=some (.slice a n c)) :
  Calls Tryz.prog 113 #[.slice xa xs.length xc,.func (.func 106) #[] #[.pointer (some ⟨g,0,none⟩)]] w fun e w'=>Io (anyK xs zs) e∧Below w.heap.size w w':=by
 obtain⟨R,hR⟩:∃R,anyK xs zs=R:=⟨_,rfl⟩;rw [hR];have HR0:Hid (anyK (xs.drop 0) zs=R):=ab hR;have HX:=ab hx;have HSl:=ab h;have HG:=ab hg;clear hR hx h hg;go_enter Tryz.func113,Tryz.ntmps113
 go_wp2
 go_loopw [8] (fun q wr=>SmRel xs zs R w q wr) (fun q _=>xs.length-(intOf q).toNat)
 case atStart=>exact⟨0,by omega,rfl,Below.refl _ _,HR0⟩
 case round =>
  obtain⟨k,hk,rfl,hb,HF⟩:=hrel;clear HR0;have hB:=hb.size;cases hd:xs.drop k with
  | nil =>
   have h2:xs.length≤k:=it;have HE:Hid (R=false):=ab iE;clear hd HF;go_wp2
   go_ret
   exact⟨⟨-1,rfl,by omega,by rw [HE.out];rfl⟩,hb⟩
  | cons x r =>
   obtain⟨h2,h3,hr⟩:=lC hd;obtain⟨kd,ch,ng,rs,lo,hi,lz,ks⟩:=x;have HE:Hid (R=(zs.contains kd||anyK r zs)):=ab iE;have Hr:=ab hr;obtain⟨b,o,ra,rc,ka,kc,rfl,hS,hbB,_,_,_,c0,c1,c2,c3,c4,c5,c6,c7⟩:=(HX.out.later hb).cells h3;have HS2:=ab ((HSl.out.keep hb).mono hB);have HG2:=ab (lP hb _ _ HG.out);clear hd HF hr h3;cases hz:zs.contains kd with
   | true =>
    have HZ:=ab hz;clear hz;go_wp2_with (go_at_call 106;refine(By zs _ _ _ _ _ _ _ _ _ _ _ _ _ _ _ _ _ HS2.out hn HG2.out).mono ?_;rintro e w1 ⟨rfl,hb1⟩;rw [HZ.out])
    go_ret
    exact⟨⟨k,rfl,by omega,by rw [HE.out,HZ.out];simp⟩,hb.trans (hb1.mono hB)⟩
   | false =>
    have HZ:=ab hz;clear hz;go_wp2_with (go_at_call 106;refine(By zs _ _ _ _ _ _ _ _ _ _ _ _ _ _ _ _ _ HS2.out hn HG2.out).mono ?_;rintro e w1 ⟨rfl,hb1⟩;rw [HZ.out])
    go_roundw
    case rel=>exact⟨k+1,by omega,by go_num,hb.trans (hb1.mono hB),ab (by rw [Hr.out,HE.out,HZ.out,Bool.false_or])⟩
    case measure=>simp [intOf];omega
theorem uM (S:Nat→Prop) (xa:Option Addr) (xc:Nat) (xs:List Rx) (zs:List Int) (a:Option Addr) (n c:Nat) (g:Nat) (w:World)
  (hx:RxSl w S xa xs.length xs) (hxn:xs.length≤100000000)
  (h:Sl w w.heap.size a 1 n (qY zs)) (hn:n≤100000000) (hg:w.cell? ⟨g,0,none⟩=some (.slice a n c)) :
  Calls Tryz.prog 105 #[.slice xa xs.length xc,.func (.func 106) #[] #[.pointer (some ⟨g,0,none⟩)]] w fun e w'=>e=.returned (.bool (anyK xs zs))∧Below w.heap.size w w':=by
 have HX:=ab hx;have HSl:=ab h;have HG:=ab hg;clear hx h hg;go_enter Tryz.func105,Tryz.ntmps105
 go_wp2_with (go_at_call 113;refine(zr S _ _ xs zs _ _ _ _ _ HX.out hxn HSl.out hn HG.out).mono ?_;rintro e w1 ⟨⟨r,rfl,h1,h2⟩,hb1⟩)
 go_ret
 exact⟨lM gU,hb1⟩
theorem some_any (S:Nat→Prop) (xa:Option Addr) (xc:Nat) (xs:List Rx) (zs:List Int) (a:Option Addr) (n c:Nat) (w:World)
  (hx:RxSl w S xa xs.length xs) (hxn:xs.length≤100000000) (h:Sl w w.heap.size a 1 n (qY zs)) (hn:n≤100000000) :
  Calls Tryz.prog 92 #[.slice xa xs.length xc,.slice a n c] w fun e w'=>e=.returned (.bool (anyK xs zs))∧Below w.heap.size w w':=by
 have HX:=ab (hx.later ((Below.refl _ _).alloc (Ju _) (.cells #[.slice a n c] 148)));have HSl:=ab (h.alloc_self (.cells #[.slice a n c] 148));clear hx h;go_enter Tryz.func92,Tryz.ntmps92
 go_wp2_with (go_at_call 105;refine(uM S _ _ xs zs a n c _ _ HX.out hxn HSl.out hn gU).mono ?_;rintro e w1 ⟨rfl,hb1⟩)
 exact eE
open Go.RowKit
namespace Rx
def small1:Rx→Prop
 | mk _ c _ rs _ _ _ ks=>c.length≤1000000∧rs.length≤1000000∧(∀r∈rs,r.1.length≤1000000∧r.2.length≤1000000)∧ks.length≤1000000
mutual
def small:Rx→Prop
 | mk k c ng rs lo hi lz ks=>small1 (mk k c ng rs lo hi lz ks)∧smallL ks
def smallL:List Rx→Prop
 | []=>True
 | x::r=>small x∧smallL r
end
end Rx
theorem oG:∀{ks:List Rx} {x:Rx},Rx.smallL ks→x∈ks→x.small
 | [],_,_,h=>by simp at h
 | y::r,x,hs,h=>by
  simp only [Rx.smallL] at hs;rcases JC.1 h with rfl|h
  ·exact hs.1
  ·exact oG hs.2 h
theorem qO (k:Int) (c:Str) (ng:Bool) (rs:List (Str × Str)) (lo hi:Int) (lz:Bool) (ks:List Rx):sL (.mk k c ng rs lo hi lz ks)=qh c ng rs.length lo hi lz:=by
 show (decide (c=[])&&!ng&&decide (rs=[])&&decide (lo=0)&&decide (hi=0)&&!lz)=_
 rw [Bool.eq_iff_iff];simp [qh]
theorem om {k:Int} {c:Str} {ng:Bool} {ra:Option Addr} {rn rc:Nat} {lo hi:Int} {lz:Bool} {ka:Option Addr} {kn kc:Nat} {b:Bool} (w:World) (h:qh c ng rn lo hi lz=b) :
  Calls Tryz.prog 88 #[.agg #[.int .i64 k,.string ⟨c.toArray⟩,.bool ng,.slice ra rn rc,.int .i64 lo,.int .i64 hi,.bool lz,.slice ka kn kc]] w fun e w'=>e=.returned (.bool b)∧Below w.heap.size w w'∧∀a u,w.cell? a=some u→w'.cell? a=some u:=by
 subst h;exact(bare_any k c ng ra rn rc lo hi lz ka kn kc w).mono fun _ _ ⟨h1,h2⟩=>⟨h1,h2,lP h2⟩
def nilB (ks:List Rx):Bool:=match ks with|[]=>true|_=>false
theorem fields_2 (c:Str) (ng:Bool) (ra:Option Addr) (rs:List (Str × Str)) (rc:Nat) (lo hi:Int) (lz:Bool) (ka:Option Addr) (ks:List Rx) (kc:Nat) (w:World)
  (hsm:(Rx.mk 2 c ng rs lo hi lz ks).small1) :
  Calls Tryz.prog 71 #[.agg #[.int .i64 2,.string ⟨c.toArray⟩,.bool ng,.slice ra rs.length rc,.int .i64 lo,.int .i64 hi,.bool lz,.slice ka ks.length kc]] w fun e w'=>e=.returned (.bool (lI (.mk 2 c ng rs lo hi lz ks)))∧Below w.heap.size w w':=by
 generalize hR:lI (.mk 2 c ng rs lo hi lz ks)=R
 have HR:=ab hR;clear hR;have HS:Hid (R=(qh [] ng rs.length lo hi lz&&nilB ks&&l5 c)):=ab (by rw [←HR.out,←qO];cases ks<;>rfl);obtain⟨s1,s2,s3,s4⟩:=hsm;clear HR s3;cases hbv:qh [] ng rs.length lo hi lz with
 | false =>
  exact aJ
 | true =>
  have HB:=ab hbv;have HR:Hid (R=(nilB ks&&l5 c)):=ab ji;clear hbv;rcases ks with _|⟨x,ks⟩
  ·have HR2:Hid (R=l5 c):=ab jf
   go_enter Tryz.func71,Tryz.ntmps71
   go_wp2_with (first|(go_at_call 88;refine(om _ HB.out).mono ?_;rintro e w1 ⟨rfl,hb1,hc1⟩;have hq7:=hc1 ⟨w.heap.size,7,none⟩ (.slice ka (0) kc) gU)|(go_at_call 89;refine(qv _ _ gN).mono ?_;rintro e w2 ⟨rfl,rfl⟩))
   exact aX
  ·exact fp
theorem fields_4 (c:Str) (ng:Bool) (ra:Option Addr) (rs:List (Str × Str)) (rc:Nat) (lo hi:Int) (lz:Bool) (ka:Option Addr) (ks:List Rx) (kc:Nat) (w:World)
  (hr:Sl w w.heap.size ra 2 rs.length (lw rs)) (hsm:(Rx.mk 4 c ng rs lo hi lz ks).small1) :
  Calls Tryz.prog 71 #[.agg #[.int .i64 4,.string ⟨c.toArray⟩,.bool ng,.slice ra rs.length rc,.int .i64 lo,.int .i64 hi,.bool lz,.slice ka ks.length kc]] w fun e w'=>e=.returned (.bool (lI (.mk 4 c ng rs lo hi lz ks)))∧Below w.heap.size w w':=by
 generalize hR:lI (.mk 4 c ng rs lo hi lz ks)=R
 have HR:=ab hR;clear hR;have HS:Hid (R=(qh c false 0 lo hi lz&&nilB ks&&oY rs)):=ab (by rw [←HR.out,show (0:Nat)=([]:List (Str × Str)).length from rfl,←qO 4 c false [] lo hi lz ks];cases ks<;>rfl);obtain⟨s1,s2,s3,s4⟩:=hsm;have HRS:=ab hr;have HS3:=ab s3;clear HR s3 hr;cases hbv:qh c false 0 lo hi lz with
 | false =>
  exact aJ
 | true =>
  have HB:=ab hbv;have HR:Hid (R=(nilB ks&&oY rs)):=ab ji;clear hbv;rcases ks with _|⟨x,ks⟩
  ·have HR2:Hid (R=oY rs):=ab jf
   go_enter Tryz.func71,Tryz.ntmps71
   go_wp2_with (first|(((go_at_call 88;refine(om _ HB.out).mono ?_;rintro e w1 ⟨rfl,hb1,hc1⟩;have hq7:=hc1 ⟨w.heap.size,7,none⟩ (.slice ka (0) kc) gU));have HR1:=ab (((HRS.out.alloc_self _).keep hb1).mono hb1.size))|(go_at_call 90;refine(C8 _ _ _ rs _ HR1.out gN (fun r hr=>by have:=HS3.out r hr;omega)).mono ?_;rintro e w2 ⟨rfl,hb2⟩))
   go_ret
   exact⟨lM HR2.out.symm,(((Below.refl _ _).alloc (Ju _) _).trans (hb1.mono gU)).trans (hb2.mono kj)⟩
  ·exact fp
theorem FA (K:Int) (hK:K=5∨K=6) (c:Str) (ng:Bool) (ra:Option Addr) (rs:List (Str × Str)) (rc:Nat) (lo hi:Int) (lz:Bool) (ka:Option Addr) (ks:List Rx) (kc:Nat) (w:World)
  (hsm:(Rx.mk K c ng rs lo hi lz ks).small1) :
  Calls Tryz.prog 71 #[.agg #[.int .i64 K,.string ⟨c.toArray⟩,.bool ng,.slice ra rs.length rc,.int .i64 lo,.int .i64 hi,.bool lz,.slice ka ks.length kc]] w fun e w'=>e=.returned (.bool (lI (.mk K c ng rs lo hi lz ks)))∧Below w.heap.size w w':=by
 generalize hR:lI (.mk K c ng rs lo hi lz ks)=R
 have HR:=ab hR;clear hR;have HS:Hid (R=(qh c ng rs.length lo hi lz&&decide (ks.length=1))):=ab (by rw [←HR.out,←qO K c ng rs lo hi lz ks];rcases hK with rfl|rfl<;>rfl);obtain⟨s1,s2,s3,s4⟩:=hsm;clear HR s3;rcases hK with rfl|rfl
 all_goals
  cases hbv:qh c ng rs.length lo hi lz with
  | false =>
   exact aJ
  | true =>
   have HB:=ab hbv;have HR:Hid (R=decide (ks.length=1)):=ab ji;clear hbv;rcases ks with _|⟨x,_|⟨y,ks⟩⟩
   ·have HR2:Hid (R=false):=ab jf
    exact fz
   ·have HR2:Hid (R=true):=ab jf
    exact fA
   ·have HR2:Hid (R=false):=ab (by rw [HR.out];simp)
    go_enter Tryz.func71,Tryz.ntmps71
    go_wp2_with (go_at_call 88;refine(om _ HB.out).mono ?_;rintro e w1 ⟨rfl,hb1,hc1⟩;have hq7:=hc1 ⟨w.heap.size,7,none⟩ (.slice ka (ks.length+1+1) kc) gU)
    exact aX
theorem Cx (K:Int) (hK:K=3∨K=8∨K=9∨K=10∨K=11) (c:Str) (ng:Bool) (ra:Option Addr) (rs:List (Str × Str)) (rc:Nat) (lo hi:Int) (lz:Bool) (ka:Option Addr) (ks:List Rx) (kc:Nat) (w:World)
  (hsm:(Rx.mk K c ng rs lo hi lz ks).small1) :
  Calls Tryz.prog 71 #[.agg #[.int .i64 K,.string ⟨c.toArray⟩,.bool ng,.slice ra rs.length rc,.int .i64 lo,.int .i64 hi,.bool lz,.slice ka ks.length kc]] w fun e w'=>e=.returned (.bool (lI (.mk K c ng rs lo hi lz ks)))∧Below w.heap.size w w':=by
 generalize hR:lI (.mk K c ng rs lo hi lz ks)=R
 have HR:=ab hR;clear hR;have HS:Hid (R=(qh c ng rs.length lo hi lz&&nilB ks)):=ab (by rw [←HR.out,←qO K c ng rs lo hi lz ks];rcases hK with rfl|rfl|rfl|rfl|rfl<;>cases ks<;>rfl);obtain⟨s1,s2,s3,s4⟩:=hsm;clear HR s3;rcases hK with rfl|rfl|rfl|rfl|rfl
 all_goals
  cases hbv:qh c ng rs.length lo hi lz with
  | false =>
   exact aJ
  | true =>
   have HB:=ab hbv;have HR:Hid (R=nilB ks):=ab ji;clear hbv;rcases ks with _|⟨x,ks⟩
   ·have HR2:Hid (R=true):=ab jf
    exact fz
   ·exact fp
theorem C2 (K:Int) (hK:¬K=0∧¬K=1∧¬K=2∧¬K=3∧¬K=4∧¬K=5∧¬K=6∧¬K=7∧¬K=8∧¬K=9∧¬K=10∧¬K=11) (c:Str) (ng:Bool) (ra:Option Addr) (rn:Nat) (rs:List (Str × Str)) (rc:Nat) (lo hi:Int) (lz:Bool) (ka:Option Addr) (kn:Nat) (ks:List Rx) (kc:Nat) (w:World) :
  Calls Tryz.prog 71 #[.agg #[.int .i64 K,.string ⟨c.toArray⟩,.bool ng,.slice ra rn rc,.int .i64 lo,.int .i64 hi,.bool lz,.slice ka kn kc]] w fun e w'=>e=.returned (.bool (lI (.mk K c ng rs lo hi lz ks)))∧Below w.heap.size w w':=by
 obtain⟨k0,k1,k2,k3,k4,k5,k6,k7,k8,k9,k10,k11⟩:=hK;have HS:Hid (lI (.mk K c ng rs lo hi lz ks)=false):=ab (by
  simp only [lI];rw [Jo k2,Jo k4,Jo k7,Jo k0,Jo k1,Jo gN,Jo gN])
 rw [HS.out];have e0:(K==0)=false:=by simpa using k0
 have e1:(K==1)=false:=by simpa using k1
 have e2:(K==2)=false:=by simpa using k2
 have e3:(K==3)=false:=by simpa using k3
 have e4:(K==4)=false:=by simpa using k4
 have e5:(K==5)=false:=by simpa using k5
 have e6:(K==6)=false:=by simpa using k6
 have e7:(K==7)=false:=by simpa using k7
 have e8:(K==8)=false:=by simpa using k8
 have e9:(K==9)=false:=by simpa using k9
 have e10:(K==10)=false:=by simpa using k10
 have e11:(K==11)=false:=by simpa using k11
 clear k0 k1 k2 k3 k4 k5 k6 k7 k8 k9 k10 k11;go_enter Tryz.func71,Tryz.ntmps71
 go_wp2
 go_ret
 exact⟨rfl,(Below.refl _ _).alloc (Ju _) _⟩
open Go.RowKit
def xj (w:World) (v v':Value):Prop:=v'.ownBlock=v.ownBlock∨∀k,v'.ownBlock=some k→w.heap.size≤k
theorem Bh {P:Program} {w:World} {base:Nat} {t ty e:TypeId} {i:TypeInfo} {z:Value} {size bytes:Nat} (ht:P.underlying t=some (.slice e)) (hi:P.info? e=some i) (hz:i.zero=some z)
  (hsize:i.size=size) (hby:i.bytes=bytes) (hzs:z.cells.size=size) (hsz:0<size)
  {v:Value} {n:Nat} {xs:List Value} (hown:w.ownsRow base e size v n xs)
  {a:Addr} {m c:Nat} {news:List Value} (hl:news.length=m*size) (hnews:∀j u,news[j]?=some u→w.cell? (a.add j)=some u) (h1:∀u∈news,u.oneCell'=true)
  (h63:n+m≤maxLen) (hbytes:(n+m)*bytes≤140737488355328) {v':Value} {w':World}
  (hr:(Builtin.append_ #[t,t] ty #[v,.slice (some a) m c]).run P w=.ok v' w'):xj w v v':=by
 rcases hown.2 with⟨rfl,rfl⟩|⟨g,cap,cur,rfl,hbg,hg,hnc,hcm,hcs,htake⟩
 ·obtain⟨v2,w2,h2,h3,_,_⟩:=run_append_own (P:=P) w w.heap.size t ty e i z size bytes ht hi hz hsize hby hzs hsz _ 0 [] (World.ownsRow_nil w _ e size) a m c news hl hnews h1 h63 hbytes (Ju _)
  rw [h2] at hr;injection hr with hr _
  subst hr;exact .inr fun k hk=>(h3.lt k hk).1
 ·subst hsize
  subst hby;by_cases hroom:n+m≤cap
  ·have hfit:n*i.size+news.length≤cur.size:=by rw [hl,hcs,←Nat.add_mul];exact Nat.mul_le_mul_right _ hroom
   have h2:=run_append_room (P:=P) w t ty e i ht hi g n cap cur hg a m c news hl hnews h1 hroom hfit;rw [h2] at hr;injection hr with hr _
   subst hr;exact .inl rfl
  ·have hsmall:n+m≤9223372036854775807:=by simp only [maxLen] at h63;omega
   have holds:∀j u,xs[j]?=some u→w.cell? ((⟨g,0,none⟩:Addr).add j)=some u:=hown.cells (g:=g) rfl;have h2:=run_append_grow (P:=P) w t ty e i z ht hi hz ⟨g,0,none⟩ n cap xs hown.1 holds a m c news hl hnews gN gN (growslice_fits gN hbytes);rw [h2] at hr;injection hr with hr _
   subst hr;exact .inr fun k hk=>by simp [Value.ownBlock] at hk;omega
theorem lJ {P:Program} {w:World} {ops:Array Oper} {rest:List Oper} {o:Oper} {a:Act} {Q:Exit→Act→World→Prop} (base:Nat) (e:TypeId) (hgd:o.guard=none) (s x:Operand) (t:TypeId)
  (ho:o.op=.call { callee:=.builtin .append,args:=#[s,x],argTypes:=#[t,t] })
  {i:TypeInfo} {z:Value} {size bytes:Nat} (ht:P.underlying t=some (.slice e)) (hinf:P.info? e=some i∧i.zero=some z∧i.size=size∧i.bytes=bytes)
  (hzs:z.cells.size=size) (hsz:0<size)
  {v:Value} {n:Nat} {xs:List Value} (hs:a.eval s=v) (hown:w.ownsRow base e size v n xs)
  {B:Nat} {A:Option Addr} {m c:Nat} {news:List Value} (hx:a.eval x=.slice A m c) (hr:Sl w B A size m news) (h1:∀u∈news,u.oneCell'=true)
  (hn:n≤10000000) (hm:m≤10000000) (hb:bytes≤1000) (hB:base≤w.heap.size)
  (h:∀v' w',w'.ownsRow base e size v' (n+m) (xs++news)→w.grownBy w' v.ownBlock→Below base w w'→xj w v v'→wpList P ops Q rest (a.put o.dst v') w') :
  wpList P ops Q (o::rest) a w:=by
 refine wpList_plain hgd fun K hK=>?_
 obtain⟨hi,hz0,hz1,hz2⟩:=hinf;have key:∃v' w',(Builtin.append_ #[t,t] o.type #[v,.slice A m c]).run P w=.ok v' w'∧w'.ownsRow base e size v' (n+m) (xs++news)∧w.grownBy w' v.ownBlock∧xj w v v':=by
  have h63:n+m≤maxLen:=by simp only [maxLen];omega
  have hby:(n+m)*bytes≤140737488355328:=by
   have:(n+m)*bytes≤(10000000+10000000)*1000:=Nat.mul_le_mul gN hb
   omega
  rcases A with _|ad
  ·have hm0:m=0:=by
    rcases Nat.eq_zero_or_pos m with h0|h0
    ·exact h0
    ·obtain⟨b,o,h,_⟩:=hr.2 h0;cases h
   subst hm0;have hn0:news=[]:=Jm (by simpa using hr.1);subst hn0;exact⟨v,w,BV w base t o.type e i size ht hi v n xs hown c,by simpa using hown,⟨rfl,rfl,rfl,Ju _,fun _ _ _=>rfl⟩,.inl rfl⟩
  ·have hnews:∀j u,news[j]?=some u→w.cell? (ad.add j)=some u:=by
    intro j u hu;rcases Nat.eq_zero_or_pos m with h0|h0
    ·subst h0
     have hn0:news=[]:=Jm (by simpa using hr.1);subst hn0;simp at hu
    ·obtain⟨b,o',hab,_,hc⟩:=hr.2 h0
     injection hab with hab;subst hab
     have hadd:(⟨b,o',none⟩:Addr).add j=⟨b,o'+j,none⟩:=by unfold Addr.add;split<;>simp_all
     rw [hadd];exact hc j u hu
   obtain⟨v',w',hrun,h2,h3,_⟩:=run_append_own (P:=P) w base t o.type e i z size bytes ht hi hz0 hz1 hz2 hzs hsz v n xs hown ad m c news hr.1 hnews h1 h63 hby hB;exact⟨v',w',hrun,h2,h3,Bh ht hi hz0 hz1 hz2 hzs hsz hown hr.1 hnews h1 h63 hby hrun⟩
 obtain⟨v',w',hrun,h2,h3,h4⟩:=key;unfold Oper.wp execOp;simp only [ho,resolve,invoke,builtin,Sem.run_bind,Sem.run_pure,Result.andThen_ok,List.map_toArray,List.map_cons,List.map_nil,hs,hx,hrun];exact hK _ _ (h v' w' h2 h3 ((Below.refl base w).grown h3 hB fun k hk=>(hown.lt k hk).1) h4)
theorem Cy:(Tryz.prog.info? 38).map (fun i=>(i.zero,i.size,i.bytes))=some (some (.agg #[.int .i64 0,.string ⟨#[]⟩,.bool false,.slice none 0 0,.int .i64 0,.int .i64 0,.bool false,.slice none 0 0]),8,104):=by kernel_rfl
theorem oM:(Tryz.prog.info? 93).map (fun i=>(i.zero,i.size,i.bytes))=some (some (.agg #[.string ⟨#[]⟩,.string ⟨#[]⟩]),2,32):=by kernel_rfl
theorem n6 (rs:List (Str × Str)):∀u∈lw rs,u.oneCell'=true:=by
 intro u hu;simp only [lw,List.mem_flatMap] at hu;obtain⟨r,_,hr⟩:=hu;simp only [JC,JK,JL] at hr;rcases hr with rfl|rfl<;>rfl
theorem RxV.one {w:World} {S:Nat→Prop} {c:List Value} {x:Rx} (h:RxV w S c x):∀u∈c,u.oneCell'=true:=by
 cases h
 intro u hu;simp only [rxc,JC,JK,JL] at hu;rcases hu with rfl|rfl|rfl|rfl|rfl|rfl|rfl|rfl<;>rfl
theorem RxVs.one {w:World} {S:Nat→Prop}:∀{css:List (List Value)} {xs:List Rx},RxVs w S css xs→∀u∈css.flatten,u.oneCell'=true
 | _,_,.nil,u,hu=>by simp at hu
 | _,_,.cons h1 h2,u,hu=>by
  exact ea
def OwnX (w:World) (B:Nat) (v:Value) (xs:List Rx):Prop :=
 ∃css,w.ownsRow B 38 8 v xs.length css.flatten∧RxVs w (fun b=>B≤b∧v.ownBlock≠some b) css xs
theorem OwnX.nil (w:World) (B:Nat):OwnX w B (.slice none 0 0) []:=⟨[],World.ownsRow_nil _ _ _ _,.nil⟩
theorem lh {w w':World} {B:Nat} {e:TypeId} {sz:Nat} {v:Value} {n:Nat} {xs:List Value} (h:w.ownsRow B e sz v n xs) (hb:Below w.heap.size w w'):w'.ownsRow B e sz v n xs:=by
 refine⟨h.1,?_⟩;rcases h.2 with h0|⟨g,cap,cur,rfl,h1,h2,h3⟩
 ·exact .inl h0
 ·exact .inr ⟨g,cap,cur,rfl,h1,(hb.block g (kT h2)).trans h2,h3⟩
theorem OwnX.later {w w':World} {B:Nat} {v:Value} {xs:List Rx} (h:OwnX w B v xs) (hb:Below w.heap.size w w'):OwnX w' B v xs:=by
 obtain⟨css,h1,h2⟩:=h;exact⟨css,lh h1 hb,h2.later hb⟩
theorem qm {w:World} {B:Nat} {e:TypeId} {sz:Nat} {v:Value} {n:Nat} {xs:List Value} (h:w.ownsRow B e sz v n xs) {a:Addr} (ha:a.block<B) (u:Value):(w.setCell a u).ownsRow B e sz v n xs :=
 ownsRow_setCell_below h ha u
theorem Kept.setLow {w:World} {S:Nat→Prop} {a:Addr} (u:Value) (hS:∀b,S b→b≠a.block):Kept S w (w.setCell a u) :=
 ⟨by simp [World.setCell],fun b hb _=>heap_setCell_other w a b u (hS b hb)⟩
theorem OwnX.setLow {w:World} {B:Nat} {v:Value} {xs:List Rx} (h:OwnX w B v xs) {a:Addr} (ha:a.block<B) (u:Value):OwnX (w.setCell a u) B v xs:=by
 obtain⟨css,h1,h2⟩:=h;exact⟨css,qm h1 ha u,h2.keep (Kept.setLow u fun b hb=>by have:=hb.1;omega)⟩
theorem OwnX.app {w w':World} {B:Nat} {v v':Value} {xs ys:List Rx} {css ds:List (List Value)} {m:Nat} (hr1:RxVs w (fun b=>B≤b∧v.ownBlock≠some b) css xs)
  (hr2:RxVs w (fun b=>B≤b∧v.ownBlock≠some b) ds ys) (hm:m=ys.length)
  (ho:w'.ownsRow B 38 8 v' (xs.length+m) (css.flatten++ds.flatten)) (hg:w.grownBy w' v.ownBlock) (hmv:xj w v v'):OwnX w' B v' (xs++ys):=by
 subst hm;refine⟨css++ds,by rw [List.flatten_append,JA];exact ho,?_⟩;have hS:∀b,(B≤b∧v.ownBlock≠some b)→b<w.heap.size→((B≤b∧v.ownBlock≠some b)∧b<w.heap.size):=fun b h1 h2=>⟨h1,h2⟩
 have hk:Kept (fun b=>(B≤b∧v.ownBlock≠some b)∧b<w.heap.size) w w':=⟨hg.size,fun b hb hlt=>hg.block b hlt (fun e=>hb.1.2 e.symm)⟩;refine(((hr1.append hr2).mono hS).keep hk).mono fun b hb _=>⟨hb.1.1,fun e=>?_⟩
 rcases hmv with h|h
 ·exact hb.1.2 (h▸e)
 ·have:=h b e;omega
theorem OwnX.sl {w:World} {B:Nat} {a:Option Addr} {n c:Nat} {xs:List Rx} (h:OwnX w B (.slice a n c) xs):n=xs.length∧RxSl w (fun b=>B≤b) a xs.length xs:=by
 obtain⟨css,h1,h2⟩:=h;have hn:n=xs.length:=by
  exact cN
 subst hn;refine⟨rfl,css,⟨(Sl.of_own h1).1,fun hn=>?_⟩,h2.mono fun b hb _=>hb.1⟩;obtain⟨b,o,e,hlt,hc⟩:=(Sl.of_own h1).2 hn;subst e;exact⟨b,o,rfl,(h1.lt b rfl).1,hlt,hc⟩
theorem bel2 {W w0 w1:World} (h:Below W.heap.size W w0) (h1:Below w0.heap.size w0 w1):Below W.heap.size W w1:=h.trans (h1.mono h.size)
theorem kY {w:World} {g:Nat} {k:Int} {c:Str} {ng:Bool} {ra:Option Addr} {rn rc:Nat} {lo hi:Int} {lz:Bool} {ka:Option Addr} {kn kc:Nat}
  (h:w.heap[g]?=some (.cells #[.int .i64 k,.string ⟨c.toArray⟩,.bool ng,.slice ra rn rc,.int .i64 lo,.int .i64 hi,.bool lz,.slice ka kn kc] 38 (0,0))) :
  w.cell? ⟨g,0,none⟩=some (.int .i64 k)∧w.cell? ⟨g,1,none⟩=some (.string ⟨c.toArray⟩)∧w.cell? ⟨g,2,none⟩=some (.bool ng)∧w.cell? ⟨g,3,none⟩=some (.slice ra rn rc) ∧
  w.cell? ⟨g,4,none⟩=some (.int .i64 lo)∧w.cell? ⟨g,5,none⟩=some (.int .i64 hi)∧w.cell? ⟨g,6,none⟩=some (.bool lz)∧w.cell? ⟨g,7,none⟩=some (.slice ka kn kc) ∧
  ∀i,i<8→w.frozen? ⟨g,i,none⟩=false:=by
 refine⟨?_,?_,?_,?_,?_,?_,?_,?_,?_⟩
 ·exact dB
 ·exact dB
 ·exact dB
 ·exact dB
 ·exact dB
 ·exact dB
 ·exact dB
 ·exact dB
 ·intro i hi;simp only [World.frozen?,h];simp
open Go.RowKit
theorem zo {w:World} {B:Nat} {e:TypeId} {sz:Nat} {a:Option Addr} {n c:Nat} {xs:List Value} (h:w.ownsRow B e sz (.slice a n c) n xs):SlS w (fun b=>B≤b) a sz n xs:=by
 refine⟨(Sl.of_own h).1,fun hn=>?_⟩;obtain⟨b,o,e,hlt,hc⟩:=(Sl.of_own h).2 hn;subst e;exact⟨b,o,rfl,(h.lt b rfl).1,hlt,hc⟩
theorem E3 (a:Option Addr) (n c:Nat) (rs:List (Str × Str)) (w:World) (h:Sl w w.heap.size a 2 n (lw rs)) (hn:n≤1000000) :
  Calls Tryz.prog 77 #[.slice a n c] w fun e w'=>∃a' c',e=.returned (.slice a' n c')∧SlS w' (fun b=>w.heap.size≤b) a' 2 n (lw rs)∧Below w.heap.size w w':=by
 obtain rfl:=h.row_len;obtain⟨ir,hir⟩:=info_parts oM;cases a with
 | none =>
  have h0:rs=[]:=by
   rcases Nat.eq_zero_or_pos rs.length with h0|h0
   ·exact Jm h0
   ·obtain⟨b,o,e,_⟩:=h.2 h0;cases e
  subst h0;have hq:(binOp .eql 35 (.slice none 0 c) (.slice none 0 0)).run Tryz.prog w=.ok (.bool true) w:=Go.run_eql_slice_nil w _ _ none 0 c Tryz.underlying35;go_enter Tryz.func77,Tryz.ntmps77
  exact dH
 | some ad =>
  have HS:=ab (h.alloc_self (.cells #[] 93));have hq:(binOp .eql 35 (.slice (some ad) rs.length c) (.slice none 0 0)).run Tryz.prog w=.ok (.bool false) w:=Go.run_eql_slice_nil w _ _ (some ad) _ c Tryz.underlying35;clear h;go_enter Tryz.func77,Tryz.ntmps77
  go_wp2_with (at_builtin;refine lJ w.heap.size 93 rfl _ _ 35 rfl Tryz.underlying35 hir rfl gR rfl (World.ownsRow_made w #[] 0 (Ju _) (by simp [maxLen]) rfl) rfl HS.out (n6 rs) gN gN gR gU ?_)
  exact bY
open Go.RowKit
def ClRel (ks:List Rx) (w:World) (v q:Value) (wr:World):Prop :=
 ∃i:Nat,i≤ks.length∧q=.int .i64 i∧Below w.heap.size w wr∧OwnX wr w.heap.size v (ks.take i)
theorem wy (S:Nat→Prop):∀(N:Nat) (x:Rx),x.parts≤N→x.small→∀(cc:List Value) (w:World),RxV w S cc x →
  Calls Tryz.prog 60 #[.agg cc.toArray] w fun e w'=>∃cc',e=.returned (.agg cc'.toArray)∧RxV w' (fun b=>w.heap.size≤b) cc' x∧Below w.heap.size w w'
 | 0,x,h,_,_,_,_=>by have:=Rx.parts_pos x;omega
 | N+1,.mk k c ng rs lo hi lz ks,h,hsm,cc,w,hv=>by
  obtain⟨ra,rc,ka,kc,rfl,hrs,hx⟩:=hv.open_;obtain⟨⟨s1,s2,s3,s4⟩,hsmL⟩:=hsm;simp only [Rx.parts] at h;have ih:∀y∈ks,∀(cc:List Value) (w:World),RxV w S cc y→Calls Tryz.prog 60 #[.agg cc.toArray] w fun e w'=>∃cc',e=.returned (.agg cc'.toArray)∧RxV w' (fun b=>w.heap.size≤b) cc' y∧Below w.heap.size w w' :=
   fun y hy=>wy S N y jv (oG hsmL hy)
  have IH:=ab ih;obtain⟨ix,hix⟩:=info_parts Cy;obtain⟨w0,hw0⟩:∃w0,w0=(w.alloc (.cells #[.int .i64 k,.string ⟨c.toArray⟩,.bool ng,.slice ra rs.length rc,.int .i64 lo,.int .i64 hi,.bool lz,.slice ka ks.length kc] 38)).alloc (.cells #[.int .i64 0,.string ⟨#[]⟩,.bool false,.slice none 0 0,.int .i64 0,.int .i64 0,.bool false,.slice none 0 0] 38):=⟨_,rfl⟩;have hb0:Below w.heap.size w w0:=by rw [hw0];exact((Below.refl _ _).alloc (Ju _) _).alloc gU _
  have hz0:w0.heap.size=w.heap.size+2:=by rw [hw0];simp
  have hbx0:w0.heap[w.heap.size]?=some (.cells #[.int .i64 k,.string ⟨c.toArray⟩,.bool ng,.slice ra rs.length rc,.int .i64 lo,.int .i64 hi,.bool lz,.slice ka ks.length kc] 38 (0,0)):=by
   rw [hw0,Below.heap_alloc _ _ _ gU];exact heap_alloc_new w _
  have hby0:w0.heap[w.heap.size+1]?=some (.cells #[.int .i64 0,.string ⟨#[]⟩,.bool false,.slice none 0 0,.int .i64 0,.int .i64 0,.bool false,.slice none 0 0] 38 (0,0)):=by
   rw [hw0];have:=heap_alloc_new (w.alloc (.cells #[.int .i64 k,.string ⟨c.toArray⟩,.bool ng,.slice ra rs.length rc,.int .i64 lo,.int .i64 hi,.bool lz,.slice ka ks.length kc] 38)) (.cells #[.int .i64 0,.string ⟨#[]⟩,.bool false,.slice none 0 0,.int .i64 0,.int .i64 0,.bool false,.slice none 0 0] 38)
   simpa using this
  have HX:=ab hx;have HRS:=ab (hrs.keep (Kept.all hb0)).sl;have HBX0:=ab hbx0;have HBY0:=ab hby0;have HW0:=ab hw0;rw [hw0] at HRS;clear hx hv hrs ih hsmL hbx0 hby0 hw0;unfold rxc;go_enter Tryz.func60,Tryz.ntmps60
  go_wp2_with (go_at_call 77;refine(E3 _ _ _ rs _ HRS.out s2).mono ?_)
  rintro e w1 ⟨ra',rc',rfl,hrs1,hb1⟩;rw [←HW0.out] at hb1 hrs1;have hbx1:=(hb1.block _ (kT HBX0.out)).trans HBX0.out;have hby1:=(hb1.block _ (kT HBY0.out)).trans HBY0.out;obtain⟨w2,hw2⟩:∃w2,w2=w1.setCell ⟨w.heap.size,3,none⟩ (.slice ra' rs.length rc'):=⟨_,rfl⟩;have HW2:=ab hw2;obtain⟨e0,e1,e2,e3,e4,e5,e6,e7,e8⟩:=kY hbx1;go_wp2
  rw [←hw2];have hbw1:=bel2 hb0 hb1;have hz1:=hb1.size;have hbw2:Below w.heap.size w w2:=by rw [hw2];exact hbw1.setCell (Ju _) _
  have HBX2:Hid (w2.heap[w.heap.size]?=some (.cells #[.int .i64 k,.string ⟨c.toArray⟩,.bool ng,.slice ra' rs.length rc',.int .i64 lo,.int .i64 hi,.bool lz,.slice ka ks.length kc] 38 (0,0))):=ab (by
   rw [hw2,heap_setCell_same w1 _ _ _ _ _ hbx1];rfl)
  have HBY2:Hid (w2.heap[w.heap.size+1]?=some (.cells #[.int .i64 0,.string ⟨#[]⟩,.bool false,.slice none 0 0,.int .i64 0,.int .i64 0,.bool false,.slice none 0 0] 38 (0,0))):=ab (by
   rw [hw2,heap_setCell_other w1 _ _ _ gU];exact hby1)
  have HRS2:Hid (SlS w2 (fun b=>w.heap.size+2≤b) ra' 2 rs.length (lw rs)):=ab (by
   rw [hw2];rw [hz0] at hrs1;exact hrs1.keep (Kept.setLow _ fun b hb=>by have:w.heap.size+2≤b:=hb;simp;omega))
  have HX2:=ab (HX.out.later hbw2);have hz2:w.heap.size+2≤w2.heap.size:=by rw [hw2];simp [World.setCell];omega
  clear hb1 hbx1 hby1 hrs1 e0 e1 e2 e3 e4 e5 e6 e7 e8 hw2;go_loopw [3,13] (fun v q wr=>ClRel ks w2 v q wr) (fun _ q _=>ks.length-(intOf q).toNat)
  case atStart=>exact eW
  case round =>
   obtain⟨i,hik,rfl,hb,hox⟩:=hrel;have hB:=hb.size;have hbb:=hbw2.trans (hb.mono gN);cases hd:ks.drop i with
   | nil =>
    have h2:ks.length≤i:=it;have hbxr:=(hb.block _ (kT HBX2.out)).trans HBX2.out;have hbyr:=(hb.block _ (kT HBY2.out)).trans HBY2.out;obtain⟨e0,e1,e2,e3,e4,e5,e6,e7,e8⟩:=kY hbxr;obtain⟨f0,f1,f2,f3,f4,f5,f6,f7,f8⟩:=kY (c:=[]) hbyr;rw [List.take_of_length_le h2] at hox;obtain⟨css,hown,hrv⟩:=hox;obtain⟨va,vc,rfl⟩:=lD hown;have hxs:=OwnX.sl ⟨css,hown,hrv⟩;clear hd hown hrv hbxr hbyr;go_wp2
    have HRr:SlS wr (fun b=>w.heap.size+2≤b) ra' 2 rs.length (lw rs):=HRS2.out.keep (Kept.all hb);have hxr:RxSl wr (fun b=>w.heap.size+2≤b) va ks.length ks:=hxs.2.mono fun b hb _=>by have:w2.heap.size≤b:=hb;show w.heap.size+2≤b;omega
    refine JM (v:=.agg #[.int .i64 k,.string ⟨c.toArray⟩,.bool ng,.slice ra' rs.length rc',.int .i64 lo,.int .i64 hi,.bool lz,.slice va ks.length vc]) (by simp [results,Tryz.results60,go_sem,f0,f1,f2,f3,f4,f5,f6,f7]) rfl ?_;refine⟨rxc k c ng ra' rs.length rc' lo hi lz va ks.length vc,?_,RxV.mono (S:=fun b=>w.heap.size+2≤b) (fun b hb _=>by have:w.heap.size+2≤b:=hb;show w.heap.size≤b;omega) (RxV.close ?_ ?_),?_⟩
    ·rfl
    ·iterate 9 (refine SlS.keep ?_ (Kept.setLow _ (fun b hb=>by have:w.heap.size+2≤b:=hb;simp;omega)))
     exact HRr
    ·iterate 9 (refine RxSl.keep ?_ (Kept.setLow _ (fun b hb=>by have:w.heap.size+2≤b:=hb;simp;omega)))
     exact hxr
    ·iterate 9 (refine Below.setCell ?_ gU _)
     exact hbb
   | cons y r =>
    obtain⟨h2,h3,hr⟩:=lC hd;have hym:=JH h3;have HYM:=ab (IH.out y hym);have HTK:Hid (ks.take (i+1)=ks.take i++[y]):=ab (by rw [List.take_add_one,h3];rfl);obtain⟨yk,yc,yn,yr,yl,yh,yz,ys⟩:=y;obtain⟨b,o,ya,yrc,yka,ykc,rfl,hS,hbB,_,_,hyv,c0,c1,c2,c3,c4,c5,c6,c7⟩:=(HX2.out.later hb).cells h3;have HYV:=ab (hyv.later ((Below.refl wr.heap.size wr).alloc (Ju _) (.cells (rxc yk yc yn ya yr.length yrc yl yh yz yka ys.length ykc).toArray 38)));unfold rxc at HYV;obtain⟨css,hown,hrv⟩:=hox;have hli:(ks.take i).length=i:=by rw [JN];omega
    rw [hli] at hown;have HLI:=ab hli;clear hli;obtain⟨va,vc,rfl⟩:=lD hown;have hlt:=hown.lt;have hbr:∀ob:Obj,Below wr.heap.size wr (wr.alloc ob):=fun ob=>(Below.refl _ _).alloc (Ju _) _
    clear hd hr h3 hyv hym;go_wp2_with (go_at_call 60;refine(HYM.out _ _ HYV.out).mono ?_)
    rintro e w3 ⟨cc',rfl,hcv,hb3⟩;obtain⟨za,zc,zka,zkc,rfl,hzr,hzx⟩:=hcv.open_;have hb3':Below wr.heap.size wr w3:=(hbr _).trans (hb3.mono gU);have hz3:=hb3'.size;have ho3:=lh (lh hown hb3') ((Below.refl w3.heap.size w3).alloc (Ju _) (.cells (rxc yk yc yn za yr.length zc yl yh yz zka ys.length zkc).toArray 38));have hsl:=Sl.lit (n:=1) (sz:=8) (heap_alloc_new w3 (.cells (rxc yk yc yn za yr.length zc yl yh yz zka ys.length zkc).toArray 38)) rfl;have hrv3:=(hrv.later hb3').later ((Below.refl w3.heap.size w3).alloc (Ju _) (.cells (rxc yk yc yn za yr.length zc yl yh yz zka ys.length zkc).toArray 38));have hcv3:=hcv.later ((Below.refl w3.heap.size w3).alloc (Ju _) (.cells (rxc yk yc yn za yr.length zc yl yh yz zka ys.length zkc).toArray 38));have hone:=hcv.one;unfold rxc at ho3 hsl hrv3 hcv3 hone;have HO3:=ab ho3;have HSL:=ab hsl;have HRV3:=ab hrv3;have HCV3:=ab hcv3;have HONE:=ab hone;clear ho3 hsl hrv3 hcv3 hone hown hrv hcv hzr hzx hb3;unfold rxc;go_wp2_with (at_builtin;refine lJ w2.heap.size 38 rfl _ _ 36 rfl Tryz.underlying36 hix rfl gR rfl HO3.out rfl HSL.out HONE.out gN gN gR gV ?_)
    intro v1 w4 ho1 hg1 hb4 hmv;have hox4:OwnX w4 w2.heap.size v1 (ks.take (i+1)):=by
     rw [HTK.out];refine OwnX.app (ds:=[_]) (m:=1) HRV3.out (.cons (HCV3.out.mono fun b hb _=>?_) .nil) rfl ?_ hg1 hmv
     ·have hb':wr.heap.size+1≤b:=kL
      exact⟨by omega,fun e=>by have:=(hlt b e).2;omega⟩
     ·rw [HLI.out];simpa using ho1
    have hb4':Below w2.heap.size w2 w4:=(bel2 hb (hb3'.trans ((Below.refl w3.heap.size w3).alloc (Ju _) (.cells #[.int .i64 yk,.string ⟨yc.toArray⟩,.bool yn,.slice za yr.length zc,.int .i64 yl,.int .i64 yh,.bool yz,.slice zka ys.length zkc] 38) |>.mono hz3))).trans hb4;exact cB
end Go.Proofs.YtdcnncgpomcaaaaGreatDoor
