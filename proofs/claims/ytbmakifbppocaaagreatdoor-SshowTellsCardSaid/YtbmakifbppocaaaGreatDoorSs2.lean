/- walk of rxset.May -/
import Derived.Test.YtbmakifbppocaaaGreatDoorSs1
import Derived.Laws.OwnMore
import Derived.Lib.LazyBuf
import Derived.StillTailTactics
set_option maxRecDepth 100000
namespace Go.Proofs.YtbmakifbppocaaaGreatDoor
open Go.RowKit
theorem row_eq {f t:Str} {b:Bool} (w:World) (h:rowB (f,t)=b) (hf:f.length≤100000000) (ht:t.length≤100000000) :
  Calls Tryz.prog 105 #[.agg #[.string ⟨(f).toArray⟩,.string ⟨(t).toArray⟩]] w fun e w'=>e=.returned (.bool b)∧Below w.heap.size w w':=by
 subst h
 exact row_any f t w hf ht
def MayRel (rs:List (Str × Str)) (R:Bool) (w:World) (q:Value) (wr:World):Prop :=
 ∃ (k:Nat) (p:Option Str),k≤rs.length∧q=.int .i64 k∧Below w.heap.size w wr∧Hid ((k=0∧p=none)∨∃ j r,k=j+1∧rs[j]?=some r∧p=some r.2)∧Hid (rowsL p (rs.drop k)=R)
set_option maxHeartbeats 1000000 in
theorem RowsMay_any (a:Option Addr) (n c:Nat) (rs:List (Str × Str)) (w:World) (h:Sl w w.heap.size a 2 n (rcells rs)) (hn:n≤100000000) (hsz:∀ r ∈ rs,r.1.length≤100000000∧r.2.length≤100000000) :
  Calls Tryz.prog 100 #[.slice a n c] w fun e w'=>e=.returned (.bool (rowsB rs))∧Below w.heap.size w w':=by
 obtain rfl:=h.row_len
 generalize hR:rowsB rs=R
 have HR:=Lib.hid hR
 clear hR
 have HR0:Hid (rowsL none (rs.drop 0)=R):=HR
 have HSl:=Lib.hid h
 have HSz:=Lib.hid hsz
 clear HR h hsz
 go_enter Tryz.func100,Tryz.ntmps100
 go_wp2
 go_loopw [7] (fun q wr=>MayRel rs R w q wr) (fun q _=>rs.length - (intOf q).toNat)
 case atStart=>exact ⟨0,none,by omega,rfl,Below.refl _ _,Lib.hid (.inl ⟨rfl,rfl⟩),HR0⟩
 case round =>
  obtain ⟨k,p,hk,rfl,hb,HP,HF⟩:=hrel
  clear HR0
  have hB:=hb.size
  cases hd:rs.drop k with
  | nil =>
   have h2:rs.length≤k:=by simpa using hd
   have HE:Hid (R=true):=Lib.hid (by rw [← HF.out,hd];rfl)
   clear hd HF
   go_wp2
   go_ret
   exact ⟨ret_bool HE.out.symm,hb⟩
  | cons r0 r =>
   obtain ⟨h2,h3,hr⟩:=ldrop_cons hd
   have HF':Hid (rowsL p (r0 :: r)=R):=Lib.hid (by rw [← HF.out,hd])
   have Hr:=Lib.hid hr
   obtain ⟨b,o,rfl,hbB,c0,c1⟩:=(HSl.out.keep hb).row h3
   obtain ⟨z1,z2⟩:=HSz.out r0 (List.mem_of_getElem? h3)
   have HE3:=Lib.hid h3
   obtain ⟨f,t⟩:=r0
   replace z1:f.length≤100000000:=z1
   replace z2:t.length≤100000000:=z2
   clear hd HF hr h3
   have e0:∀ x:ExtOf (wr.alloc (.cells #[.string ⟨(f).toArray⟩,.string ⟨(t).toArray⟩] 63)),x.val.cell? ⟨wr.heap.size,0,none⟩=some (.string ⟨(f).toArray⟩):=ExtOf.cell (by simp)
   have e1:∀ x:ExtOf (wr.alloc (.cells #[.string ⟨(f).toArray⟩,.string ⟨(t).toArray⟩] 63)),x.val.cell? ⟨wr.heap.size,1,none⟩=some (.string ⟨(t).toArray⟩):=ExtOf.cell (by simp)
   cases hB1:rowB (f,t) with
   | false =>
    have HB:=Lib.hid hB1
    have HE:Hid (R=false):=Lib.hid (by rw [← HF'.out];simp only [rowsL];rw [HB.out];rfl)
    clear hB1
    go_wp2
    refine wp_region_ext (by kernel_rfl) (by kernel_rfl) ?_
    repeat (go_big_quiet_step (((go_at_call 105;exact ext_call (row_eq _ HB.out (by omega) (by omega))))))
    refine wpQuiet_nil ?_
    rintro _ ⟨xq,rfl⟩
    go_wp2
    go_ret
    exact ⟨ret_bool HE.out.symm,(hb.alloc hB _).trans (xq.ext.mono (by simp;omega))⟩
   | true =>
    have HB:=Lib.hid hB1
    clear hB1
    rcases HP.out with ⟨hk0,hp0⟩ | ⟨j,r',hkj,hj,hpj⟩
    ·have hk0':decide (0 < k)=false:=by rw [decide_eq_false_iff_not];omega
     have HL:Hid (p=none):=Lib.hid hp0
     clear hk0 hp0
     go_wp2
     refine wp_region_ext (by kernel_rfl) (by kernel_rfl) ?_
     repeat (go_big_quiet_step (((go_at_call 105;exact ext_call (row_eq _ HB.out (by omega) (by omega))))))
     refine wpQuiet_nil ?_
     rintro _ ⟨xq,rfl⟩
     go_wp2
     go_roundw
     case rel=>exact ⟨k+1,some t,by omega,by go_num,(hb.alloc hB _).trans (xq.ext.mono (by simp;omega)),Lib.hid (.inr ⟨k,(f,t),rfl,HE3.out,rfl⟩),Lib.hid (by rw [Hr.out,← HF'.out];simp only [rowsL];rw [HB.out];simp [HL.out])⟩
     case measure=>simp [intOf];omega
    ·obtain ⟨b',o',hab,_,d0,d1⟩:=(HSl.out.keep hb).row hj
     obtain ⟨rfl,rfl⟩:b=b'∧o=o':=by simpa using hab
     obtain ⟨f',t'⟩:=r'
     have HPJ:=Lib.hid hpj
     subst hkj
     clear hj hpj hab
     have d2:∀ x:ExtOf (wr.alloc (.cells #[.string ⟨(f).toArray⟩,.string ⟨(t).toArray⟩] 63)),x.val.cell? ⟨b,o+j * 2+1,none⟩=some (.string ⟨(t').toArray⟩):=ExtOf.cell (by rw [World.cell?_alloc_lt _ _ _ (by simp;omega)];exact d1)
     have d1':(wr.alloc (.cells #[.string ⟨(f).toArray⟩,.string ⟨(t).toArray⟩] 63)).cell? ⟨b,o+j * 2+1,none⟩=some (.string ⟨(t').toArray⟩):=by
      rw [World.cell?_alloc_lt _ _ _ (by simp;omega)];exact d1
     go_wp2
     refine wp_region_ext (by kernel_rfl) (by kernel_rfl) ?_
     repeat (go_big_quiet_step (((go_at_call 105;exact ext_call (row_eq _ HB.out (by omega) (by omega))))))
     refine wpQuiet_nil ?_
     rintro _ ⟨xq,rfl⟩
     cases hL1:leS f t' with
     | true =>
      have HE:Hid (R=false):=Lib.hid (by rw [← HF'.out,HPJ.out];simp only [rowsL];rw [HB.out,hL1];rfl)
      go_wp2
      go_ret
      exact ⟨ret_bool HE.out.symm,(hb.alloc hB _).trans (xq.ext.mono (by simp;omega))⟩
     | false =>
      have HL:=Lib.hid hL1
      go_wp2
      go_roundw
      case rel=>exact ⟨j+1+1,some t,by omega,by go_num,(hb.alloc hB _).trans (xq.ext.mono (by simp;omega)),Lib.hid (.inr ⟨j+1,(f,t),rfl,HE3.out,rfl⟩),Lib.hid (by rw [Hr.out,← HF'.out,HPJ.out];simp only [rowsL];rw [HB.out,HL.out];rfl)⟩
      case measure=>simp [intOf];omega
end Go.Proofs.YtbmakifbppocaaaGreatDoor
set_option maxRecDepth 100000
namespace Go.Proofs.YtbmakifbppocaaaGreatDoor
open Go.RowKit
def bareV (c:Str) (ng:Bool) (rn:Nat) (lo hi:Int) (lz:Bool):Bool:=decide (c=[]) && !ng && decide (rn=0) && decide (lo=0) && decide (hi=0) && !lz
set_option maxHeartbeats 1000000 in
theorem bare_any (k:Int) (c:Str) (ng:Bool) (ra:Option Addr) (rn rc:Nat) (lo hi:Int) (lz:Bool) (ka:Option Addr) (kn kc:Nat) (w:World) :
  Calls Tryz.prog 98 #[.agg #[.int .i64 k,.string ⟨(c).toArray⟩,.bool ng,.slice ra rn rc,.int .i64 lo,.int .i64 hi,.bool lz,.slice ka kn kc]] w fun e w'=>e=.returned (.bool (bareV c ng rn lo hi lz))∧Below w.heap.size w w':=by
 generalize hR:bareV c ng rn lo hi lz=R
 have HR:=Lib.hid hR
 clear hR
 have hbw:∀ o:Obj,Below w.heap.size w (w.alloc o):=fun o=>(Below.refl _ _).alloc (Nat.le_refl _) _
 have HBW:=Lib.hid hbw
 clear hbw
 cases c <;> cases ng <;> cases lz
 all_goals
  go_enter Tryz.func98,Tryz.ntmps98
  go_wp2
  all_goals
   go_ret
   refine ⟨ret_bool ?_,HBW.out _⟩
   rw [← HR.out,Bool.eq_iff_iff];simp [bareV, *]
theorem repeated_any (k:Int) (w:World):Calls Tryz.prog 101 #[.int .i64 k] w fun e w'=>e=.returned (.bool (repB k))∧w=w':=by
 generalize hR:repB k=R
 have HR:=Lib.hid hR
 clear hR
 go_enter Tryz.func101,Tryz.ntmps101
 go_wp2
 all_goals
  go_ret
  refine ⟨ret_bool ?_,rfl⟩
  rw [← HR.out,Bool.eq_iff_iff];clear HR;simp_all [repB]
theorem group_any (k:Int) (w:World):Calls Tryz.prog 93 #[.int .i64 k] w fun e w'=>e=.returned (.bool (grpB k))∧w=w':=by
 generalize hR:grpB k=R
 have HR:=Lib.hid hR
 clear hR
 go_enter Tryz.func93,Tryz.ntmps93
 go_wp2
 all_goals
  go_ret
  refine ⟨ret_bool ?_,rfl⟩
  rw [← HR.out,Bool.eq_iff_iff];clear HR;simp_all [grpB]
def icells (zs:List Int):List Value:=zs.map fun z=>.int .i64 z
theorem Sl.int_ {w:World} {B:Nat} {a:Option Addr} {n:Nat} {zs:List Int} (h:Sl w B a 1 n (icells zs)) {k:Nat} {z:Int} (hk:zs[k]?=some z) :
  ∃ b o,a=some ⟨b,o,none⟩∧b < B∧w.cell? ⟨b,o+k,none⟩=some (.int .i64 z):=by
 have hlt:=(List.getElem?_eq_some_iff.1 hk).1
 have hn:n=zs.length:=by have:=h.1;simp [icells] at this;omega
 obtain ⟨b,o,h1,h2,h3⟩:=h.2 (by omega)
 exact ⟨b,o,h1,h2,h3 k _ (by simp [icells,hk])⟩
theorem Sl.int_len {w:World} {B:Nat} {a:Option Addr} {n:Nat} {zs:List Int} (h:Sl w B a 1 n (icells zs)):n=zs.length:=by
 have:=h.1;simp [icells] at this;omega
def IdxPost (b:Bool) (e:Ending):Prop:=∃ r:Int,e=.returned (.int .i64 r)∧-1≤r∧(decide (0≤r)=b)
theorem Index_any (a:Option Addr) (n c:Nat) (zs:List Int) (v:Int) (w:World) (h:Sl w w.heap.size a 1 n (icells zs)) (hn:n≤100000000) :
  Calls Tryz.prog 110 #[.slice a n c,.int .i64 v] w fun e w'=>IdxPost (zs.contains v) e∧w=w':=by
 obtain rfl:=h.int_len
 have HSl:=Lib.hid h
 clear h
 obtain ⟨R,hR⟩:∃ R,zs.contains v=R:=⟨_,rfl⟩
 rw [hR]
 have HR0:Hid ((zs.drop 0).contains v=R):=Lib.hid hR
 clear hR
 go_enter Tryz.func110,Tryz.ntmps110
 go_wp2
 go_loop [8] (fun q=>∃ k:Nat,k≤zs.length∧q=.int .i64 k∧Hid ((zs.drop k).contains v=R)) (fun q=>zs.length - (intOf q).toNat)
 case atStart=>exact ⟨0,by omega,rfl,HR0⟩
 case round =>
  obtain ⟨k,hk,rfl,HF⟩:=hrel
  clear HR0
  cases hd:zs.drop k with
  | nil =>
   have h2:zs.length≤k:=by simpa using hd
   have HE:Hid (R=false):=Lib.hid (by rw [← HF.out,hd];rfl)
   clear hd HF
   go_wp2
   go_ret
   exact ⟨⟨-1,rfl,by omega,by rw [HE.out];rfl⟩,rfl⟩
  | cons z r =>
   obtain ⟨h2,h3,hr⟩:=ldrop_cons hd
   have HE:Hid (R=(z :: r).contains v):=Lib.hid (by rw [← HF.out,hd])
   have Hr:=Lib.hid hr
   obtain ⟨b,o,rfl,hbB,c0⟩:=HSl.out.int_ h3
   clear hd HF hr h3
   by_cases hz:v=z
   ·have hz1:(v == z)=true:=by simpa using hz
    have HZ:=Lib.hid hz
    clear hz
    go_wp2
    go_ret
    exact ⟨⟨k,rfl,by omega,by rw [HE.out,HZ.out];simp⟩,rfl⟩
   ·have hz1:(v == z)=false:=by simpa using hz
    have HZ:=Lib.hid hz
    clear hz
    go_wp2
    go_round
    case rel=>exact ⟨k+1,by omega,by go_num,Lib.hid (by rw [Hr.out,HE.out,List.contains_cons];simp [HZ.out])⟩
    case measure=>simp [intOf];omega
theorem Contains_any (a:Option Addr) (n c:Nat) (zs:List Int) (v:Int) (w:World) (h:Sl w w.heap.size a 1 n (icells zs)) (hn:n≤100000000) :
  Calls Tryz.prog 108 #[.slice a n c,.int .i64 v] w fun e w'=>e=.returned (.bool (zs.contains v))∧w=w':=by
 have HSl:=Lib.hid h
 clear h
 go_enter Tryz.func108,Tryz.ntmps108
 go_wp2_with (go_at_call 110;refine (Index_any _ _ _ zs _ _ HSl.out hn).mono ?_;rintro e w1 ⟨⟨r,rfl,h1,h2⟩,rfl⟩)
 go_ret
 exact ⟨ret_bool (by simp),rfl⟩
end Go.Proofs.YtbmakifbppocaaaGreatDoor
set_option maxRecDepth 100000
namespace Go.Proofs.YtbmakifbppocaaaGreatDoor
open Go.RowKit
/-- The cells of a part, told field by field, that lie at a place. -/
def anyK (xs:List Rx) (zs:List Int):Bool:=xs.any fun x=>zs.contains x.kind
theorem some1_any (zs:List Int) (a:Option Addr) (n c:Nat) (g:Nat) (k:Int) (ch:Str) (ng:Bool) (ra:Option Addr) (rn rc:Nat) (lo hi:Int) (lz:Bool) (ka:Option Addr) (kn kc:Nat) (w:World)
  (h:Sl w w.heap.size a 1 n (icells zs)) (hn:n≤100000000) (hg:w.cell? ⟨g,0,none⟩=some (.slice a n c)) :
  Calls Tryz.prog 107 #[.agg #[.int .i64 k,.string ⟨(ch).toArray⟩,.bool ng,.slice ra rn rc,.int .i64 lo,.int .i64 hi,.bool lz,.slice ka kn kc],.pointer (some ⟨g,0,none⟩)] w fun e w'=>e=.returned (.bool (zs.contains k))∧Below w.heap.size w w':=by
 have hlt:=World.block_lt_of_cell? w _ hg
 replace hlt:g < w.heap.size:=hlt
 have HSl:=Lib.hid (h.alloc_self (.cells #[.int .i64 k,.string ⟨(ch).toArray⟩,.bool ng,.slice ra rn rc,.int .i64 lo,.int .i64 hi,.bool lz,.slice ka kn kc] 32))
 clear h
 go_enter Tryz.func107,Tryz.ntmps107
 go_wp2_with (go_at_call 108;refine (Contains_any _ _ _ zs _ _ HSl.out hn).mono ?_;rintro e w1 ⟨rfl,rfl⟩)
 go_ret
 exact ⟨ret_bool (by simp),(Below.refl _ _).alloc (Nat.le_refl _) _⟩
def SmRel (xs:List Rx) (zs:List Int) (R:Bool) (w:World) (q:Value) (wr:World):Prop :=
 ∃ k:Nat,k≤xs.length∧q=.int .i64 k∧Below w.heap.size w wr∧Hid (anyK (xs.drop k) zs=R)
set_option maxHeartbeats 1000000 in
theorem IndexFunc_any (S:Nat→Prop) (xa:Option Addr) (xc:Nat) (xs:List Rx) (zs:List Int) (a:Option Addr) (n c:Nat) (g:Nat) (w:World)
  (hx:RxSl w S xa xs.length xs) (hxn:xs.length≤100000000)
  (h:Sl w w.heap.size a 1 n (icells zs)) (hn:n≤100000000) (hg:w.cell? ⟨g,0,none⟩=some (.slice a n c)) :
  Calls Tryz.prog 109 #[.slice xa xs.length xc,.func (.func 107) #[] #[.pointer (some ⟨g,0,none⟩)]] w fun e w'=>IdxPost (anyK xs zs) e∧Below w.heap.size w w':=by
 obtain ⟨R,hR⟩:∃ R,anyK xs zs=R:=⟨_,rfl⟩
 rw [hR]
 have HR0:Hid (anyK (xs.drop 0) zs=R):=Lib.hid hR
 have HX:=Lib.hid hx
 have HSl:=Lib.hid h
 have HG:=Lib.hid hg
 clear hR hx h hg
 go_enter Tryz.func109,Tryz.ntmps109
 go_wp2
 go_loopw [8] (fun q wr=>SmRel xs zs R w q wr) (fun q _=>xs.length - (intOf q).toNat)
 case atStart=>exact ⟨0,by omega,rfl,Below.refl _ _,HR0⟩
 case round =>
  obtain ⟨k,hk,rfl,hb,HF⟩:=hrel
  clear HR0
  have hB:=hb.size
  cases hd:xs.drop k with
  | nil =>
   have h2:xs.length≤k:=by simpa using hd
   have HE:Hid (R=false):=Lib.hid (by rw [← HF.out,hd];rfl)
   clear hd HF
   go_wp2
   go_ret
   exact ⟨⟨-1,rfl,by omega,by rw [HE.out];rfl⟩,hb⟩
  | cons x r =>
   obtain ⟨h2,h3,hr⟩:=ldrop_cons hd
   obtain ⟨kd,ch,ng,rs,lo,hi,lz,ks⟩:=x
   have HE:Hid (R=(zs.contains kd || anyK r zs)):=Lib.hid (by rw [← HF.out,hd];rfl)
   have Hr:=Lib.hid hr
   obtain ⟨b,o,ra,rc,ka,kc,rfl,hS,hbB,_,_,_,c0,c1,c2,c3,c4,c5,c6,c7⟩:=(HX.out.later hb).cells h3
   have HS2:=Lib.hid ((HSl.out.keep hb).mono hB)
   have HG2:=Lib.hid (cell_kept hb _ _ HG.out)
   clear hd HF hr h3
   cases hz:zs.contains kd with
   | true =>
    have HZ:=Lib.hid hz
    clear hz
    go_wp2_with (go_at_call 107;refine (some1_any zs _ _ _ _ _ _ _ _ _ _ _ _ _ _ _ _ _ HS2.out hn HG2.out).mono ?_;rintro e w1 ⟨rfl,hb1⟩;rw [HZ.out])
    go_ret
    exact ⟨⟨k,rfl,by omega,by rw [HE.out,HZ.out];simp⟩,hb.trans (hb1.mono hB)⟩
   | false =>
    have HZ:=Lib.hid hz
    clear hz
    go_wp2_with (go_at_call 107;refine (some1_any zs _ _ _ _ _ _ _ _ _ _ _ _ _ _ _ _ _ HS2.out hn HG2.out).mono ?_;rintro e w1 ⟨rfl,hb1⟩;rw [HZ.out])
    go_roundw
    case rel=>exact ⟨k+1,by omega,by go_num,hb.trans (hb1.mono hB),Lib.hid (by rw [Hr.out,HE.out,HZ.out,Bool.false_or])⟩
    case measure=>simp [intOf];omega
theorem ContainsFunc_any (S:Nat→Prop) (xa:Option Addr) (xc:Nat) (xs:List Rx) (zs:List Int) (a:Option Addr) (n c:Nat) (g:Nat) (w:World)
  (hx:RxSl w S xa xs.length xs) (hxn:xs.length≤100000000)
  (h:Sl w w.heap.size a 1 n (icells zs)) (hn:n≤100000000) (hg:w.cell? ⟨g,0,none⟩=some (.slice a n c)) :
  Calls Tryz.prog 106 #[.slice xa xs.length xc,.func (.func 107) #[] #[.pointer (some ⟨g,0,none⟩)]] w fun e w'=>e=.returned (.bool (anyK xs zs))∧Below w.heap.size w w':=by
 have HX:=Lib.hid hx
 have HSl:=Lib.hid h
 have HG:=Lib.hid hg
 clear hx h hg
 go_enter Tryz.func106,Tryz.ntmps106
 go_wp2_with (go_at_call 109;refine (IndexFunc_any S _ _ xs zs _ _ _ _ _ HX.out hxn HSl.out hn HG.out).mono ?_;rintro e w1 ⟨⟨r,rfl,h1,h2⟩,hb1⟩)
 go_ret
 exact ⟨ret_bool (by simp),hb1⟩
theorem some_any (S:Nat→Prop) (xa:Option Addr) (xc:Nat) (xs:List Rx) (zs:List Int) (a:Option Addr) (n c:Nat) (w:World)
  (hx:RxSl w S xa xs.length xs) (hxn:xs.length≤100000000) (h:Sl w w.heap.size a 1 n (icells zs)) (hn:n≤100000000) :
  Calls Tryz.prog 102 #[.slice xa xs.length xc,.slice a n c] w fun e w'=>e=.returned (.bool (anyK xs zs))∧Below w.heap.size w w':=by
 have HX:=Lib.hid (hx.later ((Below.refl _ _).alloc (Nat.le_refl _) (.cells #[.slice a n c] 115)))
 have HSl:=Lib.hid (h.alloc_self (.cells #[.slice a n c] 115))
 clear hx h
 go_enter Tryz.func102,Tryz.ntmps102
 go_wp2_with (go_at_call 106;refine (ContainsFunc_any S _ _ xs zs a n c _ _ HX.out hxn HSl.out hn (by simp)).mono ?_;rintro e w1 ⟨rfl,hb1⟩)
 go_ret
 exact ⟨rfl,((Below.refl _ _).alloc (Nat.le_refl _) _).trans (hb1.mono (by simp))⟩
end Go.Proofs.YtbmakifbppocaaaGreatDoor
set_option maxRecDepth 100000
namespace Go.Proofs.YtbmakifbppocaaaGreatDoor
open Go.RowKit
namespace Rx
/-- All that a tree has is of a size that a machine bears. -/
def small1:Rx→Prop
 | mk _ c _ rs _ _ _ ks=>c.length≤1000000∧rs.length≤1000000∧(∀ r ∈ rs,r.1.length≤1000000∧r.2.length≤1000000)∧ks.length≤1000000
mutual
def small:Rx→Prop
 | mk k c ng rs lo hi lz ks=>small1 (mk k c ng rs lo hi lz ks)∧smallL ks
def smallL:List Rx→Prop
 | []=>True
 | x :: r=>small x∧smallL r
end
end Rx
theorem smallL_mem:∀ {ks:List Rx} {x:Rx},Rx.smallL ks→x ∈ ks→x.small
 | [],_,_,h=>by simp at h
 | y :: r,x,hs,h=>by
  simp only [Rx.smallL] at hs
  rcases List.mem_cons.1 h with rfl | h
  ·exact hs.1
  ·exact smallL_mem hs.2 h
theorem bareB_eq (k:Int) (c:Str) (ng:Bool) (rs:List (Str × Str)) (lo hi:Int) (lz:Bool) (ks:List Rx):bareB (.mk k c ng rs lo hi lz ks)=bareV c ng rs.length lo hi lz:=by
 show (decide (c=[]) && !ng && decide (rs=[]) && decide (lo=0) && decide (hi=0) && !lz)=_
 rw [Bool.eq_iff_iff];simp [bareV]
theorem bare_eq {k:Int} {c:Str} {ng:Bool} {ra:Option Addr} {rn rc:Nat} {lo hi:Int} {lz:Bool} {ka:Option Addr} {kn kc:Nat} {b:Bool} (w:World) (h:bareV c ng rn lo hi lz=b) :
  Calls Tryz.prog 98 #[.agg #[.int .i64 k,.string ⟨(c).toArray⟩,.bool ng,.slice ra rn rc,.int .i64 lo,.int .i64 hi,.bool lz,.slice ka kn kc]] w fun e w'=>e=.returned (.bool b)∧Below w.heap.size w w'∧∀ a u,w.cell? a=some u→w'.cell? a=some u:=by
 subst h
 exact (bare_any k c ng ra rn rc lo hi lz ka kn kc w).mono fun _ _ ⟨h1,h2⟩=>⟨h1,h2,cell_kept h2⟩
def nilB (ks:List Rx):Bool:=match ks with | []=>true | _=>false
set_option maxHeartbeats 4000000 in
theorem fields_2 (c:Str) (ng:Bool) (ra:Option Addr) (rs:List (Str × Str)) (rc:Nat) (lo hi:Int) (lz:Bool) (ka:Option Addr) (ks:List Rx) (kc:Nat) (w:World)
  (hsm:(Rx.mk 2 c ng rs lo hi lz ks).small1) :
  Calls Tryz.prog 94 #[.agg #[.int .i64 2,.string ⟨(c).toArray⟩,.bool ng,.slice ra rs.length rc,.int .i64 lo,.int .i64 hi,.bool lz,.slice ka ks.length kc]] w fun e w'=>e=.returned (.bool (fieldsB (.mk 2 c ng rs lo hi lz ks)))∧Below w.heap.size w w':=by
 generalize hR:fieldsB (.mk 2 c ng rs lo hi lz ks)=R
 have HR:=Lib.hid hR
 clear hR
 have HS:Hid (R=(bareV [] ng rs.length lo hi lz && nilB ks && properB c)):=Lib.hid (by rw [← HR.out,← bareB_eq];cases ks <;> rfl)
 obtain ⟨s1,s2,s3,s4⟩:=hsm
 clear HR s3
 cases hbv:bareV [] ng rs.length lo hi lz with
 | false =>
  have HB:=Lib.hid hbv
  have HR:Hid (R=false):=Lib.hid (by rw [HS.out,hbv];rfl)
  clear hbv
  go_enter Tryz.func94,Tryz.ntmps94
  go_wp2_with (go_at_call 98;refine (bare_eq _ HB.out).mono ?_;rintro e w1 ⟨rfl,hb1,hc1⟩;have hq7:=hc1 ⟨w.heap.size,7,none⟩ (.slice ka (ks.length) kc) (by simp))
  go_ret
  exact ⟨ret_bool HR.out.symm,((Below.refl _ _).alloc (Nat.le_refl _) _).trans (hb1.mono (by simp))⟩
 | true =>
  have HB:=Lib.hid hbv
  have HR:Hid (R=(nilB ks && properB c)):=Lib.hid (by rw [HS.out,hbv];rfl)
  clear hbv
  rcases ks with _ | ⟨x,ks⟩
  ·have HR2:Hid (R=properB c):=Lib.hid (by rw [HR.out];rfl)
   go_enter Tryz.func94,Tryz.ntmps94
   go_wp2_with (first | (go_at_call 98;refine (bare_eq _ HB.out).mono ?_;rintro e w1 ⟨rfl,hb1,hc1⟩;have hq7:=hc1 ⟨w.heap.size,7,none⟩ (.slice ka (0) kc) (by simp)) | (go_at_call 99;refine (Proper_any _ _ (by omega)).mono ?_;rintro e w2 ⟨rfl,rfl⟩))
   go_ret
   exact ⟨ret_bool HR2.out.symm,((Below.refl _ _).alloc (Nat.le_refl _) _).trans (hb1.mono (by simp))⟩
  ·have HR2:Hid (R=false):=Lib.hid (by rw [HR.out];rfl)
   go_enter Tryz.func94,Tryz.ntmps94
   go_wp2_with (go_at_call 98;refine (bare_eq _ HB.out).mono ?_;rintro e w1 ⟨rfl,hb1,hc1⟩;have hq7:=hc1 ⟨w.heap.size,7,none⟩ (.slice ka (ks.length+1) kc) (by simp))
   go_ret
   exact ⟨ret_bool HR2.out.symm,((Below.refl _ _).alloc (Nat.le_refl _) _).trans (hb1.mono (by simp))⟩
set_option maxHeartbeats 4000000 in
theorem fields_4 (c:Str) (ng:Bool) (ra:Option Addr) (rs:List (Str × Str)) (rc:Nat) (lo hi:Int) (lz:Bool) (ka:Option Addr) (ks:List Rx) (kc:Nat) (w:World)
  (hr:Sl w w.heap.size ra 2 rs.length (rcells rs)) (hsm:(Rx.mk 4 c ng rs lo hi lz ks).small1) :
  Calls Tryz.prog 94 #[.agg #[.int .i64 4,.string ⟨(c).toArray⟩,.bool ng,.slice ra rs.length rc,.int .i64 lo,.int .i64 hi,.bool lz,.slice ka ks.length kc]] w fun e w'=>e=.returned (.bool (fieldsB (.mk 4 c ng rs lo hi lz ks)))∧Below w.heap.size w w':=by
 generalize hR:fieldsB (.mk 4 c ng rs lo hi lz ks)=R
 have HR:=Lib.hid hR
 clear hR
 have HS:Hid (R=(bareV c false 0 lo hi lz && nilB ks && rowsB rs)):=Lib.hid (by rw [← HR.out,show (0:Nat)=([]:List (Str × Str)).length from rfl,← bareB_eq 4 c false [] lo hi lz ks];cases ks <;> rfl)
 obtain ⟨s1,s2,s3,s4⟩:=hsm
 have HRS:=Lib.hid hr
 have HS3:=Lib.hid s3
 clear HR s3 hr
 cases hbv:bareV c false 0 lo hi lz with
 | false =>
  have HB:=Lib.hid hbv
  have HR:Hid (R=false):=Lib.hid (by rw [HS.out,hbv];rfl)
  clear hbv
  go_enter Tryz.func94,Tryz.ntmps94
  go_wp2_with (go_at_call 98;refine (bare_eq _ HB.out).mono ?_;rintro e w1 ⟨rfl,hb1,hc1⟩;have hq7:=hc1 ⟨w.heap.size,7,none⟩ (.slice ka (ks.length) kc) (by simp))
  go_ret
  exact ⟨ret_bool HR.out.symm,((Below.refl _ _).alloc (Nat.le_refl _) _).trans (hb1.mono (by simp))⟩
 | true =>
  have HB:=Lib.hid hbv
  have HR:Hid (R=(nilB ks && rowsB rs)):=Lib.hid (by rw [HS.out,hbv];rfl)
  clear hbv
  rcases ks with _ | ⟨x,ks⟩
  ·have HR2:Hid (R=rowsB rs):=Lib.hid (by rw [HR.out];rfl)
   go_enter Tryz.func94,Tryz.ntmps94
   go_wp2_with (first | (((go_at_call 98;refine (bare_eq _ HB.out).mono ?_;rintro e w1 ⟨rfl,hb1,hc1⟩;have hq7:=hc1 ⟨w.heap.size,7,none⟩ (.slice ka (0) kc) (by simp)));have HR1:=Lib.hid (((HRS.out.alloc_self _).keep hb1).mono hb1.size)) | (go_at_call 100;refine (RowsMay_any _ _ _ rs _ HR1.out (by omega) (fun r hr=>by have:=HS3.out r hr;omega)).mono ?_;rintro e w2 ⟨rfl,hb2⟩))
   go_ret
   exact ⟨ret_bool HR2.out.symm,(((Below.refl _ _).alloc (Nat.le_refl _) _).trans (hb1.mono (by simp))).trans (hb2.mono (by have:=hb1.size;simp at this;omega))⟩
  ·have HR2:Hid (R=false):=Lib.hid (by rw [HR.out];rfl)
   go_enter Tryz.func94,Tryz.ntmps94
   go_wp2_with (go_at_call 98;refine (bare_eq _ HB.out).mono ?_;rintro e w1 ⟨rfl,hb1,hc1⟩;have hq7:=hc1 ⟨w.heap.size,7,none⟩ (.slice ka (ks.length+1) kc) (by simp))
   go_ret
   exact ⟨ret_bool HR2.out.symm,((Below.refl _ _).alloc (Nat.le_refl _) _).trans (hb1.mono (by simp))⟩
set_option maxHeartbeats 4000000 in
theorem fields_one (K:Int) (hK:K=5∨K=6) (c:Str) (ng:Bool) (ra:Option Addr) (rs:List (Str × Str)) (rc:Nat) (lo hi:Int) (lz:Bool) (ka:Option Addr) (ks:List Rx) (kc:Nat) (w:World)
  (hsm:(Rx.mk K c ng rs lo hi lz ks).small1) :
  Calls Tryz.prog 94 #[.agg #[.int .i64 K,.string ⟨(c).toArray⟩,.bool ng,.slice ra rs.length rc,.int .i64 lo,.int .i64 hi,.bool lz,.slice ka ks.length kc]] w fun e w'=>e=.returned (.bool (fieldsB (.mk K c ng rs lo hi lz ks)))∧Below w.heap.size w w':=by
 generalize hR:fieldsB (.mk K c ng rs lo hi lz ks)=R
 have HR:=Lib.hid hR
 clear hR
 have HS:Hid (R=(bareV c ng rs.length lo hi lz && decide (ks.length=1))):=Lib.hid (by rw [← HR.out,← bareB_eq K c ng rs lo hi lz ks];rcases hK with rfl | rfl <;> rfl)
 obtain ⟨s1,s2,s3,s4⟩:=hsm
 clear HR s3
 rcases hK with rfl | rfl
 all_goals
  cases hbv:bareV c ng rs.length lo hi lz with
  | false =>
   have HB:=Lib.hid hbv
   have HR:Hid (R=false):=Lib.hid (by rw [HS.out,hbv];rfl)
   clear hbv
   go_enter Tryz.func94,Tryz.ntmps94
   go_wp2_with (go_at_call 98;refine (bare_eq _ HB.out).mono ?_;rintro e w1 ⟨rfl,hb1,hc1⟩;have hq7:=hc1 ⟨w.heap.size,7,none⟩ (.slice ka (ks.length) kc) (by simp))
   go_ret
   exact ⟨ret_bool HR.out.symm,((Below.refl _ _).alloc (Nat.le_refl _) _).trans (hb1.mono (by simp))⟩
  | true =>
   have HB:=Lib.hid hbv
   have HR:Hid (R=decide (ks.length=1)):=Lib.hid (by rw [HS.out,hbv];rfl)
   clear hbv
   rcases ks with _ | ⟨x,_ | ⟨y,ks⟩⟩
   ·have HR2:Hid (R=false):=Lib.hid (by rw [HR.out];rfl)
    go_enter Tryz.func94,Tryz.ntmps94
    go_wp2_with (go_at_call 98;refine (bare_eq _ HB.out).mono ?_;rintro e w1 ⟨rfl,hb1,hc1⟩;have hq7:=hc1 ⟨w.heap.size,7,none⟩ (.slice ka (0) kc) (by simp))
    go_ret
    exact ⟨ret_bool HR2.out.symm,((Below.refl _ _).alloc (Nat.le_refl _) _).trans (hb1.mono (by simp))⟩
   ·have HR2:Hid (R=true):=Lib.hid (by rw [HR.out];rfl)
    go_enter Tryz.func94,Tryz.ntmps94
    go_wp2_with (go_at_call 98;refine (bare_eq _ HB.out).mono ?_;rintro e w1 ⟨rfl,hb1,hc1⟩;have hq7:=hc1 ⟨w.heap.size,7,none⟩ (.slice ka (1) kc) (by simp))
    go_ret
    exact ⟨ret_bool HR2.out.symm,((Below.refl _ _).alloc (Nat.le_refl _) _).trans (hb1.mono (by simp))⟩
   ·have HR2:Hid (R=false):=Lib.hid (by rw [HR.out];simp)
    go_enter Tryz.func94,Tryz.ntmps94
    go_wp2_with (go_at_call 98;refine (bare_eq _ HB.out).mono ?_;rintro e w1 ⟨rfl,hb1,hc1⟩;have hq7:=hc1 ⟨w.heap.size,7,none⟩ (.slice ka (ks.length+1+1) kc) (by simp))
    go_ret
    exact ⟨ret_bool HR2.out.symm,((Below.refl _ _).alloc (Nat.le_refl _) _).trans (hb1.mono (by simp))⟩
set_option maxHeartbeats 4000000 in
theorem fields_none (K:Int) (hK:K=3∨K=8∨K=9∨K=10∨K=11) (c:Str) (ng:Bool) (ra:Option Addr) (rs:List (Str × Str)) (rc:Nat) (lo hi:Int) (lz:Bool) (ka:Option Addr) (ks:List Rx) (kc:Nat) (w:World)
  (hsm:(Rx.mk K c ng rs lo hi lz ks).small1) :
  Calls Tryz.prog 94 #[.agg #[.int .i64 K,.string ⟨(c).toArray⟩,.bool ng,.slice ra rs.length rc,.int .i64 lo,.int .i64 hi,.bool lz,.slice ka ks.length kc]] w fun e w'=>e=.returned (.bool (fieldsB (.mk K c ng rs lo hi lz ks)))∧Below w.heap.size w w':=by
 generalize hR:fieldsB (.mk K c ng rs lo hi lz ks)=R
 have HR:=Lib.hid hR
 clear hR
 have HS:Hid (R=(bareV c ng rs.length lo hi lz && nilB ks)):=Lib.hid (by rw [← HR.out,← bareB_eq K c ng rs lo hi lz ks];rcases hK with rfl | rfl | rfl | rfl | rfl <;> cases ks <;> rfl)
 obtain ⟨s1,s2,s3,s4⟩:=hsm
 clear HR s3
 rcases hK with rfl | rfl | rfl | rfl | rfl
 all_goals
  cases hbv:bareV c ng rs.length lo hi lz with
  | false =>
   have HB:=Lib.hid hbv
   have HR:Hid (R=false):=Lib.hid (by rw [HS.out,hbv];rfl)
   clear hbv
   go_enter Tryz.func94,Tryz.ntmps94
   go_wp2_with (go_at_call 98;refine (bare_eq _ HB.out).mono ?_;rintro e w1 ⟨rfl,hb1,hc1⟩;have hq7:=hc1 ⟨w.heap.size,7,none⟩ (.slice ka (ks.length) kc) (by simp))
   go_ret
   exact ⟨ret_bool HR.out.symm,((Below.refl _ _).alloc (Nat.le_refl _) _).trans (hb1.mono (by simp))⟩
  | true =>
   have HB:=Lib.hid hbv
   have HR:Hid (R=nilB ks):=Lib.hid (by rw [HS.out,hbv];rfl)
   clear hbv
   rcases ks with _ | ⟨x,ks⟩
   ·have HR2:Hid (R=true):=Lib.hid (by rw [HR.out];rfl)
    go_enter Tryz.func94,Tryz.ntmps94
    go_wp2_with (go_at_call 98;refine (bare_eq _ HB.out).mono ?_;rintro e w1 ⟨rfl,hb1,hc1⟩;have hq7:=hc1 ⟨w.heap.size,7,none⟩ (.slice ka (0) kc) (by simp))
    go_ret
    exact ⟨ret_bool HR2.out.symm,((Below.refl _ _).alloc (Nat.le_refl _) _).trans (hb1.mono (by simp))⟩
   ·have HR2:Hid (R=false):=Lib.hid (by rw [HR.out];rfl)
    go_enter Tryz.func94,Tryz.ntmps94
    go_wp2_with (go_at_call 98;refine (bare_eq _ HB.out).mono ?_;rintro e w1 ⟨rfl,hb1,hc1⟩;have hq7:=hc1 ⟨w.heap.size,7,none⟩ (.slice ka (ks.length+1) kc) (by simp))
    go_ret
    exact ⟨ret_bool HR2.out.symm,((Below.refl _ _).alloc (Nat.le_refl _) _).trans (hb1.mono (by simp))⟩
set_option maxHeartbeats 4000000 in
theorem fields_else (K:Int) (hK:¬ K=0∧¬ K=1∧¬ K=2∧¬ K=3∧¬ K=4∧¬ K=5∧¬ K=6∧¬ K=7∧¬ K=8∧¬ K=9∧¬ K=10∧¬ K=11) (c:Str) (ng:Bool) (ra:Option Addr) (rn:Nat) (rs:List (Str × Str)) (rc:Nat) (lo hi:Int) (lz:Bool) (ka:Option Addr) (kn:Nat) (ks:List Rx) (kc:Nat) (w:World) :
  Calls Tryz.prog 94 #[.agg #[.int .i64 K,.string ⟨(c).toArray⟩,.bool ng,.slice ra rn rc,.int .i64 lo,.int .i64 hi,.bool lz,.slice ka kn kc]] w fun e w'=>e=.returned (.bool (fieldsB (.mk K c ng rs lo hi lz ks)))∧Below w.heap.size w w':=by
 obtain ⟨k0,k1,k2,k3,k4,k5,k6,k7,k8,k9,k10,k11⟩:=hK
 have HS:Hid (fieldsB (.mk K c ng rs lo hi lz ks)=false):=Lib.hid (by
  simp only [fieldsB]
  rw [if_neg k2,if_neg k4,if_neg k7,if_neg k0,if_neg k1,if_neg (by omega),if_neg (by omega)])
 rw [HS.out]
 have e0:(K == 0)=false:=by simpa using k0
 have e1:(K == 1)=false:=by simpa using k1
 have e2:(K == 2)=false:=by simpa using k2
 have e3:(K == 3)=false:=by simpa using k3
 have e4:(K == 4)=false:=by simpa using k4
 have e5:(K == 5)=false:=by simpa using k5
 have e6:(K == 6)=false:=by simpa using k6
 have e7:(K == 7)=false:=by simpa using k7
 have e8:(K == 8)=false:=by simpa using k8
 have e9:(K == 9)=false:=by simpa using k9
 have e10:(K == 10)=false:=by simpa using k10
 have e11:(K == 11)=false:=by simpa using k11
 clear k0 k1 k2 k3 k4 k5 k6 k7 k8 k9 k10 k11
 go_enter Tryz.func94,Tryz.ntmps94
 go_wp2
 go_ret
 exact ⟨rfl,(Below.refl _ _).alloc (Nat.le_refl _) _⟩
end Go.Proofs.YtbmakifbppocaaaGreatDoor
set_option maxRecDepth 100000
namespace Go.Proofs.YtbmakifbppocaaaGreatDoor
open Go.RowKit
theorem RxV.one {w:World} {S:Nat→Prop} {c:List Value} {x:Rx} (h:RxV w S c x):∀ u ∈ c,u.oneCell'=true:=by
 cases h
 intro u hu
 simp only [rxc,List.mem_cons,List.not_mem_nil,or_false] at hu
 rcases hu with rfl | rfl | rfl | rfl | rfl | rfl | rfl | rfl <;> rfl
theorem bel2 {W w0 w1:World} (h:Below W.heap.size W w0) (h1:Below w0.heap.size w0 w1):Below W.heap.size W w1:=h.trans (h1.mono h.size)
theorem bx_cells {w:World} {g:Nat} {k:Int} {c:Str} {ng:Bool} {ra:Option Addr} {rn rc:Nat} {lo hi:Int} {lz:Bool} {ka:Option Addr} {kn kc:Nat}
  (h:w.heap[g]?=some (.cells #[.int .i64 k,.string ⟨(c).toArray⟩,.bool ng,.slice ra rn rc,.int .i64 lo,.int .i64 hi,.bool lz,.slice ka kn kc] 32 (0,0))) :
  w.cell? ⟨g,0,none⟩=some (.int .i64 k)∧w.cell? ⟨g,1,none⟩=some (.string ⟨(c).toArray⟩)∧w.cell? ⟨g,2,none⟩=some (.bool ng)∧w.cell? ⟨g,3,none⟩=some (.slice ra rn rc) ∧
  w.cell? ⟨g,4,none⟩=some (.int .i64 lo)∧w.cell? ⟨g,5,none⟩=some (.int .i64 hi)∧w.cell? ⟨g,6,none⟩=some (.bool lz)∧w.cell? ⟨g,7,none⟩=some (.slice ka kn kc) ∧
  ∀ i,i < 8→w.frozen? ⟨g,i,none⟩=false:=by
 refine ⟨?_,?_,?_,?_,?_,?_,?_,?_,?_⟩
 ·rw [Lib.cell_of_heap h];rfl
 ·rw [Lib.cell_of_heap h];rfl
 ·rw [Lib.cell_of_heap h];rfl
 ·rw [Lib.cell_of_heap h];rfl
 ·rw [Lib.cell_of_heap h];rfl
 ·rw [Lib.cell_of_heap h];rfl
 ·rw [Lib.cell_of_heap h];rfl
 ·rw [Lib.cell_of_heap h];rfl
 ·intro i hi;simp only [World.frozen?,h];simp
end Go.Proofs.YtbmakifbppocaaaGreatDoor
namespace Go.Proofs.YtbmakifbppocaaaGreatDoor
open Go.RowKit
end Go.Proofs.YtbmakifbppocaaaGreatDoor
set_option maxRecDepth 100000
namespace Go.Proofs.YtbmakifbppocaaaGreatDoor
open Go.RowKit
def flatL (kd:Int) (xs:List Rx):List Rx:=xs.flatMap fun x=>if x.kind=kd then x.kids else [x]
end Go.Proofs.YtbmakifbppocaaaGreatDoor
set_option maxRecDepth 100000
namespace Go.Proofs.YtbmakifbppocaaaGreatDoor
open Go.RowKit
def kind0 (l:List Rx):Rx:=.mk 0 [] false [] 0 0 false l
def kind1 (l:List Rx):Rx:=.mk 1 [] false [] 0 0 false l
def seqR (xs:List Rx):Rx:=match flatL 0 xs with | [x]=>x | l=>kind0 l
def altR (xs:List Rx):Rx:=match flatL 1 xs with | []=>kind0 [] | [x]=>x | l=>kind1 l
end Go.Proofs.YtbmakifbppocaaaGreatDoor
set_option maxRecDepth 100000
namespace Go.Proofs.YtbmakifbppocaaaGreatDoor
open Go.RowKit
def cmpS (a b:Str):Int:=if Op.bytesLess a b=true then -1 else if a=b then 0 else 1
def cmpR (a b:Str × Str):Int:=if cmpS a.1 b.1=0 then cmpS a.2 b.2 else cmpS a.1 b.1
end Go.Proofs.YtbmakifbppocaaaGreatDoor
set_option maxRecDepth 100000
namespace Go.Proofs.YtbmakifbppocaaaGreatDoor
open Go.RowKit
abbrev Row:=Str × Str
/-- Two elements change places. -/
def swapL (rs:List Row) (i j:Nat):List Row:=match rs[i]?,rs[j]? with | some x,some y=>(rs.set i y).set j x | _,_=>rs
def swapN (rs:List Row) (a b n:Nat):List Row:=(List.range' 0 n).foldl (fun l k=>swapL l (a+k) (b+k)) rs
end Go.Proofs.YtbmakifbppocaaaGreatDoor
set_option maxRecDepth 100000
namespace Go.Proofs.YtbmakifbppocaaaGreatDoor
open Go.RowKit
def rotL:Nat→List Row→Nat→Nat→Nat→List Row
 | 0,rs,_,_,_=>rs
 | k+1,rs,m,i,j =>
  if i=j then swapN rs (m - i) m i
  else if j < i then rotL k (swapN rs (m - i) m j) m (i - j) j
  else rotL k (swapN rs (m - i) (m+j - i) i) m i (j - i)
def insIn (a:Nat):Nat→List Row→List Row
 | 0,rs=>rs
 | j+1,rs=>match rs[j+1]?,rs[j]? with
  | some x,some y=>if a < j+1∧cmpR x y < 0 then insIn a j (swapL rs (j+1) j) else rs
  | _,_=>rs
def insOut (a:Nat):Nat→Nat→List Row→List Row
 | 0,_,rs=>rs
 | k+1,i,rs=>insOut a k (i+1) (insIn a i rs)
end Go.Proofs.YtbmakifbppocaaaGreatDoor
set_option maxRecDepth 100000
namespace Go.Proofs.YtbmakifbppocaaaGreatDoor
open Go.RowKit
def bs (p:Nat→Bool):Nat→Nat→Nat→Nat
 | 0,i,_=>i
 | k+1,i,j=>if i < j then (if p ((i+j) / 2)=true then bs p k ((i+j) / 2+1) j else bs p k i ((i+j) / 2)) else i
def ltAt (rs:List Row) (x y:Nat):Bool:=match rs[x]?,rs[y]? with | some r,some s=>decide (cmpR r s < 0) | _,_=>false
def upSw (rs:List Row) (a n:Nat):List Row:=(List.range' a n).foldl (fun l k=>swapL l k (k+1)) rs
def dnSw:Nat→List Row→Nat→List Row
 | 0,rs,_=>rs
 | n+1,rs,m=>dnSw n (swapL rs m (m - 1)) (m - 1)
end Go.Proofs.YtbmakifbppocaaaGreatDoor
set_option maxRecDepth 100000
namespace Go.Proofs.YtbmakifbppocaaaGreatDoor
def sLo (a m b:Nat):Nat:=if (a+b) / 2 < m then (a+b) / 2+m - b else a
def sHi (a m b:Nat):Nat:=if (a+b) / 2 < m then (a+b) / 2 else m
def symM:Nat→List Row→Nat→Nat→Nat→List Row
 | 0,rs,_,_,_=>rs
 | f+1,rs,a,m,b =>
  if m=a+1 then upSw rs a (bs (fun h=>ltAt rs h a) b m b - 1 - a)
  else if b=m+1 then dnSw (m - bs (fun h=>!ltAt rs m h) m a m) rs m
  else
   let M:=(a+b) / 2
   let s:=bs (fun c=>!ltAt rs (M+m - 1 - c) c) b (sLo a m b) (sHi a m b)
   let e:=M+m - s
   let r1:=if s < m∧m < e then rotL (e - s) rs m (m - s) (e - m) else rs
   let r2:=if a < s∧s < M then symM f r1 a s M else r1
   if M < e∧e < b then symM f r2 M e b else r2
end Go.Proofs.YtbmakifbppocaaaGreatDoor
set_option maxRecDepth 100000
namespace Go.Proofs.YtbmakifbppocaaaGreatDoor
def stA:Nat→List Row→Nat→Nat→List Row
 | 0,rs,_,_=>rs
 | k+1,rs,a,n=>if a+20≤n then stA k (insOut a (a+20 - (a+1)) (a+1) rs) (a+20) n else insOut a (n - (a+1)) (a+1) rs
def stB:Nat→List Row→Nat→Nat→Nat→List Row
 | 0,rs,_,_,_=>rs
 | k+1,rs,a,s,n=>if a+2 * s≤n then stB k (symM (2 * s) rs a (a+s) (a+2 * s)) (a+2 * s) s n else if a+s < n then symM (n - a) rs a (a+s) n else rs
def stC:Nat→List Row→Nat→Nat→List Row
 | 0,rs,_,_=>rs
 | k+1,rs,s,n=>if s < n then stC k (stB (n+1) rs 0 s n) (2 * s) n else rs
def stL (rs:List Row):List Row:=stC (rs.length+1) (stA (rs.length+1) rs 0 rs.length) 20 rs.length
end Go.Proofs.YtbmakifbppocaaaGreatDoor
set_option maxRecDepth 100000
namespace Go.Proofs.YtbmakifbppocaaaGreatDoor
def mxS (a b:Str):Str:=if Op.bytesLess a b=true then b else a
def mrgS (out:List Row) (r:Row):List Row:=match out.getLast? with
 | none=>[r]
 | some q=>if leS r.1 q.2=true then out.dropLast++[(q.1,mxS q.2 r.2)] else out++[r]
def mrgL (ss:List Row):List Row:=ss.foldl mrgS []
def filR (rs:List Row):List Row:=rs.filter rowB
def unionM (rs:List Row):List Row:=mrgL (stL (filR rs))
end Go.Proofs.YtbmakifbppocaaaGreatDoor
set_option maxRecDepth 100000
namespace Go.Proofs.YtbmakifbppocaaaGreatDoor
open Go.RowKit
def namedL (c:UInt8):List Row:=if c=100 then [([48],[57])] else if c=119 then [([48],[57]),([65],[90]),([95],[95]),([97],[122])] else if c=115 then [([9],[13]),([32],[32])] else []
def namedB (c:UInt8):Bool:=c == 100 || c == 119 || c == 115
end Go.Proofs.YtbmakifbppocaaaGreatDoor
set_option maxRecDepth 100000
namespace Go.Proofs.YtbmakifbppocaaaGreatDoor
open Go.RowKit
end Go.Proofs.YtbmakifbppocaaaGreatDoor
namespace Go.Proofs.YtbmakifbppocaaaGreatDoor
open Go.RowKit
def wordB:Str→Bool
 | [b]=>decide (97≤b.toNat∧b.toNat≤122) || decide (65≤b.toNat∧b.toNat≤90) || decide (48≤b.toNat∧b.toNat≤57) || decide (b.toNat=95)
 | _=>false
end Go.Proofs.YtbmakifbppocaaaGreatDoor
set_option maxRecDepth 100000
namespace Go.Proofs.YtbmakifbppocaaaGreatDoor
abbrev Res:=Except Int (Rx × List Str)
def rx0:Rx:=.mk 0 [] false [] 0 0 false []
def rxK (k:Int):Rx:=.mk k [] false [] 0 0 false []
def chrR (c:Str):Rx:=.mk 2 c false [] 0 0 false []
def setR (rows:List Row) (ng:Bool):Rx:=.mk 4 [] ng rows 0 0 false []
def grpR (k:Int) (x:Rx):Rx:=.mk k [] false [] 0 0 false [x]
def repR (lo hi:Int) (lz:Bool) (x:Rx):Rx:=.mk 7 [] false [] lo hi lz [x]
def plainM (c:Str):Option Str :=
 if c=[] then none else if c=[110] then some [10] else if c=[114] then some [13] else if c=[116] then some [9] else if c=[102] then some [12] else if c=[118] then some [11]
 else if c=[95]∨wordB c=false then some c else none
def namedS (c:Str):Option (List Row):=match c with
 | [b]=>if namedB b=true then some (namedL b) else none
 | _=>none
/-- 'D', 'W', 'S'. -/
def bigS (c:Str):Option (List Row):=if c=[68] then some (namedL 100) else if c=[87] then some (namedL 119) else if c=[83] then some (namedL 115) else none
def escM:List Str→Res
 | []=>.error 10
 | c :: r=>match namedS c with
  | some rows=>.ok (setR rows false,r)
  | none=>match bigS c with
   | some rows=>.ok (setR rows true,r)
   | none=>match plainM c with
    | none=>.error 10
    | some t=>.ok (chrR t,r)
/-- An item of a class: a character, or rows. -/
def itemM:List Str→Option (Str × List Row × List Str)
 | []=>none
 | c :: r=>if c=[93] then none else if c=[92] then (match r with
   | []=>none
   | c2 :: r2=>match namedS c2 with
    | some rows=>some ([],rows,r2)
    | none=>match plainM c2 with
     | none=>none
     | some t=>some (t,[],r2)) else some (c,[],r)
/-- Is a character taken, and what is behind it? -/
def takeM (c:Str):List Str→Option (List Str)
 | []=>none
 | x :: r=>if x=c then some r else none
def classL:Nat→List Row→List Str→Option (List Row × List Str)
 | 0,_,_=>none
 | n+1,rows,r=>match takeM [93] r with
  | some r1=>some (rows,r1)
  | none=>match itemM r with
   | none=>none
   | some (c,nm,r1) =>
    if nm≠[] then classL n (rows++nm) r1
    else match takeM [45] r1 with
     | none=>classL n (rows++[(c,c)]) r1
     | some r2=>if takeM [93] r2=none then (match itemM r2 with
       | none=>none
       | some (t,nm2,r3)=>if nm2≠[]∨Op.bytesLess t c=true then none else classL n (rows++[(c,t)]) r3)
      else classL n (rows++[(c,c)]) r1
def classM (r:List Str):Res :=
 let ng:=(takeM [94] r).isSome
 let r0:=(takeM [94] r).getD r
 match classL (r0.length+1) [] r0 with
 | none=>.error 10
 | some (rows,r1)=>.ok (setR (unionM rows) ng,r1)
def digS (c:Str):Option Nat:=match c with
 | [b]=>if 48≤b.toNat∧b.toNat≤57 then some (b.toNat - 48) else none
 | _=>none
def numL:Nat→Nat→List Str→Option (Nat × List Str)
 | k,n,[]=>if 0 < k∧n≤255 then some (n,[]) else none
 | k,n,c :: r=>match digS c with
  | some d=>if k=3 then none else numL (k+1) (10 * n+d) r
  | none=>if 0 < k∧n≤255 then some (n,c :: r) else none
def boundsM (r:List Str):Option (Int × Int × List Str):=match numL 0 0 r with
 | none=>none
 | some (lo,r1)=>match takeM [125] r1 with
  | some r2=>some (lo,lo,r2)
  | none=>match takeM [44] r1 with
   | none=>none
   | some r2=>match takeM [125] r2 with
    | some r3=>some (lo,-1,r3)
    | none=>match numL 0 0 r2 with
     | none=>none
     | some (hi,r3)=>if lo≤hi then (match takeM [125] r3 with
      | some r4=>some (lo,hi,r4)
      | none=>none) else none
def lazyM (x:Rx) (lo hi:Int) (r:List Str):Rx × List Str:=match takeM [63] r with
 | some r1=>(repR lo hi true x,r1)
 | none=>(repR lo hi false x,r)
def quantM (x:Rx):List Str→Res
 | []=>.ok (x,[])
 | c :: r=>if c=[42] then .ok (lazyM x 0 (-1) r) else if c=[43] then .ok (lazyM x 1 (-1) r) else if c=[63] then .ok (lazyM x 0 1 r)
  else if c=[123] then (match boundsM r with
   | none=>.error 10
   | some (lo,hi,r1)=>.ok (lazyM x lo hi r1)) else .ok (x,c :: r)
def groupK (r:List Str):Option (Int × List Str):=match takeM [63] r with
 | none=>some (5,r)
 | some r1=>match takeM [58] r1 with
  | none=>none
  | some r2=>some (6,r2)
def groupM (pat:List Str→Nat→Res) (r:List Str) (d:Nat):Res :=
 if 16≤d then .error 8 else match groupK r with
 | none=>.error 10
 | some (k,r0)=>match pat r0 (d+1) with
  | .error e=>.error e
  | .ok (x,r1)=>match takeM [41] r1 with
   | none=>.error 10
   | some r2=>.ok (grpR k x,r2)
/-- The characters that are no atom by themselves. -/
def noAtom (c:Str):Bool:=decide (c=[42]) || decide (c=[43]) || decide (c=[63]) || decide (c=[41]) || decide (c=[123]) || decide (c=[124]) || decide (c=[94]) || decide (c=[36])
def atomM (pat:List Str→Nat→Res):List Str→Nat→Res
 | [],_=>.error 10
 | c :: r,d=>if c=[46] then .ok (rxK 3,r) else if c=[40] then groupM pat r d else if c=[91] then classM r else if c=[92] then escM r
  else if noAtom c=true then .error 10 else .ok (chrR c,r)
/-- The four bounds. -/
def edgeM (r:List Str):Option (Rx × List Str):=match r with
 | []=>none
 | c :: r1=>if c=[94] then some (rxK 8,r1) else if c=[36] then some (rxK 9,r1) else if c=[92] then (match takeM [98] r1 with
  | some r2=>some (rxK 10,r2)
  | none=>match takeM [66] r1 with
   | some r2=>some (rxK 11,r2)
   | none=>none) else none
def termM (pat:List Str→Nat→Res) (r:List Str) (d:Nat):Res:=match edgeM r with
 | some y=>.ok y
 | none=>match atomM pat r d with
  | .error e=>.error e
  | .ok (x,r1)=>quantM x r1
def patL (trm:List Str→Res):Nat→List Rx→List Rx→List Str→Res
 | 0,_,_,_=>.error 1
 | n+1,alts,terms,r=>match r with
  | []=>.ok (altR (alts++[seqR terms]),[])
  | c :: r1=>if c=[41] then .ok (altR (alts++[seqR terms]),c :: r1) else if c=[124] then patL trm n (alts++[seqR terms]) [] r1
   else match trm (c :: r1) with
    | .error e=>.error e
    | .ok (x,r2)=>patL trm n alts (terms++[x]) r2
def patF:Nat→List Str→Nat→Res
 | 0,_,_=>.error 1
 | n+1,r,d=>patL (fun r=>termM (patF n) r d) (r.length+1) [] [] r
end Go.Proofs.YtbmakifbppocaaaGreatDoor
set_option maxRecDepth 100000
namespace Go.Proofs.YtbmakifbppocaaaGreatDoor
/-- A transform. -/
structure Tf where
 rx:Rx
 fs:List Fm
 fold:Bool
 all:Bool
def tf0:Tf:=⟨rx0,[],false,false⟩
inductive Sn where
 | mk (kind:Int) (text:Str) (n:Int) (has turned:Bool) (form:Tf) (opts:List Str) (kids:List Sn)
namespace Sn
def kind:Sn→Int | mk k _ _ _ _ _ _ _=>k
def text:Sn→Str | mk _ t _ _ _ _ _ _=>t
def n:Sn→Int | mk _ _ n _ _ _ _ _=>n
def has:Sn→Bool | mk _ _ _ h _ _ _ _=>h
def turned:Sn→Bool | mk _ _ _ _ t _ _ _=>t
def form:Sn→Tf | mk _ _ _ _ _ f _ _=>f
def opts:Sn→List Str | mk _ _ _ _ _ _ o _=>o
def kids:Sn→List Sn | mk _ _ _ _ _ _ _ k=>k
mutual
def parts:Sn→Nat
 | mk _ _ _ _ _ _ _ ks=>1+partsL ks
def partsL:List Sn→Nat
 | []=>0
 | x :: r=>parts x+partsL r
end
mutual
def deep:Sn→Nat
 | mk _ _ _ h _ _ _ ks=>deepL ks+(if h then 1 else 0)
def deepL:List Sn→Nat
 | []=>0
 | x :: r=>max (deep x) (deepL r)
end
theorem parts_pos:∀ x:Sn,1≤parts x
 | mk _ _ _ _ _ _ _ ks=>by simp only [parts];omega
theorem parts_mem:∀ {ks:List Sn} {x:Sn},x ∈ ks→parts x≤partsL ks
 | [],_,h=>by simp at h
 | y :: r,x,h=>by
  simp only [partsL]
  rcases List.mem_cons.1 h with rfl | h
  ·omega
  ·have:=parts_mem h;omega
theorem len_parts:∀ ks:List Sn,ks.length≤partsL ks
 | []=>by simp
 | x :: r=>by have:=parts_pos x;have:=len_parts r;simp only [partsL,List.length_cons];omega
end Sn
def textS (t:Str):Sn:=.mk 0 t 0 false false tf0 [] []
def nameC (c:UInt8):Bool:=decide (97≤c.toNat∧c.toNat≤122) || decide (65≤c.toNat∧c.toNat≤90) || decide (48≤c.toNat∧c.toNat≤57) || decide (c.toNat=95)
/-- 'Name': is a text a name? -/
def nameB:Str→Bool
 | []=>false
 | c :: r=>decide ((c :: r).length≤64) && (c :: r).all nameC && decide (57 < c.toNat)
def three:Str:=[36,125,92]
def fiveS:Str:=[36,125,92,44,124]
end Go.Proofs.YtbmakifbppocaaaGreatDoor
set_option maxRecDepth 100000
namespace Go.Proofs.YtbmakifbppocaaaGreatDoor
open Go.RowKit
theorem NameByte_any (c:UInt8) (w:World):Calls Tryz.prog 55 #[.int .u8 c.toNat] w fun e w'=>e=.returned (.bool (nameC c))∧w=w':=by
 go_enter Tryz.func55,Tryz.ntmps55
 go_wp2
 all_goals (go_ret;refine ⟨ret_bool ?_,rfl⟩;unfold nameC;rw [Bool.eq_iff_iff];simp only [Bool.or_eq_true,decide_eq_true_eq];first | omega | (simp;omega) | skip)
theorem nameB_bad {s:Str} {c:UInt8} (h:c ∈ s) (hc:nameC c=false):nameB s=false:=by
 cases s with
 | nil=>rfl
 | cons a r =>
  simp only [nameB]
  have:(a :: r).all nameC=false:=by rw [List.all_eq_false];exact ⟨c,h,by rw [hc];decide⟩
  rw [this];simp
theorem nameB_dig {c:UInt8} {r:Str} (h:c.toNat≤57):nameB (c :: r)=false:=by
 simp only [nameB];rw [decide_eq_false (p:=57 < c.toNat) (by omega)];simp
theorem nameB_good {c:UInt8} {r:Str} (h:∀ d ∈ c :: r,nameC d=true) (h1:57 < c.toNat):nameB (c :: r)=decide ((c :: r).length≤64):=by
 simp only [nameB];rw [decide_eq_true h1,List.all_eq_true.2 h];simp
def NmRel (s:Str) (w:World) (q:Value) (wr:World):Prop :=
 ∃ i:Nat,i≤s.length∧q=.int .i64 i∧wr=w∧Hid (∀ c ∈ s.take i,nameC c=true)∧Hid (0 < i→57 < (s.headD 0).toNat)
set_option maxHeartbeats 1000000 in
theorem SName_any (s:Str) (w:World) (hs:s.length≤1000000) :
  Calls Tryz.prog 40 #[.string ⟨(s).toArray⟩] w fun e w'=>e=.returned (.bool (nameB s))∧w=w':=by
 generalize hR:nameB s=R
 have HR:=Lib.hid hR
 clear hR
 go_enter Tryz.func40,Tryz.ntmps40
 go_wp2
 go_loopw [3] (fun q wr=>NmRel s w q wr) (fun q _=>s.length - (intOf q).toNat)
 case atStart=>exact ⟨0,by omega,rfl,rfl,Lib.hid (by simp),Lib.hid (by omega)⟩
 case round =>
  obtain ⟨i,hi,rfl,rfl,HA,HH⟩:=hrel
  cases hd:s.drop i with
  | nil =>
   have h2:=drop_nil hd
   have hil:i=s.length:=by omega
   subst hil
   have gl:decide (s.length < s.length)=false:=decide_eq_false (by omega)
   cases s with
   | nil =>
    have HR2:Hid (R=false):=Lib.hid (by rw [← HR.out];rfl)
    clear hd HA HH HR
    go_wp2
    go_ret
    exact ⟨by rw [HR2.out];rfl,rfl⟩
   | cons c r =>
    have HR2:Hid (R=decide ((c :: r).length≤64)):=Lib.hid (by rw [← HR.out];exact nameB_good (fun d hd=>HA.out d (by rw [List.take_length];exact hd)) (HH.out (by simp)))
    clear hd HA HH HR
    go_wp2
    go_ret
    refine ⟨?_,rfl⟩
    rw [HR2.out]
    exact ret_bool (a:=decide ((r.length:Int)+1≤64)) (by rw [Bool.eq_iff_iff];simp only [decide_eq_true_eq,List.length_cons];omega)
  | cons c r =>
   obtain ⟨h2,h3,hr⟩:=drop_cons hd
   have hmem:c ∈ s:=by rw [← h3 h2];exact List.getElem_mem h2
   have gl:decide (i < s.length)=true:=decide_eq_true h2
   have HTk:Hid (s.take (i+1)=s.take i++[c]):=Lib.hid (by rw [List.take_add_one,List.getElem?_eq_getElem h2,h3 h2];rfl)
   cases hn:nameC c with
   | false =>
    have HR2:Hid (R=false):=Lib.hid (by rw [← HR.out];exact nameB_bad hmem hn)
    have HN:Hid (∀ w:World,Calls Tryz.prog 55 #[.int .u8 c.toNat] w fun e w'=>e=.returned (.bool false)∧w=w'):=Lib.hid (by rw [← hn];exact NameByte_any c)
    clear hd hmem hn HR HA HH hr
    go_wp2_with (go_at_call 55;refine (HN.out _).mono ?_;rintro e w1 ⟨rfl,rfl⟩)
    go_ret
    exact ⟨by rw [HR2.out];rfl,rfl⟩
   | true =>
    have HN:Hid (∀ w:World,Calls Tryz.prog 55 #[.int .u8 c.toNat] w fun e w'=>e=.returned (.bool true)∧w=w'):=Lib.hid (by rw [← hn];exact NameByte_any c)
    have HA2:Hid (∀ d ∈ s.take (i+1),nameC d=true):=Lib.hid (by
     rw [HTk.out]
     intro d hd'
     rcases List.mem_append.1 hd' with hd' | hd'
     ·exact HA.out d hd'
     ·rw [List.mem_singleton] at hd';rw [hd'];exact hn)
    by_cases hi0:i=0
    ·subst hi0
     by_cases h57:c.toNat≤57
     ·have HR2:Hid (R=false):=Lib.hid (by rw [← HR.out];rw [List.drop_zero] at hd;rw [hd];exact nameB_dig h57)
      clear hd hmem hn HR HA HH hr HTk HA2
      go_wp2_with (go_at_call 55;refine (HN.out _).mono ?_;rintro e w1 ⟨rfl,rfl⟩)
      go_ret
      exact ⟨by rw [HR2.out];rfl,rfl⟩
     ·have HH2:Hid (0 < 0+1→57 < (s.headD 0).toNat):=Lib.hid (fun _=>by rw [List.drop_zero] at hd;rw [hd];simp;omega)
      clear hd hmem hn HA HH hr HTk
      go_wp2_with (go_at_call 55;refine (HN.out _).mono ?_;rintro e w1 ⟨rfl,rfl⟩)
      go_roundw
      case rel=>exact ⟨0+1,by omega,by go_num,rfl,HA2,HH2⟩
      case measure=>simp [intOf];omega
    ·have hz:((i:Int) == 0)=false:=by rw [beq_eq_false_iff_ne];omega
     have HH2:Hid (0 < i+1→57 < (s.headD 0).toNat):=Lib.hid (fun _=>HH.out (by omega))
     clear hd hmem hn HA HH hr HTk
     go_wp2_with (go_at_call 55;refine (HN.out _).mono ?_;rintro e w1 ⟨rfl,rfl⟩)
     go_roundw
     case rel=>exact ⟨i+1,by omega,by go_num,rfl,HA2,HH2⟩
     case measure=>simp [intOf];omega
end Go.Proofs.YtbmakifbppocaaaGreatDoor
set_option maxRecDepth 100000
namespace Go.Proofs.YtbmakifbppocaaaGreatDoor
open Go.RowKit
theorem Name_any (n:Int) (w:World) :
  Calls Tryz.prog 65 #[.int .i64 n] w fun e w'=>e=.returned (.string ⟨(nameOf n).toArray⟩)∧Below w.heap.size w w':=by
 by_cases h:1≤n∧n≤5
 ·obtain ⟨h1,h2⟩:=h
  have hn:n=1∨n=2∨n=3∨n=4∨n=5:=by omega
  rcases hn with rfl | rfl | rfl | rfl | rfl
  all_goals
   go_enter Tryz.func65,Tryz.ntmps65
   go_wp2
   go_ret
   exact ⟨rfl,(Below.refl _ _).alloc (Nat.le_refl _) _⟩
 ·have hz:nameOf n=[]:=by
   unfold nameOf;rw [if_neg (by omega),if_neg (by omega),if_neg (by omega),if_neg (by omega),if_neg (by omega)]
  rw [hz]
  go_enter Tryz.func65,Tryz.ntmps65
  go_wp2
  all_goals
   first
   | (go_ret;exact ⟨rfl,Below.refl _ _⟩)
   | (exfalso;omega)
end Go.Proofs.YtbmakifbppocaaaGreatDoor
set_option maxRecDepth 100000
namespace Go.Proofs.YtbmakifbppocaaaGreatDoor
open Go.RowKit
def Fm.cells (f:Fm):List Value:=[.int .i64 f.kind,.int .i64 f.n,.int .i64 f.cse,.string ⟨(f.thn).toArray⟩,.string ⟨(f.els).toArray⟩]
def fcells (fs:List Fm):List Value:=fs.flatMap Fm.cells
theorem fcells_length (fs:List Fm):(fcells fs).length=fs.length * 5:=by
 induction fs with
 | nil=>rfl
 | cons f fs ih=>simp only [fcells,List.flatMap_cons,List.length_append] at *;rw [ih];simp [Fm.cells];omega
theorem fcells_at {fs:List Fm} {k:Nat} {f:Fm} (h:fs[k]?=some f) (j:Nat) (hj:j < 5):(fcells fs)[k * 5+j]?=f.cells[j]?:=by
 induction fs generalizing k with
 | nil=>simp at h
 | cons g fs ih =>
  cases k with
  | zero =>
   simp at h;subst h
   simp only [fcells,List.flatMap_cons,Nat.zero_mul,Nat.zero_add]
   rw [List.getElem?_append_left (by simp [Fm.cells];omega)]
  | succ k =>
   simp only [List.getElem?_cons_succ] at h
   simp only [fcells,List.flatMap_cons]
   rw [List.getElem?_append_right (by simp [Fm.cells];omega)]
   rw [show (k+1) * 5+j - g.cells.length=k * 5+j by simp [Fm.cells];omega]
   exact ih h
/-- Element k of a slice of formats' parts. -/
theorem Sl.fm {w:World} {B:Nat} {a:Option Addr} {n:Nat} {fs:List Fm} (h:Sl w B a 5 n (fcells fs)) {k:Nat} {f:Fm} (hk:fs[k]?=some f) :
  ∃ b o,a=some ⟨b,o,none⟩∧b < B∧w.cell? ⟨b,o+k * 5,none⟩=some (.int .i64 f.kind)∧w.cell? ⟨b,o+k * 5+1,none⟩=some (.int .i64 f.n)∧w.cell? ⟨b,o+k * 5+2,none⟩=some (.int .i64 f.cse) ∧
   w.cell? ⟨b,o+k * 5+3,none⟩=some (.string ⟨(f.thn).toArray⟩)∧w.cell? ⟨b,o+k * 5+4,none⟩=some (.string ⟨(f.els).toArray⟩):=by
 have hlt:=(List.getElem?_eq_some_iff.1 hk).1
 have hn:n=fs.length:=by have:=h.1;rw [fcells_length] at this;omega
 obtain ⟨b,o,h1,h2,h3⟩:=h.2 (by omega)
 refine ⟨b,o,h1,h2,?_,?_,?_,?_,?_⟩
 ·exact h3 (k * 5+0) _ (fcells_at hk 0 (by omega))
 ·exact h3 (k * 5+1) _ (fcells_at hk 1 (by omega))
 ·exact h3 (k * 5+2) _ (fcells_at hk 2 (by omega))
 ·exact h3 (k * 5+3) _ (fcells_at hk 3 (by omega))
 ·exact h3 (k * 5+4) _ (fcells_at hk 4 (by omega))

def blankB (f:Fm) (n way thn els:Bool):Bool:=(n || decide (f.n=0)) && (way || decide (f.cse=0)) && (thn || decide (f.thn=[])) && (els || decide (f.els=[]))
def mayF (f:Fm):Bool :=
 decide (0≤f.n∧f.n≤9999) &&
 (if f.kind=0 then blankB f false false true false && decide (f.thn≠[])
  else if f.kind=1 then blankB f true false false false
  else if f.kind=2 then blankB f true true false false && decide (nameOf f.cse≠[])
  else if f.kind=3 then blankB f true false true false
  else if f.kind=4 then blankB f true false false true
  else if f.kind=5 then blankB f true false true true
  else false)
/-- 'May': pt: is the part ahead a text? -/
def mayL:Bool→List Fm→Bool
 | _,[]=>true
 | pt,f :: r=>mayF f && !(decide (f.kind=0) && pt) && mayL (decide (f.kind=0)) r
def mayFs (fs:List Fm):Bool:=mayL false fs
theorem Sl.fs_len {w:World} {B:Nat} {a:Option Addr} {n:Nat} {fs:List Fm} (h:Sl w B a 5 n (fcells fs)):n=fs.length:=by
 have:=h.1;rw [fcells_length] at this;omega
theorem fm_fields:Tryz.prog.underlying 65=some (.struct (Tryz.prog.fieldsOf 65)):=by kernel_rfl
set_option maxHeartbeats 2000000 in
theorem blank_any (f:Fm) (b1 b2 b3 b4:Bool) (w:World) :
  Calls Tryz.prog 95 #[.agg #[.int .i64 (f).kind,.int .i64 (f).n,.int .i64 (f).cse,.string ⟨((f).thn).toArray⟩,.string ⟨((f).els).toArray⟩],.bool b1,.bool b2,.bool b3,.bool b4] w fun e w'=>e=.returned (.bool (blankB f b1 b2 b3 b4))∧Below w.heap.size w w':=by
 generalize hR:blankB f b1 b2 b3 b4=R
 have HR:=Lib.hid hR
 clear hR
 cases b1 <;> cases b2 <;> cases b3 <;> cases b4
 all_goals
  go_enter Tryz.func95,Tryz.ntmps95
  go_wp2
  all_goals
   go_ret
   refine ⟨ret_bool ?_,(Below.refl _ _).alloc (Nat.le_refl _) _⟩
   rw [← HR.out,Bool.eq_iff_iff];simp [blankB, *]
end Go.Proofs.YtbmakifbppocaaaGreatDoor
