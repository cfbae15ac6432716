/- walk of gimletlaw21.guard -/
import Derived.Test.YtbgcjpefocdkkaaSx1
import Derived.Test.YtbgcjpefocdkkaaSx2
import Derived.Test.YtbgcjpefocdkkaaSx3
import Derived.Test.YtbgcjpefocdkkaaSx4
import Derived.Test.YtbgcjpefocdkkaaSx5
import Derived.Test.YtbgcjpefocdkkaaSx6
import Derived.Test.YtbgcjpefocdkkaaSx7
import Derived.Test.YtbgcjpefocdkkaaSx8
import Derived.Test.YtbgcjpefocdkkaaSx9
import Derived.Test.YtbgcjpefocdkkaaSx10
import Derived.Test.YtbgcjpefocdkkaaSx11
import Derived.Test.YtbgcjpefocdkkaaSx12
import Derived.Lib.ItoaMem
import Derived.Test.YtbgcjpefocdkkaaSx13
import Derived.Test.YtbgcjpefocdkkaaSx14
import Derived.Test.YtbgcjpefocdkkaaSx15
import Derived.Test.YtbgcjpefocdkkaaSx16
import Derived.Test.YtbgcjpefocdkkaaSx17
import Derived.Test.YtbgcjpefocdkkaaSx18
import Derived.Test.YtbgcjpefocdkkaaSx19
import Derived.Test.YtbgcjpefocdkkaaSx20
import Derived.Test.YtbgcjpefocdkkaaSx21
import Derived.Test.YtbgcjpefocdkkaaSx22
import Derived.Test.YtbgcjpefocdkkaaSx23
import Derived.Test.YtbgcjpefocdkkaaSx24
import Derived.Test.YtbgcjpefocdkkaaSx25
import Derived.Test.YtbgcjpefocdkkaaSx26
import Derived.Test.YtbgcjpefocdkkaaSx27
set_option maxRecDepth 100000
namespace Go.Proofs.Ytbgcjpefocdkkaa
open Go.RowKit
def repG (th:Str) (c:UInt8):Str:=th.flatMap fun x=>if x=c then [92] else []
def quotG (th l:Str):Str:=l.flatMap fun c=>repG th c++[c]
theorem repG_eq (c:UInt8):∀{th:Str},th.Nodup→repG th c=if th.contains c=true then [92] else []
 | [],_=>by simp [repG]
 | x::r,h=>by
  rw [List.nodup_cons] at h;have ih:=repG_eq c h.2;have he:repG (x::r) c=(if x=c then [92] else [])++repG r c:=by simp [repG]
  rw [he,ih,List.contains_cons];by_cases hx:x=c
  ·subst hx
   have:r.contains x=false:=by simpa using h.1
   rw [if_pos rfl,this];simp
  ·rw [if_neg hx]
   have:(c==x)=false:=by simpa using fun e=>hx e.symm
   rw [this];simp
theorem quotG_eq {th:Str} (h:th.Nodup):∀l:Str,quotG th l=quot th l
 | []=>by simp [quotG,quot]
 | c::r=>by
  have ih:=quotG_eq h r;have he:quotG th (c::r)=repG th c++[c]++quotG th r:=by simp [quotG]
  rw [he,ih,repG_eq c h];simp only [quot];split<;>simp
theorem repG_len (c:UInt8):∀th:Str,(repG th c).length≤th.length
 | []=>by simp [repG]
 | x::r=>by
  have ih:=repG_len c r;have he:repG (x::r) c=(if x=c then [92] else [])++repG r c:=by simp [repG]
  rw [he,List.length_append];split<;>simp<;>omega
theorem quotG_len (th:Str):∀l:Str,(quotG th l).length≤l.length*(th.length+1)
 | []=>by simp [quotG]
 | c::r=>by
  have ih:=quotG_len th r;have hr:=repG_len c th;have he:quotG th (c::r)=repG th c++[c]++quotG th r:=by simp [quotG]
  rw [he,List.length_append,List.length_append,List.length_cons,List.length_cons,Nat.succ_mul];simp;omega
theorem u8_info2:(Try.prog.info? 5).map (fun i=>(i.zero,i.size,i.bytes))=some (some (.int .u8 0),1,1):=by kernel_rfl
theorem ownsRow_drewN {w:World} {B:Nat} {e:TypeId} {sz:Nat} {v:Value} {n:Nat} {xs:List Value} (h:w.ownsRow B e sz v n xs) (k:Nat):(w.drewN k).ownsRow B e sz v n xs:=h
def GdRel (th l R:Str) (w:World) (v q:Value) (wr:World):Prop :=
 ∃(i:Nat) (bs:Str),i≤l.length∧q=.int .i64 i∧wr.ownsRow w.heap.size 5 1 v bs.length (bcells bs)∧Below w.heap.size w wr∧bs.length≤20000000∧Hid (bs++quotG th (l.drop i)=R)
def GiRel (th:Str) (c:UInt8) (s R:Str) (w:World) (v q:Value) (wr:World):Prop :=
 ∃(k:Nat) (bs:Str),k≤th.length∧q=.int .i64 k∧wr.ownsRow w.heap.size 5 1 v bs.length (bcells bs)∧Below w.heap.size w wr∧bs.length≤20000000∧Hid (bs++(repG (th.drop k) c++(c::s))=R)
set_option maxHeartbeats 4000000 in
theorem guard21 (l th:Str) (w:World) (hs:l.length≤1000000) (ht:th.length≤9) (hnd:th.Nodup) :
  Calls Try.prog 13 #[.string ⟨(l).toArray⟩,.string ⟨(th).toArray⟩] w fun e w'=>e=.returned (.string ⟨(quot th l).toArray⟩)∧Below w.heap.size w w':=by
 rw [←quotG_eq hnd];have hlen:=quotG_len th l;have h10:l.length*(th.length+1)≤1000000*10:=Nat.mul_le_mul hs (by omega);obtain⟨R,hR⟩:∃R,quotG th l=R:=⟨_,rfl⟩;rw [hR] at hlen ⊢;have HR0:Hid (([]:Str)++quotG th (l.drop 0)=R):=Lib.hid (by simpa using hR);obtain⟨iu,hiu⟩:=info_parts u8_info2;have hRl:R.length≤10000000:=by omega
 clear hR hnd hlen h10;go_enter Try.func13,Try.ntmps13
 go_wp2
 go_loopw [5,6] (fun v q wr=>GdRel th l R w v q wr) (fun _ q _=>l.length-(intOf q).toNat)
 case atStart=>exact⟨0,[],by omega,rfl,World.ownsRow_nil _ _ _ _,Below.refl _ _,by simp,HR0⟩
 case round =>
  obtain⟨i,bs,hik,rfl,hown,hb,hbl,HF⟩:=hrel;clear HR0;have hB:=hb.size;cases hd:l.drop i with
  | nil =>
   have h2:=drop_nil hd;have HE:Hid (bs=R):=Lib.hid (by rw [←HF.out,hd];simp [quotG]);obtain⟨a,c,rfl⟩:=own_form hown;have hcv:=conv_own (P:=Try.prog) Try.underlying61 Try.underlying5 Try.underlying9 hown;clear hd HF;go_wp2
   go_ret
   exact⟨ret_str HE.out,hb⟩
  | cons c r =>
   obtain⟨h2,h3,hr⟩:=drop_cons hd;have Hr:=Lib.hid hr;have hc256:=u8_lt c;obtain⟨T,hT⟩:∃T,quotG th r=T:=⟨_,rfl⟩;have HK0:Hid (bs++(repG (th.drop 0) c++(c::T))=R):=Lib.hid (by rw [←HF.out,hd,←hT];simp [quotG]);have HT:=Lib.hid hT;clear hd HF hr hT;obtain⟨wo,rfl⟩:∃wo:World,wo=wr:=⟨_,rfl⟩;go_wp2
   go_loopw [5,7] (fun v q wk=>GiRel th c T R w v q wk) (fun _ q _=>th.length-(intOf q).toNat)
   case atStart=>exact⟨0,bs,by omega,rfl,hown,hb,hbl,HK0⟩
   case round =>
    obtain⟨k,bk,hkk,rfl,hownk,hbk,hblk,HG⟩:=hrel;clear HK0 hown;have hBk:=hbk.size;have hbkl:bk.length+T.length+1≤10000000:=by
     have h:=congrArg List.length HG.out;simp only [List.length_append,List.length_cons] at h;omega
    obtain⟨a,cp,rfl⟩:=own_form hownk;cases hdk:th.drop k with
    | nil =>
     have h4:=drop_nil hdk;have HE:Hid (bk++(c::T)=R):=Lib.hid (by rw [←HG.out,hdk];simp [repG]);clear hdk HG;go_wp2_with (at_builtin;refine wpList_app1 w.heap.size 5 rfl _ _ 61 rfl Try.underlying61 hiu rfl (by decide) rfl hownk rfl (by first|rfl|simp) rfl (by simp [Value.oneCell']) (by omega) (by decide) hBk ?_)
     intro v1 w1 ho1 hg1 hb1 hne1;go_wp2
     exact⟨⟨i+1,bk++[c],by omega,by go_num,by simpa [bcells] using ho1,hbk.trans (hb1.mono (Nat.le_refl _)),by simp;omega,Lib.hid (by rw [Hr.out,HT.out,←HE.out];simp)⟩,by simp [intOf];omega⟩
    | cons x s =>
     obtain⟨h4,h5,hs⟩:=drop_cons hdk;have Hs:=Lib.hid hs;have hx256:=u8_lt x;have HG2:Hid (bk++((if x=c then [92] else [])++(repG s c++(c::T)))=R):=Lib.hid (by rw [←HG.out,hdk];simp [repG]);clear hdk HG hs;by_cases hxc:x=c
     ·have HE:Hid (bk++([92]++(repG s c++(c::T)))=R):=Lib.hid (by rw [←HG2.out,if_pos hxc])
      subst hxc;clear HG2;go_wp2
      go_quiet (fail)
      go_wp2_with (at_builtin;refine wpList_app1 w.heap.size 5 rfl _ _ 61 rfl Try.underlying61 hiu rfl (by decide) rfl (ownsRow_drewN hownk _) rfl (by first|rfl|simp) rfl (by simp [Value.oneCell']) (by omega) (by decide) (below_drewN hbk _).size ?_)
      intro v1 w1 ho1 hg1 hb1 hne1;go_wp2
      go_roundw
      case rel=>exact⟨k+1,bk++[92],by omega,by go_num,by simpa [bcells] using ho1,(below_drewN hbk _).trans (hb1.mono (Nat.le_refl _)),by simp;omega,Lib.hid (by rw [Hs.out,←HE.out];simp)⟩
      case measure=>simp [intOf];omega
     ·have hne:((x.toNat:Int)==c.toNat)=false:=by
       rw [beq_eq_false_iff_ne];intro e;exact hxc (UInt8.toNat_inj.1 (by omega))
      have hne2:((c.toNat:Int)==x.toNat)=false:=by
       rw [beq_eq_false_iff_ne];intro e;exact hxc (UInt8.toNat_inj.1 (by omega))
      have HE:Hid (bk++(repG s c++(c::T))=R):=Lib.hid (by rw [←HG2.out,if_neg hxc];simp);clear HG2 hxc;go_wp2
      go_quiet (fail)
      go_wp2
      go_roundw
      case rel=>exact⟨k+1,bk,by omega,by go_num,ownsRow_drewN hownk _,below_drewN hbk _,hblk,Lib.hid (by rw [Hs.out];exact HE.out)⟩
      case measure=>simp [intOf];omega
end Go.Proofs.Ytbgcjpefocdkkaa
set_option maxRecDepth 100000
namespace Go.Proofs.Ytbgcjpefocdkkaa
open Go.RowKit
def low (x n:Int):Int:=(x % 18446744073709551616) % n
theorem low_lt (x:Int) {n:Int} (h:1≤n):0≤low x n∧low x n<n:=⟨Int.emod_nonneg _ (by omega),Int.emod_lt_of_pos _ (by omega)⟩
theorem low_eq (x n:Int) (h1:1≤n) (h2:n≤1000000):wrap64 ((IntKind.u64.wrap x).tmod n)=low x n:=by
 have hu:IntKind.u64.wrap x=x % 18446744073709551616:=by simp [IntKind.wrap,IntKind.signed,IntKind.bits]
 have hnn:0≤x % 18446744073709551616:=by omega
 rw [hu,Int.tmod_eq_emod_of_nonneg hnn];have:=low_lt x h1
 unfold low at *;unfold wrap64;omega
set_option maxHeartbeats 400000 in
theorem Low_any (x n:Int) (w:World) (h1:1≤n) (h2:n≤1000000) :
  Calls Try.prog 9 #[.int .i64 x,.int .i64 n] w fun e w'=>e=.returned (.int .i64 (low x n))∧w=w':=by
 have HE:=Lib.hid (low_eq x n h1 h2);go_enter Try.func9,Try.ntmps9
 go_wp2
 go_ret
 exact⟨ret_int HE.out,rfl⟩
end Go.Proofs.Ytbgcjpefocdkkaa
set_option maxRecDepth 100000
namespace Go.Proofs.Ytbgcjpefocdkkaa
open Go.RowKit
def EqRel (n:Nat) (w:World) (q:Value) (wr:World):Prop:=∃i:Nat,i≤n∧q=.int .i64 i∧Below w.heap.size w wr
set_option maxHeartbeats 1000000 in
theorem Equal_same (a a':Option Addr) (c c':Nat) (rs:List (Str × Str)) (w:World) (h:Sl w w.heap.size a 2 rs.length (rcells rs)) (h':Sl w w.heap.size a' 2 rs.length (rcells rs)) (hl:rs.length≤1000000) :
  Calls Try.prog 47 #[.slice a rs.length c,.slice a' rs.length c'] w fun e w'=>e=.returned (.bool true)∧Below w.heap.size w w':=by
 have H1:=Lib.hid h;have H2:=Lib.hid h';clear h h';go_enter Try.func47,Try.ntmps47
 go_wp2
 go_loopw [13] (fun q wr=>EqRel rs.length w q wr) (fun q _=>rs.length-(intOf q).toNat)
 case atStart=>exact⟨0,by omega,rfl,Below.refl _ _⟩
 case round =>
  obtain⟨i,hi,rfl,hb⟩:=hrel;cases hd:rs[i]? with
  | none =>
   have h2:rs.length≤i:=by simpa using hd
   clear hd;go_wp2
   go_ret
   exact⟨rfl,hb⟩
  | some r =>
   have h2:=(List.getElem?_eq_some_iff.1 hd).1;obtain⟨b,o,rfl,hb1,c0,c1⟩:=(H1.out.keep hb).row hd;obtain⟨b',o',rfl,hb1',c0',c1'⟩:=(H2.out.keep hb).row hd;obtain⟨x,y⟩:=r;simp only at c0 c1 c0' c1'
   clear hd;go_wp2
   go_quiet (fail)
   go_wp2
   exact⟨⟨i+1,by omega,by go_num,below_drewN hb _⟩,by simp [intOf];omega⟩
def SameC (y:Rx):Prop:=∀(S S':Nat→Prop) (cc cc':List Value) (w:World),RxV w S cc y→RxV w S' cc' y →
 Calls Try.prog 38 #[.agg cc.toArray,.agg cc'.toArray] w fun e w'=>e=.returned (.bool true)∧Below w.heap.size w w'
theorem RxV.box' {w:World} {S:Nat→Prop} {cc:List Value} {k:Int} {c:Str} {ng:Bool} {rs:List (Str × Str)} {lo hi:Int} {lz:Bool} {ks:List Rx} (h:RxV w S cc (.mk k c ng rs lo hi lz ks)) :
  ∃ra rc ka kc,cc=rxc k c ng ra rs.length rc lo hi lz ka ks.length kc∧Sl w w.heap.size ra 2 rs.length (rcells rs)∧RxSl w S ka ks.length ks:=by
 obtain⟨ra,rc,ka,kc,h1,h2,h3⟩:=h.open_;exact⟨ra,rc,ka,kc,h1,h2.sl,h3⟩
set_option maxHeartbeats 2000000 in
theorem EqualF_same (S S':Nat→Prop) (a a':Option Addr) (c c':Nat) (ks:List Rx) (w:World) (IH:∀y∈ks,SameC y) (h:RxSl w S a ks.length ks) (h':RxSl w S' a' ks.length ks) (hl:ks.length≤1000000) :
  Calls Try.prog 48 #[.slice a ks.length c,.slice a' ks.length c',.func (.func 38) #[] #[]] w fun e w'=>e=.returned (.bool true)∧Below w.heap.size w w':=by
 have H1:=Lib.hid h;have H2:=Lib.hid h';have HIH:=Lib.hid IH;clear h h' IH;go_enter Try.func48,Try.ntmps48
 go_wp2
 go_loopw [17] (fun q wr=>EqRel ks.length w q wr) (fun q _=>ks.length-(intOf q).toNat)
 case atStart=>exact⟨0,by omega,rfl,Below.refl _ _⟩
 case round =>
  obtain⟨i,hi,rfl,hb⟩:=hrel;cases hd:ks[i]? with
  | none =>
   have h2:ks.length≤i:=by simpa using hd
   clear hd;go_wp2
   go_ret
   exact⟨rfl,hb⟩
  | some y =>
   have h2:=(List.getElem?_eq_some_iff.1 hd).1;have HY:=Lib.hid (HIH.out y (List.mem_of_getElem? hd));obtain⟨k,ch,ng,rs,lo,hi',lz,xs⟩:=y;obtain⟨b,o,ra,rc,ka,kc,rfl,_,hb1,_,_,hv1,c0,c1,c2,c3,c4,c5,c6,c7⟩:=(H1.out.later hb).cells hd;obtain⟨b',o',ra',rc',ka',kc',rfl,_,hb1',_,_,hv1',d0,d1,d2,d3,d4,d5,d6,d7⟩:=(H2.out.later hb).cells hd;have hbn:Below wr.heap.size wr ((wr.alloc (.cells (rxc k ch ng ra rs.length rc lo hi' lz ka xs.length kc).toArray 30)).alloc (.cells (rxc k ch ng ra' rs.length rc' lo hi' lz ka' xs.length kc').toArray 30)):=((Below.refl _ _).alloc (Nat.le_refl _) _).alloc (by simp) _;have HC:=Lib.hid (HY.out S S' _ _ _ (hv1.later hbn) (hv1'.later hbn));unfold rxc at HC hbn;have hB:=hb.size;clear hd hv1 hv1' HY;go_wp2_with (go_at_call 38;refine HC.out.mono ?_)
   rintro e w2 ⟨rfl,hb2⟩;have hb3:Below w.heap.size w w2:=(hb.trans (hbn.mono hB)).trans (hb2.mono (Nat.le_trans hB hbn.size));clear hbn hb2 HC;go_wp2
   exact⟨⟨i+1,by omega,by go_num,hb3⟩,by simp [intOf];omega⟩
end Go.Proofs.Ytbgcjpefocdkkaa
namespace Go.Proofs.Ytbgcjpefocdkkaa
open Go.RowKit
set_option maxHeartbeats 2000000 in
theorem Same_any:∀(N:Nat) (x:Rx),x.parts≤N→x.small→SameC x
 | 0,x,h,_=>by have:=Rx.parts_pos x;omega
 | N+1,.mk k c ng rs lo hi lz ks,h,hsm=>by
  intro S S' cc cc' w hv hv';obtain⟨ra,rc,ka,kc,rfl,hrs,hks⟩:=hv.box';obtain⟨ra',rc',ka',kc',rfl,hrs',hks'⟩:=hv'.box';obtain⟨⟨s1,s2,s3,s4⟩,hsmL⟩:=hsm;simp only [Rx.parts] at h;have ih:∀y∈ks,SameC y:=fun y hy=>Same_any N y (by have:=Rx.parts_mem hy;omega) (smallL_mem hsmL hy)
  have HIH:=Lib.hid ih;have hbn:Below w.heap.size w ((w.alloc (.cells (rxc k c ng ra rs.length rc lo hi lz ka ks.length kc).toArray 30)).alloc (.cells (rxc k c ng ra' rs.length rc' lo hi lz ka' ks.length kc').toArray 30)):=((Below.refl _ _).alloc (Nat.le_refl _) _).alloc (by simp) _;obtain⟨w0,hw0⟩:∃w0,w0=(w.alloc (.cells (rxc k c ng ra rs.length rc lo hi lz ka ks.length kc).toArray 30)).alloc (.cells (rxc k c ng ra' rs.length rc' lo hi lz ka' ks.length kc').toArray 30):=⟨_,rfl⟩;rw [←hw0] at hbn;have hz0:=hbn.size;have hx1:w0.heap[w.heap.size]?=some (.cells (rxc k c ng ra rs.length rc lo hi lz ka ks.length kc).toArray 30 (0,0)):=by rw [hw0,Below.heap_alloc _ _ _ (by simp)];exact heap_alloc_new w _
  have hx2:w0.heap[w.heap.size+1]?=some (.cells (rxc k c ng ra' rs.length rc' lo hi lz ka' ks.length kc').toArray 30 (0,0)):=by
   rw [hw0];have:=heap_alloc_new (w.alloc (.cells (rxc k c ng ra rs.length rc lo hi lz ka ks.length kc).toArray 30)) (.cells (rxc k c ng ra' rs.length rc' lo hi lz ka' ks.length kc').toArray 30);simpa using this
  have HX1:=Lib.hid hx1;have HX2:=Lib.hid hx2;have HEQ:=Lib.hid (Equal_same ra ra' rc rc' rs w0 ((hrs.keep hbn).mono hz0) ((hrs'.keep hbn).mono hz0) s2);have HK:=Lib.hid (hks.later hbn);have HK':=Lib.hid (hks'.later hbn);clear hks hks' hrs hrs' hv hv' ih hx1 hx2;unfold rxc at hw0 HX1 HX2 ⊢;go_enter Try.func38,Try.ntmps38
  go_upto_region 1 with fail
  rw [←hw0];clear hw0;obtain⟨e0,e1,e2,e3,e4,e5,e6,e7,e8⟩:=bx_cells HX1.out;obtain⟨d0,d1,d2,d3,d4,d5,d6,d7,d8⟩:=bx_cells HX2.out;go_wp2_with (go_at_call 47;refine HEQ.out.mono ?_)
  rintro e w1 ⟨rfl,hb1⟩;have hx1:=(hb1.block _ (heap_lt HX1.out)).trans HX1.out;have hx2:=(hb1.block _ (heap_lt HX2.out)).trans HX2.out;have hbw1:=bel2 hbn hb1;have HEF:=Lib.hid (EqualF_same S S' ka ka' kc kc' ks w1 HIH.out (HK.out.later hb1) (HK'.out.later hb1) s4);clear e0 e1 e2 e3 e4 e5 e6 e7 e8 d0 d1 d2 d3 d4 d5 d6 d7 d8 HEQ;obtain⟨e0,e1,e2,e3,e4,e5,e6,e7,e8⟩:=bx_cells hx1;obtain⟨d0,d1,d2,d3,d4,d5,d6,d7,d8⟩:=bx_cells hx2;clear hx1 hx2 hb1;go_wp2_with (go_at_call 48;refine HEF.out.mono ?_)
  rintro e w2 ⟨rfl,hb2⟩;have hbw2:=bel2 hbw1 hb2;go_wp2
  go_ret
  exact⟨rfl,hbw2⟩
theorem Same_eq {x:Rx} {S S':Nat→Prop} {cc cc':List Value} (w:World) (hs:x.small) (h:RxV w S cc x) (h':RxV w S' cc' x) :
  Calls Try.prog 38 #[.agg cc.toArray,.agg cc'.toArray] w fun e w'=>e=.returned (.bool true)∧Below w.heap.size w w':=Same_any _ x (Nat.le_refl _) hs S S' cc cc' w h h'
end Go.Proofs.Ytbgcjpefocdkkaa
set_option maxRecDepth 100000
namespace Go.Proofs.Ytbgcjpefocdkkaa
open Go.RowKit
set_option maxHeartbeats 1000000 in
theorem EqualStr (a a':Option Addr) (c c':Nat) (l:List Str) (w:World) (h:Sl w w.heap.size a 1 l.length (scells l)) (h':Sl w w.heap.size a' 1 l.length (scells l)) (hl:l.length≤1000000) :
  Calls Try.prog 32 #[.slice a l.length c,.slice a' l.length c'] w fun e w'=>e=.returned (.bool true)∧Below w.heap.size w w':=by
 have H1:=Lib.hid h;have H2:=Lib.hid h';clear h h';go_enter Try.func32,Try.ntmps32
 go_wp2
 go_loopw [13] (fun q wr=>EqRel l.length w q wr) (fun q _=>l.length-(intOf q).toNat)
 case atStart=>exact⟨0,by omega,rfl,Below.refl _ _⟩
 case round =>
  obtain⟨i,hi,rfl,hb⟩:=hrel;cases hd:l[i]? with
  | none =>
   have h2:l.length≤i:=by simpa using hd
   clear hd;go_wp2
   go_ret
   exact⟨rfl,hb⟩
  | some x =>
   have h2:=(List.getElem?_eq_some_iff.1 hd).1;obtain⟨b,o,rfl,hb1,hc⟩:=(H1.out.keep hb).2 (by omega);obtain⟨b',o',rfl,hb1',hc'⟩:=(H2.out.keep hb).2 (by omega);have c0:=hc i (.string ⟨(x).toArray⟩) (by simp [scells,hd]);have c0':=hc' i (.string ⟨(x).toArray⟩) (by simp [scells,hd]);clear hd hc hc';go_wp2
   go_quiet (fail)
   go_wp2
   exact⟨⟨i+1,by omega,by go_num,below_drewN hb _⟩,by simp [intOf];omega⟩
set_option maxHeartbeats 1000000 in
theorem EqualFm (a a':Option Addr) (c c':Nat) (l:List Fm) (w:World) (h:Sl w w.heap.size a 5 l.length (fcells l)) (h':Sl w w.heap.size a' 5 l.length (fcells l)) (hl:l.length≤1000000) :
  Calls Try.prog 39 #[.slice a l.length c,.slice a' l.length c'] w fun e w'=>e=.returned (.bool true)∧Below w.heap.size w w':=by
 have H1:=Lib.hid h;have H2:=Lib.hid h';clear h h';go_enter Try.func39,Try.ntmps39
 go_wp2
 go_loopw [13] (fun q wr=>EqRel l.length w q wr) (fun q _=>l.length-(intOf q).toNat)
 case atStart=>exact⟨0,by omega,rfl,Below.refl _ _⟩
 case round =>
  obtain⟨i,hi,rfl,hb⟩:=hrel;cases hd:l[i]? with
  | none =>
   have h2:l.length≤i:=by simpa using hd
   clear hd;go_wp2
   go_ret
   exact⟨rfl,hb⟩
  | some x =>
   have h2:=(List.getElem?_eq_some_iff.1 hd).1;obtain⟨b,o,rfl,hb1,c0,c1,c2,c3,c4⟩:=(H1.out.keep hb).fm hd;obtain⟨b',o',rfl,hb1',d0,d1,d2,d3,d4⟩:=(H2.out.keep hb).fm hd;obtain⟨x0,x1,x2,x3,x4⟩:=x;simp only at c0 c1 c2 c3 c4 d0 d1 d2 d3 d4
   clear hd;go_wp2
   go_quiet (fail)
   go_wp2
   exact⟨⟨i+1,by omega,by go_num,below_drewN hb _⟩,by simp [intOf];omega⟩
set_option maxHeartbeats 4000000 in
theorem XSame_any (S S':Nat→Prop) (f:Tf) (hsm:f.small) (fc fc':List Value) (w:World) (hv:TfV w S fc f) (hv':TfV w S' fc' f) :
  Calls Try.prog 31 #[.agg fc.toArray,.agg fc'.toArray] w fun e w'=>e=.returned (.bool true)∧Below w.heap.size w w':=by
 obtain⟨rk,rch,rng,rrs,rlo,rhi,rlz,rks,ra,rcp,rka,rkc,fa,fcp,hc⟩:=hv.open_;obtain⟨qk,qch,qng,qrs,qlo,qhi,qlz,qks,qa,qcp,qka,qkc,ga,gcp,hd⟩:=hv'.open_;obtain⟨X,fs,fd,al⟩:=f;obtain⟨hx,hp,hfs⟩:=hsm;have hx1:X=.mk rk rch rng rrs rlo rhi rlz rks:=hc.rx;have hx2:X=.mk qk qch qng qrs qlo qhi qlz qks:=hd.rx;have hfce:fc=[.int .i64 rk,.string ⟨(rch).toArray⟩,.bool rng,.slice ra rrs.length rcp,.int .i64 rlo,.int .i64 rhi,.bool rlz,.slice rka rks.length rkc,.slice fa fs.length fcp,.bool fd,.bool al]:=hc.eq;have hfde:fc'=[.int .i64 qk,.string ⟨(qch).toArray⟩,.bool qng,.slice qa qrs.length qcp,.int .i64 qlo,.int .i64 qhi,.bool qlz,.slice qka qks.length qkc,.slice ga fs.length gcp,.bool fd,.bool al]:=hd.eq;obtain⟨W0,hW0⟩:∃W0,W0=(w.alloc (.cells fc.toArray 33)).alloc (.cells fc'.toArray 33):=⟨_,rfl⟩;have hb0:Below w.heap.size w W0:=by rw [hW0];exact((Below.refl _ _).alloc (Nat.le_refl _) _).alloc (by simp) _
 have HB1:Hid (W0.heap[w.heap.size]?=some (.cells fc.toArray 33 (0,0))):=Lib.hid (by rw [hW0,Below.heap_alloc _ _ _ (by simp)];exact heap_alloc_new w _);have HB2:Hid (W0.heap[w.heap.size+1]?=some (.cells fc'.toArray 33 (0,0))):=Lib.hid (by
  have:=heap_alloc_new (w.alloc (.cells fc.toArray 33)) (.cells fc'.toArray 33)
  rw [hW0];simpa using this)
 have HXV:Hid (RxV W0 S [.int .i64 rk,.string ⟨(rch).toArray⟩,.bool rng,.slice ra rrs.length rcp,.int .i64 rlo,.int .i64 rhi,.bool rlz,.slice rka rks.length rkc] X):=Lib.hid (hx1▸hc.rv.later hb0);have HXV':Hid (RxV W0 S' [.int .i64 qk,.string ⟨(qch).toArray⟩,.bool qng,.slice qa qrs.length qcp,.int .i64 qlo,.int .i64 qhi,.bool qlz,.slice qka qks.length qkc] X):=Lib.hid (hx2▸hd.rv.later hb0);have HFS:Hid (SlS W0 S fa 5 fs.length (fcells fs)):=Lib.hid (hc.fv.keep (Kept.all hb0));have HFS':Hid (SlS W0 S' ga 5 fs.length (fcells fs)):=Lib.hid (hd.fv.keep (Kept.all hb0));have HXS:=Lib.hid hx;have HFL:=Lib.hid hfs;subst hfce;subst hfde;have HW0:=Lib.hid hW0;clear hv hv' hc hd hx hx1 hx2 hW0 hfs;go_enter Try.func31,Try.ntmps31
 go_upto_region 1 with fail
 rw [←HW0.out];clear HW0;go_wp2_with (first
  | (refine wpList_ldW rfl 30 (.tmp 5) rfl w.heap.size 0 rfl [.int .i64 rk,.string ⟨(rch).toArray⟩,.bool rng,.slice ra rrs.length rcp,.int .i64 rlo,.int .i64 rhi,.bool rlz,.slice rka rks.length rkc] _ (range_blk (ds:=[.slice fa fs.length fcp,.bool fd,.bool al]) HB1.out) rx_under rfl (by rw [rx_size];rfl) ?_)
  | (refine wpList_ldW rfl 30 (.tmp 7) rfl (w.heap.size+1) 0 rfl [.int .i64 qk,.string ⟨(qch).toArray⟩,.bool qng,.slice qa qrs.length qcp,.int .i64 qlo,.int .i64 qhi,.bool qlz,.slice qka qks.length qkc] _ (range_blk (ds:=[.slice ga fs.length gcp,.bool fd,.bool al]) HB2.out) rx_under rfl (by rw [rx_size];rfl) ?_)
  | (go_at_call 38;refine(Same_eq W0 HXS.out HXV.out HXV'.out).mono ?_))
 first|rintro e w1 rfl hb1|rintro e w1 ⟨rfl,hb1⟩
 have hx1:=(hb1.block _ (heap_lt HB1.out)).trans HB1.out;have hx2:=(hb1.block _ (heap_lt HB2.out)).trans HB2.out;have z8:=blk_cell hx1 8 rfl;have y8:=blk_cell hx2 8 rfl;have HE:=Lib.hid (EqualFm fa ga fcp gcp fs w1 (HFS.out.keep (Kept.all hb1)).sl (HFS'.out.keep (Kept.all hb1)).sl HFL.out);go_wp2_with (go_at_call 39;refine HE.out.mono ?_)
 first|rintro e w2 rfl hb2|rintro e w2 ⟨rfl,hb2⟩
 have hx1':=(hb2.block _ (heap_lt hx1)).trans hx1;have hx2':=(hb2.block _ (heap_lt hx2)).trans hx2;have z9:=blk_cell hx1' 9 rfl;have y9:=blk_cell hx2' 9 rfl;have z10:=blk_cell hx1' 10 rfl;have y10:=blk_cell hx2' 10 rfl;have hbw:=bel2 (bel2 hb0 hb1) hb2;clear hx1 hx2 hx1' hx2' z8 y8;go_wp2
 go_ret
 exact⟨rfl,hbw⟩
end Go.Proofs.Ytbgcjpefocdkkaa
set_option maxRecDepth 100000
namespace Go.Proofs.Ytbgcjpefocdkkaa
open Go.RowKit
theorem wpList_ldG {P:Program} {ops:Array Oper} {rest:List Oper} {op:Oper} {a:Act} {w:World} {Q:Exit→Act→World→Prop} (hw:Region.wanted op (yielded ops a.tmps)=true) (ty:TypeId) (x:Operand) (ho:op.op=.load ty x)
  (b o:Nat) (hx:a.eval x=.pointer (some ⟨b,o,none⟩)) (cs:List Value) (d:TypeDesc) (hc:w.rangeAt b o cs)
  (hu:P.underlying ty=some d) (hd:d.isRow=true) (hi:(P.info? ty).map (·.size)=some cs.length)
  (h:wpList P ops Q rest (a.put op.dst (.agg cs.toArray)) w):wpList P ops Q (op::rest) a w:=by
 unfold wpList;rw [if_pos hw];refine .inl ?_;unfold Oper.wp execOp;simp only [ho,hx,Instr.loadAt,Instr.sureAddr,Sem.run_bind,Sem.run_pure,Result.andThen_ok,run_loadVar_mid w b o ty cs d hc hu hd hi];exact h
def NSameC (y:Sn):Prop:=∀(S S':Nat→Prop) (cc cc':List Value) (w:World),SnV w S cc y→SnV w S' cc' y →
 Calls Try.prog 22 #[.agg cc.toArray,.agg cc'.toArray] w fun e w'=>e=.returned (.bool true)∧Below w.heap.size w w'
set_option maxHeartbeats 2000000 in
theorem NEqualF (S S':Nat→Prop) (a a':Option Addr) (c c':Nat) (ks:List Sn) (w:World) (IH:∀y∈ks,NSameC y) (h:SnSl w S a ks.length ks) (h':SnSl w S' a' ks.length ks) (hl:ks.length≤1000000) :
  Calls Try.prog 21 #[.slice a ks.length c,.slice a' ks.length c',.func (.func 22) #[] #[]] w fun e w'=>e=.returned (.bool true)∧Below w.heap.size w w':=by
 have H1:=Lib.hid h;have H2:=Lib.hid h';have HIH:=Lib.hid IH;clear h h' IH;go_enter Try.func21,Try.ntmps21
 go_wp2
 go_loopw [17] (fun q wr=>EqRel ks.length w q wr) (fun q _=>ks.length-(intOf q).toNat)
 case atStart=>exact⟨0,by omega,rfl,Below.refl _ _⟩
 case round =>
  obtain⟨i,hi,rfl,hb⟩:=hrel;cases hd:ks[i]? with
  | none =>
   have h2:ks.length≤i:=by simpa using hd
   clear hd;go_wp2
   go_ret
   exact⟨rfl,hb⟩
  | some y =>
   have h2:=(List.getElem?_eq_some_iff.1 hd).1;have HY:=Lib.hid (HIH.out y (List.mem_of_getElem? hd));obtain⟨b,o,cc,rfl,_,hbB,hyv,hcc⟩:=(H1.out.later hb).at_ hd;obtain⟨b',o',cc',rfl,_,hbB',hyv',hcc'⟩:=(H2.out.later hb).at_ hd;have hrg:wr.rangeAt b (o+i*18) cc:=fun j v hj=>by rw [Nat.add_assoc];exact hcc j v hj
   have hcl:=hyv.len;have hcl':=hyv'.len;obtain⟨W5,hW5⟩:∃W5,W5=wr.alloc (.cells cc.toArray 36):=⟨_,rfl⟩;have HW5:Hid ((wr.alloc (.cells #[.int .i64 0,.string ⟨#[]⟩,.int .i64 0,.bool false,.bool false,.int .i64 0,.string ⟨#[]⟩,.bool false,.slice none 0 0,.int .i64 0,.int .i64 0,.bool false,.slice none 0 0,.slice none 0 0,.bool false,.bool false,.slice none 0 0,.slice none 0 0] 36)).setRow wr.heap.size cc.toArray=W5):=Lib.hid (by rw [hW5];exact World.setRow_alloc_new _ _ _ _);have hb5:Below wr.heap.size wr W5:=by rw [hW5];exact(Below.refl _ _).alloc (Nat.le_refl _) _
   have hx5:W5.heap[wr.heap.size]?=some (.cells cc.toArray 36 (0,0)):=by rw [hW5];exact heap_alloc_new _ _
   have hrg':W5.rangeAt b' (o'+i*18) cc':=fun j v hj=>by rw [Nat.add_assoc];exact(hb5.cell hbB').trans (hcc' j v hj)
   obtain⟨W6,hW6⟩:∃W6,W6=W5.alloc (.cells cc'.toArray 36):=⟨_,rfl⟩;have HW6:Hid ((W5.alloc (.cells #[.int .i64 0,.string ⟨#[]⟩,.int .i64 0,.bool false,.bool false,.int .i64 0,.string ⟨#[]⟩,.bool false,.slice none 0 0,.int .i64 0,.int .i64 0,.bool false,.slice none 0 0,.slice none 0 0,.bool false,.bool false,.slice none 0 0,.slice none 0 0] 36)).setRow W5.heap.size cc'.toArray=W6):=Lib.hid (by rw [hW6];exact World.setRow_alloc_new _ _ _ _);have hb6:Below W5.heap.size W5 W6:=by rw [hW6];exact(Below.refl _ _).alloc (Nat.le_refl _) _
   have HX6:Hid (W6.heap[wr.heap.size]?=some (.cells cc.toArray 36 (0,0))):=Lib.hid ((hb6.block _ (heap_lt hx5)).trans hx5);have HY6:Hid (W6.heap[W5.heap.size]?=some (.cells cc'.toArray 36 (0,0))):=Lib.hid (by rw [hW6];exact heap_alloc_new _ _);have hb56:=bel2 hb5 hb6;have HC:=Lib.hid (HY.out S S' cc cc' W6 (hyv.later hb56) (hyv'.later hb56));have HON:Hid (∀u∈cc.toArray.toList,u.oneCell'=true):=Lib.hid (fun u hu=>hyv.one u (by simpa using hu));have HON':Hid (∀u∈cc'.toArray.toList,u.oneCell'=true):=Lib.hid (fun u hu=>hyv'.one u (by simpa using hu));clear hd hyv hyv' HY hcc hcc' hW5 hW6 hx5;go_wp2_with (first
    | (refine wpList_ldW rfl 36 (.tmp 20) rfl b (o+i*18) rfl cc _ hrg snip_under rfl (by rw [snip_size,hcl]) ?_)
    | (refine wpList_ldW rfl 36 (.tmp 24) rfl b' (o'+i*18) rfl cc' _ hrg' snip_under rfl (by rw [snip_size,hcl']) ?_)
    | (refine wpList_ldW rfl 36 (.tmp 8) rfl wr.heap.size 0 rfl cc _ (range_blk (ds:=[]) (by simpa using HX6.out)) snip_under rfl (by rw [snip_size,hcl]) ?_)
    | (refine wpList_ldW rfl 36 (.tmp 9) rfl W5.heap.size 0 rfl cc' _ (range_blk (ds:=[]) (by simpa using HY6.out)) snip_under rfl (by rw [snip_size,hcl']) ?_)
    | (refine wpList_stW rfl 36 (.tmp 8) (.tmp 21) rfl (wr.heap.size) (cc.toArray) rfl rfl 36 (#[.int .i64 0,.string ⟨#[]⟩,.int .i64 0,.bool false,.bool false,.int .i64 0,.string ⟨#[]⟩,.bool false,.slice none 0 0,.int .i64 0,.int .i64 0,.bool false,.slice none 0 0,.slice none 0 0,.bool false,.bool false,.slice none 0 0,.slice none 0 0]) (heap_alloc_new wr _) (snip_size) (by simp [hcl]) rfl (HON.out) (W:=W5) (HW5.out) ?_)
    | (refine wpList_stW rfl 36 (.tmp 9) (.tmp 25) rfl (W5.heap.size) (cc'.toArray) rfl rfl 36 (#[.int .i64 0,.string ⟨#[]⟩,.int .i64 0,.bool false,.bool false,.int .i64 0,.string ⟨#[]⟩,.bool false,.slice none 0 0,.int .i64 0,.int .i64 0,.bool false,.slice none 0 0,.slice none 0 0,.bool false,.bool false,.slice none 0 0,.slice none 0 0]) (heap_alloc_new W5 _) (snip_size) (by simp [hcl']) rfl (HON'.out) (W:=W6) (HW6.out) ?_)
    | (go_at_call 22;refine HC.out.mono ?_))
   first|rintro e w2 rfl hb2|rintro e w2 ⟨rfl,hb2⟩
   have hb3:Below w.heap.size w w2:=bel2 (bel2 hb hb56) hb2;clear hb2 HC hb56 hb5 hb6;go_wp2
   exact⟨⟨i+1,by omega,by go_num,hb3⟩,by simp [intOf];omega⟩
set_option maxHeartbeats 2000000 in
theorem NSame_step (S S':Nat→Prop) (a a':Option Addr) (c c':Nat) (ks:List Sn) (w:World) (IH:∀y∈ks,NSameC y) (h:SnSl w S a ks.length ks) (h':SnSl w S' a' ks.length ks) (hl:ks.length≤1000000) :
  Calls Try.prog 15 #[.slice a ks.length c,.slice a' ks.length c'] w fun e w'=>e=.returned (.bool true)∧Below w.heap.size w w':=by
 have HC:=Lib.hid (NEqualF S S' a a' c c' ks w IH h h' hl);clear IH h h';go_enter Try.func15,Try.ntmps15
 go_wp2_with (go_at_call 21;refine HC.out.mono ?_;rintro e w1 ⟨rfl,hb1⟩)
 go_ret
 exact⟨rfl,hb1⟩
def NSameL (ks:List Sn):Prop:=∀(S S':Nat→Prop) (a a':Option Addr) (c c':Nat) (w:World),SnSl w S a ks.length ks→SnSl w S' a' ks.length ks →
 Calls Try.prog 15 #[.slice a ks.length c,.slice a' ks.length c'] w fun e w'=>e=.returned (.bool true)∧Below w.heap.size w w'
set_option maxHeartbeats 4000000 in
theorem nsame_step {yk:Int} {yt:Str} {yn:Int} {yh yu:Bool} {yf:Tf} {yo:List Str} {ys:List Sn} (hf:yf.small) (ho:yo.length≤1000000) (HL:NSameL ys):NSameC (.mk yk yt yn yh yu yf yo ys):=by
 intro S S' cc cc' w hv hv';have hl:=hv.len;have hl':=hv'.len;obtain⟨fc,oa,oc,ka,kc,A⟩:=hv.at_;obtain⟨fc',oa',oc',ka',kc',A'⟩:=hv'.at_;obtain⟨W0,hW0⟩:∃W0,W0=(w.alloc (.cells cc.toArray 36)).alloc (.cells cc'.toArray 36):=⟨_,rfl⟩;have hb0:Below w.heap.size w W0:=by rw [hW0];exact((Below.refl _ _).alloc (Nat.le_refl _) _).alloc (by simp) _
 have HB1:Hid (W0.heap[w.heap.size]?=some (.cells cc.toArray 36 (0,0))):=Lib.hid (by rw [hW0,Below.heap_alloc _ _ _ (by simp)];exact heap_alloc_new w _);have HB2:Hid (W0.heap[w.heap.size+1]?=some (.cells cc'.toArray 36 (0,0))):=Lib.hid (by
  have:=heap_alloc_new (w.alloc (.cells cc.toArray 36)) (.cells cc'.toArray 36)
  rw [hW0];simpa using this)
 have HXE:=Lib.hid (XSame_any S S' yf hf fc fc' W0 (A.fv.keep (Kept.all hb0)) (A'.fv.keep (Kept.all hb0)));have HFL:=A.fl;have HFL':=A'.fl;have HA:=Lib.hid A;have HA':=Lib.hid A';have HW0:=Lib.hid hW0;have HLL:=Lib.hid HL;have HO:=Lib.hid ho;obtain⟨k0,k1,k2,k3,k4,k16,k17,kr⟩:=A.box HB1.out;obtain⟨q0,q1,q2,q3,q4,q16,q17,qr⟩:=A'.box HB2.out;clear hv hv' A A' hW0 HL ho;go_enter Try.func22,Try.ntmps22
 go_upto_region 1 with fail
 rw [←HW0.out];clear HW0;go_wp2_with (first
  | (refine wpList_ldG (by rfl) 33 (.tmp 39) rfl w.heap.size 5 rfl fc _ kr form_under rfl (by rw [form_size,HFL]) ?_)
  | (refine wpList_ldG (by rfl) 33 (.tmp 41) rfl (w.heap.size+1) 5 rfl fc' _ qr form_under rfl (by rw [form_size,HFL']) ?_)
  | (go_at_call 31;refine HXE.out.mono ?_))
 first|rintro e w1 rfl hb1|rintro e w1 ⟨rfl,hb1⟩
 have hx1:=(hb1.block _ (heap_lt HB1.out)).trans HB1.out;have hx2:=(hb1.block _ (heap_lt HB2.out)).trans HB2.out;clear k0 k1 k2 k3 k4 k16 k17 kr q0 q1 q2 q3 q4 q16 q17 qr;obtain⟨_,_,_,_,_,k16,_,_⟩:=HA.out.box hx1;obtain⟨_,_,_,_,_,q16,_,_⟩:=HA'.out.box hx2;have hb01:=bel2 hb0 hb1;have HE:=Lib.hid (EqualStr oa oa' oc oc' yo w1 (HA.out.ov.keep (Kept.all hb01)).sl (HA'.out.ov.keep (Kept.all hb01)).sl HO.out);go_wp2_with (go_at_call 32;refine HE.out.mono ?_)
 first|rintro e w2 rfl hb2|rintro e w2 ⟨rfl,hb2⟩
 have hy1:=(hb2.block _ (heap_lt hx1)).trans hx1;have hy2:=(hb2.block _ (heap_lt hx2)).trans hx2;clear k16 q16 hx1 hx2;obtain⟨_,_,_,_,_,_,k17,_⟩:=HA.out.box hy1;obtain⟨_,_,_,_,_,_,q17,_⟩:=HA'.out.box hy2;have hb02:=bel2 hb01 hb2;have HS:=Lib.hid (HLL.out S S' ka ka' kc kc' w2 (HA.out.kv.later hb02) (HA'.out.kv.later hb02));go_wp2_with (go_at_call 15;refine HS.out.mono ?_)
 first|rintro e w3 rfl hb3|rintro e w3 ⟨rfl,hb3⟩
 have hb03:=bel2 hb02 hb3;clear k17 q17;go_wp2
 go_ret
 exact⟨rfl,hb03⟩
theorem NSame_any:∀(N:Nat) (ks:List Sn),Sn.partsL ks<N→Sn.smallL ks→ks.length≤1000000→NSameL ks
 | 0,ks,h,_,_=>by omega
 | N+1,ks,h,hsm,hl=>fun S S' a a' c c' w hx hx'=>NSame_step S S' a a' c c' ks w (fun y hy=>by
   have h1:=Sn.parts_mem hy;have h2:=Sn.small_mem hsm y hy;obtain⟨yk,yt,yn,yh,yu,yf,yo,ys⟩:=y;obtain⟨hf,ho,h3,_,h4⟩:=h2;simp only [Sn.parts] at h1;exact nsame_step hf ho (NSame_any N ys (by omega) h4 h3)) hx hx' hl
end Go.Proofs.Ytbgcjpefocdkkaa
set_option maxRecDepth 100000
namespace Go.Proofs.Ytbgcjpefocdkkaa
open Go.RowKit
theorem sreadH {T:Str} {l:List Sn} (h:snipM T=.ok l) (hl:T.length≤100000):∀(s:Str) (w:World),s=T→Calls Try.prog 10 #[.string ⟨(s).toArray⟩] w fun e w'=>∃(a:Option Addr) (c:Nat),e=.returned (.tuple #[.slice a l.length c,.int .i64 0])∧Below w.heap.size w w'∧SnSl w' (fun b=>w.heap.size≤b) a l.length l:=by
 rintro s w rfl;exact SRead_ok w (by omega) h
theorem snipM_ok {T:Str} {l:List Sn} (h:snipL T=l) (hl:T.length≤8192) (hd:Sn.deepL l≤32):snipM T=.ok l:=by
 unfold snipM;rw [if_neg (by omega),h,if_neg (by omega)]
theorem nsame {ks:List Sn} (hs:Sn.smallL ks) (hl:ks.length≤1000000):NSameL ks:=NSame_any (Sn.partsL ks+1) ks (by omega) hs hl
end Go.Proofs.Ytbgcjpefocdkkaa
set_option maxRecDepth 100000
namespace Go.Proofs.Ytbgcjpefocdkkaa
open Go.RowKit
theorem wp_region_relyH {P:Program} {id:Nat} {ops:List Oper} {Q:Exit→Act→World→Prop} {a:Act} {w:World} (hm:P.follows .mixedOrders=true) (hB:relyGB ops.toArray=true) (I:Act→World→(Nat→Bool)→Act→World→Prop)
  (h:∀A0,Hid (A0=a)→I A0 w (fun _=>false) A0 w.drew∧RelyStepsT P ops.toArray Q (I A0 w) ops 0∧∀L a' w',(∀j,j<ops.length→L j=true)→I A0 w L a' w'→wpList P ops.toArray Q [] a' w'):(Code.region id ops.toArray true).wp P Q a w:=by
 obtain⟨h0,h1,h2⟩:=h a (Lib.hid rfl);refine wp_region_relyG hm hB (I a w) h0 (fun L i o a' w' ho hLi hde hI=>?_) (fun L a' w' hL hI=>?_)
 ·have:=h1.at_ (i:=i) (by simpa using ho) L a' w' (by simpa using hLi) hde hI
  simpa using this
 ·exact h2 L a' w' (fun j hj=>hL j (by simpa using hj)) hI
structure Gx (X:Nat→Prop) (w w':World):Prop where
 os:w'.os=w.os
 tape:w'.tape=w.tape
 output:w'.output=w.output
 size:w.heap.size≤w'.heap.size
 block:∀k,k<w.heap.size→¬X k→w'.heap[k]?=w.heap[k]?
theorem Gx.refl (X:Nat→Prop) (w:World):Gx X w w:=⟨rfl,rfl,rfl,Nat.le_refl _,fun _ _ _=>rfl⟩
theorem Gx.of_below {X:Nat→Prop} {w w':World} (h:Below w.heap.size w w'):Gx X w w':=⟨h.os,h.tape,h.output,h.size,fun k hk _=>h.block k hk⟩
theorem Gx.to {X Y:Nat→Prop} {a b c:World} (h:Gx X a b) (hk:Gx Y b c) (hY:∀k,k<a.heap.size→Y k→X k):Gx X a c :=
 ⟨hk.os.trans h.os,hk.tape.trans h.tape,hk.output.trans h.output,Nat.le_trans h.size hk.size,fun k hlt hx=>(hk.block k (Nat.lt_of_lt_of_le hlt h.size) (fun hy=>hx (hY k hlt hy))).trans (h.block k hlt hx)⟩
theorem Gx.of_grown {X:Nat→Prop} {w w':World} {row:Option Nat} (h:w.grownBy w' row) (hr:∀k,row=some k→X k):Gx X w w':=⟨h.os,h.tape,h.output,h.size,fun k hk hx=>h.block k hk (fun e=>hx (hr k e.symm))⟩
theorem Gx.set {X:Nat→Prop} (w:World) {a:Addr} (u:Value) (ha:X a.block):Gx X w (w.setCell a u):=⟨rfl,rfl,rfl,by simp [World.setCell],fun k _ hx=>heap_setCell_other w a k u (fun e=>hx (e▸ha))⟩
theorem Gx.sets {X:Nat→Prop} {b:Nat} (hb:X b):∀(vs:List Value) (o:Nat) (w:World),Gx X w (w.setCells b o vs)
 | [],_,w=>Gx.refl X w
 | v::r,o,w=>(Gx.set w (a:=⟨b,o,none⟩) v hb).to (Gx.sets hb r (o+1) _) (fun _ _ h=>h)
theorem Gx.kept {X S:Nat→Prop} {w w':World} (h:Gx X w w') (hS:∀b,S b→¬X b):Kept S w w':=⟨h.size,fun b hb hlt=>h.block b hlt (hS b hb)⟩
theorem Gx.below {X:Nat→Prop} {w w':World} {B:Nat} (h:Gx X w w') (hB:B≤w.heap.size) (hX:∀k,X k→B≤k):Below B w w':=⟨h.os,h.tape,h.output,h.size,fun k hk=>h.block k (by omega) (fun hx=>by have:=hX k hx;omega)⟩
theorem Gx.heap {X:Nat→Prop} {w w':World} (h:Gx X w w') {b:Nat} {o:Obj} (hb:w.heap[b]?=some o) (hx:¬X b):w'.heap[b]?=some o:=(h.block b (heap_lt hb) hx).trans hb
theorem own_gx {X:Nat→Prop} {w w':World} {B:Nat} {e:TypeId} {sz n:Nat} {v:Value} {xs:List Value} (h:w.ownsRow B e sz v n xs) (hg:Gx X w w') (hv:∀k,v.ownBlock=some k→¬X k):w'.ownsRow B e sz v n xs:=by
 refine⟨h.1,?_⟩;rcases h.2 with h5|⟨g',cap,cur,hv',hB,hg',r⟩
 ·exact .inl h5
 ·exact .inr ⟨g',cap,cur,hv',hB,(hg.block g' (heap_lt hg') (hv g' (by rw [hv'];rfl))).trans hg',r⟩
theorem own_sets {B:Nat} {e:TypeId} {sz n g cap:Nat}:∀(vs old pre post:List Value) {w:World},w.ownsRow B e sz (.slice (some ⟨g,0,none⟩) n cap) n (pre++(old++post))→old.length=vs.length→(w.setCells g pre.length vs).ownsRow B e sz (.slice (some ⟨g,0,none⟩) n cap) n (pre++(vs++post))
 | [],old,pre,post,w,h,hl=>by
  have h0:old=[]:=List.eq_nil_of_length_eq_zero hl;subst h0;exact h
 | v::vs,[],pre,post,w,h,hl=>by simp at hl
 | v::vs,u::old,pre,post,w,h,hl=>by
  have h1:=(h.stored pre.length v).1;have e1:(pre++(u::old++post)).set pre.length v=(pre++[v])++(old++post):=by
   rw [List.set_append_right _ _ (Nat.le_refl _)];simp
  rw [e1] at h1;have h2:=own_sets vs old (pre++[v]) post h1 (by simpa using hl);have e2:(pre++[v]).length=pre.length+1:=by simp
  rw [e2] at h2;have e3:pre++[v]++(vs++post)=pre++(v::vs++post):=by simp
  rw [e3] at h2;exact h2
def OwnS (w:World) (D:Nat) (S:Nat→Prop) (v:Value) (xs:List Sn):Prop:=∃css,w.ownsRow D 36 18 v xs.length css.flatten∧SnVs w S css xs
theorem OwnS.nil (w:World) (D:Nat) (S:Nat→Prop):OwnS w D S (.slice none 0 0) []:=⟨[],World.ownsRow_nil _ _ _ _,.nil⟩
theorem OwnS.gx {X S:Nat→Prop} {w w':World} {D:Nat} {v:Value} {xs:List Sn} (h:OwnS w D S v xs) (hg:Gx X w w') (hS:∀b,S b→¬X b) (hv:∀k,v.ownBlock=some k→¬X k):OwnS w' D S v xs:=by
 obtain⟨css,h1,h2⟩:=h;exact⟨css,own_gx h1 hg hv,h2.keep (hg.kept hS)⟩
theorem OwnS.later {S:Nat→Prop} {w w':World} {D:Nat} {v:Value} {xs:List Sn} (h:OwnS w D S v xs) (hb:Below w.heap.size w w'):OwnS w' D S v xs :=
 h.gx (X:=fun _=>False) (Gx.of_below hb) (fun _ _ h=>h) (fun _ _ h=>h)
theorem OwnS.form {S:Nat→Prop} {w:World} {D:Nat} {v:Value} {xs:List Sn} (h:OwnS w D S v xs):∃a c,v=.slice a xs.length c:=by
 obtain⟨css,h1,_⟩:=h;exact own_form h1
theorem OwnS.lt {S:Nat→Prop} {w:World} {D:Nat} {v:Value} {xs:List Sn} (h:OwnS w D S v xs):∀k,v.ownBlock=some k→D≤k∧k<w.heap.size:=by
 obtain⟨css,h1,_⟩:=h;exact h1.lt
theorem OwnS.sl {S:Nat→Prop} {w:World} {D:Nat} {a:Option Addr} {n c:Nat} {xs:List Sn} (h:OwnS w D S (.slice a n c) xs):n=xs.length∧SnSl w (fun b=>S b∨D≤b) a xs.length xs:=by
 obtain⟨css,h1,h2⟩:=h;have hn:n=xs.length:=by
  rcases h1.2 with⟨h,h0⟩|⟨g,cap,cur,h,_⟩
  ·injection h with _ h _;omega
  ·injection h with _ h _
 subst hn;refine⟨rfl,css,⟨(Sl.of_own h1).1,fun hn=>?_⟩,h2.mono fun b hb _=>.inl hb⟩;obtain⟨b,o,e,hlt,hc⟩:=(Sl.of_own h1).2 hn;subst e;exact⟨b,o,rfl,.inr (h1.lt b rfl).1,hlt,hc⟩
structure AP (W:World) (D bo:Nat) (S:Nat→Prop) (ov:Value) (o:List Sn) (x:Sn) (lz la ls lo:Bool) (vz va:Value) (w':World):Prop where
 gx:Gx (fun k=>k=bo∨ov.ownBlock=some k) W w'
 z:la=false→lz=true→∃b,vz=.slice (some ⟨b,0,none⟩) 1 1∧w'.heap[b]?=some (.cells #[.int .i64 0,.string ⟨#[]⟩,.int .i64 0,.bool false,.bool false,.int .i64 0,.string ⟨#[]⟩,.bool false,.slice none 0 0,.int .i64 0,.int .i64 0,.bool false,.slice none 0 0,.slice none 0 0,.bool false,.bool false,.slice none 0 0,.slice none 0 0] 36 (0,0))
 b0:la=false→Below W.heap.size W w'
 o0:la=false→OwnS w' D S ov o
 fm:la=true→∃g cap,va=.slice (some ⟨g,0,none⟩) (o.length+1) cap
 a1:la=true→ls=false→∃css,w'.ownsRow D 36 18 va (o.length+1) (css.flatten++[.int .i64 0,.string ⟨#[]⟩,.int .i64 0,.bool false,.bool false,.int .i64 0,.string ⟨#[]⟩,.bool false,.slice none 0 0,.int .i64 0,.int .i64 0,.bool false,.slice none 0 0,.slice none 0 0,.bool false,.bool false,.slice none 0 0,.slice none 0 0])∧SnVs w' S css o
 a2:la=true→ls=true→OwnS w' D S va (o++[x])
 av:la=true→∀k,va.ownBlock=some k→D≤k∧(ov.ownBlock=some k∨W.heap.size≤k)
 bo1:w'.heap[bo]?=some (.cells #[if lo then va else ov] 23 (0,0))
 d1:la=true→lz=true
 d2:ls=true→la=true
 d3:lo=true→la=true
section
variable {W:World} {D bo:Nat} {S:Nat→Prop} {ov:Value} {o:List Sn} {x:Sn}
theorem AP.start (h:OwnS W D S ov o) (hb:W.heap[bo]?=some (.cells #[ov] 23 (0,0))) (vz va:Value):AP W D bo S ov o x false false false false vz va W.drew :=
 ⟨Gx.of_below ((Below.refl _ _).drew),(fun _ h=>by cases h),fun _=>(Below.refl _ _).drew,fun _=>h.later ((Below.refl _ _).drew),(fun h=>by cases h),(fun h=>by cases h),(fun h=>by cases h),(fun h=>by cases h),hb,(fun h=>by cases h),(fun h=>by cases h),(fun h=>by cases h)⟩
theorem AP.alloc {la ls lo:Bool} {vz va:Value} {w':World} (h:AP W D bo S ov o x false la ls lo vz va w'):AP W D bo S ov o x true la ls lo (.slice (some ⟨w'.heap.size,0,none⟩) 1 1) va (w'.alloc (.cells #[.int .i64 0,.string ⟨#[]⟩,.int .i64 0,.bool false,.bool false,.int .i64 0,.string ⟨#[]⟩,.bool false,.slice none 0 0,.int .i64 0,.int .i64 0,.bool false,.slice none 0 0,.slice none 0 0,.bool false,.bool false,.slice none 0 0,.slice none 0 0] 36)):=by
 obtain rfl:la=false:=by cases la with|false=>rfl|true=>have:=h.d1 rfl;cases this
 obtain rfl:ls=false:=by cases ls with|false=>rfl|true=>have:=h.d2 rfl;cases this
 obtain rfl:lo=false:=by cases lo with|false=>rfl|true=>have:=h.d3 rfl;cases this
 have hb:Below w'.heap.size w' (w'.alloc (.cells #[.int .i64 0,.string ⟨#[]⟩,.int .i64 0,.bool false,.bool false,.int .i64 0,.string ⟨#[]⟩,.bool false,.slice none 0 0,.int .i64 0,.int .i64 0,.bool false,.slice none 0 0,.slice none 0 0,.bool false,.bool false,.slice none 0 0,.slice none 0 0] 36)):=(Below.refl _ _).alloc (Nat.le_refl _) _;refine⟨h.gx.to (Gx.of_below (X:=fun _=>False) hb) (fun _ _ h=>h.elim),fun _ _=>⟨_,rfl,heap_alloc_new _ _⟩,fun e=>(h.b0 e).alloc h.gx.size _,fun e=>(h.o0 e).later hb,(fun h=>by cases h),(fun h=>by cases h),(fun h=>by cases h),(fun h=>by cases h),(hb.block _ (heap_lt h.bo1)).trans h.bo1,(fun h=>by cases h),(fun h=>by cases h),(fun h=>by cases h)⟩
theorem AP.app {lz ls lo:Bool} {vz va v':Value} {w' w2:World} {css:List (List Value)} (h:AP W D bo S ov o x lz false ls lo vz va w') (hz:lz=true) (hS:∀b,S b→b<D) (hbo:bo<D) (hv:SnVs w' S css o) (hD:∀k,ov.ownBlock=some k→D≤k)
  (ho:w2.ownsRow D 36 18 v' (o.length+1) (css.flatten++[.int .i64 0,.string ⟨#[]⟩,.int .i64 0,.bool false,.bool false,.int .i64 0,.string ⟨#[]⟩,.bool false,.slice none 0 0,.int .i64 0,.int .i64 0,.bool false,.slice none 0 0,.slice none 0 0,.bool false,.bool false,.slice none 0 0,.slice none 0 0])) (hg:w'.grownBy w2 ov.ownBlock) (hmv:Moved w' ov v'):AP W D bo S ov o x lz true ls lo vz v' w2:=by
 obtain rfl:ls=false:=by cases ls with|false=>rfl|true=>have:=h.d2 rfl;cases this
 obtain rfl:lo=false:=by cases lo with|false=>rfl|true=>have:=h.d3 rfl;cases this
 have hgx:Gx (fun k=>ov.ownBlock=some k) w' w2:=Gx.of_grown hg (fun _ e=>e);refine⟨h.gx.to hgx (fun _ _ e=>.inr e),(fun h=>by cases h),(fun h=>by cases h),(fun h=>by cases h),fun _=>?_,fun _ _=>⟨css,ho,hv.keep (hgx.kept fun b hb e=>by have:=hS b hb;have:=hD b e;omega)⟩,(fun _ h=>by cases h),fun _ k hk=>⟨(ho.lt k hk).1,?_⟩,hgx.heap h.bo1 (fun e=>by have:=hD _ e;omega),fun _=>hz,(fun h=>by cases h),(fun h=>by cases h)⟩
 ·rcases ho.2 with⟨_,h0⟩|⟨g,cap,cur,hv',_⟩
  ·omega
  ·exact⟨g,cap,hv'⟩
 ·rcases hmv with e|e
  ·exact .inl (e▸hk)
  ·exact .inr (Nat.le_trans h.gx.size (e k hk))
theorem AP.st {lz lo:Bool} {vz va:Value} {w':World} {g cap:Nat} {cc:List Value} (h:AP W D bo S ov o x lz true false lo vz va w') (hS:∀b,S b→b<D) (hbo:bo<D) (hva:va=.slice (some ⟨g,0,none⟩) (o.length+1) cap) (hcc:cc.length=18) (hx:SnV w' S cc x) :
  AP W D bo S ov o x lz true true lo vz va (w'.setCells g (o.length*18) cc):=by
 obtain⟨css,ho,hv⟩:=h.a1 rfl rfl;have hgD:=(h.av rfl g (by rw [hva];rfl));have hgx:Gx (fun k=>k=g) w' (w'.setCells g (o.length*18) cc):=Gx.sets (X:=fun k=>k=g) rfl cc _ w';have hk:Kept S w' (w'.setCells g (o.length*18) cc):=hgx.kept fun b hb e=>by have:=hS b hb;omega
 refine⟨h.gx.to hgx (fun k hk e=>?_),(fun h=>by cases h),(fun h=>by cases h),(fun h=>by cases h),h.fm,(fun _ h=>by cases h),fun _ _=>?_,h.av,hgx.heap h.bo1 (fun e=>by omega),h.d1,fun _=>rfl,h.d3⟩
 ·subst e
  rcases hgD.2 with e|e
  ·exact .inr e
  ·omega
 ·refine⟨css++[cc],?_,(hv.keep hk).append (.cons (hx.keep hk) .nil)⟩
  have hl:css.flatten.length=o.length*18:=by have h1:=ho.1;rw [List.length_append,show ([.int .i64 0,.string ⟨#[]⟩,.int .i64 0,.bool false,.bool false,.int .i64 0,.string ⟨#[]⟩,.bool false,.slice none 0 0,.int .i64 0,.int .i64 0,.bool false,.slice none 0 0,.slice none 0 0,.bool false,.bool false,.slice none 0 0,.slice none 0 0]:List Value).length=18 from rfl] at h1;omega
  rw [hva] at ho ⊢;have h2:=own_sets cc [.int .i64 0,.string ⟨#[]⟩,.int .i64 0,.bool false,.bool false,.int .i64 0,.string ⟨#[]⟩,.bool false,.slice none 0 0,.int .i64 0,.int .i64 0,.bool false,.slice none 0 0,.slice none 0 0,.bool false,.bool false,.slice none 0 0,.slice none 0 0] css.flatten [] (w:=w') (by simpa using ho) (by rw [hcc];rfl);rw [hl] at h2;rw [List.length_append,List.flatten_append];simpa using h2
theorem AP.ou {lz ls:Bool} {vz va:Value} {w':World} (h:AP W D bo S ov o x lz true ls false vz va w') (hS:∀b,S b→b<D∧b≠bo) (hbo:bo<D):AP W D bo S ov o x lz true ls true vz va (w'.setCell ⟨bo,0,none⟩ va):=by
 have hgx:Gx (fun k=>k=bo) w' (w'.setCell ⟨bo,0,none⟩ va):=Gx.set w' (a:=⟨bo,0,none⟩) va rfl;have hne:∀k,va.ownBlock=some k→¬k=bo:=fun k hk e=>by have:=(h.av rfl k hk).1;omega
 refine⟨h.gx.to hgx (fun _ _ e=>.inl e),(fun h=>by cases h),(fun h=>by cases h),(fun h=>by cases h),h.fm,fun _ e=>?_,fun _ e=>(h.a2 rfl e).gx hgx (fun b hb=>(hS b hb).2) hne,h.av,?_,h.d1,h.d2,fun _=>rfl⟩
 ·obtain⟨css,h2,h3⟩:=h.a1 rfl e
  exact⟨css,own_gx h2 hgx hne,h3.keep (hgx.kept fun b hb=>(hS b hb).2)⟩
 ·rw [if_pos rfl]
  have h1:=h.bo1;rw [if_neg (by decide)] at h1;exact heap_set1 h1
end
end Go.Proofs.Ytbgcjpefocdkkaa
