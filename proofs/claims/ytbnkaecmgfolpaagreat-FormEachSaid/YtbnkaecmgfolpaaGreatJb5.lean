/- walks of char.Places, char.Fold, rxset.upper, rxset.in, rxset.Has -/
import Derived.Test.YtbnkaecmgfolpaaGreatJb4
import Derived.Deep.MidRow
import Derived.Deep.WholeRow
import Derived.Laws.CopyOwn
set_option maxRecDepth 100000
set_option maxHeartbeats 4000000
namespace Go.Proofs.YtbnkaecmgfolpaaGreat
open Go.RowKit
def qG (c:UInt8):UInt8:=if 65≤c.toNat∧c.toNat≤90 then c+32 else c
def mZ (c:UInt8):UInt8:=if 97≤c.toNat∧c.toNat≤122 then c-32 else c
theorem foldS_eq (l:Str):oO l=l.map qG:=rfl
theorem wz (l:Str):sX l=l.map mZ:=rfl
theorem sV (f:UInt8→UInt8) (l:Str) (k:Nat) (hk:k<l.length) (h:f l[k]=l[k]):(l.take k).map f++l.drop k=(l.take (k+1)).map f++l.drop (k+1):=by
 rw [←nJ f l k hk,h];refine(List.ext_getElem? fun i=>?_)
 rw [List.getElem?_set];split
 ·rename_i e;subst e
  have e1:((l.take k).map f).length=k:=by simp;omega
  split
  ·rw [xx eu,e1,List.getElem?_drop];simp
  ·rename_i h2;rw [xm,xN,e1] at h2;omega
 ·rfl
theorem add32 (x:UInt8) (h:x.toNat≤90):(((x.toNat:Int)+32):Int)=((x+32).toNat:Int):=by
 rw [UInt8.toNat_add];simp;omega
theorem sub32 (x:UInt8) (h:97≤x.toNat) (h2:x.toNat≤122):(((x.toNat:Int)-32):Int)=((x-32).toNat:Int):=by
 rw [UInt8.toNat_sub];simp;omega
theorem pE (l:Str) (w:World) (hs:l.length≤1000000) :
  Calls Tryz.prog 53 #[.string ⟨l.toArray⟩] w fun e w'=>e=.returned (.string ⟨(oO l).toArray⟩)∧Below w.heap.size w w':=by
 rw [foldS_eq];obtain⟨cap,w0,hcv,hrow,hb0,hsz⟩:=BRow.made (P:=Tryz.prog) w (src:=9) (dst:=67) l Tryz.underlying9 Tryz.underlying67 Tryz.underlying5;have HZ:=ab hsz;clear hsz;have hsz0:w.heap.size<w0.heap.size:=by have:=HZ.out;omega
 go_enter Tryz.func53,Tryz.ntmps53
 go_wp2_with (fail)
 go_loopw [10] (fun q wr=>∃k:Nat,k≤l.length∧q=.int .i64 k∧BRow wr w.heap.size ((l.take k).map qG++l.drop k)∧Below w.heap.size w wr∧w.heap.size<wr.heap.size) (fun q _=>l.length-(intOf q).toNat)
 case atStart=>exact cq
 case round =>
  obtain⟨k,hk,rfl,hr,hb,hlt⟩:=hrel;by_cases h2:k<l.length
  ·have hc:=hr.cell (j:=k) (c:=l[k]) (by rw [xx eC,List.getElem?_drop,xS,xF,show k+(k-min k l.length)=k by omega,wW h2])
   have hf:=hr.free (j:=k) eC;have h256:=nS l[k];by_cases hl:65≤l[k].toNat∧l[k].toNat≤90
   ·obtain⟨hl1,hl2⟩:=hl
    have HS:=hr.set (j:=k) (qG l[k]);rw [nJ qG l k h2] at HS;have hfe:qG l[k]=l[k]+32:=by unfold qG;rw [wU ⟨hl1,hl2⟩]
    rw [hfe] at HS;have HS':=ab HS;clear HS hfe;generalize hx:l[k]=x at *
    have Hx:=ab hx;clear hx;go_wp2_with (fail)
    go_roundw
    case rel=>exact⟨k+1,by omega,by go_num,by have h:=HS'.out;rw [←add32 x hl2] at h;exact h,hb.setCell (p:=⟨w.heap.size,k,none⟩) (wY _) _,by simp [World.setCell];omega⟩
    case measure=>simp [intOf];omega
   ·have HM:=ab (sV qG l k h2 (by unfold qG;rw [wX hl]))
    have hr':=hr;rw [HM.out] at hr';have HR:=ab hr';clear hr hr';rcases(show l[k].toNat<65∨(65≤l[k].toNat∧90<l[k].toNat) by omega) with hl3|⟨hl3,hl4⟩
    ·exact bm
    ·exact bm
  ·exact bO
theorem vq (l:Str) (w:World) (hs:l.length≤1000000) :
  Calls Tryz.prog 54 #[.string ⟨l.toArray⟩] w fun e w'=>e=.returned (.string ⟨(sX l).toArray⟩)∧Below w.heap.size w w':=by
 rw [wz];obtain⟨cap,w0,hcv,hrow,hb0,hsz⟩:=BRow.made (P:=Tryz.prog) w (src:=9) (dst:=67) l Tryz.underlying9 Tryz.underlying67 Tryz.underlying5;have HZ:=ab hsz;clear hsz;have hsz0:w.heap.size<w0.heap.size:=by have:=HZ.out;omega
 go_enter Tryz.func54,Tryz.ntmps54
 go_wp2_with (fail)
 go_loopw [10] (fun q wr=>∃k:Nat,k≤l.length∧q=.int .i64 k∧BRow wr w.heap.size ((l.take k).map mZ++l.drop k)∧Below w.heap.size w wr∧w.heap.size<wr.heap.size) (fun q _=>l.length-(intOf q).toNat)
 case atStart=>exact cq
 case round =>
  obtain⟨k,hk,rfl,hr,hb,hlt⟩:=hrel;by_cases h2:k<l.length
  ·have hc:=hr.cell (j:=k) (c:=l[k]) (by rw [xx eC,List.getElem?_drop,xS,xF,show k+(k-min k l.length)=k by omega,wW h2])
   have hf:=hr.free (j:=k) eC;have h256:=nS l[k];by_cases hl:97≤l[k].toNat∧l[k].toNat≤122
   ·obtain⟨hl1,hl2⟩:=hl
    have HS:=hr.set (j:=k) (mZ l[k]);rw [nJ mZ l k h2] at HS;have hfe:mZ l[k]=l[k]-32:=by unfold mZ;rw [wU ⟨hl1,hl2⟩]
    rw [hfe] at HS;have HS':=ab HS;clear HS hfe;generalize hx:l[k]=x at *
    have Hx:=ab hx;clear hx;go_wp2_with (fail)
    go_roundw
    case rel=>exact⟨k+1,by omega,by go_num,by have h:=HS'.out;rw [←sub32 x hl1 hl2] at h;exact h,hb.setCell (p:=⟨w.heap.size,k,none⟩) (wY _) _,by simp [World.setCell];omega⟩
    case measure=>simp [intOf];omega
   ·have HM:=ab (sV mZ l k h2 (by unfold mZ;rw [wX hl]))
    have hr':=hr;rw [HM.out] at hr';have HR:=ab hr';clear hr hr';rcases(show l[k].toNat<97∨(97≤l[k].toNat∧122<l[k].toNat) by omega) with hl3|⟨hl3,hl4⟩
    ·exact bm
    ·exact bm
  ·exact bO
theorem In_any (a:Option Addr) (n c:Nat) (rs:List (Str × Str)) (d:Str) (w:World) (h:Sl w w.heap.size a 2 n (gR rs)) (hn:n≤100000000) :
  Calls Tryz.prog 52 #[.slice a n c,.string ⟨d.toArray⟩] w fun e w'=>e=.returned (.bool (inS' rs d))∧Below w.heap.size w w':=by
 obtain rfl:=h.row_len;generalize hR:inS' rs d=R
 have HR:=ab hR;clear hR;have HR0:Hid (inS' (rs.drop 0) d=R):=HR;have HSl:=ab h;clear HR h;go_enter Tryz.func52,Tryz.ntmps52
 go_wp2
 go_loopw [9] (fun q wr=>∃k:Nat,k≤rs.length∧q=.int .i64 k∧Below w.heap.size w wr∧Hid (inS' (rs.drop k) d=R)) (fun q _=>rs.length-(intOf q).toNat)
 case atStart=>exact⟨0,by omega,rfl,Below.refl _ _,HR0⟩
 case round =>
  obtain⟨k,hk,rfl,hb,HF⟩:=hrel;clear HR0;have hB:=hb.size;cases hd:rs.drop k with
  | nil =>
   have h2:rs.length≤k:=fr;have HE:Hid (R=false):=ab fD;clear hd HF;go_wp2
   go_ret
   exact⟨gX HE.out.symm,hb⟩
  | cons r0 r =>
   obtain⟨h2,h3,hr⟩:=ig hd;obtain⟨b,o,rfl,hbB,c0,c1⟩:=(HSl.out.keep hb).row h3;obtain⟨f,t⟩:=r0;have HF':Hid (((leS f d&&leS d t)||inS' (rs.drop (k+1)) d)=R):=ab (by rw [←HF.out,hd,hr];rfl);simp only at c0 c1
   clear hd HF hr h3;have hb2:=hb.alloc hB (.cells #[.string ⟨f.toArray⟩,.string ⟨t.toArray⟩] 58);cases h4:leS f d with
   | false =>
    have H4:=ab h4;go_wp2
    go_roundw
    case rel=>exact⟨k+1,by omega,by go_num,hb2,ab (by rw [←HF'.out,H4.out];rfl)⟩
    case measure=>simp [intOf];omega
   | true =>
    cases h5:leS d t with
    | false =>
     have H4:=ab h4;have H5:=ab h5;go_wp2
     go_roundw
     case rel=>exact⟨k+1,by omega,by go_num,hb2,ab (by rw [←HF'.out,H4.out,H5.out];rfl)⟩
     case measure=>simp [intOf];omega
    | true =>
     have HE:Hid (R=true):=ab (by rw [←HF'.out,h4,h5];rfl);go_wp2
     go_ret
     exact⟨gX HE.out.symm,hb2⟩
theorem In_eq {a:Option Addr} {n c:Nat} {rs:List (Str × Str)} {d:Str} {b:Bool} (w:World) (e:inS' rs d=b) (h:Sl w w.heap.size a 2 n (gR rs)) (hn:n≤100000000) :
  Calls Tryz.prog 52 #[.slice a n c,.string ⟨d.toArray⟩] w fun e w'=>e=.returned (.bool b)∧Below w.heap.size w w':=e▸In_any a n c rs d w h hn
theorem wG (a:Option Addr) (n c:Nat) (rs:List (Str × Str)) (ng fold:Bool) (d:Str) (w:World) (h:Sl w w.heap.size a 2 n (gR rs)) (hn:n≤100000000) (hd:d.length≤1000000) :
  Calls Tryz.prog 26 #[.slice a n c,.bool ng,.bool fold,.string ⟨d.toArray⟩] w fun e w'=>e=.returned (.bool (hasS rs ng fold d))∧Below w.heap.size w w':=by
 generalize hR:hasS rs ng fold d=R
 have HR:=ab hR;clear hR;obtain⟨p,hp⟩:∃p,inS' rs d=p:=⟨_,rfl⟩;have H1:=ab (fun w (h:Sl w w.heap.size a 2 n (gR rs))=>In_eq (a:=a) (c:=c) w hp h hn);have H:=ab h;cases fold with
 | false =>
  have HE:Hid (R=(p != ng)):=ab (by rw [←HR.out];unfold hasS;rw [hp];cases p<;>cases ng<;>rfl);clear h HR hp;go_enter Tryz.func26,Tryz.ntmps26
  go_wp2_with (go_at_call 52;refine(H1.out _ H.out).mono ?_;rintro e w1 ⟨rfl,hb1⟩)
  go_ret
  exact⟨gX (by rw [HE.out];cases p<;>cases ng<;>rfl),hb1⟩
 | true =>
  obtain⟨q,hq⟩:∃q,inS' rs (oO d)=q:=⟨_,rfl⟩;obtain⟨u,hu⟩:∃u,inS' rs (sX d)=u:=⟨_,rfl⟩;have H2:=ab (fun w (h:Sl w w.heap.size a 2 n (gR rs))=>In_eq (a:=a) (c:=c) w hq h hn);have H3:=ab (fun w (h:Sl w w.heap.size a 2 n (gR rs))=>In_eq (a:=a) (c:=c) w hu h hn);have HE:Hid (R=((p||(q||u)) != ng)):=ab (by rw [←HR.out];unfold hasS;rw [hp,hq,hu];simp);clear h HR hp hq hu;cases p with
  | true =>
   go_enter Tryz.func26,Tryz.ntmps26
   go_wp2_with (go_at_call 52;refine(H1.out _ H.out).mono ?_;rintro e w1 ⟨rfl,hb1⟩)
   go_ret
   exact⟨gX (by rw [HE.out];cases ng<;>rfl),hb1⟩
  | false =>
   cases q with
   | true =>
    go_enter Tryz.func26,Tryz.ntmps26
    go_wp2_with (go_at_call 52;refine(H1.out _ H.out).mono ?_)
    rintro e w1 ⟨rfl,hb1⟩;go_wp2_with (go_at_call 53;refine(pE d _ hd).mono ?_)
    rintro e w2 ⟨rfl,hb2⟩;go_wp2_with (go_at_call 52;refine(H2.out _ ((H.out.keep (bel2 hb1 hb2)).mono (bel2 hb1 hb2).size)).mono ?_)
    rintro e w3 ⟨rfl,hb3⟩;go_wp2
    go_ret
    exact⟨gX (by rw [HE.out];cases ng<;>rfl),bel2 (bel2 hb1 hb2) hb3⟩
   | false =>
    go_enter Tryz.func26,Tryz.ntmps26
    go_wp2_with (go_at_call 52;refine(H1.out _ H.out).mono ?_)
    rintro e w1 ⟨rfl,hb1⟩;go_wp2_with (go_at_call 53;refine(pE d _ hd).mono ?_)
    rintro e w2 ⟨rfl,hb2⟩;go_wp2_with (go_at_call 52;refine(H2.out _ ((H.out.keep (bel2 hb1 hb2)).mono (bel2 hb1 hb2).size)).mono ?_)
    rintro e w3 ⟨rfl,hb3⟩;have hb13:=bel2 (bel2 hb1 hb2) hb3;go_wp2_with (go_at_call 54;refine(vq d _ hd).mono ?_)
    rintro e w4 ⟨rfl,hb4⟩;go_wp2_with (go_at_call 52;refine(H3.out _ ((H.out.keep (bel2 hb13 hb4)).mono (bel2 hb13 hb4).size)).mono ?_)
    rintro e w5 ⟨rfl,hb5⟩;go_wp2
    go_ret
    exact⟨gX (by rw [HE.out];cases u<;>cases ng<;>rfl),bel2 (bel2 hb13 hb4) hb5⟩
def PlRel (l:Str) (R:List Nat) (w:World) (v q:Value) (wr:World):Prop :=
 ∃(i k:Nat) (ps:List Nat),i≤l.length∧l.length-i≤k∧q=.int .i64 i∧Below w.heap.size w wr∧wr.ownsRow w.heap.size 3 1 v ps.length (kT ps)∧ps.length≤i+1∧Hid (ps++(iY (iI k (l.drop i)) i).drop 1=R)
theorem wm:(Tryz.prog.info? 3).map (fun i=>(i.zero,i.size,i.bytes))=some (some (.int .i64 0),1,8):=by kernel_rfl
theorem o8 (l:Str) (w:World) (hs:l.length≤1000000) :
  Calls Tryz.prog 119 #[.string ⟨l.toArray⟩] w fun e w'=>∃a c,e=.returned (.slice a ((gM l).length+1) c)∧SlS w' (fun b=>w.heap.size≤b) a 1 ((gM l).length+1) (kT (iY (gM l) 0))∧Below w.heap.size w w':=by
 obtain⟨R,hR⟩:∃R,iY (gM l) 0=R:=⟨_,rfl⟩;have hRl:(gM l).length+1=R.length:=by rw [←hR,jK]
 rw [hR,hRl];have HR:Hid ([0]++(iY (iI l.length (l.drop 0)) 0).drop 1=R):=ab (by rw [←hR];unfold gM;rw [xT];cases iI l.length l<;>rfl);obtain⟨ir,hir⟩:=info_parts wm;have hL0:=World.ownsRow_lit (e:=3) (size:=1) (base:=w.heap.size) w #[.int .i64 0] 1 (wY _) (by simp [maxLen]) rfl;have HL0:=ab hL0;clear hR hRl hL0;go_enter Tryz.func119,Tryz.ntmps119
 go_wp2
 go_loopw [3,4] (fun v q wr=>PlRel l R w v q wr) (fun _ q _=>l.length-(intOf q).toNat)
 case atStart=>exact⟨0,l.length,[0],by omega,by omega,rfl,(Below.refl _ _).alloc (wY _) _,HL0.out,by simp,HR⟩
 case round =>
  obtain⟨i,k,ps,hi,hk,rfl,hb,hown,hps,HF⟩:=hrel;have hB:=hb.size;clear HR HL0;cases hd:l.drop i with
  | nil =>
   have h2:=jg hd;have HE:Hid (ps=R):=ab (by rw [←HF.out,hd];cases k<;>simp [iI,iY]);exact cm
  | cons c r =>
   obtain⟨h1,h2,h3,h4⟩:=qI l i c r hd;obtain⟨k,rfl⟩:∃k',k=k'+1:=⟨k-1,by have:=xM List.length hd;simp at this;omega⟩;have hil:i<l.length:=by have:=xM List.length hd;simp at this;omega
   have hsp:jS l i=i+(c::r.takeWhile gU).length:=by
    unfold jS;rw [(iv hd).2.2];simp;omega
   have HE:Hid ((ps++[jS l i])++(iY (iI k (l.drop (jS l i))) (jS l i)).drop 1=R):=ab (by
    rw [←HF.out,hd,h4];simp only [iI,iY,List.drop_succ_cons,xT,←hsp];have:∀(cs:List Str) (a:Nat),iY cs a=a::(iY cs a).drop 1:=fun cs a=>by cases cs<;>rfl
    rw [xU,List.singleton_append,←this])
   obtain⟨e,he⟩:∃e,jS l i=e:=⟨_,rfl⟩;rw [he] at h1 h2 h3 h4 HE;have HEN:=ab (he▸qh l i wr eu eu:Calls Tryz.prog 41 #[.string ⟨l.toArray⟩,.int .i64 i] wr fun x w'=>x=.returned (.int .i64 (e:Int))∧wr=w');have hb1:Below wr.heap.size wr (wr.alloc (.cells #[.int .i64 (e:Int)] 3)):=(Below.refl _ _).alloc (wY _) _;have HO1:=ab (gP hown hb1);have HSL:=ab (Sl.lit (n:=1) (sz:=1) (heap_alloc_new wr (.cells #[.int .i64 (e:Int)] 3)) rfl);have hz1:w.heap.size≤(wr.alloc (.cells #[.int .i64 (e:Int)] 3)).heap.size:=by rw [xG];omega
   have hbw1:=hb.alloc hB (.cells #[.int .i64 (e:Int)] 3);clear hd h4 he HF hown hsp h3;go_wp2_with (first|(go_at_call 41;refine HEN.out.mono ?_;rintro x w1 ⟨rfl,rfl⟩)|(at_builtin;refine g9 w.heap.size 3 rfl _ _ 40 rfl Tryz.underlying40 hir rfl ez rfl HO1.out rfl HSL.out eG eu eu ez hz1 ?_))
   intro v1 w4 ho4 hg4 hb4 hmv;have hb4':=hbw1.trans hb4;have ho5:w4.ownsRow w.heap.size 3 1 v1 (ps++[e]).length (kT (ps++[e])):=by
    rw [show kT (ps++[e])=kT ps++[.int .i64 (e:Int)] by simp [kT],xm];exact ho4
   clear ho4 hg4 hmv;go_wp2
   go_roundw
   case rel=>exact⟨e,k,ps++[e],h1,by omega,rfl,hb4',ho5,by simp;omega,HE⟩
   case measure=>simp [intOf];omega
theorem jQ {R:Rn} (ok:RnOk R) {w:World} {st:Rst} (h:RunI R w st) (hf:st.fuel≠0) :
  Calls Tryz.prog 182 #[.pointer (some ⟨R.r,0,none⟩)] w fun e w'=>e=.returned (.bool true)∧RunI R w' (iC st)∧Fx R w w':=by
 have c15:=h.c15 ok;have f15:=h.free 15;have hfu:=h.fu;have h0:((st.fuel:Int)==0)=false:=by rw [xH];omega
 have HB:=ab (h.burnW ok hf);have HX:=ab (Fx.setR (R:=R) w ⟨R.r,15,none⟩ rfl (.int .i64 ((st.fuel:Int)-1)));clear h;go_enter Tryz.func182,Tryz.ntmps182
 go_wp2
 go_ret
 exact⟨rfl,HB.out,HX.out⟩
theorem burn_no {R:Rn} (ok:RnOk R) {w:World} {st:Rst} (h:RunI R w st) (hf:st.fuel=0) :
  Calls Tryz.prog 182 #[.pointer (some ⟨R.r,0,none⟩)] w fun e w'=>e=.returned (.bool false)∧RunI R w' { st with out:=true }∧Fx R w w':=by
 have c15:=h.c15 ok;have f15:=h.free 15;have c16:=h.c16 ok;have f16:=h.free 16;have HB:=ab (h.outW ok);have HX:=ab (Fx.setR (R:=R) w ⟨R.r,16,none⟩ rfl (.bool true));clear h;rw [hf] at c15;clear hf;go_enter Tryz.func182,Tryz.ntmps182
 go_wp2
 go_ret
 exact⟨rfl,HB.out,HX.out⟩
theorem ry {r:Nat} (c:Str) (ng:Bool) (ra:Option Addr) (rn rc:Nat) (lo hi:Int) (lz:Bool) (ka:Option Addr) (kn kc:Nat) (w:World) :
  Calls Tryz.prog 184 #[.pointer (some ⟨r,0,none⟩),.agg (rxc 2 c ng ra rn rc lo hi lz ka kn kc).toArray,.string ⟨c.toArray⟩] w fun e w'=>e=.returned (.bool true)∧Below w.heap.size w w':=by
 have hb0:Below w.heap.size w (w.alloc (.cells (rxc 2 c ng ra rn rc lo hi lz ka kn kc).toArray 25)):=(Below.refl _ _).alloc (wY _) _;have HB0:=ab hb0;clear hb0;unfold rxc at HB0 ⊢;go_enter Tryz.func184,Tryz.ntmps184
 go_upto_region 3 with fail
 have e1:∀x:ExtOf (w.alloc (.cells #[.int .i64 2,.string ⟨c.toArray⟩,.bool ng,.slice ra rn rc,.int .i64 lo,.int .i64 hi,.bool lz,.slice ka kn kc] 25)),x.val.cell? ⟨w.heap.size,1,none⟩=some (.string ⟨c.toArray⟩):=ExtOf.cell eB;exact ee
theorem qL {r:Nat} (c d:Str) (ng:Bool) (ra:Option Addr) (rn rc:Nat) (lo hi:Int) (lz:Bool) (ka:Option Addr) (kn kc:Nat) (w:World) (hf:w.cell? ⟨r,11,none⟩=some (.bool false)) (hne:d≠c) :
  Calls Tryz.prog 184 #[.pointer (some ⟨r,0,none⟩),.agg (rxc 2 c ng ra rn rc lo hi lz ka kn kc).toArray,.string ⟨d.toArray⟩] w fun e w'=>e=.returned (.bool false)∧Below w.heap.size w w':=by
 have hq:(d==c)=false:=by rw [xH];exact hne
 have hb0:Below w.heap.size w (w.alloc (.cells (rxc 2 c ng ra rn rc lo hi lz ka kn kc).toArray 25)):=(Below.refl _ _).alloc (wY _) _;have HB0:=ab hb0;have hf0:=gW hb0 _ _ hf;unfold rxc at HB0 hf0 ⊢;go_enter Tryz.func184,Tryz.ntmps184
 go_upto_region 3 with fail
 have e1:∀x:ExtOf (w.alloc (.cells #[.int .i64 2,.string ⟨c.toArray⟩,.bool ng,.slice ra rn rc,.int .i64 lo,.int .i64 hi,.bool lz,.slice ka kn kc] 25)),x.val.cell? ⟨w.heap.size,1,none⟩=some (.string ⟨c.toArray⟩):=ExtOf.cell eB;have e2:∀x:ExtOf (w.alloc (.cells #[.int .i64 2,.string ⟨c.toArray⟩,.bool ng,.slice ra rn rc,.int .i64 lo,.int .i64 hi,.bool lz,.slice ka kn kc] 25)),x.val.cell? ⟨r,11,none⟩=some (.bool false):=ExtOf.cell hf0;exact ee
theorem rG {r:Nat} (c d:Str) (ng:Bool) (ra:Option Addr) (rn rc:Nat) (lo hi:Int) (lz:Bool) (ka:Option Addr) (kn kc:Nat) (w:World) (hf:w.cell? ⟨r,11,none⟩=some (.bool true)) (hne:d≠c) (hd:d.length≤1000000) (hc:c.length≤1000000) :
  Calls Tryz.prog 184 #[.pointer (some ⟨r,0,none⟩),.agg (rxc 2 c ng ra rn rc lo hi lz ka kn kc).toArray,.string ⟨d.toArray⟩] w fun e w'=>e=.returned (.bool (oO d==oO c))∧Below w.heap.size w w':=by
 have hq:(d==c)=false:=by rw [xH];exact hne
 have hb0:Below w.heap.size w (w.alloc (.cells (rxc 2 c ng ra rn rc lo hi lz ka kn kc).toArray 25)):=(Below.refl _ _).alloc (wY _) _;have HB0:=ab hb0;have hf0:=gW hb0 _ _ hf;unfold rxc at HB0 hf0 ⊢;go_enter Tryz.func184,Tryz.ntmps184
 go_upto_region 3 with fail
 have e1:∀x:ExtOf (w.alloc (.cells #[.int .i64 2,.string ⟨c.toArray⟩,.bool ng,.slice ra rn rc,.int .i64 lo,.int .i64 hi,.bool lz,.slice ka kn kc] 25)),x.val.cell? ⟨w.heap.size,1,none⟩=some (.string ⟨c.toArray⟩):=ExtOf.cell eB;have e2:∀x:ExtOf (w.alloc (.cells #[.int .i64 2,.string ⟨c.toArray⟩,.bool ng,.slice ra rn rc,.int .i64 lo,.int .i64 hi,.bool lz,.slice ka kn kc] 25)),x.val.cell? ⟨r,11,none⟩=some (.bool true):=ExtOf.cell hf0;refine gN eA eA ?_;repeat (go_big_quiet_step ((go_at_call 53;exact iy (pE _ _ (by first|exact hd|exact hc)))))
 exact bI
theorem uj {r:Nat} (c d:Str) (ng:Bool) (ra:Option Addr) (rn rc:Nat) (lo hi:Int) (lz:Bool) (ka:Option Addr) (kn kc:Nat) (w:World) :
  Calls Tryz.prog 184 #[.pointer (some ⟨r,0,none⟩),.agg (rxc 3 c ng ra rn rc lo hi lz ka kn kc).toArray,.string ⟨d.toArray⟩] w fun e w'=>e=.returned (.bool (d != [10]))∧Below w.heap.size w w':=by
 have hb0:Below w.heap.size w (w.alloc (.cells (rxc 3 c ng ra rn rc lo hi lz ka kn kc).toArray 25)):=(Below.refl _ _).alloc (wY _) _;have HB0:=ab hb0;clear hb0;unfold rxc at HB0 ⊢;go_enter Tryz.func184,Tryz.ntmps184
 go_wp2
 go_ret
 exact⟨rfl,HB0.out⟩
theorem uw {r:Nat} (c d:Str) (ng fd:Bool) (ra:Option Addr) (rs:List (Str × Str)) (rc:Nat) (lo hi:Int) (lz:Bool) (ka:Option Addr) (kn kc:Nat) (w:World) (hf:w.cell? ⟨r,11,none⟩=some (.bool fd)) (hr:Sl w w.heap.size ra 2 rs.length (gR rs)) (hn:rs.length≤100000000) (hd:d.length≤1000000) :
  Calls Tryz.prog 184 #[.pointer (some ⟨r,0,none⟩),.agg (rxc 4 c ng ra rs.length rc lo hi lz ka kn kc).toArray,.string ⟨d.toArray⟩] w fun e w'=>e=.returned (.bool (hasS rs ng fd d))∧Below w.heap.size w w':=by
 have HR:=ab hr;clear hr;have hb0:Below w.heap.size w (w.alloc (.cells (rxc 4 c ng ra rs.length rc lo hi lz ka kn kc).toArray 25)):=(Below.refl _ _).alloc (wY _) _;have HB0:=ab hb0;have hf0:=gW hb0 _ _ hf;unfold rxc at HB0 hf0 ⊢;go_enter Tryz.func184,Tryz.ntmps184
 go_upto_region 6 with fail
 have e1:∀x:ExtOf (w.alloc (.cells #[.int .i64 4,.string ⟨c.toArray⟩,.bool ng,.slice ra rs.length rc,.int .i64 lo,.int .i64 hi,.bool lz,.slice ka kn kc] 25)),x.val.cell? ⟨w.heap.size,3,none⟩=some (.slice ra rs.length rc):=ExtOf.cell eB;have e2:∀x:ExtOf (w.alloc (.cells #[.int .i64 4,.string ⟨c.toArray⟩,.bool ng,.slice ra rs.length rc,.int .i64 lo,.int .i64 hi,.bool lz,.slice ka kn kc] 25)),x.val.cell? ⟨r,11,none⟩=some (.bool fd):=ExtOf.cell hf0;have e3:∀x:ExtOf (w.alloc (.cells #[.int .i64 4,.string ⟨c.toArray⟩,.bool ng,.slice ra rs.length rc,.int .i64 lo,.int .i64 hi,.bool lz,.slice ka kn kc] 25)),x.val.cell? ⟨w.heap.size,2,none⟩=some (.bool ng):=ExtOf.cell eB;have HH:Hid (∀x:ExtOf (w.alloc (.cells #[.int .i64 4,.string ⟨c.toArray⟩,.bool ng,.slice ra rs.length rc,.int .i64 lo,.int .i64 hi,.bool lz,.slice ka kn kc] 25)),Calls Tryz.prog 26 #[.slice ra rs.length rc,.bool ng,.bool fd,.string ⟨d.toArray⟩] x.val fun e w'=>e=.returned (.bool (hasS rs ng fd d))∧Below x.val.heap.size x.val w'):=ab (fun x=>by
  have hb:=HB0.out.trans (x.ext.mono eB);exact wG _ _ _ rs _ _ d _ ((HR.out.keep hb).mono hb.size) hn hd)
 refine gN eA eA ?_;repeat (go_big_quiet_step ((go_at_call 26;exact iy (HH.out _))))
 exact bI
theorem kL {R:Rn} (ok:RnOk R) {w:World} {st:Rst} (h:RunI R w st) (kind:Int) (k:Nat) (hk:k≤R.C.cs.length) :
  Calls Tryz.prog 185 #[.pointer (some ⟨R.r,0,none⟩),.int .i64 kind,.int .i64 k] w fun e w'=>e=.returned (.bool (iP R.C kind k))∧w=w':=by
 have c12:=h.c12 ok;have hcs:=ok.cs;have hch:∀j,(R.C.cs.getD j []).length≤1000000:=fun j=>by
  rw [List.getD_eq_getElem?_getD];cases hg:R.C.cs[j]? with
  | none=>simp
  | some c=>exact ok.ch c (xA hg)
 have HO:=ab ok;have HH:=ab h;clear ok h;by_cases h8:kind=8
 ·subst h8
  have HE:Hid (iP R.C 8 k=decide (k=0)):=ab (by unfold iP;rw [wU rfl]);clear hch;go_enter Tryz.func185,Tryz.ntmps185
  go_wp2_with (go_at_call 195;refine(nr _ _ eu).mono ?_;rintro e w1 ⟨rfl,rfl⟩)
  go_ret
  exact⟨gX (by rw [HE.out,Bool.eq_iff_iff];simp),rfl⟩
 by_cases h9:kind=9
 ·subst h9
  have HE:Hid (iP R.C 9 k=decide (k=R.C.cs.length)):=ab (by unfold iP;rw [wX ez,wU rfl]);clear hch h8;go_enter Tryz.func185,Tryz.ntmps185
  go_wp2_with (go_at_call 195;refine(nr _ _ eu).mono ?_;rintro e w1 ⟨rfl,rfl⟩)
  go_ret
  exact⟨gX (by rw [HE.out,Bool.eq_iff_iff];simp;omega),rfl⟩
 have h8':(kind==8)=false:=by rw [xH];exact h8
 have h9':(kind==9)=false:=by rw [xH];exact h9
 have HE0:Hid (iP R.C kind k=(((decide (0<k)&&lO (R.C.cs.getD (k-1) [])) != (decide (k<R.C.cs.length)&&lO (R.C.cs.getD k [])))==(kind==10))):=ab (by
  unfold iP;rw [wX h8,wX h9];congr 1)
 clear h8 h9;rcases Nat.eq_zero_or_pos k with h0|h0
 ·subst h0
  rcases Nat.eq_zero_or_pos R.C.cs.length with hn|hn
  ·have HE:Hid (iP R.C kind 0=((false != false)==(kind==10))):=ab (by rw [HE0.out,hn];rfl)
   rw [hn] at c12;clear hch HE0 hk;exact aT
  ·obtain⟨b,o,hca,hc⟩:=HH.out.char hn
   rw [hca] at c12;have hl:=hch 0;obtain⟨d,hd⟩:∃d,R.C.cs.getD 0 []=d:=⟨_,rfl⟩;rw [hd] at hl hc;rw [Nat.add_zero] at hc;have HE:Hid (iP R.C kind 0=((false != lO d)==(kind==10))):=ab (by rw [HE0.out,hd];simp [hn]);clear hch HE0 hk hd hca;exact aT
 ·obtain⟨b,o,hca,hc⟩:=HH.out.char (show k-1<R.C.cs.length by omega)
  rw [hca] at c12;have hl:=hch (k-1);obtain⟨d,hd⟩:∃d,R.C.cs.getD (k-1) []=d:=⟨_,rfl⟩;rw [hd] at hl hc;obtain⟨k,rfl⟩:∃j,k=j+1:=⟨k-1,by omega⟩;simp only [Nat.add_sub_cancel] at hc hd;rcases Nat.lt_or_ge (k+1) R.C.cs.length with hn|hn
  ·obtain⟨b',o',hca',hc'⟩:=HH.out.char hn
   rw [hca] at hca';injection hca' with hca'
   injection hca' with hb' ho'
   subst hb';subst ho';have hl':=hch (k+1);obtain⟨u,hu⟩:∃u,R.C.cs.getD (k+1) []=u:=⟨_,rfl⟩;rw [hu] at hl' hc';have HE:Hid (iP R.C kind (k+1)=((lO d != lO u)==(kind==10))):=ab (by rw [HE0.out,Nat.add_sub_cancel,hd,hu];simp [hn]);clear hch HE0 hk hd hca hu h0;exact aT
  ·have hkn:k+1=R.C.cs.length:=eu
   have HE:Hid (iP R.C kind (k+1)=((lO d != false)==(kind==10))):=ab (by rw [HE0.out,Nat.add_sub_cancel,hd,←hkn];simp);rw [←hkn] at c12;rw [←hkn] at hcs;clear hch HE0 hk hd hca hn hkn h0;exact aT
def NoneRel (R:Rn) (w:World) (st:Rst) (lo hi:Nat) (q:Value) (wr:World):Prop :=
 ∃k:Nat,lo+k≤hi∧q=.int .i64 k∧RunI R wr { st with ps:=iJ st.ps lo (lo+k) }∧Fx R w wr
theorem lX (ps:List (Int × Int)) (lo:Nat):iJ ps lo lo=ps:=by simp [iJ]
theorem nW (ps:List (Int × Int)) (lo k:Nat) (h:lo+k<ps.length):oi (iJ ps lo (lo+k)) (lo+k) (-1,-1)=iJ ps lo (lo+(k+1)):=by
 unfold oi iJ;have e1:(ps.take lo++List.replicate (lo+k-lo) ((-1:Int),(-1:Int))).length=lo+k:=by simp;omega
 rw [List.set_append_right _ _ eu,e1,Nat.sub_self,show lo+k-lo=k by omega,show lo+(k+1)-lo=k+1 by omega,List.drop_eq_getElem_cons h,List.set_cons_zero,List.replicate_succ',show lo+(k+1)=lo+k+1 by omega];simp
theorem tG (ps:List (Int × Int)) (lo hi:Nat) (h1:lo≤hi) (h2:hi≤ps.length):(iJ ps lo hi).length=ps.length:=by
 simp only [iJ,xm,xF,List.length_replicate,xN];omega
theorem none_any {R:Rn} (ok:RnOk R) {w:World} {st:Rst} (h:RunI R w st) (b lo hi cap:Nat) (hp:R.pa=some ⟨b,0,none⟩) (h1:lo≤hi) (h2:hi≤R.n) :
  Calls Tryz.prog 157 #[.slice (some ⟨b,lo*2,none⟩) (hi-lo) cap] w fun e w'=>e=.returned (.tuple #[])∧RunI R w' { st with ps:=iJ st.ps lo hi }∧Fx R w w':=by
 have hn:=ok.n;have HO:=ab ok;have HP:=ab hp;have H0:Hid (RunI R w { st with ps:=iJ st.ps lo (lo+0) }):=ab (by rw [Nat.add_zero,lX];exact h);have hlen:=h.len;have hb:R.pv.ownBlock≠none:=by unfold Rn.pv;rw [hp];simp [Value.ownBlock]
 clear hp ok h hb;go_enter Tryz.func157,Tryz.ntmps157
 go_wp2
 go_loopw [5] (fun q wr=>NoneRel R w st lo hi q wr) (fun q _=>hi-lo-(intOf q).toNat)
 case atStart=>exact⟨0,by omega,rfl,H0.out,Gx.refl _ _⟩
 case round =>
  obtain⟨k,hk,rfl,hr,hx⟩:=hrel;clear H0;by_cases hlt:lo+k<hi
  ·obtain⟨c1,c2,f1,f2⟩:=hr.part (g:=lo+k) eu HP.out
   have hs:=hr.setP HO.out (g:=lo+k) eu HP.out (-1,-1);simp only at hs
   rw [nW st.ps lo k eu] at hs;rw [show (lo+k)*2=lo*2+k*2 by omega] at hs c1 c2 f1 f2;have HS:=ab hs;have HX:=ab hx;clear hs hr hx;go_wp2_with (fail)
   go_roundw
   case rel=>exact⟨k+1,by omega,by go_num,HS.out.1,Fx.trans (R:=R) HX.out HS.out.2⟩
   case measure=>simp [intOf];omega
  ·have e:lo+k=hi:=eu
   have HR:=ab (e▸hr);clear hr;go_wp2_with (fail)
   go_end0
   exact⟨rfl,HR.out,hx⟩
theorem ls {w:World} {b:Nat} {cs old:Array Value} {t:TypeId} {f:Nat × Nat} (h:w.heap[b]?=some (.cells old t f)):(w.setRow b cs).heap[b]?=some (.cells cs t f):=by
 simp [World.setRow,Array.getElem?_modify,h]
theorem mh {w:World} {b k:Nat} (cs:Array Value) (h:k≠b):(w.setRow b cs).heap[k]?=w.heap[k]?:=by
 simp only [World.setRow,Array.getElem?_modify];rw [wX (Ne.symm h)]
theorem px (w:World) (b:Nat) (cs:Array Value):(w.setRow b cs).heap.size=w.heap.size:=by simp [World.setRow]
theorem pY {fn:Func} {p u:Tmp} {ty t:TypeId} {tmps:Array Value} {w:World} {b:Nat} {cs:Array Value} {f:Nat × Nat} {fs:Array Field} {n:Nat} {v:Value} (hr:fn.results=#[.cell p ty,.tmp u]) (hu:Tryz.prog.underlying ty=some (.struct fs)) (hi:(Tryz.prog.info? ty).map (·.size)=some n)
  (h:w.heap[b]?=some (.cells cs t f)) (hn:cs.size=n) (hp:tmps.getD p undef=.pointer (some ⟨b,0,none⟩)) (hv:tmps.getD u undef=v):(results fn tmps).run Tryz.prog w=.ok (.tuple #[.agg cs,v]) w:=by
 subst hn;rw [results_cell_tmp hr,hp,hv];exact cX
theorem jr {P:Program} {ops:Array Oper} {rest:List Oper} {o:Oper} {a:Act} {w W:World} {Q:Exit→Act→World→Prop} (hgd:o.guard=none) (ty:TypeId) (x y:Operand) (ho:o.op=.store ty x y)
  (g:Nat) (cells:Array Value) (hx:a.eval x=.pointer (some ⟨g,0,none⟩)) (hy:a.eval y=.agg cells)
  (t:TypeId) (old:Array Value) {n:Nat} (hg:w.heap[g]?=some (.cells old t (0,0))) (hi:(P.info? ty).map (·.size)=some n) (hn:cells.size=n)
  (hold:old.size=n) (h1:∀u∈cells.toList,u.oneCell'=true) (hW:w.setRow g cells=W)
  (h:wpList P ops Q rest (a.put o.dst undef) W):wpList P ops Q (o::rest) a w:=by
 subst hn;subst hW;exact wpList_store_row hgd ty x y ho g cells hx hy t old hg hi hold (Array.all_eq_true_iff_forall_mem.2 (fun v hv=>h1 v (by simpa using hv))) h
theorem iF {P:Program} {ops:Array Oper} {rest:List Oper} {op:Oper} {a:Act} {w:World} {Q:Exit→Act→World→Prop} (hgd:op.guard=none) (ty:TypeId) (x:Operand) (ho:op.op=.load ty x)
  (b o:Nat) (hx:a.eval x=.pointer (some ⟨b,o,none⟩)) (cs:List Value) (d:TypeDesc) (hc:w.rangeAt b o cs)
  (hu:P.underlying ty=some d) (hd:d.isRow=true) (hi:(P.info? ty).map (·.size)=some cs.length)
  (h:wpList P ops Q rest (a.put op.dst (.agg cs.toArray)) w):wpList P ops Q (op::rest) a w:=wpList_load_mid hgd ty x ho b o hx cs d hc hu hd hi h
theorem iS {w:World} {b:Nat} {cs ds:List Value} {t:TypeId} {f:Nat × Nat} (h:w.heap[b]?=some (.cells (cs++ds).toArray t f)):w.rangeAt b 0 cs:=fun j v hv=>by
 rw [Nat.zero_add,xe h];have:=(wZ.1 hv).1
 simp [xp this,hv]
def TryC (R:Rn) (x:Rx):Prop:=∀(w:World) (st:Rst) (g k:Nat) (fv:Value) (f:Rk) (cc:List Value),PtV w R.S cc x g→g+x.groups≤R.n→RunI R w st→k≤R.C.cs.length→KW R w k fv f →
 Calls Tryz.prog 158 #[.pointer (some ⟨R.r,0,none⟩),.agg cc.toArray,.int .i64 k,fv] w (iH R (tryM R.C x g k f st) w)
def SeqC (R:Rn) (ks:List Rx):Prop:=∀(w:World) (st:Rst) (g k c:Nat) (fv:Value) (f:Rk) (a:Option Addr),PtSl w R.S a ks.length ks g→ks.length≤c→g+Rx.groupsL ks≤R.n→RunI R w st→k≤R.C.cs.length→KW R w k fv f →
 Calls Tryz.prog 180 #[.pointer (some ⟨R.r,0,none⟩),.slice a ks.length c,.int .i64 k,fv] w (iH R (seqM R.C ks g k f st) w)
theorem Fx.below {R:Rn} {w w':World} (h:Below w.heap.size w w'):Fx R w w':=Gx.of_below h
theorem Fx.heap {R:Rn} {w w':World} (h:Fx R w w') {b:Nat} {o:Obj} (hb:w.heap[b]?=some o) (hx:¬R.X b):w'.heap[b]?=some o:=Gx.heap h hb hx
theorem KW.call {R:Rn} {w:World} {k e:Nat} {fv:Value} {f:Rk} (h:KW R w k fv f) {st:Rst} (hr:RunI R w st) (hk:k≤e) (he:e≤R.C.cs.length) :
  ∃(j:FuncId) (caps:Array Value),fv=.func (.func j) #[] caps∧Enters Tryz.prog j∧Calls Tryz.prog j (#[.int .i64 (e:Int)]++caps) w (iH R (f e st) w):=by
 obtain⟨j,caps,e1,e2,hc⟩:=h;exact⟨j,caps,e1,e2,hc w st e (Gx.refl _ _) hr hk he⟩
theorem uz {S:Nat→Prop} {w0:World} {b o c n g:Nat} {r:List Rx} (hs:PtSl w0 S (some ⟨b,o+11,none⟩) n r g) (hn:n≤1000000) (hc:n+1≤c) :
  ∃a',PtSl w0 S a' n r g∧(∀w':World,(Instr.sliceAt 142 (.slice (some ⟨b,o,none⟩) (n+1) c) (some (.int .i64 1)) none none).run Tryz.prog w'=.ok (.slice a' n (c-1)) w'):=by
 have key:∀w':World,(Instr.sliceAt 142 (.slice (some ⟨b,o,none⟩) (n+1) c) (some (.int .i64 1)) none none).run Tryz.prog w'=.ok (.slice (if c=1 then some ⟨b,o,none⟩ else some ⟨b,o+11,none⟩) n (c-1)) w':=by
  intro w';go_simp
  by_cases h:c=1
  ·simp [h];intro h;omega
  ·simp [h];intro h;omega
 refine⟨_,?_,key⟩;by_cases h:c=1
 ·rw [wU h]
  have h0:=hs.len;have h1:n=0:=eu;subst h1;have h2:r=[]:=wV h0.symm;subst h2;exact PtSl.nil _ _ _ _
 ·rw [wX h];exact hs
theorem seqK {R:Rn} (ok:RnOk R) {r:List Rx} (IH:SeqC R r) {w0:World} {b1 b2 b3 b o c g k:Nat} {fv:Value} {f:Rk}
  (h1:w0.heap[b1]?=some (.cells #[.pointer (some ⟨R.r,0,none⟩)] 140 (0,0))) (h2:w0.heap[b2]?=some (.cells #[.slice (some ⟨b,o,none⟩) (r.length+1) c] 142 (0,0)))
  (h3:w0.heap[b3]?=some (.cells #[fv] 168 (0,0))) (x1:¬R.X b1) (x2:¬R.X b2) (x3:¬R.X b3) (hs:PtSl w0 R.S (some ⟨b,o+11,none⟩) r.length r g) (hc:r.length+1≤c) (hg:g+Rx.groupsL r≤R.n) (hf:KW R w0 k fv f) (hrl:r.length≤1000000) :
  KW R w0 k (.func (.func 198) #[] #[.pointer (some ⟨b1,0,none⟩),.pointer (some ⟨b2,0,none⟩),.pointer (some ⟨b3,0,none⟩)]) (fun e s2=>seqM R.C r g e f s2):=by
 refine⟨_,_,rfl,enters_of Tryz.func198 eA rfl,fun w st e hx hr hk he=>?_⟩;have c1:=gQ (hx.heap h1 x1);have c2:=gQ (hx.heap h2 x2);have c3:=gQ (hx.heap h3 x3);have hrl:r.length≤1000000:=hrl;obtain⟨a',hs',hsl⟩:=uz hs hrl hc;have hC:=IH w.drew st g e (c-1) fv f a' ((hs'.keep (Fx.kept ok hx)).later ((Below.refl _ _).drew)) eu hg (hr.later ((Below.refl _ _).drew)) he (hf.later (hx.trans (Fx.below ((Below.refl _ _).drew))) hk);have HC:=ab hC;have hcs:=ok.cs;clear hC IH hf hs hs' hx hr ok h1 h2 h3;show Calls Tryz.prog 198 #[.int .i64 (e:Int),.pointer (some ⟨b1,0,none⟩),.pointer (some ⟨b2,0,none⟩),.pointer (some ⟨b3,0,none⟩)] w _
 go_enter Tryz.func198,Tryz.ntmps198
 go_upto_region 1 with fail
 go_still_tail 5,eA
 change wpList _ _ _ _ _ w.drew
 go_wp2_with (go_at_call 180;refine HC.out.mono ?_)
 rintro x w' ⟨rfl,hr,hx⟩;go_wp2
 go_ret
 exact⟨rfl,hr,(Fx.below ((Below.refl _ _).drew)).trans hx⟩
theorem ii {R:Rn} {w:World} {st:Rst} (h:RunI R w st) {b:Nat} (hb:w.heap.size≤b):¬R.X b:=fun e=>by have:=h.lt b e;omega
theorem seq_nil {R:Rn}:SeqC R []:=by
 intro w st g k c fv f a hs hc hg hr hk hf;obtain⟨W3,hW3⟩:∃W3,W3=((w.alloc (.cells #[.pointer (some ⟨R.r,0,none⟩)] 140)).alloc (.cells #[.slice a 0 c] 142)).alloc (.cells #[fv] 168):=⟨_,rfl⟩;have hb3:Below w.heap.size w W3:=by rw [hW3];exact(((Below.refl _ _).alloc (wY _) _).alloc eB _).alloc eC _
 obtain⟨j,caps,rfl,he,hC⟩:=(hf.later (Fx.below hb3) (wY _)).call (hr.later hb3) (wY _) hk;unfold Enters at he;have HC:=ab hC;have HB:=ab hb3;have HW:=ab hW3;clear hC hf hs hr hb3 hW3;simp only [xR];go_enter Tryz.func180,Tryz.ntmps180
 go_upto_region 2 with fail
 rw [←HW.out];have c7:W3.cell? ⟨w.heap.size+1+1,0,none⟩=some (.func (.func j) #[] caps):=gQ (t:=168) (by rw [HW.out];have:=heap_alloc_new ((w.alloc (.cells #[.pointer (some ⟨R.r,0,none⟩)] 140)).alloc (.cells #[.slice a 0 c] 142)) (.cells #[.func (.func j) #[] caps] 168);simpa using this);clear HW;go_wp2_with (go_at_fn j;refine HC.out.mono ?_)
 rintro x w' ⟨rfl,hr,hx⟩;go_wp2
 go_ret
 exact⟨rfl,hr,(Fx.below HB.out).trans hx⟩
theorem seq_cons {R:Rn} (ok:RnOk R) {x:Rx} {ks:List Rx} (hx:TryC R x) (IH:SeqC R ks) (hl:ks.length≤1000000):SeqC R (x::ks):=by
 intro w st g k c fv f a hs hc hg hr hk hf;simp only [Rx.groupsL] at hg;have hff:=hf;obtain⟨j,caps,rfl,_,_⟩:=hff;have h0:((ks.length:Int)+1==0)=false:=by rw [xH];omega
 obtain⟨W3,hW3⟩:∃W3,W3=((w.alloc (.cells #[.pointer (some ⟨R.r,0,none⟩)] 140)).alloc (.cells #[.slice a (ks.length+1) c] 142)).alloc (.cells #[.func (.func j) #[] caps] 168):=⟨_,rfl⟩;have hb3:Below w.heap.size w W3:=by rw [hW3];exact(((Below.refl _ _).alloc (wY _) _).alloc eB _).alloc eC _
 have h1:W3.heap[w.heap.size]?=some (.cells #[.pointer (some ⟨R.r,0,none⟩)] 140 (0,0)):=by
  rw [hW3,Below.heap_alloc _ _ _ eC,Below.heap_alloc _ _ _ eB];exact heap_alloc_new w _
 have h2:W3.heap[w.heap.size+1]?=some (.cells #[.slice a (ks.length+1) c] 142 (0,0)):=by
  rw [hW3,Below.heap_alloc _ _ _ eB];have:=heap_alloc_new (w.alloc (.cells #[.pointer (some ⟨R.r,0,none⟩)] 140)) (.cells #[.slice a (ks.length+1) c] 142);simpa using this
 have h3:W3.heap[w.heap.size+1+1]?=some (.cells #[.func (.func j) #[] caps] 168 (0,0)):=by
  rw [hW3];have:=heap_alloc_new ((w.alloc (.cells #[.pointer (some ⟨R.r,0,none⟩)] 140)).alloc (.cells #[.slice a (ks.length+1) c] 142)) (.cells #[.func (.func j) #[] caps] 168);simpa using this
 obtain⟨b,o,cc,rfl,hSb,hlt,hv,hcc,htl⟩:=(hs.later hb3).head;have hK:=seqK ok IH h1 h2 h3 (ii hr (wY _)) (ii hr eu) (ii hr eu) htl (by simpa using hc) eu (hf.later (Fx.below hb3) (wY _)) hl;have hdr:Below W3.heap.size W3 W3.drew:=(Below.refl _ _).drew;have hC:=hx W3.drew st g k _ _ cc (hv.later hdr) eu ((hr.later hb3).later hdr) hk (hK.later (Fx.below hdr) (wY _));obtain⟨kd,ch,ng,rs,lo,hi,lz,xs⟩:=x;obtain⟨ra,rc,ka,kn,kc,pa,pc,rfl,_,_,_⟩:=hv.open_;obtain⟨c0,c1,c2,c3,c4,c5,c6,c7,c8,c9,c10⟩:=gZ hcc;have d1:=gQ h1;have d2:=gQ h2;have HC:=ab hC;have HB:=ab (Fx.below (R:=R) (hb3.trans (hdr.mono hb3.size)));have HW:=ab hW3;have HM:Hid (seqM R.C (.mk kd ch ng rs lo hi lz xs::ks) g k f st=tryM R.C (.mk kd ch ng rs lo hi lz xs) g k (fun e s2=>seqM R.C ks (g+(Rx.mk kd ch ng rs lo hi lz xs).groups) e f s2) st):=ab (by conv=>lhs;unfold seqM);rw [HM.out];clear hC hf hs hr ok hb3 hW3 hx IH h1 h2 h3 hv hcc htl hK hdr HM hSb;unfold ptc at HC;simp only [xg] at hc ⊢;go_enter Tryz.func180,Tryz.ntmps180
 go_upto_region 3 with fail
 rw [←HW.out];clear HW;go_still_tail 6,eA
 change wpList _ _ _ _ _ W3.drew
 exact cH
theorem wl {R:Rn} (ok:RnOk R):∀ks:List Rx,(∀x∈ks,TryC R x)→ks.length≤1000000→SeqC R ks
 | [],_,_=>seq_nil
 | x::ks,h,hl=>seq_cons ok (h x (xt ..)) (wl ok ks (fun y hy=>h y (xw _ hy)) (by simp at hl;omega)) (by simp at hl;omega)
theorem od {α:Type} (l:List α) (i:Nat) (d:α) (h:i<l.length):l.getD i d∈l:=by
 rw [List.getD_eq_getElem?_getD,wW h];exact List.getElem_mem h
theorem grpW {R:Rn} (ok:RnOk R) {w0:World} {b1 b2 b3 b4 g k:Nat} {fv:Value} {f:Rk} {kd:Int} {c:Str} {ng:Bool} {ra:Option Addr} {rn rc:Nat} {lo hi:Int} {lz:Bool} {ka:Option Addr} {kn kc:Nat} {pa:Option Addr} {pn pc h:Nat}
  (h1:w0.heap[b1]?=some (.cells #[.pointer (some ⟨R.r,0,none⟩)] 140 (0,0))) (h2:w0.heap[b2]?=some (.cells (ptc kd c ng ra rn rc lo hi lz ka kn kc pa pn pc g h).toArray 144 (0,0)))
  (h3:w0.heap[b3]?=some (.cells #[.int .i64 (k:Int)] 3 (0,0))) (h4:w0.heap[b4]?=some (.cells #[fv] 168 (0,0)))
  (x1:¬R.X b1) (x2:¬R.X b2) (x3:¬R.X b3) (x4:¬R.X b4) (hg:g<R.n) (hkn:k≤R.C.cs.length) (hf:KW R w0 k fv f) :
  KW R w0 k (.func (.func 200) #[] #[.pointer (some ⟨b1,0,none⟩),.pointer (some ⟨b2,0,none⟩),.pointer (some ⟨b3,0,none⟩),.pointer (some ⟨b4,0,none⟩)]) (grpK R.C g k f):=by
 refine⟨_,_,rfl,enters_of Tryz.func200 eA rfl,fun w st e hx hr hk he=>?_⟩;have hff:=hf;obtain⟨j,caps,rfl,hent,_⟩:=hff;unfold Enters at hent;have c1:=gQ (hx.heap h1 x1);have c3:=gQ (hx.heap h3 x3);have c4:=gQ (hx.heap h4 x4);have p2:w.cell? ⟨b2,9,none⟩=some (.int .i64 (g:Int)):=by rw [xe (hx.heap h2 x2)];rfl
 obtain⟨pb,hpb⟩:=hr.row eu;have c13:=hr.c13 ok;have c14:=hr.c14 ok;obtain⟨v1,v2,v3,v4⟩:=hr.part hg hpb;rw [hpb] at c14;obtain⟨ob,oo,hoa,o1⟩:=hr.off ok hkn;obtain⟨ob',oo',hoa',o2⟩:=hr.off ok he;rw [hoa] at hoa' c13;injection hoa' with hoa';injection hoa' with ha1 ha2;subst ha1;subst ha2
 have hcs:=ok.cs;have hn:=ok.n;obtain⟨wa,wb,hwas⟩:∃wa wb,st.ps.getD g (-1,-1)=(wa,wb):=⟨_,_,rfl⟩;rw [hwas] at v1 v2;simp only at v1 v2
 obtain⟨ka,hka⟩:∃n,R.C.offs.getD k 0=n:=⟨_,rfl⟩;obtain⟨ea,hea⟩:∃n,R.C.offs.getD e 0=n:=⟨_,rfl⟩;rw [hka] at o1;rw [hea] at o2;have hal:Below w.heap.size w (w.alloc (.cells #[.int .i64 0,.int .i64 0] 69)):=(Below.refl _ _).alloc (wY _) _;have q1:=gW hal _ _ c1;have q2:=gW hal _ _ p2;have q3:=gW hal _ _ c14;have q4:=gW hal _ _ v1;have q5:=gW hal _ _ v2;obtain⟨W1,hW1⟩:∃W1,W1=(w.alloc (.cells #[.int .i64 wa,.int .i64 wb] 69)).drew:=⟨_,rfl⟩;have hb1:Below w.heap.size w W1:=by rw [hW1];exact((Below.refl _ _).alloc (wY _) _).drew
 have hr1:=hr.later hb1;have hx1:=hx.trans (Fx.below hb1);have hwx:W1.heap[w.heap.size]?=some (.cells #[.int .i64 wa,.int .i64 wb] 69 (0,0)):=by rw [hW1];exact heap_alloc_new w _
 have hwn:¬R.X w.heap.size:=ii hr (wY _);have HO:=ab ok;have HR1:=ab hr1;have HX1:=ab hx1;have HB1:=ab (Fx.below (R:=R) hb1);have HF:=ab hf;have HPB:=ab hpb;have H1:=ab h1;have H2:=ab h2;have H3:=ab h3;have H4:=ab h4;have HWX:=ab hwx;have HW1:=ab hW1;have HWAS:=ab hwas;have HKA:=ab hka;have HEA:=ab hea;have HGK:Hid (grpK R.C g k f e st=undoR (wa,wb) g (f e { st with ps:=oi st.ps g ((ka:Int),(ea:Int)) })):=ab (by unfold grpK;rw [hwas,hka,hea]);rw [HGK.out];clear ok hr hr1 hx1 hb1 hx hf hpb hoa h1 h2 h3 h4 hal hwx hW1 hwas hka hea HGK;show Calls Tryz.prog 200 #[.int .i64 (e:Int),.pointer (some ⟨b1,0,none⟩),.pointer (some ⟨b2,0,none⟩),.pointer (some ⟨b3,0,none⟩),.pointer (some ⟨b4,0,none⟩)] w _
 go_enter Tryz.func200,Tryz.ntmps200
 go_upto_region 1 with fail
 go_region
 rw [←HW1.out];clear q1 q2 q3 q4 q5 c1 c3 c4 p2 c14 v1 v2 v3 v4 c13 o1 o2 HW1;have c1:=gQ (HX1.out.heap H1.out x1);have c3:=gQ (HX1.out.heap H3.out x3);have p2:W1.cell? ⟨b2,9,none⟩=some (.int .i64 (g:Int)):=by rw [xe (HX1.out.heap H2.out x2)];rfl
 have c13:=HR1.out.c13 HO.out;have c14:=HR1.out.c14 HO.out;obtain⟨v1,v2,v3,v4⟩:=HR1.out.part hg HPB.out;rw [HWAS.out] at v1 v2;rw [HPB.out] at c14;simp only at v1 v2
 obtain⟨ob,oo,hoa,o1⟩:=HR1.out.off HO.out hkn;obtain⟨ob',oo',hoa',o2⟩:=HR1.out.off HO.out he;rw [hoa] at hoa' c13;injection hoa' with hoa';injection hoa' with ha1 ha2;subst ha1;subst ha2
 rw [HKA.out] at o1;rw [HEA.out] at o2;have hs:=HR1.out.setP HO.out hg HPB.out ((ka:Int),(ea:Int));simp only at hs
 obtain⟨W2,hW2⟩:∃W2,W2=((W1.setCell ⟨pb,g*2,none⟩ (.int .i64 (ka:Int))).setCell ⟨pb,g*2+1,none⟩ (.int .i64 (ea:Int))).drew:=⟨_,rfl⟩;have hd2:∀w:World,Below w.heap.size w w.drew:=fun w=>(Below.refl _ _).drew
 have HR2:Hid (RunI R W2 { st with ps:=oi st.ps g ((ka:Int),(ea:Int)) }):=ab (by rw [hW2];exact hs.1.later (hd2 _));have HX2:Hid (Fx R W1 W2):=ab (by rw [hW2];exact hs.2.trans (Fx.below (hd2 _)));have HW2:=ab hW2;clear hW2 hs hoa;have hk1:(k:Int)<(R.C.cs.length:Int)+1:=eu;have he1:(e:Int)<(R.C.cs.length:Int)+1:=eu;go_upto_region 2 with fail
 go_still_tail 22,eA
 change wpList _ _ _ _ _ W1.drew
 have s2:((W1.drew.setCell ⟨pb,g*2,none⟩ (.int .i64 (ka:Int))).setCell ⟨pb,g*2+1,none⟩ (.int .i64 (ea:Int)))=W2:=HW2.out.symm;have d4:W2.cell? ⟨b4,0,none⟩=some (.func (.func j) #[] caps):=gQ ((HX1.out.trans HX2.out).heap H4.out x4);obtain⟨j',caps',hff',_,hC⟩:=(HF.out.later (HX1.out.trans HX2.out) hk).call HR2.out (wY _) he;injection hff' with e1 _ e3
 injection e1 with e1
 subst e1;subst e3;have HC:=ab hC;have HS2:=ab s2;clear hC s2;go_upto_region 3 with fail
 have e0:∀a:Act,a=a:=fun _=>rfl
 change (Code.wp _ _ _ _ (((W1.drew.setCell ⟨pb,g*2,none⟩ (.int .i64 (ka:Int))).setCell ⟨pb,g*2+1,none⟩ (.int .i64 (ea:Int)))))
 rw [HS2.out];clear e0 HS2 HW2 c1 c3 p2 c13 c14 v1 v2 v3 v4 o1 o2 hk1 he1;go_wp2_with (go_at_fn j;refine HC.out.mono ?_)
 rintro x w3 ⟨rfl,hr3,hx3⟩;obtain⟨q,hq⟩:∃q,f e { st with ps:=oi st.ps g ((ka:Int),(ea:Int)) }=q:=⟨_,rfl⟩;rw [hq] at hr3 ⊢;have HQ:=ab hq;obtain⟨bo,s3⟩:=q;have HR3:=ab hr3;have HX3:=ab (HX2.out.trans hx3);clear hq hr3 hx3 HC d4;cases bo with
 | true =>
  go_wp2
  go_ret
  rw [HQ.out];exact⟨rfl,HR3.out,HB1.out.trans HX3.out⟩
 | false =>
  have hwx:=HX3.out.heap HWX.out hwn;have w1:w3.cell? ⟨w.heap.size,0,none⟩=some (.int .i64 wa):=by rw [xe hwx];rfl
  have w2:w3.cell? ⟨w.heap.size,1,none⟩=some (.int .i64 wb):=by rw [xe hwx];rfl
  have c1:=gQ ((HX1.out.trans HX3.out).heap H1.out x1);have p2:w3.cell? ⟨b2,9,none⟩=some (.int .i64 (g:Int)):=by rw [xe ((HX1.out.trans HX3.out).heap H2.out x2)];rfl
  have c14:=HR3.out.c14 HO.out;obtain⟨v1,v2,v3,v4⟩:=HR3.out.part hg HPB.out;rw [HPB.out] at c14;have hs:=HR3.out.setP HO.out hg HPB.out (wa,wb);simp only at hs
  have HS:=ab hs;clear hs hwx;go_upto_region 5 with fail
  go_still_tail 8,eA
  change wpList _ _ _ _ _ w3.drew
  go_wp2
  go_ret
  rw [HQ.out];exact⟨rfl,HS.out.1.later (hd2 _),(HB1.out.trans HX3.out).trans (HS.out.2.trans (Fx.below (hd2 _)))⟩
theorem rj {R:Rn} (ok:RnOk R) {y:Rx} (IH:TryC R y) (w:World) (st:Rst) (g k:Nat) (fv:Value) (f:Rk) (cc:List Value) {c:Str} {ng:Bool} {rs:List (Str × Str)} {lo hi:Int} {lz:Bool}
  (hv:PtV w R.S cc (.mk 5 c ng rs lo hi lz [y]) g) (hg:g+(Rx.mk 5 c ng rs lo hi lz [y]).groups≤R.n) (hr:RunI R w st) (hk:k≤R.C.cs.length) (hf:KW R w k fv f) :
  Calls Tryz.prog 183 #[.pointer (some ⟨R.r,0,none⟩),.agg cc.toArray,.int .i64 k,fv] w (iH R (ji R.C [y] (g+1) k (grpK R.C g k f) st) w):=by
 have hff:=hf;obtain⟨j,caps,rfl,_,_⟩:=hff;obtain⟨ra,rc,ka,kn,kc,pa,pc,rfl,hrs,hks,hpc⟩:=hv.open_;simp only [Rx.groups,Rx.groupsL,wU,Nat.add_zero] at hg;obtain⟨W4,hW4⟩:∃W4,W4=(((w.alloc (.cells #[.pointer (some ⟨R.r,0,none⟩)] 140)).alloc (.cells (ptc 5 c ng ra rs.length rc lo hi lz ka kn kc pa [y].length pc g (g+own5 5+Rx.groupsL [y])).toArray 144)).alloc (.cells #[.int .i64 (k:Int)] 3)).alloc (.cells #[.func (.func j) #[] caps] 168):=⟨_,rfl⟩;have hb4:Below w.heap.size w W4:=by rw [hW4];exact((((Below.refl _ _).alloc (wY _) _).alloc eB _).alloc ex _).alloc ex _
 have h1:W4.heap[w.heap.size]?=some (.cells #[.pointer (some ⟨R.r,0,none⟩)] 140 (0,0)):=by
  rw [hW4,Below.heap_alloc _ _ _ ex,Below.heap_alloc _ _ _ ex,Below.heap_alloc _ _ _ eB];exact heap_alloc_new w _
 have h2:W4.heap[w.heap.size+1]?=some (.cells (ptc 5 c ng ra rs.length rc lo hi lz ka kn kc pa [y].length pc g (g+own5 5+Rx.groupsL [y])).toArray 144 (0,0)):=by
  rw [hW4,Below.heap_alloc _ _ _ ex,Below.heap_alloc _ _ _ eB];have:=heap_alloc_new (w.alloc (.cells #[.pointer (some ⟨R.r,0,none⟩)] 140)) (.cells (ptc 5 c ng ra rs.length rc lo hi lz ka kn kc pa [y].length pc g (g+own5 5+Rx.groupsL [y])).toArray 144)
  rw [xG] at this;exact this
 have h3:W4.heap[w.heap.size+1+1]?=some (.cells #[.int .i64 (k:Int)] 3 (0,0)):=by
  rw [hW4,Below.heap_alloc _ _ _ eB];have:=heap_alloc_new ((w.alloc (.cells #[.pointer (some ⟨R.r,0,none⟩)] 140)).alloc (.cells (ptc 5 c ng ra rs.length rc lo hi lz ka kn kc pa [y].length pc g (g+own5 5+Rx.groupsL [y])).toArray 144)) (.cells #[.int .i64 (k:Int)] 3)
  rw [xG,xG] at this;exact this
 have h4:W4.heap[w.heap.size+1+1+1]?=some (.cells #[.func (.func j) #[] caps] 168 (0,0)):=by
  rw [hW4];have:=heap_alloc_new (((w.alloc (.cells #[.pointer (some ⟨R.r,0,none⟩)] 140)).alloc (.cells (ptc 5 c ng ra rs.length rc lo hi lz ka kn kc pa [y].length pc g (g+own5 5+Rx.groupsL [y])).toArray 144)).alloc (.cells #[.int .i64 (k:Int)] 3)) (.cells #[.func (.func j) #[] caps] 168)
  rw [xG,xG,xG] at this;exact this
 have hK:=grpW ok h1 h2 h3 h4 (ii hr (wY _)) (ii hr eu) (ii hr eu) (ii hr eu) eu hk (hf.later (Fx.below hb4) (wY _));obtain⟨b,o,cy,hpa,hSb,hlt,hvy,hcy,_⟩:=(hks.later hb4).head;have hdr:Below W4.heap.size W4 W4.drew:=(Below.refl _ _).drew;have hC:=IH W4.drew st (g+1) k _ _ cy (hvy.later hdr) eu ((hr.later hb4).later hdr) hk (hK.later (Fx.below hdr) (wY _));obtain⟨kd,ch,ng',rs',lo',hi',lz',xs⟩:=y;obtain⟨ra',rc',ka',kn',kc',pa',pc',rfl,_,_,_⟩:=hvy.open_;obtain⟨c0,c1,c2,c3,c4,c5,c6,c7,c8,c9,c10⟩:=gZ hcy;have d1:=gQ h1;have d3:=gQ h3;have d2:W4.cell? ⟨w.heap.size+1,8,none⟩=some (.slice pa 1 pc):=by rw [xe h2];rfl
 rw [hpa] at d2;have HC:=ab hC;have HB:=ab (Fx.below (R:=R) (hb4.trans (hdr.mono hb4.size)));have HM:Hid (ji R.C [.mk kd ch ng' rs' lo' hi' lz' xs] (g+1) k (grpK R.C g k f) st=tryM R.C (.mk kd ch ng' rs' lo' hi' lz' xs) (g+1) k (grpK R.C g k f) st):=ab (by conv=>lhs;unfold ji);rw [HM.out];have HW:=ab hW4;clear hC hf hks hr ok hb4 hW4 IH h1 h2 h3 h4 hv hcy hK hdr HM hSb hrs hvy hpa;simp only [xg,xR,Nat.zero_add] at HW ⊢;unfold ptc at HC HW ⊢;generalize g+own5 5+Rx.groupsL [.mk kd ch ng' rs' lo' hi' lz' xs]=gh at HW ⊢
 go_enter Tryz.func183,Tryz.ntmps183
 go_upto_region 1 with fail
 rw [←HW.out];clear HW;go_still_tail 7,eA
 change wpList _ _ _ _ _ W4.drew
 exact cH
theorem rh {P:Program} (w:World) (dT sT ty elem:TypeId) (size b o dLen dCap:Nat) (a:Addr) (sLen sCap:Nat) (cs:List Value)
  (hu:P.underlying dT=some (.slice elem)) (hs:(P.info? elem).map (·.size)=some size) (hn:cs.length=Nat.min sLen dLen*size)
  (hsrc:∀j v,cs[j]?=some v→w.cell? (a.add j)=some v) (hc:∀j,j<cs.length→(w.cell? ⟨b,o+j,none⟩).isSome=true) (hf:∀j,j<cs.length→w.frozen? ⟨b,o+j,none⟩=false) (h1:∀v∈cs,v.oneCell'=true) :
  (Builtin.copy_ #[dT,sT] ty #[.slice (some ⟨b,o,none⟩) dLen dCap,.slice (some a) sLen sCap]).run P w=.ok (goInt (Nat.min sLen dLen)) (w.setCells b o cs):=by
 have hl:=run_loadCells_list (P:=P) w a cs hsrc;have hst:=run_storeCells_cells (P:=P) b o cs 0 w (by simpa using hc) (by simpa using hf) h1;cases hq:P.info? elem with
 | none=>simp [hq] at hs
 | some i =>
  have hi:i.size=size:=by simpa [hq] using hs
  simp [Builtin.copy_,run_underlying hu,Builtin.lenOf,Builtin.firstCells,sizeOf,typeInfo,hq,hi,←hn,hl,hst]
theorem vM {P:Program} (w:World) (dT sT ty elem:TypeId) (size:Nat) (d a:Option Addr) (dCap sCap:Nat) (hu:P.underlying dT=some (.slice elem)) (hs:(P.info? elem).map (·.size)=some size) :
  (Builtin.copy_ #[dT,sT] ty #[.slice d 0 dCap,.slice a 0 sCap]).run P w=.ok (goInt 0) w:=by
 cases hq:P.info? elem with
 | none=>simp [hq] at hs
 | some i =>
  have hl:∀(x:Addr),(loadCells x 0).run P w=.ok #[] w:=fun x=>by simpa using run_loadCells_list (P:=P) w x [] eB
  cases d<;>cases a<;>simp [Builtin.copy_,run_underlying hu,Builtin.lenOf,Builtin.firstCells,sizeOf,typeInfo,hq,storeCells,hl]
theorem qH {P:Program} {w:World} {ops:Array Oper} {rest:List Oper} {o:Oper} {a:Act} {Q:Exit→Act→World→Prop} (hgd:o.guard=none) (d s:Operand) (t t':TypeId)
  (ho:o.op=.call { callee:=.builtin .copy,args:=#[d,s],argTypes:=#[t,t'] }) (v u:Value) (hd:a.eval d=v) (hs:a.eval s=u) {v':Value} {w':World}
  (hr:(Builtin.copy_ #[t,t'] o.type #[v,u]).run P w=.ok v' w') (h:wpList P ops Q rest (a.put o.dst v') w'):wpList P ops Q (o::rest) a w:=by
 refine wpList_plain hgd fun K hK=>?_
 unfold Oper.wp;simp [execOp,ho,resolve,invoke,builtin,hd,hs,hr,Result.andThen]
 exact hK _ _ h
theorem my:(Tryz.prog.info? 69).map (·.size)=some 2:=by kernel_rfl
theorem ow:(Tryz.prog.info? 69).map (fun i=>(i.zero,i.size,i.bytes))=some (some (.agg #[.int .i64 0,.int .i64 0]),2,16):=by kernel_rfl
theorem lF (ps:List (Int × Int)):∀u∈gV ps,u.oneCell'=true:=fun u hu=>by
 simp only [gV,List.mem_flatMap,xo,xC,or_false] at hu;obtain⟨_,_,rfl|rfl⟩:=hu<;>rfl
theorem rE (ps was:List (Int × Int)) (lo:Nat):lP ps was lo lo=ps:=by
 simp [lP]
structure PSl (R:Rn) (lo hi:Nat) (a':Option Addr) (c':Nat):Prop where
 sl:∀w':World,(Instr.sliceAt 70 (.slice R.pa R.n R.pc) (some (.int .i64 (lo:Int))) (some (.int .i64 (hi:Int))) none).run Tryz.prog w'=.ok (.slice a' (hi-lo) c') w'
 rd:∀(w':World) (st':Rst),RunI R w' st'→Sl w' w'.heap.size a' 2 (hi-lo) (gV ((st'.ps.take hi).drop lo))
 nn:∀(w':World) (st':Rst),RunI R w' st'→Calls Tryz.prog 157 #[.slice a' (hi-lo) c'] w' fun e w2=>e=.returned (.tuple #[])∧RunI R w2 { st' with ps:=iJ st'.ps lo hi }∧Fx R w' w2
 cp:∀(w':World) (st':Rst) (was:List (Int × Int)) (sa:Option Addr) (sc ty:Nat),RunI R w' st'→was.length=R.n→Sl w' w'.heap.size sa 2 (hi-lo) (gV ((was.take hi).drop lo)) →
  ∃w2,(Builtin.copy_ #[70,70] ty #[.slice a' (hi-lo) c',.slice sa (hi-lo) sc]).run Tryz.prog w'=.ok (goInt (hi-lo:Nat)) w2∧RunI R w2 { st' with ps:=lP st'.ps was lo hi }∧Fx R w' w2
theorem tl (a':Option Addr) (c':Nat) (w:World):Calls Tryz.prog 157 #[.slice a' 0 c'] w fun e w2=>e=.returned (.tuple #[])∧w=w2:=by
 go_enter Tryz.func157,Tryz.ntmps157
 go_wp2
 go_loopw [5] (fun q wr=>q=.int .i64 0∧wr=w) (fun q _=>0)
 case atStart=>exact⟨rfl,rfl⟩
 case round =>
  exact cR
theorem psl {R:Rn} (ok:RnOk R) {w:World} {st:Rst} (h:RunI R w st) {lo hi:Nat} (h1:lo≤hi) (h2:hi≤R.n):∃a' c',PSl R lo hi a' c':=by
 have hnc:R.n≤R.pc:=by
  rcases h.ps.2 with⟨hv,h0⟩|⟨g,cap,cur,hv,_,_,hnc,_⟩
  ·omega
  ·injection hv with _ _ hv;omega
 rcases Nat.eq_or_lt_of_le h1 with e|hlt
 ·subst e
  refine⟨if R.pc=lo then R.pa else R.pa.map (·.add (lo*2)),R.pc-lo,fun w'=>?_,fun w' st' hr=>?_,fun w' st' hr=>?_,fun w' st' was sa sc ty hr hl hs=>?_⟩
  ·go_simp
   intro h;omega
  ·rw [show lo-lo=0 by omega,List.drop_take,show lo-lo=0 by omega,List.take_zero];exact Sl.none_ _ _ _ _
  ·rw [show lo-lo=0 by omega,lX]
   exact(tl _ _ w').mono fun e w2 ⟨e1,e2⟩=>by subst e2;exact⟨e1,hr,Gx.refl _ _⟩
  ·rw [show lo-lo=0 by omega,rE]
   exact⟨w',vM w' _ _ ty _ 2 _ _ _ _ Tryz.underlying70 my,hr,Gx.refl _ _⟩
 ·obtain⟨b,hb⟩:=h.row eu
  refine⟨some ⟨b,lo*2,none⟩,R.pc-lo,fun w'=>?_,fun w' st' hr=>?_,fun w' st' hr=>?_,fun w' st' was sa sc ty hr hl hs=>?_⟩
  ·rw [hb]
   have:R.pc≠lo:=eu
   go_simp
   intro h;omega
  ·have hps:=hr.ps
   have hlen:=hr.len;unfold Rn.pv at hps;rw [hb] at hps;refine⟨by rw [ik,xN,xF];omega,fun _=>⟨b,lo*2,rfl,(hps.lt b rfl).2,fun j u hj=>?_⟩⟩;have e1:gV st'.ps=gV (st'.ps.take lo)++(gV ((st'.ps.take hi).drop lo)++gV (st'.ps.drop hi)):=by
    rw [←iR,←iR];congr 1;rw [List.drop_take,←xU];conv=>lhs;rw [←List.take_append_drop hi st'.ps]
    congr 1
    rw [←List.take_add,show lo+(hi-lo)=hi by omega]
   have hjl:=(wZ.1 hj).1;have hlo:(gV (st'.ps.take lo)).length=lo*2:=by rw [ik,xF];omega
   have hjl2:=hjl;rw [ik,xN,xF] at hjl2;rw [hps.cellAt _ eu,e1,xx eu,hlo,Nat.add_sub_cancel_left,xp hjl];exact hj
  ·exact none_any ok hr b lo hi _ hb h1 h2
  ·have hps:=hr.ps
   have hlen:=hr.len;unfold Rn.pv at hps;rw [hb] at hps;obtain⟨sb,so,rfl,hsb,hsc⟩:=hs.2 eu;have hcl:=hs.1;have hpb:R.pv.ownBlock=some b:=by unfold Rn.pv;rw [hb];rfl
   have hrun:=rh (P:=Tryz.prog) w' 70 70 ty 69 2 b (lo*2) (hi-lo) (R.pc-lo) ⟨sb,so,none⟩ (hi-lo) sc (gV ((was.take hi).drop lo)) Tryz.underlying70 my (by rw [hcl];simp)
    (fun j v hj=>by
     have hadd:(⟨sb,so,none⟩:Addr).add j=⟨sb,so+j,none⟩:=by unfold Addr.add;split<;>simp_all
     rw [hadd];exact hsc j v hj)
    (fun j hj=>by rw [hps.cellAt _ eu,wW (by rw [ik];omega)];rfl)
    (fun j hj=>hps.frozenAt _) (lF _)
   have hset:=pM (gV ((was.take hi).drop lo)) (gV ((st'.ps.take hi).drop lo)) (gV (st'.ps.take lo)) (gV (st'.ps.drop hi)) (w:=w') (B:=R.B) (e:=69) (sz:=2) (n:=R.n) (g:=b) (cap:=R.pc) (by
     rw [←iR,←iR];have e:st'.ps.take lo++((st'.ps.take hi).drop lo++st'.ps.drop hi)=st'.ps:=by
      rw [List.drop_take,←xU,←List.take_add,show lo+(hi-lo)=hi by omega,List.take_append_drop]
     rw [e];exact hps) (by rw [ik,ik];simp only [xN,xF];omega)
   have hlo:(gV (st'.ps.take lo)).length=lo*2:=by rw [ik,xF];omega
   rw [hlo,←iR,←iR,←xU] at hset;have hfx:Fx R w' (w'.setCells b (lo*2) (gV ((was.take hi).drop lo))):=Gx.sets (X:=R.X) (.inr (.inr hpb)) _ _ _;have hk:=Fx.kept ok hfx;have hfx2:Gx (fun k=>k=b) w' (w'.setCells b (lo*2) (gV ((was.take hi).drop lo))):=Gx.sets (X:=fun k=>k=b) rfl _ _ _;refine⟨_,by rw [hrun];simp,⟨?_,?_,?_,hr.ch.keep hk,hr.of.keep hk,hr.fu⟩,hfx⟩
   ·exact Gx.heap hfx2 hr.box (fun e=>ok.pr (by rw [hpb,e]))
   ·exact Gx.heap hfx2 hr.tb (fun e=>ok.pt (by rw [hpb,e]))
   ·unfold Rn.pv;rw [hb];exact hset
def AgC (R:Rn) (y:Rx) (c:Str) (ng:Bool) (rs:List (Str × Str)) (lo hi:Int) (lz:Bool) (N:Nat):Prop :=
 ∀(w:World) (st:Rst) (g k times:Nat) (fv:Value) (f:Rk) (cc:List Value),PtV w R.S cc (.mk 7 c ng rs lo hi lz [y]) g→g+Rx.groupsL [y]≤R.n→RunI R w st→k≤R.C.cs.length→KW R w k fv f →
  (R.C.cs.length-k)+(lo.toNat-times)<N→times+N≤2000000 →
  Calls Tryz.prog 181 #[.pointer (some ⟨R.r,0,none⟩),.agg cc.toArray,.int .i64 k,.int .i64 times,fv] w (iH R (jz (fun k f st=>ji R.C [y] g k f st) lo hi lz g (g+Rx.groupsL [y]) f N k times st) w)
theorem againW {R:Rn} (ok:RnOk R) {y:Rx} {c:Str} {ng:Bool} {rs:List (Str × Str)} {lo hi:Int} {lz:Bool} {N:Nat} (IH:AgC R y c ng rs lo hi lz N) {w0:World} {b1 b2 b3 b4 b5 g k times:Nat} {fv:Value} {f:Rk} {cc:List Value}
  (h1:w0.heap[b1]?=some (.cells #[.pointer (some ⟨R.r,0,none⟩)] 140 (0,0))) (h2:w0.heap[b2]?=some (.cells cc.toArray 144 (0,0)))
  (h3:w0.heap[b3]?=some (.cells #[.int .i64 (k:Int)] 3 (0,0))) (h4:w0.heap[b4]?=some (.cells #[.int .i64 (times:Int)] 3 (0,0))) (h5:w0.heap[b5]?=some (.cells #[fv] 168 (0,0)))
  (x1:¬R.X b1) (x2:¬R.X b2) (x3:¬R.X b3) (x4:¬R.X b4) (x5:¬R.X b5) (hv:PtV w0 R.S cc (.mk 7 c ng rs lo hi lz [y]) g) (hg:g+Rx.groupsL [y]≤R.n) (hkn:k≤R.C.cs.length) (hf:KW R w0 k fv f)
  (hl:0≤lo∧lo≤255) (hN:(R.C.cs.length-k)+(lo.toNat-times)<N+1) (hT:times+(N+1)≤2000000) :
  KW R w0 k (.func (.func 199) #[] #[.pointer (some ⟨b3,0,none⟩),.pointer (some ⟨b4,0,none⟩),.pointer (some ⟨b2,0,none⟩),.pointer (some ⟨b1,0,none⟩),.pointer (some ⟨b5,0,none⟩)])
   (fun e s2=>if k<e∨(times:Int)<lo then jz (fun k f st=>ji R.C [y] g k f st) lo hi lz g (g+Rx.groupsL [y]) f N e (times+1) s2 else(false,s2)):=by
 refine⟨_,_,rfl,enters_of Tryz.func199 eA rfl,fun w st e hx hr hk he=>?_⟩;have hff:=hf;obtain⟨j,caps,rfl,_,_⟩:=hff;have c1:=gQ (hx.heap h1 x1);have c3:=gQ (hx.heap h3 x3);have c4:=gQ (hx.heap h4 x4);have c5:=gQ (hx.heap h5 x5);have hcc:=iD (hx.heap h2 x2);have hvw:=hv.keep (Fx.kept ok hx);have hcs:=ok.cs;by_cases hyes:k<e∨(times:Int)<lo
 ·have hC:=IH w st g e (times+1) _ f cc hvw hg hr he (hf.later hx hk) eu eu
  have HQ:Hid ((if k<e∨(times:Int)<lo then jz (fun k f st=>ji R.C [y] g k f st) lo hi lz g (g+Rx.groupsL [y]) f N e (times+1) st else(false,st))=jz (fun k f st=>ji R.C [y] g k f st) lo hi lz g (g+Rx.groupsL [y]) f N e (times+1) st):=ab (wU hyes);obtain⟨ra,rc,ka,kn,kc,pa,pc,rfl,_,_,_⟩:=hvw.open_;obtain⟨p0,p1,p2,p3,p4,p5,p6,p7,p8,p9,p10⟩:=gZ hcc;have HC:=ab hC;simp only [Nat.zero_add] at p1 p2 p3 p4 p5 p6 p7 p8 p9 p10;unfold ptc at HC;show Calls Tryz.prog 199 _ w _
  simp only
  rw [HQ.out];by_cases hke:k<e
  ·clear hC IH hf hv hvw hx hr ok h1 h2 h3 h4 h5 hcc hyes HQ hN
   exact bD
  ·have hte:(times:Int)<lo:=eu
   have hek:e=k:=eu;subst hek;clear hC IH hf hv hvw hx hr ok h1 h2 h3 h4 h5 hcc hyes HQ hN hk hke;exact bD
 ·have HQ:Hid ((if k<e∨(times:Int)<lo then jz (fun k f st=>ji R.C [y] g k f st) lo hi lz g (g+Rx.groupsL [y]) f N e (times+1) st else(false,st))=(false,st)):=ab (wX hyes)
  obtain⟨ra,rc,ka,kn,kc,pa,pc,rfl,_,_,_⟩:=hvw.open_;obtain⟨p0,p1,p2,p3,p4,p5,p6,p7,p8,p9,p10⟩:=gZ hcc;simp only [Nat.zero_add] at p1 p2 p3 p4 p5 p6 p7 p8 p9 p10;have hek:e=k:=eu;have hte:¬(times:Int)<lo:=eu;have HR:=ab hr;subst hek;show Calls Tryz.prog 199 _ w _
  simp only
  rw [HQ.out];clear IH hf hv hvw hx hr ok h1 h2 h3 h4 h5 hcc hyes HQ hN hk;show Calls Tryz.prog 199 #[.int .i64 (e:Int),.pointer (some ⟨b3,0,none⟩),.pointer (some ⟨b4,0,none⟩),.pointer (some ⟨b2,0,none⟩),.pointer (some ⟨b1,0,none⟩),.pointer (some ⟨b5,0,none⟩)] w _
  go_enter Tryz.func199,Tryz.ntmps199
  go_wp2
  go_ret
  exact⟨rfl,HR.out,Gx.refl _ _⟩
end Go.Proofs.YtbnkaecmgfolpaaGreat
