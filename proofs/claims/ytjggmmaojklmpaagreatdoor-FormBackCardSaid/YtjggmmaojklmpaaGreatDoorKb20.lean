/- What a format is told as, told plainly; it is read again. -/
import Derived.Test.YtjggmmaojklmpaaGreatDoorKb19
import Derived.Test.YtjggmmaojklmpaaGreatDoorKb18
import Derived.Deep.RegionHeld3
import Derived.Deep.DrawnRows
import Derived.Deep.AppendLies
set_option maxRecDepth 100000
set_option maxHeartbeats 4000000
namespace Go.Proofs.YtjggmmaojklmpaaGreatDoor
def quot (these:Str):Str→Str
 | []=>[]
 | c::r=>(if these.contains c=true then [92,c] else [c])++quot these r
theorem mg (these:Str):∀l:Str,(quot these l).length≤2*l.length
 | []=>by simp [quot]
 | c::r=>by
  have:=mg these r
  simp only [quot,DE,Dx];split<;>simp<;>omega
def lH (f:Fm):Str :=
 if f.kind=0 then quot four f.thn
 else if f.kind=1 then 36::123::(dec f.n++[125])
 else if f.kind=2 then 36::123::(dec f.n++58::47::(lv f.cse++[125]))
 else if f.kind=3 then 36::123::(dec f.n++58::43::(quot five f.thn++[125]))
 else if f.kind=4 then 36::123::(dec f.n++58::45::(quot five f.els++[125]))
 else 36::123::(dec f.n++58::63::(quot five f.thn++58::(quot five f.els++[125])))
def lQ (fs:List Fm):Str:=fs.flatMap lH
open Go.RowKit
def QuRel (th l:Str) (g:Nat) (w0:World) (R:Str) (q:Value) (wr:World):Prop :=
 ∃(i:Nat) (acc:Str),i≤l.length∧q=.int .i64 i∧Bld w0.heap.size g acc wr∧Below w0.heap.size w0 wr∧acc.length≤2*i∧Hid (acc++quot th (l.drop i)=R)
theorem l9 (l th:Str) (w:World) (hs:l.length≤1000000) :
  Calls Tryz.prog 34 #[.string ⟨l.toArray⟩,.string ⟨th.toArray⟩] w fun e w'=>e=.returned (.string ⟨(quot th l).toArray⟩)∧Below w.heap.size w w':=by
 generalize hR:quot th l=R
 have HR:=ab hR;clear hR;have HR0:Hid ([]++quot th (l.drop 0)=R):=HR;clear HR;go_enter Tryz.func34,Tryz.ntmps34
 go_wp2
 go_loopw [6] (fun q wr=>QuRel th l w.heap.size w R q wr) (fun q _=>l.length-(intOf q).toNat)
 case atStart=>exact⟨0,[],by omega,rfl,Bld.fresh _ _ (Dv _),(Below.refl _ _).alloc (Dv _) _,by simp,HR0⟩
 case round =>
  obtain⟨i,acc,hi,rfl,hbl,hb,hacc,HF⟩:=hrel;clear HR0;have hB:=hb.size;cases hd:l.drop i with
  | nil =>
   have h2:=kN hd;have HF':Hid (acc=R):=ab (by rw [←HF.out,hd];simp [quot]);clear hd HF;go_wp2_with (go_at_call 25;refine(nw _ _ _ _ hbl hB).mono ?_;rintro e w1 ⟨rfl,hb1⟩)
   go_ret
   exact⟨kQ HF'.out,hb.trans hb1⟩
  | cons c r =>
   obtain⟨h2,h3,hr⟩:=kh hd;have HF':Hid (acc++((if th.contains c=true then [92,c] else [c])++quot th r)=R):=ab gC;have Hr:=ab hr;have hc256:=po c;clear hd HF hr;by_cases hc:th.contains c=true
   ·obtain⟨k,hk⟩:=Ci hc
    have HK:=ab hk;have HC:=ab hc;clear hk hc;go_wp2_with (first|(go_at_call 28;refine(kB _ HK.out).mono ?_;rintro e w1 ⟨rfl,rfl⟩)|(go_at_call 46;refine(jW w.heap.size _ (acc) (92) _ hbl gP fR fR fR).mono ?_))
    rintro e w2 ⟨rfl,hbl2,hfr2⟩;have hb2:=hb.trans (hfr2.below hB fX);have hB2:=hb2.size;go_wp2_with (go_at_call 46;refine(jW w.heap.size _ (acc++[92]) ((c.toNat:Int)) _ hbl2 gP fR fR fR).mono ?_)
    rintro e w3 ⟨rfl,hbl3,hfr3⟩;go_wp2_with fail
    go_roundw
    case rel =>
     refine⟨i+1,acc++[92,c],by omega,by go_num,?_,hb2.trans (hfr3.below hB2 fX),by simp;omega,ab ?_⟩
     ·simpa using hbl3
     ·rw [Hr.out,←HF'.out,Dr HC.out];simp
    case measure=>simp [intOf];omega
   ·have hk:=zB hc
    have HK:=ab hk;have HC:=ab hc;clear hk hc;go_wp2_with (first|(go_at_call 28;refine(kB _ HK.out).mono ?_;rintro e w1 ⟨rfl,rfl⟩)|(go_at_call 46;refine(jW w.heap.size _ (acc) ((c.toNat:Int)) _ hbl gP fR fR fR).mono ?_))
    rintro e w2 ⟨rfl,hbl2,hfr2⟩;go_wp2_with fail
    go_roundw
    case rel =>
     refine⟨i+1,acc++[c],by omega,by go_num,?_,hb.trans (hfr2.below hB fX),by simp;omega,ab ?_⟩
     ·simpa using hbl2
     ·rw [Hr.out,←HF'.out,Du HC.out];simp
    case measure=>simp [intOf];omega
open Go.RowKit
attribute [local go_sem ↓] Go.wp_at_zero Go.wp_at_succ
theorem wR (l th:Str) (w:World) (hs:l.length≤1000000) :
  Calls Tryz.prog 34 #[.string ⟨l.toArray⟩,.string ⟨th.toArray⟩] w fun e w'=>e=.returned (.string ⟨(quot th l).toArray⟩)∧Below w.heap.size w w'∧∀a u,w.cell? a=some u→w'.cell? a=some u :=
 (l9 l th w hs).mono fun _ _ ⟨h1,h2⟩=>⟨h1,h2,jH h2⟩
def ShRel (fs:List Fm) (g m:Nat) (w:World) (R:Str) (q:Value) (wr:World):Prop :=
 ∃(k:Nat) (acc:Str),k≤fs.length∧q=.int .i64 k∧Bld w.heap.size g acc wr∧Below w.heap.size w wr∧Hid (acc.length≤k*m)∧Hid (acc++lQ (fs.drop k)=R)
theorem wN {f:Fm} {m:Nat} (hm:mayF f=true) (h1:f.thn.length≤m) (h2:f.els.length≤m):(lH f).length≤4*m+20:=by
 exact cP
set_option maxRecDepth 100000 in
theorem Show_any (a:Option Addr) (c m:Nat) (fs:List Fm) (w:World) (h:Sl w w.heap.size a 5 fs.length (kT fs)) (ht:Tab w)
  (hf:∀f∈fs,f.thn.length≤m∧f.els.length≤m) (hm:m≤10000) (hn:fs.length≤1000) (hmay:oW fs=true) :
  Calls Tryz.prog 17 #[.slice a fs.length c] w fun e w'=>e=.returned (.tuple #[.string ⟨(lQ fs).toArray⟩,.int .i64 0])∧Below w.heap.size w w':=by
 have HSl:=ab h;have HT:=ab ht;obtain⟨R,hR⟩:∃R,R=lQ fs:=⟨_,rfl⟩;rw [←hR];have HR:=ab hR;have HF:=ab hf;have HM:=ab (pR _ _ hmay);clear hR hf h ht;go_enter Tryz.func17,Tryz.ntmps17
 go_wp2_with (go_at_call 21;refine(tS _ _ _ fs _ HSl.out fR).mono ?_;rintro e w0 ⟨rfl,hb0⟩)
 have hB0:=hb0.size;go_loopw [15] (fun q wr=>ShRel fs w0.heap.size (4*m+20) w R q wr) (fun q _=>fs.length-(intOf q).toNat)
 case atStart=>exact dW
 case round =>
  obtain⟨k,acc,hk,rfl,hbl,hb,HL,HRR⟩:=hrel;clear HR;have hB:=hb.size;have hacc:acc.length≤50000000:=Dz HL.out (Dz (Nat.mul_le_mul (show k≤1000 by omega) (show 4*m+20≤40020 by omega)) fU);cases hd:fs.drop k with
  | nil =>
   have h2:fs.length≤k:=gm;have HR:Hid (R=acc):=ab jl;clear hd HRR;go_wp2_with (go_at_call 25;refine(nw _ _ _ _ hbl hB).mono ?_;rintro e w1 ⟨rfl,hb1⟩)
   go_ret2
   exact⟨by rw [HR.out];rfl,hb.trans hb1⟩
  | cons f r =>
   obtain⟨h2,h3,hr⟩:=jO hd;have HR:Hid (R=acc++(lH f++lQ r)):=ab jl;have Hr:=ab hr;have hmem:=DL h3;have hmf:=HM.out f hmem;obtain⟨b,o,rfl,hbB,c0,c1,c2,c3,c4⟩:=(HSl.out.keep hb).fm h3;obtain⟨z1,z2⟩:=HF.out f hmem;have HPL:=ab (wN hmf z1 z2);obtain⟨n0,n1⟩:=yi hmf;have hkind:=sk hmf;clear hd HRR hr h3 hmem hmf;obtain⟨kind,fn,cse,thn,els⟩:=f;replace z1:thn.length≤m:=z1;replace z2:els.length≤m:=z2;replace n0:0≤fn:=n0;replace n1:fn≤9999:=n1;obtain⟨d0,d1⟩:=nJ n0 n1;have HKI:=ab hkind;clear hkind;have htw:Tab (wr.alloc (.cells #[.int .i64 kind,.int .i64 fn,.int .i64 cse,.string ⟨thn.toArray⟩,.string ⟨els.toArray⟩] 60)):=HT.out.keep ((hb.mono (Dv _)).alloc hB _);have HTW:=ab htw;clear htw;go_wp2_with (go_at_call 33;refine(rl fn _ n0 fR HTW.out).mono ?_)
   first|rintro e w1 rfl hb1|rintro e w1 ⟨rfl,hb1⟩
   have z0:w1.cell? ⟨wr.heap.size,0,none⟩=some (.int .i64 kind):=oU hb1 fX fX;have z3:w1.cell? ⟨wr.heap.size,2,none⟩=some (.int .i64 cse):=oU hb1 fX fX;have z4:w1.cell? ⟨wr.heap.size,3,none⟩=some (.string ⟨thn.toArray⟩):=oU hb1 fX fX;have z5:w1.cell? ⟨wr.heap.size,4,none⟩=some (.string ⟨els.toArray⟩):=oU hb1 fX fX;go_wp2
   go_region_held3 (fun w'=>w'.cell? ⟨wr.heap.size,0,none⟩=some (.int .i64 kind)∧w'.cell? ⟨wr.heap.size,2,none⟩=some (.int .i64 cse)∧w'.cell? ⟨wr.heap.size,3,none⟩=some (.string ⟨thn.toArray⟩)∧w'.cell? ⟨wr.heap.size,4,none⟩=some (.string ⟨els.toArray⟩)) (go_keep)
    (first|(go_at_call 34;refine(wR _ _ _ fR).mono ?_;rintro e w2 ⟨rfl,hb2,hc2⟩))
   rename_i wa hba hca hheld
   obtain⟨y0,y2,y3,y4⟩:=hheld;have hbl1:Bld w.heap.size w0.heap.size acc w1:=(hbl.alloc _).below (hb1.mono fX);have hbl2:Bld w.heap.size w0.heap.size acc w2:=(Bld.below (w:=w1.drew) hbl1 hba).below hb2;have hbw1:Below w.heap.size w w1:=(hb.alloc hB _).trans (hb1.mono fR);have hz1:=hbw1.size;have hbwa:Below w.heap.size w wa:=(hbw1.drew).trans (hba.mono hz1);have hza:=hbwa.size;have hbw2:Below w.heap.size w w2:=hbwa.trans (hb2.mono hza);have hz2:=hbw2.size;have hg2:=hbl2.le;have HC:=ab hca;have HC2:=ab hc2;clear hca hc2 hbl1 hba hb2 hb1 z0 z3 z4 z5 c0 c1 c2 c3 c4;have hkind:=HKI.out;have q4:=mg [36,125,92,47] thn;have q5:=mg [36,125,92,47,58] thn;have q6:=mg [36,125,92,47,58] els;have q7:=nP cse;rcases hkind with hkind|hkind|hkind|hkind|hkind|hkind
   ·subst hkind
    go_wp2_with (first|(go_at_call 34;refine(l9 _ _ _ fR).mono ?_;rintro e w3 ⟨rfl,hb3⟩;have hbl3:=hbl2.below hb3;have hz3:=hb3.size)|(go_at_call 36;refine(mE _ _).mono ?_;rintro e w3 ⟨rfl,hb3⟩;have hbl3:=hbl2.below hb3;have hz3:=hb3.size)|(go_at_call 35;refine(jU w.heap.size _ acc _ _ ij fR gf fR).mono ?_))
    first|rintro e w4 rfl hbl4 hfr4|rintro e w4 ⟨rfl,hbl4,hfr4⟩
    go_wp2_with fail
    go_roundw
    case rel =>
     refine⟨k+1,acc++lH ⟨0,fn,cse,thn,els⟩,by omega,by go_num,?_,?_,ab ?_,ab ?_⟩
     ·exact cW
     ·exact bn
     ·exact bi
     ·exact dk
    case measure=>simp [intOf];omega
   ·subst hkind
    go_wp2_with (first|(go_at_call 34;refine(l9 _ _ _ fR).mono ?_;rintro e w3 ⟨rfl,hb3⟩;have hbl3:=hbl2.below hb3;have hz3:=hb3.size)|(go_at_call 36;refine(mE _ _).mono ?_;rintro e w3 ⟨rfl,hb3⟩;have hbl3:=hbl2.below hb3;have hz3:=hb3.size)|(go_at_call 35;refine(jU w.heap.size _ acc _ _ ij fR gf fR).mono ?_))
    first|rintro e w4 rfl hbl4 hfr4|rintro e w4 ⟨rfl,hbl4,hfr4⟩
    go_wp2_with fail
    go_roundw
    case rel =>
     refine⟨k+1,acc++lH ⟨1,fn,cse,thn,els⟩,by omega,by go_num,?_,?_,ab ?_,ab ?_⟩
     ·exact cW
     ·exact bn
     ·exact bi
     ·exact dk
    case measure=>simp [intOf];omega
   ·subst hkind
    go_wp2_with (first|(go_at_call 34;refine(l9 _ _ _ fR).mono ?_;rintro e w3 ⟨rfl,hb3⟩;have hbl3:=hbl2.below hb3;have hz3:=hb3.size)|(go_at_call 36;refine(mE _ _).mono ?_;rintro e w3 ⟨rfl,hb3⟩;have hbl3:=hbl2.below hb3;have hz3:=hb3.size)|(go_at_call 35;refine(jU w.heap.size _ acc _ _ ij fR gf fR).mono ?_))
    first|rintro e w4 rfl hbl4 hfr4|rintro e w4 ⟨rfl,hbl4,hfr4⟩
    go_wp2_with fail
    go_roundw
    case rel =>
     refine⟨k+1,acc++lH ⟨2,fn,cse,thn,els⟩,by omega,by go_num,?_,?_,ab ?_,ab ?_⟩
     ·exact cW
     ·exact bn
     ·exact bi
     ·exact dk
    case measure=>simp [intOf];omega
   ·subst hkind
    go_wp2_with (first|(go_at_call 34;refine(l9 _ _ _ fR).mono ?_;rintro e w3 ⟨rfl,hb3⟩;have hbl3:=hbl2.below hb3;have hz3:=hb3.size)|(go_at_call 36;refine(mE _ _).mono ?_;rintro e w3 ⟨rfl,hb3⟩;have hbl3:=hbl2.below hb3;have hz3:=hb3.size)|(go_at_call 35;refine(jU w.heap.size _ acc _ _ ij fR gf fR).mono ?_))
    first|rintro e w4 rfl hbl4 hfr4|rintro e w4 ⟨rfl,hbl4,hfr4⟩
    go_wp2_with fail
    go_roundw
    case rel =>
     refine⟨k+1,acc++lH ⟨3,fn,cse,thn,els⟩,by omega,by go_num,?_,?_,ab ?_,ab ?_⟩
     ·exact cW
     ·exact bn
     ·exact bi
     ·exact dk
    case measure=>simp [intOf];omega
   ·subst hkind
    go_wp2_with (first|(go_at_call 34;refine(l9 _ _ _ fR).mono ?_;rintro e w3 ⟨rfl,hb3⟩;have hbl3:=hbl2.below hb3;have hz3:=hb3.size)|(go_at_call 36;refine(mE _ _).mono ?_;rintro e w3 ⟨rfl,hb3⟩;have hbl3:=hbl2.below hb3;have hz3:=hb3.size)|(go_at_call 35;refine(jU w.heap.size _ acc _ _ ij fR gf fR).mono ?_))
    first|rintro e w4 rfl hbl4 hfr4|rintro e w4 ⟨rfl,hbl4,hfr4⟩
    go_wp2_with fail
    go_roundw
    case rel =>
     refine⟨k+1,acc++lH ⟨4,fn,cse,thn,els⟩,by omega,by go_num,?_,?_,ab ?_,ab ?_⟩
     ·exact cW
     ·exact bn
     ·exact bi
     ·exact dk
    case measure=>simp [intOf];omega
   ·subst hkind
    go_wp2_with (first|(go_at_call 34;refine(l9 _ _ _ fR).mono ?_;rintro e w3 ⟨rfl,hb3⟩;have hbl3:=hbl2.below hb3;have hz3:=hb3.size)|(go_at_call 36;refine(mE _ _).mono ?_;rintro e w3 ⟨rfl,hb3⟩;have hbl3:=hbl2.below hb3;have hz3:=hb3.size)|(go_at_call 35;refine(jU w.heap.size _ acc _ _ ij fR gf fR).mono ?_))
    first|rintro e w4 rfl hbl4 hfr4|rintro e w4 ⟨rfl,hbl4,hfr4⟩
    go_wp2_with fail
    go_roundw
    case rel =>
     refine⟨k+1,acc++lH ⟨5,fn,cse,thn,els⟩,by omega,by go_num,?_,?_,ab ?_,ab ?_⟩
     ·exact cW
     ·exact bn
     ·exact bi
     ·exact dk
    case measure=>simp [intOf];omega
def joinQ:List Str→Str
 | []=>[]
 | [a]=>quot fiveS a
 | a::b::l=>quot fiveS a++44::joinQ (b::l)
def rxZ:Rx→Bool|.mk k c ng rs lo hi lz ks=>decide (k=0)&&(c.isEmpty&&(!ng&&(rs.isEmpty&&(decide (lo=0)&&(decide (hi=0)&&(!lz&&ks.isEmpty))))))
def tfZ (f:Tf):Bool:=rxZ f.rx&&(f.fs.isEmpty&&(!f.fold&&!f.all))
def mP (f:Tf):Bool:=mayB f.rx&&oW f.fs
def un (x:Sn):Bool:=!x.has&&(!x.turned&&(x.kids.isEmpty&&tfZ x.form))
def yX (x:Sn):Bool:=if x.has=true then(if x.turned=true then false else tfZ x.form) else if x.turned=true then x.kids.isEmpty&&mP x.form else un x
def B3 (x:Sn):Bool:=decide (0≤x.n∧x.n≤9999)
def fieldsS (x:Sn):Bool :=
 if x.kind=0 then !x.text.isEmpty&&(decide (x.n=0)&&(x.opts.isEmpty&&un x))
 else if x.kind=1 then x.text.isEmpty&&(B3 x&&(x.opts.isEmpty&&yX x))
 else if x.kind=2 then x.text.isEmpty&&(B3 x&&(!x.opts.isEmpty&&un x))
 else if x.kind=3 then nameB x.text&&(decide (x.n=0)&&(x.opts.isEmpty&&yX x))
 else false
def adjS:Bool→List Sn→Bool
 | _,[]=>true
 | pt,x::r=>!(decide (x.kind=0)&&pt)&&adjS (decide (x.kind=0)) r
namespace Sn
mutual
def wf:Sn→Bool
 | mk k t n h u f o ks=>fieldsS (mk k t n h u f o ks)&&(!h||(adjS false ks&&wfL ks))
def wfL:List Sn→Bool
 | []=>true
 | x::r=>wf x&&wfL r
end
end Sn
open Go.RowKit
def Tf.small (f:Tf):Prop:=f.rx.small∧f.rx.parts≤1000000∧f.fs.length≤1000000
mutual
def Sn.small:Sn→Prop
 | .mk _ t _ _ _ f os ks=>f.small∧os.length≤1000000∧ks.length≤1000000∧t.length≤1000000∧Sn.smallL ks
def Sn.smallL:List Sn→Prop
 | []=>True
 | x::r=>x.small∧Sn.smallL r
end
open Go.RowKit Go.Maps Go.MapKept
open Go.ChangeMaps (setBlock)
def hdN (k:Int) (t:Str) (n:Int):Sn:=.mk k t n false false tf0 [] []
open Go.RowKit
theorem wF:(Tryz.prog.info? 28).map (·.size)=some 11:=by kernel_rfl
theorem rx_size:(Tryz.prog.info? 25).map (·.size)=some 8:=by kernel_rfl
theorem j0:Tryz.prog.underlying 28=some (.struct (Tryz.prog.fieldsOf 28)):=by kernel_rfl
theorem kG:Tryz.prog.underlying 25=some (.struct (Tryz.prog.fieldsOf 25)):=by kernel_rfl
def SlP (B sz n:Nat) (cs:List Value):Value→World→Prop:=fun v W=>∃a c,v=.slice a n c∧SlS W (fun b=>B≤b) a sz n cs
open Go.RowKit
theorem qb (S:Nat→Prop) (f:Tf) (hsm:f.small) (fc:List Value) (w:World) (hv:TfV w S fc f) :
  Calls Tryz.prog 9 #[.agg fc.toArray] w fun e w'=>e=.returned (.bool (mP f))∧Below w.heap.size w w':=by
 obtain⟨rk,rch,rng,rrs,rlo,rhi,rlz,rks,ra,rcp,rka,rkc,fa,fcp,hc⟩:=hv.open_;obtain⟨X,fs,fd,al⟩:=f;obtain⟨hx,hp,hfs⟩:=hsm;have hx1:X=.mk rk rch rng rrs rlo rhi rlz rks:=hc.rx;have hfce:fc=[.int .i64 rk,.string ⟨rch.toArray⟩,.bool rng,.slice ra rrs.length rcp,.int .i64 rlo,.int .i64 rhi,.bool rlz,.slice rka rks.length rkc,.slice fa fs.length fcp,.bool fd,.bool al]:=hc.eq;obtain⟨W0,hW0⟩:∃W0,W0=w.alloc (.cells fc.toArray 28):=⟨_,rfl⟩;have hb0:Below w.heap.size w W0:=by rw [hW0];exact(Below.refl _ _).alloc (Dv _) _
 have HB1:Hid (W0.heap[w.heap.size]?=some (.cells fc.toArray 28 (0,0))):=ab gE;have HXV:Hid (RxV W0 S [.int .i64 rk,.string ⟨rch.toArray⟩,.bool rng,.slice ra rrs.length rcp,.int .i64 rlo,.int .i64 rhi,.bool rlz,.slice rka rks.length rkc] X):=ab (hx1▸hc.rv.later hb0);have HFS:Hid (SlS W0 S fa 5 fs.length (kT fs)):=ab (hc.fv.keep (Kept.all hb0));have HXS:=ab hx;have HP:=ab hp;have HFL:=ab hfs;have HTM:Hid (mP ⟨X,fs,fd,al⟩=(mayB X&&oW fs)):=ab rfl;subst hfce;have HW0:=ab hW0;rw [HTM.out];clear hv hc hx hx1 hW0 hfs hp HTM;have HRM:=ab (pG S X _ W0 HP.out HXS.out HXV.out);cases hm:mayB X with
 | false =>
  rw [hm] at HRM;clear hm;go_enter Tryz.func9,Tryz.ntmps9
  go_upto_region 1 with fail
  rw [←HW0.out];clear HW0;go_wp2_with (first
   | (refine jI rfl 25 (.tmp 3) rfl w.heap.size 0 rfl [.int .i64 rk,.string ⟨rch.toArray⟩,.bool rng,.slice ra rrs.length rcp,.int .i64 rlo,.int .i64 rhi,.bool rlz,.slice rka rks.length rkc] _ (jK (ds:=[.slice fa fs.length fcp,.bool fd,.bool al]) HB1.out) kG rfl gH ?_)
   | (go_at_call 20;refine HRM.out.mono ?_))
  exact db
 | true =>
  rw [hm] at HRM;clear hm;go_enter Tryz.func9,Tryz.ntmps9
  go_upto_region 1 with fail
  rw [←HW0.out];clear HW0;go_wp2_with (first
   | (refine jI rfl 25 (.tmp 3) rfl w.heap.size 0 rfl [.int .i64 rk,.string ⟨rch.toArray⟩,.bool rng,.slice ra rrs.length rcp,.int .i64 rlo,.int .i64 rhi,.bool rlz,.slice rka rks.length rkc] _ (jK (ds:=[.slice fa fs.length fcp,.bool fd,.bool al]) HB1.out) kG rfl gH ?_)
   | (go_at_call 20;refine HRM.out.mono ?_))
  first|rintro e w1 rfl hb1|rintro e w1 ⟨rfl,hb1⟩
  have hx1:=(hb1.block _ (jA HB1.out)).trans HB1.out;have z8:=jC hx1 8 rfl;have HM:=ab (tS fa fs.length fcp fs w1 (HFS.out.keep (Kept.all hb1)).sl HFL.out);clear hx1;go_wp2_with (go_at_call 21;refine HM.out.mono ?_)
  exact dY
def sgl (s:Str):List Str:=s.map fun c=>[c]
def alB (c:UInt8):Prop:=(48≤c.toNat∧c.toNat≤57)∨(97≤c.toNat∧c.toNat≤122)
structure Pc where
 f:UInt8
 t:UInt8
 s:Bool
def Pc.ok (p:Pc):Prop:=alB p.f∧alB p.t∧p.f.toNat≤p.t.toNat∧(p.s=true→p.f=p.t)
def Pc.str (p:Pc):Str:=if p.s=true then [p.f] else [p.f,45,p.t]
def Pc.row (p:Pc):Row:=([p.f],[p.t])
def yd (f:Tf):Str:=(if f.all=true then [103] else [])++(if f.fold=true then [105] else [])
def oD (f:Tf):Str:=47::(f.rx.tell++47::(lQ f.fs++47::yd f))
def nameT (k:Int) (t:Str) (n:Int):Str:=if k=3 then t else dec n
namespace Sn
mutual
def tell:Sn→Str
 | mk k t n h u f o ks =>
  if k=0 then quot three t
  else if k=2 then 36::123::(dec n++124::(joinQ o++[124,125]))
  else 36::123::(nameT k t n++((if h=true then 58::tellL ks else [])++((if u=true then oD f else [])++[125])))
def tellL:List Sn→Str
 | []=>[]
 | x::r=>tell x++tellL r
end
mutual
def short:Sn→Bool
 | mk _ _ _ _ u f _ ks=>(!u||decide (f.rx.tell.length≤256))&&shortL ks
def shortL:List Sn→Bool
 | []=>true
 | x::r=>short x&&shortL r
end
end Sn
open Go.RowKit
def Tf.tiny (f:Tf):Prop:=f.small∧f.fs.length≤1000∧(∀g∈f.fs,g.thn.length≤10000∧g.els.length≤10000)∧f.rx.tell.length≤1000000∧(lQ f.fs).length≤1000000
theorem vQ (S:Nat→Prop) (f:Tf) (hti:f.tiny) (hm:mP f=true) (fc:List Value) (w:World) (hv:TfV w S fc f) (ht:Tab w) :
  Calls Tryz.prog 7 #[.agg fc.toArray] w fun e w'=>e=.returned (.tuple #[.string ⟨(oD f).toArray⟩,.int .i64 0])∧Below w.heap.size w w':=by
 obtain⟨rk,rch,rng,rrs,rlo,rhi,rlz,rks,ra,rcp,rka,rkc,fa,fcp,hc⟩:=hv.open_;obtain⟨W0,hW0⟩:∃W0,W0=w.alloc (.cells fc.toArray 28):=⟨_,rfl⟩;have hb0:Below w.heap.size w W0:=by rw [hW0];exact(Below.refl _ _).alloc (Dv _) _
 have HB1:Hid (W0.heap[w.heap.size]?=some (.cells fc.toArray 28 (0,0))):=ab gE;have HFL:=ab hv.len;have HMY:=ab (qb S f hti.1 fc W0 (hv.keep (Kept.all hb0)));rw [hm] at HMY;have HT0:=ab (ht.keep hb0);have HW0:=ab hW0;obtain⟨X,fs,fd,al⟩:=f;obtain⟨⟨hx,hp,hfs⟩,t2,t3,t4,t5⟩:=hti;have hx1:X=.mk rk rch rng rrs rlo rhi rlz rks:=hc.rx;have hfce:fc=[.int .i64 rk,.string ⟨rch.toArray⟩,.bool rng,.slice ra rrs.length rcp,.int .i64 rlo,.int .i64 rhi,.bool rlz,.slice rka rks.length rkc,.slice fa fs.length fcp,.bool fd,.bool al]:=hc.eq;have HXV:Hid (RxV W0 S [.int .i64 rk,.string ⟨rch.toArray⟩,.bool rng,.slice ra rrs.length rcp,.int .i64 rlo,.int .i64 rhi,.bool rlz,.slice rka rks.length rkc] X):=ab (hx1▸hc.rv.later hb0);have HFS:Hid (SlS W0 S fa 5 fs.length (kT fs)):=ab (hc.fv.keep (Kept.all hb0));have hm2:(mayB X&&oW fs)=true:=hm;rw [Dy] at hm2;have HMX:=ab hm2.1;have HMF:=ab hm2.2;have HPP:=ab hp;have HXS:=ab hx;have hTL:X.tell.length≤1000000:=t4;have hTF:(lQ fs).length≤1000000:=t5;have HTL:Hid (X.tell.length≤10000000):=ab fR;have HG:Hid (∀g∈fs,g.thn.length≤10000∧g.els.length≤10000):=ab t3;have HFN:Hid (fs.length≤1000):=ab t2;have HFO:Hid (oD ⟨X,fs,fd,al⟩=47::(X.tell++47::(lQ fs++47::((if al=true then [103] else [])++(if fd=true then [105] else []))))):=ab rfl;have HFCE:=ab hfce;clear hv hc hx hx1 hW0 hp hfs hm hm2 t2 t3 t4 t5 ht hfce;cases al with
 | true =>
  cases fd with
  | true =>
   go_enter Tryz.func7,Tryz.ntmps7
   go_upto_region 1 with fail
   rw [←HW0.out];clear HW0;go_wp2_with (first
    | (refine jI rfl 28 (.tmp 1) rfl w.heap.size 0 rfl fc _ (jK (ds:=[]) ie) j0 rfl gW ?_)
    | (go_at_call 9;refine HMY.out.mono ?_))
   first|rintro e w1 rfl hb1|rintro e w1 ⟨rfl,hb1⟩
   have HX1:=ab ((hb1.block _ (jA HB1.out)).trans HB1.out);have HRX:=ab (pZ S X _ w1 HPP.out HXS.out (HXV.out.later hb1) (HT0.out.keep hb1) HMX.out HTL.out);go_wp2_with (first
    | (refine jI rfl 25 (.tmp 13) rfl w.heap.size 0 rfl [.int .i64 rk,.string ⟨rch.toArray⟩,.bool rng,.slice ra rrs.length rcp,.int .i64 rlo,.int .i64 rhi,.bool rlz,.slice rka rks.length rkc] _ (jK (ds:=[.slice fa fs.length fcp,.bool true,.bool true]) (HFCE.out▸HX1.out)) kG rfl gH ?_)
    | (go_at_call 11;refine HRX.out.mono ?_))
   exact aG
  | false =>
   go_enter Tryz.func7,Tryz.ntmps7
   go_upto_region 1 with fail
   rw [←HW0.out];clear HW0;go_wp2_with (first
    | (refine jI rfl 28 (.tmp 1) rfl w.heap.size 0 rfl fc _ (jK (ds:=[]) ie) j0 rfl gW ?_)
    | (go_at_call 9;refine HMY.out.mono ?_))
   first|rintro e w1 rfl hb1|rintro e w1 ⟨rfl,hb1⟩
   have HX1:=ab ((hb1.block _ (jA HB1.out)).trans HB1.out);have HRX:=ab (pZ S X _ w1 HPP.out HXS.out (HXV.out.later hb1) (HT0.out.keep hb1) HMX.out HTL.out);go_wp2_with (first
    | (refine jI rfl 25 (.tmp 13) rfl w.heap.size 0 rfl [.int .i64 rk,.string ⟨rch.toArray⟩,.bool rng,.slice ra rrs.length rcp,.int .i64 rlo,.int .i64 rhi,.bool rlz,.slice rka rks.length rkc] _ (jK (ds:=[.slice fa fs.length fcp,.bool false,.bool true]) (HFCE.out▸HX1.out)) kG rfl gH ?_)
    | (go_at_call 11;refine HRX.out.mono ?_))
   exact aG
 | false =>
  cases fd with
  | true =>
   go_enter Tryz.func7,Tryz.ntmps7
   go_upto_region 1 with fail
   rw [←HW0.out];clear HW0;go_wp2_with (first
    | (refine jI rfl 28 (.tmp 1) rfl w.heap.size 0 rfl fc _ (jK (ds:=[]) ie) j0 rfl gW ?_)
    | (go_at_call 9;refine HMY.out.mono ?_))
   first|rintro e w1 rfl hb1|rintro e w1 ⟨rfl,hb1⟩
   have HX1:=ab ((hb1.block _ (jA HB1.out)).trans HB1.out);have HRX:=ab (pZ S X _ w1 HPP.out HXS.out (HXV.out.later hb1) (HT0.out.keep hb1) HMX.out HTL.out);go_wp2_with (first
    | (refine jI rfl 25 (.tmp 13) rfl w.heap.size 0 rfl [.int .i64 rk,.string ⟨rch.toArray⟩,.bool rng,.slice ra rrs.length rcp,.int .i64 rlo,.int .i64 rhi,.bool rlz,.slice rka rks.length rkc] _ (jK (ds:=[.slice fa fs.length fcp,.bool true,.bool false]) (HFCE.out▸HX1.out)) kG rfl gH ?_)
    | (go_at_call 11;refine HRX.out.mono ?_))
   exact aG
  | false =>
   go_enter Tryz.func7,Tryz.ntmps7
   go_upto_region 1 with fail
   rw [←HW0.out];clear HW0;go_wp2_with (first
    | (refine jI rfl 28 (.tmp 1) rfl w.heap.size 0 rfl fc _ (jK (ds:=[]) ie) j0 rfl gW ?_)
    | (go_at_call 9;refine HMY.out.mono ?_))
   first|rintro e w1 rfl hb1|rintro e w1 ⟨rfl,hb1⟩
   have HX1:=ab ((hb1.block _ (jA HB1.out)).trans HB1.out);have HRX:=ab (pZ S X _ w1 HPP.out HXS.out (HXV.out.later hb1) (HT0.out.keep hb1) HMX.out HTL.out);go_wp2_with (first
    | (refine jI rfl 25 (.tmp 13) rfl w.heap.size 0 rfl [.int .i64 rk,.string ⟨rch.toArray⟩,.bool rng,.slice ra rrs.length rcp,.int .i64 rlo,.int .i64 rhi,.bool rlz,.slice rka rks.length rkc] _ (jK (ds:=[.slice fa fs.length fcp,.bool false,.bool false]) (HFCE.out▸HX1.out)) kG rfl gH ?_)
    | (go_at_call 11;refine HRX.out.mono ?_))
   exact aG
open Go.RowKit
namespace Sn
mutual
def tiny:Sn→Prop
 | mk _ t _ _ _ f o ks=>f.tiny∧t.length≤1000000∧o.length≤1000000∧(∀s∈o,s.length≤1000000)∧ks.length≤1000000∧tinyL ks
def tinyL:List Sn→Prop
 | []=>True
 | x::r=>tiny x∧tinyL r
end
end Sn
open Go.RowKit
def wy (f:Tf) (n:Int):Int:=if f.rx.left n<0 then f.rx.left n else oV f.fs (f.rx.left n)
theorem sn (S:Nat→Prop) (f:Tf) (hm:f.mem) (fc:List Value) (w:World) (n:Int) (hv:TfV w S fc f) (hn0:-1000≤n) (hn1:n≤1000) :
  Calls Tryz.prog 5 #[.agg fc.toArray,.int .i64 n] w fun e w'=>e=.returned (.int .i64 (wy f n))∧Below w.heap.size w w':=by
 obtain⟨rk,rch,rng,rrs,rlo,rhi,rlz,rks,ra,rcp,rka,rkc,fa,fcp,hc⟩:=hv.open_;obtain⟨X,fs,fd,al⟩:=f;obtain⟨m1,m2,m3⟩:=hm;have hx1:X=.mk rk rch rng rrs rlo rhi rlz rks:=hc.rx;have hfce:fc=[.int .i64 rk,.string ⟨rch.toArray⟩,.bool rng,.slice ra rrs.length rcp,.int .i64 rlo,.int .i64 rhi,.bool rlz,.slice rka rks.length rkc,.slice fa fs.length fcp,.bool fd,.bool al]:=hc.eq;obtain⟨W0,hW0⟩:∃W0,W0=w.alloc (.cells fc.toArray 28):=⟨_,rfl⟩;have hb0:Below w.heap.size w W0:=by rw [hW0];exact(Below.refl _ _).alloc (Dv _) _
 have HB1:Hid (W0.heap[w.heap.size]?=some (.cells fc.toArray 28 (0,0))):=ab gE;have hXV:RxV W0 S [.int .i64 rk,.string ⟨rch.toArray⟩,.bool rng,.slice ra rrs.length rcp,.int .i64 rlo,.int .i64 rhi,.bool rlz,.slice rka rks.length rkc] X:=hx1▸hc.rv.later hb0;have HFS:Hid (SlS W0 S fa 5 fs.length (kT fs)):=ab (hc.fv.keep (Kept.all hb0));have hlb:=xb _ X n (Dv _) hn0 hn1;have HRX:=ab (vp S _ X (Dv _) m1 _ W0 n hXV hn0 hn1);have HM3:=ab m3;have HM2:Hid (fs.length≤maxLen):=ab m2;have hF:wy ⟨X,fs,fd,al⟩ n=if X.left n<0 then X.left n else oV fs (X.left n):=rfl
 subst hfce;have HW0:=ab hW0;rw [hF];clear hv hc hx1 hW0 m1 m2 m3 hXV hF;generalize X.left n=m at HRX hlb ⊢
 obtain⟨l0,l1⟩:=hlb;by_cases hneg:m<0
 ·rw [Dr hneg]
  have g1:decide (m<0)=true:=DN hneg;clear hneg;go_enter Tryz.func5,Tryz.ntmps5
  go_upto_region 1 with fail
  rw [←HW0.out];clear HW0;go_wp2_with (first
   | (refine jI rfl 25 (.tmp 5) rfl w.heap.size 0 rfl [.int .i64 rk,.string ⟨rch.toArray⟩,.bool rng,.slice ra rrs.length rcp,.int .i64 rlo,.int .i64 rhi,.bool rlz,.slice rka rks.length rkc] _ (jK (ds:=[.slice fa fs.length fcp,.bool fd,.bool al]) HB1.out) kG rfl gH ?_)
   | (go_at_call 14;refine HRX.out.mono ?_))
  exact db
 ·rw [Du hneg]
  have g1:decide (m<0)=false:=DU hneg;clear hneg;go_enter Tryz.func5,Tryz.ntmps5
  go_upto_region 1 with fail
  rw [←HW0.out];clear HW0;go_wp2_with (first
   | (refine jI rfl 25 (.tmp 5) rfl w.heap.size 0 rfl [.int .i64 rk,.string ⟨rch.toArray⟩,.bool rng,.slice ra rrs.length rcp,.int .i64 rlo,.int .i64 rhi,.bool rlz,.slice rka rks.length rkc] _ (jK (ds:=[.slice fa fs.length fcp,.bool fd,.bool al]) HB1.out) kG rfl gH ?_)
   | (go_at_call 14;refine HRX.out.mono ?_))
  first|rintro e w1 rfl hb1|rintro e w1 ⟨rfl,hb1⟩
  have hx1:=(hb1.block _ (jA HB1.out)).trans HB1.out;have z8:=jC hx1 8 rfl;have HFL:=ab (vU fa fs.length fcp m fs w1 (HFS.out.keep (Kept.all hb1)).sl HM2.out fR HM3.out);clear hx1;go_wp2_with (go_at_call 15;refine HFL.out.mono ?_)
  first|rintro e w2 rfl hb2|rintro e w2 ⟨rfl,hb2⟩
  go_wp2
  go_ret
  exact⟨rfl,bel2 (bel2 hb0 hb1) hb2⟩
open Go.RowKit
def leftO:List Str→Int→Option Int
 | [],n=>some n
 | s::r,n=>if n≤s.length then none else leftO r (n-1-s.length)
namespace Sn
mutual
def left:Sn→Int→Int
 | mk _ t _ _ _ f o ks,n=>if n≤t.length∨n≤o.length then -1 else
  (match leftO o (wy f (n-1-t.length)) with
   | none=>-1
   | some m=>if m<0 then m else leftL ks m)
def leftL:List Sn→Int→Int
 | [],n=>n
 | x::r,n=>if n<0 then n else leftL r (left x n)
end
end Sn
def rwt:List (Str × Str)→Nat
 | []=>0
 | r::rs=>1+r.1.length+r.2.length+rwt rs
namespace Rx
mutual
def wt:Rx→Nat
 | mk _ c _ rs _ _ _ ks=>1+c.length+rwt rs+wtL ks
def wtL:List Rx→Nat
 | []=>0
 | x::r=>wt x+wtL r
end
end Rx
theorem zv:∀(rs:List (Str × Str)) (n m:Int),pe rs n=some m→m=n-rwt rs
 | [],n,m,h=>by simp only [pe] at h;injection h with h;subst h;simp [rwt]
 | r::rs,n,m,h=>by
  simp only [pe] at h;split at h
  ·cases h
  ·have:=zv rs _ m h
   simp only [rwt];omega
theorem Cz:∀(N:Nat) (x:Rx) (n:Int),x.parts≤N→0≤x.left n→x.left n=n-x.wt
 | 0,x,_,h,_=>by have:=Rx.parts_pos x;omega
 | N+1,.mk k c ng rs lo hi lz ks,n,h,h0=>by
  simp only [Rx.parts] at h;have hk:∀(l:List Rx) (m:Int),Rx.partsL l≤N→0≤Rx.leftK l m→Rx.leftK l m=m-Rx.wtL l:=by
   intro l;induction l with
   | nil=>intro m _ _;simp [Rx.leftK,Rx.wtL]
   | cons x r ih =>
    intro m hm a;simp only [Rx.partsL] at hm;simp only [Rx.leftK] at a ⊢;split at a
    ·omega
    ·rename_i hneg
     rw [Du hneg];have h1:=ih _ fR a;by_cases hx:0≤x.left m
     ·have:=Cz N x m fR hx
      simp only [Rx.wtL];omega
     ·exfalso
      cases r with
      | nil=>simp only [Rx.leftK] at a;omega
      | cons y r =>
       simp only [Rx.leftK] at a;rw [Dr fR] at a;omega
  simp only [Rx.left] at h0 ⊢;split at h0
  ·omega
  ·rename_i hc
   rw [Du hc];split at h0
   ·omega
   ·rename_i m hm
    have h2:=zv rs _ m hm;have h3:=hk ks m fR h0;simp only [Rx.wt];show Rx.leftK ks m=_
    omega
theorem uf:∀(N:Nat) (x:Rx),x.parts≤N→x.parts≤x.wt
 | 0,x,h=>by have:=Rx.parts_pos x;omega
 | N+1,.mk k c ng rs lo hi lz ks,h=>by
  simp only [Rx.parts] at h;have hk:∀(l:List Rx),Rx.partsL l≤N→Rx.partsL l≤Rx.wtL l:=by
   intro l;induction l with
   | nil=>intro _;simp [Rx.partsL,Rx.wtL]
   | cons x r ih =>
    intro hm;simp only [Rx.partsL] at hm;simp only [Rx.partsL,Rx.wtL];have:=uf N x fR
    have:=ih fR
    omega
  have:=hk ks fR
  simp only [Rx.parts,Rx.wt];omega
theorem CN:∀{rs:List (Str × Str)},rs.length≤rwt rs∧∀r∈rs,r.1.length≤rwt rs∧r.2.length≤rwt rs
 | []=>by simp [rwt]
 | r::rs=>by
  obtain⟨h1,h2⟩:=CN (rs:=rs);simp only [rwt,Dx];exact ef
theorem zd:∀(N:Nat) (x:Rx),x.parts≤N→x.wt≤1000000→x.small
 | 0,x,h,_=>by have:=Rx.parts_pos x;omega
 | N+1,.mk k c ng rs lo hi lz ks,h,hw=>by
  simp only [Rx.parts] at h;simp only [Rx.wt] at hw;have hk:∀(l:List Rx),Rx.partsL l≤N→Rx.wtL l≤1000000→Rx.smallL l:=by
   intro l;induction l with
   | nil=>intro _ _;simp [Rx.smallL]
   | cons x r ih =>
    intro hm hw;simp only [Rx.partsL] at hm;simp only [Rx.wtL] at hw;simp only [Rx.smallL];exact⟨zd N x fR fR,ih fR fR⟩
  obtain⟨r1,r2⟩:=CN (rs:=rs);have hl:=Rx.len_parts ks;have hp:Rx.partsL ks≤Rx.wtL ks:=by
   have:=uf _ (.mk k [] ng [] lo hi lz ks) (Dv _)
   simp only [Rx.parts,Rx.wt,rwt,DP] at this;omega
  simp only [Rx.small,Rx.small1];refine⟨⟨by omega,by omega,fun r hr=>?_,by omega⟩,hk ks fR fR⟩;have:=r2 r hr;omega
theorem zI:∀(rs:List (Str × Str)),(rs.flatMap rowS).length≤3*rwt rs
 | []=>by simp
 | r::rs=>by
  have ih:=zI rs;have h1:=oI th2 r.1;have h2:=oI th2 r.2;have h3:(rowS r).length≤r.1.length+1+(r.2.length+2):=by
   unfold rowS;split<;>simp<;>omega
  rw [DD,DE];simp only [rwt];omega
theorem zL:∀(N:Nat) (x:Rx),x.parts≤N→x.wf=true→x.tell.length+1≤15*x.wt
 | 0,x,h,_=>by have:=Rx.parts_pos x;omega
 | N+1,.mk k c ng rs lo hi lz ks,h,hwf=>by
  obtain⟨hf,hwl⟩:=BE hwf;simp only [Rx.parts] at h;have hk:∀(l:List Rx),Rx.partsL l≤N→Rx.wfL l=true→(Rx.tellL l).length≤15*Rx.wtL l∧∀b,(Rx.tellA b l).length≤15*Rx.wtL l:=by
   intro l;induction l with
   | nil=>intro _ _;simp [Rx.tellL,Rx.tellA,Rx.wtL]
   | cons x r ih =>
    intro hm hw;simp only [Rx.partsL] at hm;simp only [Rx.wfL,Dy] at hw;have h1:=zL N x fR hw.1;obtain⟨h2,h3⟩:=ih fR hw.2;simp only [Rx.tellL,Rx.tellA,Rx.wtL,DE];refine⟨by omega,fun b=>?_⟩;have h4:=h3 true;cases b<;>simp<;>omega
  obtain⟨h1,h2⟩:=hk ks fR hwl;have h3:=h2 false;have e1:=oI th1 c;have e2:=zI rs;simp only [Rx.wt];rcases uD hf with rfl|rfl|rfl|rfl|rfl|rfl|rfl|rfl|rfl|rfl|rfl|rfl
  ·simp [Rx.tell];omega
  ·simp [Rx.tell];omega
  ·simp [Rx.tell];omega
  ·simp [Rx.tell];omega
  ·simp only [Rx.tell]
   rw [Du fU,Du fU,Du fU,Du fU,Du fU,Du fU,Du fU,Du fU,Dr trivial];unfold setS;cases ng<;>simp only [DW,if_false,if_true,Dx,DE,DP]<;>omega
  ·simp [Rx.tell];omega
  ·simp [Rx.tell];omega
  ·simp only [jT] at hf
   rw [Du fU,Du fU,Dr trivial] at hf;simp only [Dy,Dp] at hf;have h5:=oftS_len hf.2.1 hf.2.2.1 hf.2.2.2;cases lz<;>simp [Rx.tell]<;>omega
  ·simp [Rx.tell];omega
  ·simp [Rx.tell];omega
  ·simp [Rx.tell];omega
  ·simp [Rx.tell];omega
theorem showP_le {f:Fm} (hm:mayF f=true):(lH f).length≤2*(f.thn.length+f.els.length)+22:=by
 exact cP
def fwt:List Fm→Nat
 | []=>0
 | f::r=>1+f.thn.length+f.els.length+fwt r
def owt:List Str→Nat
 | []=>0
 | s::r=>1+s.length+owt r
def uu (f:Tf):Nat:=f.rx.wt+fwt f.fs
namespace Sn
mutual
def wt:Sn→Nat
 | mk _ t _ _ _ f o ks=>1+t.length+uu f+owt o+wtL ks
def wtL:List Sn→Nat
 | []=>0
 | x::r=>wt x+wtL r
end
end Sn
theorem yY:∀(fs:List Fm) (m:Int),0≤oV fs m→oV fs m=m-fwt fs
 | [],m,_=>by simp [oV,fwt]
 | f::r,m,h=>by
  simp only [oV] at h ⊢;split at h
  ·omega
  ·rename_i hc
   rw [Du hc];have:=yY r _ h
   simp only [fwt];omega
theorem yo (f:Tf) (n:Int) (h:0≤wy f n):wy f n=n-uu f:=by
 unfold wy at h ⊢;split at h
 ·omega
 ·rename_i hc
  rw [Du hc];have h1:=Cz _ f.rx n (Dv _) fR;have h2:=yY _ _ h;unfold uu;omega
theorem xW:∀{fs:List Fm},fs.length≤fwt fs∧∀f∈fs,f.thn.length≤fwt fs∧f.els.length≤fwt fs
 | []=>by simp [fwt]
 | f::r=>by
  obtain⟨h1,h2⟩:=xW (fs:=r);simp only [fwt,Dx];exact ef
theorem qp {f:Tf} (h:uu f≤1000000):f.small:=by
 unfold uu at h;have h1:=uf _ f.rx (Dv _);have h2:=(xW (fs:=f.fs)).1;exact⟨zd _ f.rx (Dv _) fR,by omega,by omega⟩
theorem vg:∀{fs:List Fm},(∀f∈fs,mayF f=true)→(lQ fs).length≤22*fwt fs
 | [],_=>by simp [lQ]
 | f::r,h=>by
  have h1:=showP_le (h f (DH ..));have h2:=vg (fs:=r) (fun g hg=>h g (DI _ hg));have e:lQ (f::r)=lH f++lQ r:=by simp [lQ]
  rw [e,DE];simp only [fwt];omega
theorem C6 {fs:List Fm} (h:oW fs=true):(lQ fs).length≤22*fwt fs:=vg (pR _ _ h)
theorem C7 {f:Tf} (h:mP f=true∨tfZ f=true):f.rx.tell.length≤15*f.rx.wt∧(lQ f.fs).length≤22*fwt f.fs:=by
 rcases h with h|h
 ·unfold mP at h
  rw [Dy] at h;have hwf:f.rx.wf=true:=by
   have h:=h.1;simp only [mayB,okB,Dy] at h;exact h.1.1
  have:=zL _ f.rx (Dv _) hwf
  exact⟨by omega,C6 h.2⟩
 ·unfold tfZ at h
  rw [Dy,Dy,List.isEmpty_iff] at h;obtain⟨X,fs,fd,al⟩:=f;obtain⟨hz,hfs,_⟩:=h;obtain rfl:fs=[]:=hfs;obtain rfl:X=rx0:=by
   obtain⟨k,c,ng,rs,lo,hi,lz,ks⟩:=X;have hz':rxZ (.mk k c ng rs lo hi lz ks)=true:=hz;simp only [rxZ,Dy,Dp,List.isEmpty_iff,Ed] at hz';obtain⟨rfl,rfl,rfl,rfl,rfl,rfl,rfl,rfl⟩:=hz';rfl
  exact⟨(by decide:(rx0.tell).length≤15*rx0.wt),by simp [lQ]⟩
open Go.ChangeShapes Go.WideShapes Go.RowKit
section
variable {H:Type} {enc:TypeId × Value→H} {w:World} {spare:Nat→Bool} {held:Bool}
theorem vI {r:Reach} {b0:Nat} {v:Value} {d:DataW H} {ps:List MemPlace} (hval:Value.okWide Tryz.prog w r b0 28 v) (h:DataW.Trod enc Tryz.prog w 0 spare held 28 v d ps) :
  ∃(c:List Value) (f:Tf),v=.agg c.toArray∧TfV w Any c f∧f.mem:=by
 obtain⟨fuel,hf⟩:=h;obtain⟨cs,rfl,hsz⟩:=okWide_struct qJ hval;rw [AN] at hsz;obtain⟨f,hx,hm⟩:=xY (show (Value.agg cs).cells.size=11 from hsz) hf;exact⟨cs.toList,f,by simp,hx,hm⟩
end
theorem sN {f:Tf} (hm:mP f=true) (hw:uu f≤200):f.tiny∧(oD f).length≤5000:=by
 obtain⟨f1,f2⟩:=C7 (.inl hm);obtain⟨g1,g2⟩:=xW (fs:=f.fs);have hfw:uu f=f.rx.wt+fwt f.fs:=rfl;refine⟨⟨qp fR,by omega,fun g hg=>?_,by omega,by omega⟩,?_⟩
 ·have:=g2 g hg;omega
 ·have hfl:(yd f).length≤2:=by unfold yd;simp only [DE];split<;>split<;>simp
  have h9:(oD f).length≤5+15*f.rx.wt+22*fwt f.fs:=by unfold oD;simp;omega
  omega
theorem yV (S:Nat→Prop) (f:Tf) (hsm:f.small) (hm:mP f=false) (fc:List Value) (w:World) (hv:TfV w S fc f) :
  Calls Tryz.prog 7 #[.agg fc.toArray] w fun e w'=>e=.returned (.tuple #[.string ⟨[].toArray⟩,.int .i64 10])∧Below w.heap.size w w':=by
 obtain⟨W0,hW0⟩:∃W0,W0=w.alloc (.cells fc.toArray 28):=⟨_,rfl⟩;have hb0:Below w.heap.size w W0:=by rw [hW0];exact(Below.refl _ _).alloc (Dv _) _
 have HB1:Hid (W0.heap[w.heap.size]?=some (.cells fc.toArray 28 (0,0))):=ab gE;have HFL:=ab hv.len;have HMY:=ab (qb S f hsm fc W0 (hv.keep (Kept.all hb0)));rw [hm] at HMY;have HW0:=ab hW0;have HB0:=ab hb0;clear hv hW0 hb0 hm hsm;go_enter Tryz.func7,Tryz.ntmps7
 exact bU
open Go.RowKit
structure Rn where
 r:Nat
 t:Nat
 B:Nat
 tp:List Value
 ca:Option Addr
 cc:Nat
 oa:Option Addr
 oc:Nat
 pa:Option Addr
 pc:Nat
 C:Rc
 n:Nat
 S:Nat→Prop
def Rn.pv (R:Rn):Value:=.slice R.pa R.n R.pc
def Rn.X (R:Rn) (k:Nat):Prop:=k=R.r∨k=R.t∨R.pv.ownBlock=some k
def Rn.cells (R:Rn) (st:Rst):List Value :=
 R.tp++[.bool R.C.fold,.slice R.ca R.C.cs.length R.cc,.slice R.oa (R.C.cs.length+1) R.oc,.slice R.pa R.n R.pc,.int .i64 (st.fuel:Int),.bool st.out]
structure RnOk (R:Rn):Prop where
 tp:R.tp.length=11
 one:∀u∈R.tp,u.oneCell'=true
 cs:R.C.cs.length≤1000000
 ch:∀c∈R.C.cs,c.length≤1000000
 of:R.C.offs.length=R.C.cs.length+1
 ov:∀o∈R.C.offs,o≤1000000
 rt:R.r≠R.t
 pr:R.pv.ownBlock≠some R.r
 pt:R.pv.ownBlock≠some R.t
 sr:∀b,R.S b→¬R.X b
 n:R.n≤1000
structure RunI (R:Rn) (w:World) (st:Rst):Prop where
 box:w.heap[R.r]?=some (.cells (R.cells st).toArray 121 (0,0))
 tb:w.heap[R.t]?=some (.cells #[.int .i64 st.en] 3 (0,0))
 ps:w.ownsRow R.B 67 2 R.pv R.n (jV st.ps)
 ch:SlS w R.S R.ca 1 R.C.cs.length (kS R.C.cs)
 of:SlS w R.S R.oa 1 (R.C.cs.length+1) (nU R.C.offs)
 fu:st.fuel≤20000
abbrev Fx (R:Rn) (w w':World):Prop:=Gx R.X w w'
theorem Fx.kept {R:Rn} (ok:RnOk R) {w w':World} (h:Fx R w w'):Kept R.S w w':=Gx.kept h ok.sr
theorem Fx.trans {R:Rn} {a b c:World} (h:Fx R a b) (k:Fx R b c):Fx R a c:=Gx.to h k (fun _ _ e=>e)
theorem RunI.len {R:Rn} {w:World} {st:Rst} (h:RunI R w st):st.ps.length=R.n:=by have:=h.ps.1;rw [ko] at this;omega
theorem lX {w w':World} {B:Nat} {e:TypeId} {sz n:Nat} {v:Value} {xs:List Value} (h:w.ownsRow B e sz v n xs) (hb:Below w.heap.size w w'):w'.ownsRow B e sz v n xs :=
 pT (X:=fun _=>False) h (Gx.of_below hb) (fun _ _ h=>h)
theorem RunI.later {R:Rn} {w w':World} {st:Rst} (h:RunI R w st) (hb:Below w.heap.size w w'):RunI R w' st :=
 ⟨(hb.block _ (jA h.box)).trans h.box,(hb.block _ (jA h.tb)).trans h.tb,lX h.ps hb,h.ch.keep (Kept.all hb),h.of.keep (Kept.all hb),h.fu⟩
theorem RunI.lt {R:Rn} {w:World} {st:Rst} (h:RunI R w st):∀k,R.X k→k<w.heap.size:=by
 rintro k (rfl|rfl|e)
 ·exact jA h.box
 ·exact jA h.tb
 ·exact(h.ps.lt k e).2
theorem Ap {R:Rn} (ok:RnOk R) (st:Rst) (j:Nat):(R.cells st)[11+j]?=[Value.bool R.C.fold,.slice R.ca R.C.cs.length R.cc,.slice R.oa (R.C.cs.length+1) R.oc,.slice R.pa R.n R.pc,.int .i64 (st.fuel:Int),.bool st.out][j]?:=by
 have:=ok.tp
 unfold Rn.cells;rw [DJ fR];congr 1;omega
section
variable {R:Rn} {w:World} {st:Rst}
theorem RunI.cell (ok:RnOk R) (h:RunI R w st) (j:Nat) {u:Value} (hj:[Value.bool R.C.fold,.slice R.ca R.C.cs.length R.cc,.slice R.oa (R.C.cs.length+1) R.oc,.slice R.pa R.n R.pc,.int .i64 (st.fuel:Int),.bool st.out][j]?=some u):w.cell? ⟨R.r,11+j,none⟩=some u:=by
 rw [DB h.box];simpa using (Ap ok st j).trans hj
theorem RunI.c11 (ok:RnOk R) (h:RunI R w st):w.cell? ⟨R.r,11,none⟩=some (.bool R.C.fold):=h.cell ok 0 rfl
theorem RunI.c12 (ok:RnOk R) (h:RunI R w st):w.cell? ⟨R.r,12,none⟩=some (.slice R.ca R.C.cs.length R.cc):=h.cell ok 1 rfl
theorem RunI.c13 (ok:RnOk R) (h:RunI R w st):w.cell? ⟨R.r,13,none⟩=some (.slice R.oa (R.C.cs.length+1) R.oc):=h.cell ok 2 rfl
theorem RunI.c14 (ok:RnOk R) (h:RunI R w st):w.cell? ⟨R.r,14,none⟩=some (.slice R.pa R.n R.pc):=h.cell ok 3 rfl
theorem RunI.c15 (ok:RnOk R) (h:RunI R w st):w.cell? ⟨R.r,15,none⟩=some (.int .i64 (st.fuel:Int)):=h.cell ok 4 rfl
theorem RunI.c16 (ok:RnOk R) (h:RunI R w st):w.cell? ⟨R.r,16,none⟩=some (.bool st.out):=h.cell ok 5 rfl
theorem RunI.free (h:RunI R w st) (j:Nat):w.frozen? ⟨R.r,j,none⟩=false:=by
 simp only [World.frozen?,h.box];simp
theorem RunI.setR (ok:RnOk R) (h:RunI R w st) {st':Rst} {j:Nat} {u:Value} (hc:(R.cells st).set j u=R.cells st') (e1:st'.ps=st.ps) (e2:st'.en=st.en) (e3:st'.fuel≤st.fuel):RunI R (w.setCell ⟨R.r,j,none⟩ u) st':=by
 have hk:Kept R.S w (w.setCell ⟨R.r,j,none⟩ u):=⟨by simp [World.setCell],fun b hb _=>heap_setCell_other w _ b u (fun e=>ok.sr b hb (.inl e))⟩;refine⟨?_,?_,?_,h.ch.keep hk,h.of.keep hk,by have:=h.fu;omega⟩
 ·rw [heap_setCell_same _ _ _ _ _ _ h.box,←hc];simp
 ·rw [e2];exact(heap_setCell_other w _ R.t u (fun e=>ok.rt e.symm)).trans h.tb
 ·rw [e1];exact pT (X:=fun k=>k=R.r) h.ps (Gx.set w u rfl) (fun k hk e=>ok.pr (by rw [hk,e]))
theorem RunI.burnW (ok:RnOk R) (h:RunI R w st) (hf:st.fuel≠0):RunI R (w.setCell ⟨R.r,15,none⟩ (.int .i64 ((st.fuel:Int)-1))) (kE st):=by
 refine h.setR ok ?_ rfl rfl (by simp only [kE];omega);have h11:=ok.tp;unfold Rn.cells kE;rw [List.set_append_right _ _ fR,h11];simp only [show 15-11=4 from rfl,List.set_cons_succ,List.set_cons_zero];rw [show ((st.fuel-1:Nat):Int)=(st.fuel:Int)-1 by omega]
theorem RunI.outW (ok:RnOk R) (h:RunI R w st):RunI R (w.setCell ⟨R.r,16,none⟩ (.bool true)) { st with out:=true }:=by
 refine h.setR ok ?_ rfl rfl (Dv _);have h11:=ok.tp;unfold Rn.cells;rw [List.set_append_right _ _ fR,h11];rfl
theorem Fx.setR (w:World) (a:Addr) (ha:a.block=R.r) (u:Value):Fx R w (w.setCell a u):=Gx.set w u (.inl ha)
theorem RunI.char (h:RunI R w st) {k:Nat} (hk:k<R.C.cs.length):∃b o,R.ca=some ⟨b,o,none⟩∧w.cell? ⟨b,o+k,none⟩=some (.string ⟨(R.C.cs.getD k []).toArray⟩):=by
 obtain⟨b,o,e1,_,_,e4⟩:=h.ch.2 fR;exact⟨b,o,e1,e4 k _ (by rw [List.getD_eq_getElem?_getD];simp [kS,hk])⟩
theorem RunI.off (ok:RnOk R) (h:RunI R w st) {k:Nat} (hk:k≤R.C.cs.length):∃b o,R.oa=some ⟨b,o,none⟩∧w.cell? ⟨b,o+k,none⟩=some (.int .i64 ((R.C.offs.getD k 0:Nat):Int)):=by
 obtain⟨b,o,e1,_,_,e4⟩:=h.of.2 fR;exact⟨b,o,e1,e4 k _ (vZ (by rw [ok.of];omega))⟩
theorem RunI.row (h:RunI R w st) (hn:0<R.n):∃g,R.pa=some ⟨g,0,none⟩:=by
 rcases h.ps.2 with⟨_,h0⟩|⟨g,cap,cur,hv,_⟩
 ·omega
 ·injection hv with hv _ _;exact⟨g,hv⟩
theorem RunI.part (h:RunI R w st) {g b:Nat} (hg:g<R.n) (hp:R.pa=some ⟨b,0,none⟩) :
  w.cell? ⟨b,g*2,none⟩=some (.int .i64 (st.ps.getD g (-1,-1)).1)∧w.cell? ⟨b,g*2+1,none⟩=some (.int .i64 (st.ps.getD g (-1,-1)).2)∧w.frozen? ⟨b,g*2,none⟩=false∧w.frozen? ⟨b,g*2+1,none⟩=false:=by
 have hps:=h.ps;unfold Rn.pv at hps;rw [hp] at hps;have hl:=h.len;obtain⟨c1,c2⟩:=pz (Dt (show g<st.ps.length by omega));have e:st.ps.getD g (-1,-1)=st.ps[g]' fR:=by rw [List.getD_eq_getElem?_getD,Dt fR];rfl
 rw [e];exact⟨(hps.cellAt _ fR).trans c1,(hps.cellAt _ fR).trans c2,hps.frozenAt _,hps.frozenAt _⟩
theorem RunI.setP (ok:RnOk R) (h:RunI R w st) {g b:Nat} (hg:g<R.n) (hp:R.pa=some ⟨b,0,none⟩) (v:Int × Int) :
  RunI R ((w.setCell ⟨b,g*2,none⟩ (.int .i64 v.1)).setCell ⟨b,g*2+1,none⟩ (.int .i64 v.2)) { st with ps:=sy st.ps g v }∧Fx R w ((w.setCell ⟨b,g*2,none⟩ (.int .i64 v.1)).setCell ⟨b,g*2+1,none⟩ (.int .i64 v.2)):=by
 have hps:=h.ps;have hl:=h.len;have hb:R.pv.ownBlock=some b:=by unfold Rn.pv;rw [hp];rfl
 have hfx:Fx R w ((w.setCell ⟨b,g*2,none⟩ (.int .i64 v.1)).setCell ⟨b,g*2+1,none⟩ (.int .i64 v.2)) :=
  Fx.trans (R:=R) (Gx.set w (a:=⟨b,g*2,none⟩) _ (.inr (.inr hb))) (Gx.set _ (a:=⟨b,g*2+1,none⟩) _ (.inr (.inr hb)))
 have hk:=Fx.kept ok hfx;refine⟨⟨?_,?_,?_,h.ch.keep hk,h.of.keep hk,h.fu⟩,hfx⟩
 ·rw [heap_setCell_other _ _ _ _ (fun e=>ok.pr (by rw [hb,e])),heap_setCell_other _ _ _ _ (fun e=>ok.pr (by rw [hb,e]))];exact h.box
 ·rw [heap_setCell_other _ _ _ _ (fun e=>ok.pt (by rw [hb,e])),heap_setCell_other _ _ _ _ (fun e=>ok.pt (by rw [hb,e]))];exact h.tb
 ·unfold Rn.pv at hps ⊢
  rw [hp] at hps ⊢;have:=((hps.stored (g*2) (.int .i64 v.1)).1.stored (g*2+1) (.int .i64 v.2)).1
  rwa [qj _ _ _ fR] at this
end
def KW (R:Rn) (w0:World) (k0:Nat) (fv:Value) (f:Rk):Prop :=
 ∃(j:FuncId) (caps:Array Value),fv=.func (.func j) #[] caps∧Enters Tryz.prog j∧∀(w:World) (st:Rst) (e:Nat),Fx R w0 w→RunI R w st→k0≤e→e≤R.C.cs.length →
  Calls Tryz.prog j (#[.int .i64 (e:Int)]++caps) w fun x w'=>x=.returned (.bool (f e st).1)∧RunI R w' (f e st).2∧Fx R w w'
theorem KW.later {R:Rn} {w0 w1:World} {k0 k1:Nat} {fv:Value} {f:Rk} (h:KW R w0 k0 fv f) (hx:Fx R w0 w1) (hk:k0≤k1):KW R w1 k1 fv f:=by
 obtain⟨j,caps,e,he,hc⟩:=h;exact⟨j,caps,e,he,fun w st e h1 h2 h3 h4=>hc w st e (hx.trans h1) h2 fR h4⟩
def kL (R:Rn) (q:Bool × Rst) (w:World) (x:Ending) (w':World):Prop:=x=.returned (.bool q.1)∧RunI R w' q.2∧Fx R w w'
open Go.RowKit
theorem mA {R:Rn} (ok:RnOk R) {w:World} {st:Rst} (h:RunI R w st) (hf:st.fuel≠0) :
  Calls Tryz.prog 151 #[.pointer (some ⟨R.r,0,none⟩)] w fun e w'=>e=.returned (.bool true)∧RunI R w' (kE st)∧Fx R w w':=by
 have c15:=h.c15 ok;have f15:=h.free 15;have hfu:=h.fu;have h0:((st.fuel:Int)==0)=false:=by rw [DV];omega
 have HB:=ab (h.burnW ok hf);have HX:=ab (Fx.setR (R:=R) w ⟨R.r,15,none⟩ rfl (.int .i64 ((st.fuel:Int)-1)));clear h;go_enter Tryz.func151,Tryz.ntmps151
 go_wp2
 go_ret
 exact⟨rfl,HB.out,HX.out⟩
theorem burn_no {R:Rn} (ok:RnOk R) {w:World} {st:Rst} (h:RunI R w st) (hf:st.fuel=0) :
  Calls Tryz.prog 151 #[.pointer (some ⟨R.r,0,none⟩)] w fun e w'=>e=.returned (.bool false)∧RunI R w' { st with out:=true }∧Fx R w w':=by
 have c15:=h.c15 ok;have f15:=h.free 15;have c16:=h.c16 ok;have f16:=h.free 16;have HB:=ab (h.outW ok);have HX:=ab (Fx.setR (R:=R) w ⟨R.r,16,none⟩ rfl (.bool true));clear h;rw [hf] at c15;clear hf;go_enter Tryz.func151,Tryz.ntmps151
 go_wp2
 go_ret
 exact⟨rfl,HB.out,HX.out⟩
theorem xA {r:Nat} (c:Str) (ng:Bool) (ra:Option Addr) (rn rc:Nat) (lo hi:Int) (lz:Bool) (ka:Option Addr) (kn kc:Nat) (w:World) :
  Calls Tryz.prog 153 #[.pointer (some ⟨r,0,none⟩),.agg (rxc 2 c ng ra rn rc lo hi lz ka kn kc).toArray,.string ⟨c.toArray⟩] w fun e w'=>e=.returned (.bool true)∧Below w.heap.size w w':=by
 have hb0:Below w.heap.size w (w.alloc (.cells (rxc 2 c ng ra rn rc lo hi lz ka kn kc).toArray 25)):=(Below.refl _ _).alloc (Dv _) _;have HB0:=ab hb0;clear hb0;unfold rxc at HB0 ⊢;go_enter Tryz.func153,Tryz.ntmps153
 go_upto_region 3 with fail
 have e1:∀x:ExtOf (w.alloc (.cells #[.int .i64 2,.string ⟨c.toArray⟩,.bool ng,.slice ra rn rc,.int .i64 lo,.int .i64 hi,.bool lz,.slice ka kn kc] 25)),x.val.cell? ⟨w.heap.size,1,none⟩=some (.string ⟨c.toArray⟩):=ExtOf.cell fX;exact fG
theorem ww {r:Nat} (c d:Str) (ng:Bool) (ra:Option Addr) (rn rc:Nat) (lo hi:Int) (lz:Bool) (ka:Option Addr) (kn kc:Nat) (w:World) (hf:w.cell? ⟨r,11,none⟩=some (.bool false)) (hne:d≠c) :
  Calls Tryz.prog 153 #[.pointer (some ⟨r,0,none⟩),.agg (rxc 2 c ng ra rn rc lo hi lz ka kn kc).toArray,.string ⟨d.toArray⟩] w fun e w'=>e=.returned (.bool false)∧Below w.heap.size w w':=by
 have hq:(d==c)=false:=by rw [DV];exact hne
 have hb0:Below w.heap.size w (w.alloc (.cells (rxc 2 c ng ra rn rc lo hi lz ka kn kc).toArray 25)):=(Below.refl _ _).alloc (Dv _) _;have HB0:=ab hb0;have hf0:=jH hb0 _ _ hf;unfold rxc at HB0 hf0 ⊢;go_enter Tryz.func153,Tryz.ntmps153
 go_upto_region 3 with fail
 have e1:∀x:ExtOf (w.alloc (.cells #[.int .i64 2,.string ⟨c.toArray⟩,.bool ng,.slice ra rn rc,.int .i64 lo,.int .i64 hi,.bool lz,.slice ka kn kc] 25)),x.val.cell? ⟨w.heap.size,1,none⟩=some (.string ⟨c.toArray⟩):=ExtOf.cell fX;have e2:∀x:ExtOf (w.alloc (.cells #[.int .i64 2,.string ⟨c.toArray⟩,.bool ng,.slice ra rn rc,.int .i64 lo,.int .i64 hi,.bool lz,.slice ka kn kc] 25)),x.val.cell? ⟨r,11,none⟩=some (.bool false):=ExtOf.cell hf0;exact fG
theorem xI {r:Nat} (c d:Str) (ng:Bool) (ra:Option Addr) (rn rc:Nat) (lo hi:Int) (lz:Bool) (ka:Option Addr) (kn kc:Nat) (w:World) (hf:w.cell? ⟨r,11,none⟩=some (.bool true)) (hne:d≠c) (hd:d.length≤1000000) (hc:c.length≤1000000) :
  Calls Tryz.prog 153 #[.pointer (some ⟨r,0,none⟩),.agg (rxc 2 c ng ra rn rc lo hi lz ka kn kc).toArray,.string ⟨d.toArray⟩] w fun e w'=>e=.returned (.bool (sU d==sU c))∧Below w.heap.size w w':=by
 have hq:(d==c)=false:=by rw [DV];exact hne
 have hb0:Below w.heap.size w (w.alloc (.cells (rxc 2 c ng ra rn rc lo hi lz ka kn kc).toArray 25)):=(Below.refl _ _).alloc (Dv _) _;have HB0:=ab hb0;have hf0:=jH hb0 _ _ hf;unfold rxc at HB0 hf0 ⊢;go_enter Tryz.func153,Tryz.ntmps153
 go_upto_region 3 with fail
 have e1:∀x:ExtOf (w.alloc (.cells #[.int .i64 2,.string ⟨c.toArray⟩,.bool ng,.slice ra rn rc,.int .i64 lo,.int .i64 hi,.bool lz,.slice ka kn kc] 25)),x.val.cell? ⟨w.heap.size,1,none⟩=some (.string ⟨c.toArray⟩):=ExtOf.cell fX;have e2:∀x:ExtOf (w.alloc (.cells #[.int .i64 2,.string ⟨c.toArray⟩,.bool ng,.slice ra rn rc,.int .i64 lo,.int .i64 hi,.bool lz,.slice ka kn kc] 25)),x.val.cell? ⟨r,11,none⟩=some (.bool true):=ExtOf.cell hf0;refine jF fW fW ?_;repeat (go_big_quiet_step ((go_at_call 166;exact kg (uz _ _ (by first|exact hd|exact hc)))))
 exact cu
theorem AO {r:Nat} (c d:Str) (ng:Bool) (ra:Option Addr) (rn rc:Nat) (lo hi:Int) (lz:Bool) (ka:Option Addr) (kn kc:Nat) (w:World) :
  Calls Tryz.prog 153 #[.pointer (some ⟨r,0,none⟩),.agg (rxc 3 c ng ra rn rc lo hi lz ka kn kc).toArray,.string ⟨d.toArray⟩] w fun e w'=>e=.returned (.bool (d != [10]))∧Below w.heap.size w w':=by
 have hb0:Below w.heap.size w (w.alloc (.cells (rxc 3 c ng ra rn rc lo hi lz ka kn kc).toArray 25)):=(Below.refl _ _).alloc (Dv _) _;have HB0:=ab hb0;clear hb0;unfold rxc at HB0 ⊢;go_enter Tryz.func153,Tryz.ntmps153
 go_wp2
 go_ret
 exact⟨rfl,HB0.out⟩
theorem AB {r:Nat} (c d:Str) (ng fd:Bool) (ra:Option Addr) (rs:List (Str × Str)) (rc:Nat) (lo hi:Int) (lz:Bool) (ka:Option Addr) (kn kc:Nat) (w:World) (hf:w.cell? ⟨r,11,none⟩=some (.bool fd)) (hr:Sl w w.heap.size ra 2 rs.length (jN rs)) (hn:rs.length≤100000000) (hd:d.length≤1000000) :
  Calls Tryz.prog 153 #[.pointer (some ⟨r,0,none⟩),.agg (rxc 4 c ng ra rs.length rc lo hi lz ka kn kc).toArray,.string ⟨d.toArray⟩] w fun e w'=>e=.returned (.bool (hasS rs ng fd d))∧Below w.heap.size w w':=by
 have HR:=ab hr;clear hr;have hb0:Below w.heap.size w (w.alloc (.cells (rxc 4 c ng ra rs.length rc lo hi lz ka kn kc).toArray 25)):=(Below.refl _ _).alloc (Dv _) _;have HB0:=ab hb0;have hf0:=jH hb0 _ _ hf;unfold rxc at HB0 hf0 ⊢;go_enter Tryz.func153,Tryz.ntmps153
 go_upto_region 6 with fail
 have e1:∀x:ExtOf (w.alloc (.cells #[.int .i64 4,.string ⟨c.toArray⟩,.bool ng,.slice ra rs.length rc,.int .i64 lo,.int .i64 hi,.bool lz,.slice ka kn kc] 25)),x.val.cell? ⟨w.heap.size,3,none⟩=some (.slice ra rs.length rc):=ExtOf.cell fX;have e2:∀x:ExtOf (w.alloc (.cells #[.int .i64 4,.string ⟨c.toArray⟩,.bool ng,.slice ra rs.length rc,.int .i64 lo,.int .i64 hi,.bool lz,.slice ka kn kc] 25)),x.val.cell? ⟨r,11,none⟩=some (.bool fd):=ExtOf.cell hf0;have e3:∀x:ExtOf (w.alloc (.cells #[.int .i64 4,.string ⟨c.toArray⟩,.bool ng,.slice ra rs.length rc,.int .i64 lo,.int .i64 hi,.bool lz,.slice ka kn kc] 25)),x.val.cell? ⟨w.heap.size,2,none⟩=some (.bool ng):=ExtOf.cell fX;have HH:Hid (∀x:ExtOf (w.alloc (.cells #[.int .i64 4,.string ⟨c.toArray⟩,.bool ng,.slice ra rs.length rc,.int .i64 lo,.int .i64 hi,.bool lz,.slice ka kn kc] 25)),Calls Tryz.prog 167 #[.slice ra rs.length rc,.bool ng,.bool fd,.string ⟨d.toArray⟩] x.val fun e w'=>e=.returned (.bool (hasS rs ng fd d))∧Below x.val.heap.size x.val w'):=ab (fun x=>by
  have hb:=HB0.out.trans (x.ext.mono fX);exact Has_any _ _ _ rs _ _ d _ ((HR.out.keep hb).mono hb.size) hn hd)
 refine jF fW fW ?_;repeat (go_big_quiet_step ((go_at_call 167;exact kg (HH.out _))))
 exact cu
end Go.Proofs.YtjggmmaojklmpaaGreatDoor
