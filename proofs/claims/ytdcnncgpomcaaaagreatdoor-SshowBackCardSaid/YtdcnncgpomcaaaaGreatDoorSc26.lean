/- walk of fmts.Show -/
import Derived.Test.YtdcnncgpomcaaaaGreatDoorSc25
import Derived.Deep.RegionHeld3
import Derived.Deep.DrawnRows
set_option maxRecDepth 100000
set_option maxHeartbeats 4000000
namespace Go.Proofs.YtdcnncgpomcaaaaGreatDoor
open Go.RowKit
attribute [local go_sem ↓] Go.wp_at_zero Go.wp_at_succ
theorem BF (l th:Str) (w:World) (hs:l.length≤1000000) :
  Calls Tryz.prog 86 #[.string ⟨l.toArray⟩,.string ⟨th.toArray⟩] w fun e w'=>e=.returned (.string ⟨(quot th l).toArray⟩)∧Below w.heap.size w w'∧∀a u,w.cell? a=some u→w'.cell? a=some u :=
 (nL l th w hs).mono fun _ _ ⟨h1,h2⟩=>⟨h1,h2,lp h2⟩
def ShRel (fs:List Fm) (g m:Nat) (w:World) (R:Str) (q:Value) (wr:World):Prop :=
 ∃(k:Nat) (acc:Str),k≤fs.length∧q=.int .i64 k∧Bld w.heap.size g acc wr∧Below w.heap.size w wr∧Hid (acc.length≤k*m)∧Hid (acc++mt (fs.drop k)=R)
theorem Gl {f:Fm} {m:Nat} (hm:mayF f=true) (h1:f.thn.length≤m) (h2:f.els.length≤m):(ox f).length≤4*m+20:=by
 exact cF
set_option maxRecDepth 100000 in
theorem Show_any (a:Option Addr) (c m:Nat) (fs:List Fm) (w:World) (h:Sl w w.heap.size a 5 fs.length (l5 fs)) (ht:Tab w)
  (hf:∀f∈fs,f.thn.length≤m∧f.els.length≤m) (hm:m≤10000) (hn:fs.length≤1000) (hmay:tO fs=true) :
  Calls Tryz.prog 68 #[.slice a fs.length c] w fun e w'=>e=.returned (.tuple #[.string ⟨(mt fs).toArray⟩,.int .i64 0])∧Below w.heap.size w w':=by
 have HSl:=ab h;have HT:=ab ht;obtain⟨R,hR⟩:∃R,R=mt fs:=⟨_,rfl⟩;rw [←hR];have HR:=ab hR;have HF:=ab hf;have HM:=ab (xO _ _ hmay);clear hR hf h ht;go_enter Tryz.func68,Tryz.ntmps68
 go_wp2_with (go_at_call 85;refine(Ez _ _ _ fs _ HSl.out gj).mono ?_;rintro e w0 ⟨rfl,hb0⟩)
 have hB0:=hb0.size;go_loopw [15] (fun q wr=>ShRel fs w0.heap.size (4*m+20) w R q wr) (fun q _=>fs.length-(intOf q).toNat)
 case atStart=>exact⟨0,[],by omega,rfl,Bld.fresh _ _ hB0,hb0.alloc hB0 _,ab gz,ab iP⟩
 case round =>
  obtain⟨k,acc,hk,rfl,hbl,hb,HL,HRR⟩:=hrel;clear HR;have hB:=hb.size;have hacc:acc.length≤50000000:=Ib HL.out (Ib (Nat.mul_le_mul (show k≤1000 by omega) (show 4*m+20≤40020 by omega)) gv);cases hd:fs.drop k with
  | nil =>
   have h2:fs.length≤k:=gX;have HR:Hid (R=acc):=ab (by rw [←HRR.out,hd];simp [mt]);clear hd HRR;go_wp2_with (go_at_call 21;refine(rC _ _ _ _ hbl hB).mono ?_;rintro e w1 ⟨rfl,hb1⟩)
   go_ret2
   exact⟨by rw [HR.out];rfl,hb.trans hb1⟩
  | cons f r =>
   obtain⟨h2,h3,hr⟩:=kV hd;have HR:Hid (R=acc++(ox f++mt r)):=ab (by rw [←HRR.out,hd];simp [mt]);have Hr:=ab hr;have hmem:=In h3;have hmf:=HM.out f hmem;obtain⟨b,o,rfl,hbB,c0,c1,c2,c3,c4⟩:=(HSl.out.keep hb).fm h3;obtain⟨z1,z2⟩:=HF.out f hmem;have HPL:=ab (Gl hmf z1 z2);obtain⟨n0,n1⟩:=mayF_n hmf;have hkind:=Gv hmf;clear hd HRR hr h3 hmem hmf;obtain⟨kind,fn,cse,thn,els⟩:=f;replace z1:thn.length≤m:=z1;replace z2:els.length≤m:=z2;replace n0:0≤fn:=n0;replace n1:fn≤9999:=n1;obtain⟨d0,d1⟩:=qL n0 n1;have HKI:=ab hkind;clear hkind;have htw:Tab (wr.alloc (.cells #[.int .i64 kind,.int .i64 fn,.int .i64 cse,.string ⟨thn.toArray⟩,.string ⟨els.toArray⟩] 95)):=HT.out.keep ((hb.mono (Ia _)).alloc hB _);have HTW:=ab htw;clear htw;go_wp2_with (go_at_call 33;refine(rH fn _ n0 gj HTW.out).mono ?_)
   first|rintro e w1 rfl hb1|rintro e w1 ⟨rfl,hb1⟩
   have z0:w1.cell? ⟨wr.heap.size,0,none⟩=some (.int .i64 kind):=rg hb1 gz gz;have z3:w1.cell? ⟨wr.heap.size,2,none⟩=some (.int .i64 cse):=rg hb1 gz gz;have z4:w1.cell? ⟨wr.heap.size,3,none⟩=some (.string ⟨thn.toArray⟩):=rg hb1 gz gz;have z5:w1.cell? ⟨wr.heap.size,4,none⟩=some (.string ⟨els.toArray⟩):=rg hb1 gz gz;go_wp2
   go_region_held3 (fun w'=>w'.cell? ⟨wr.heap.size,0,none⟩=some (.int .i64 kind)∧w'.cell? ⟨wr.heap.size,2,none⟩=some (.int .i64 cse)∧w'.cell? ⟨wr.heap.size,3,none⟩=some (.string ⟨thn.toArray⟩)∧w'.cell? ⟨wr.heap.size,4,none⟩=some (.string ⟨els.toArray⟩)) (go_keep)
    (first|(go_at_call 86;refine(BF _ _ _ gj).mono ?_;rintro e w2 ⟨rfl,hb2,hc2⟩))
   rename_i wa hba hca hheld
   obtain⟨y0,y2,y3,y4⟩:=hheld;have hbl1:Bld w.heap.size w0.heap.size acc w1:=(hbl.alloc _).below (hb1.mono gz);have hbl2:Bld w.heap.size w0.heap.size acc w2:=(Bld.below (w:=w1.drew) hbl1 hba).below hb2;have hbw1:Below w.heap.size w w1:=(hb.alloc hB _).trans (hb1.mono gj);have hz1:=hbw1.size;have hbwa:Below w.heap.size w wa:=(hbw1.drew).trans (hba.mono hz1);have hza:=hbwa.size;have hbw2:Below w.heap.size w w2:=hbwa.trans (hb2.mono hza);have hz2:=hbw2.size;have hg2:=hbl2.le;have HC:=ab hca;have HC2:=ab hc2;clear hca hc2 hbl1 hba hb2 hb1 z0 z3 z4 z5 c0 c1 c2 c3 c4;have hkind:=HKI.out;have q4:=nj [36,125,92,47] thn;have q5:=nj [36,125,92,47,58] thn;have q6:=nj [36,125,92,47,58] els;have q7:=sr cse;rcases hkind with hkind|hkind|hkind|hkind|hkind|hkind
   ·subst hkind
    go_wp2_with (first|(go_at_call 86;refine(nL _ _ _ gj).mono ?_;rintro e w3 ⟨rfl,hb3⟩;have hbl3:=hbl2.below hb3;have hz3:=hb3.size)|(go_at_call 87;refine(oA _ _).mono ?_;rintro e w3 ⟨rfl,hb3⟩;have hbl3:=hbl2.below hb3;have hz3:=hb3.size)|(go_at_call 32;refine(kU w.heap.size _ acc _ _ iV gj gM gj).mono ?_))
    first|rintro e w4 rfl hbl4 hfr4|rintro e w4 ⟨rfl,hbl4,hfr4⟩
    go_wp2_with fail
    go_roundw
    case rel =>
     refine⟨k+1,acc++ox ⟨0,fn,cse,thn,els⟩,by omega,by go_num,?_,?_,ab ?_,ab ?_⟩
     ·exact cN
     ·exact bl
     ·exact bY
     ·exact cU
    case measure=>simp [intOf];omega
   ·subst hkind
    go_wp2_with (first|(go_at_call 86;refine(nL _ _ _ gj).mono ?_;rintro e w3 ⟨rfl,hb3⟩;have hbl3:=hbl2.below hb3;have hz3:=hb3.size)|(go_at_call 87;refine(oA _ _).mono ?_;rintro e w3 ⟨rfl,hb3⟩;have hbl3:=hbl2.below hb3;have hz3:=hb3.size)|(go_at_call 32;refine(kU w.heap.size _ acc _ _ iV gj gM gj).mono ?_))
    first|rintro e w4 rfl hbl4 hfr4|rintro e w4 ⟨rfl,hbl4,hfr4⟩
    go_wp2_with fail
    go_roundw
    case rel =>
     refine⟨k+1,acc++ox ⟨1,fn,cse,thn,els⟩,by omega,by go_num,?_,?_,ab ?_,ab ?_⟩
     ·exact cN
     ·exact bl
     ·exact bY
     ·exact cU
    case measure=>simp [intOf];omega
   ·subst hkind
    go_wp2_with (first|(go_at_call 86;refine(nL _ _ _ gj).mono ?_;rintro e w3 ⟨rfl,hb3⟩;have hbl3:=hbl2.below hb3;have hz3:=hb3.size)|(go_at_call 87;refine(oA _ _).mono ?_;rintro e w3 ⟨rfl,hb3⟩;have hbl3:=hbl2.below hb3;have hz3:=hb3.size)|(go_at_call 32;refine(kU w.heap.size _ acc _ _ iV gj gM gj).mono ?_))
    first|rintro e w4 rfl hbl4 hfr4|rintro e w4 ⟨rfl,hbl4,hfr4⟩
    go_wp2_with fail
    go_roundw
    case rel =>
     refine⟨k+1,acc++ox ⟨2,fn,cse,thn,els⟩,by omega,by go_num,?_,?_,ab ?_,ab ?_⟩
     ·exact cN
     ·exact bl
     ·exact bY
     ·exact cU
    case measure=>simp [intOf];omega
   ·subst hkind
    go_wp2_with (first|(go_at_call 86;refine(nL _ _ _ gj).mono ?_;rintro e w3 ⟨rfl,hb3⟩;have hbl3:=hbl2.below hb3;have hz3:=hb3.size)|(go_at_call 87;refine(oA _ _).mono ?_;rintro e w3 ⟨rfl,hb3⟩;have hbl3:=hbl2.below hb3;have hz3:=hb3.size)|(go_at_call 32;refine(kU w.heap.size _ acc _ _ iV gj gM gj).mono ?_))
    first|rintro e w4 rfl hbl4 hfr4|rintro e w4 ⟨rfl,hbl4,hfr4⟩
    go_wp2_with fail
    go_roundw
    case rel =>
     refine⟨k+1,acc++ox ⟨3,fn,cse,thn,els⟩,by omega,by go_num,?_,?_,ab ?_,ab ?_⟩
     ·exact cN
     ·exact bl
     ·exact bY
     ·exact cU
    case measure=>simp [intOf];omega
   ·subst hkind
    go_wp2_with (first|(go_at_call 86;refine(nL _ _ _ gj).mono ?_;rintro e w3 ⟨rfl,hb3⟩;have hbl3:=hbl2.below hb3;have hz3:=hb3.size)|(go_at_call 87;refine(oA _ _).mono ?_;rintro e w3 ⟨rfl,hb3⟩;have hbl3:=hbl2.below hb3;have hz3:=hb3.size)|(go_at_call 32;refine(kU w.heap.size _ acc _ _ iV gj gM gj).mono ?_))
    first|rintro e w4 rfl hbl4 hfr4|rintro e w4 ⟨rfl,hbl4,hfr4⟩
    go_wp2_with fail
    go_roundw
    case rel =>
     refine⟨k+1,acc++ox ⟨4,fn,cse,thn,els⟩,by omega,by go_num,?_,?_,ab ?_,ab ?_⟩
     ·exact cN
     ·exact bl
     ·exact bY
     ·exact cU
    case measure=>simp [intOf];omega
   ·subst hkind
    go_wp2_with (first|(go_at_call 86;refine(nL _ _ _ gj).mono ?_;rintro e w3 ⟨rfl,hb3⟩;have hbl3:=hbl2.below hb3;have hz3:=hb3.size)|(go_at_call 87;refine(oA _ _).mono ?_;rintro e w3 ⟨rfl,hb3⟩;have hbl3:=hbl2.below hb3;have hz3:=hb3.size)|(go_at_call 32;refine(kU w.heap.size _ acc _ _ iV gj gM gj).mono ?_))
    first|rintro e w4 rfl hbl4 hfr4|rintro e w4 ⟨rfl,hbl4,hfr4⟩
    go_wp2_with fail
    go_roundw
    case rel =>
     refine⟨k+1,acc++ox ⟨5,fn,cse,thn,els⟩,by omega,by go_num,?_,?_,ab ?_,ab ?_⟩
     ·exact cN
     ·exact bl
     ·exact bY
     ·exact cU
    case measure=>simp [intOf];omega
theorem Cu (S:Nat→Prop) (f:Tf) (hsm:f.small) (fc:List Value) (w:World) (hv:TfV w S fc f) :
  Calls Tryz.prog 67 #[.agg fc.toArray] w fun e w'=>e=.returned (.bool (oY f))∧Below w.heap.size w w':=by
 obtain⟨rk,rch,rng,rrs,rlo,rhi,rlz,rks,ra,rcp,rka,rkc,fa,fcp,hc⟩:=hv.open_;obtain⟨X,fs,fd,al⟩:=f;obtain⟨hx,hp,hfs⟩:=hsm;have hx1:X=.mk rk rch rng rrs rlo rhi rlz rks:=hc.rx;have hfce:fc=[.int .i64 rk,.string ⟨rch.toArray⟩,.bool rng,.slice ra rrs.length rcp,.int .i64 rlo,.int .i64 rhi,.bool rlz,.slice rka rks.length rkc,.slice fa fs.length fcp,.bool fd,.bool al]:=hc.eq;obtain⟨W0,hW0⟩:∃W0,W0=w.alloc (.cells fc.toArray 41):=⟨_,rfl⟩;have hb0:Below w.heap.size w W0:=by rw [hW0];exact(Below.refl _ _).alloc (Ia _) _
 have HB1:Hid (W0.heap[w.heap.size]?=some (.cells fc.toArray 41 (0,0))):=ab g7;have HXV:Hid (RxV W0 S [.int .i64 rk,.string ⟨rch.toArray⟩,.bool rng,.slice ra rrs.length rcp,.int .i64 rlo,.int .i64 rhi,.bool rlz,.slice rka rks.length rkc] X):=ab (hx1▸hc.rv.later hb0);have HFS:Hid (SlS W0 S fa 5 fs.length (l5 fs)):=ab (hc.fv.keep (Kept.all hb0));have HXS:=ab hx;have HP:=ab hp;have HFL:=ab hfs;have HTM:Hid (oY ⟨X,fs,fd,al⟩=(mayB X&&tO fs)):=ab rfl;subst hfce;have HW0:=ab hW0;rw [HTM.out];clear hv hc hx hx1 hW0 hfs hp HTM;have HRM:=ab (AF S X _ W0 HP.out HXS.out HXV.out);cases hm:mayB X with
 | false =>
  rw [hm] at HRM;clear hm;go_enter Tryz.func67,Tryz.ntmps67
  go_upto_region 1 with fail
  rw [←HW0.out];clear HW0;go_wp2_with (first
   | (refine kA rfl 38 (.tmp 3) rfl w.heap.size 0 rfl [.int .i64 rk,.string ⟨rch.toArray⟩,.bool rng,.slice ra rrs.length rcp,.int .i64 rlo,.int .i64 rhi,.bool rlz,.slice rka rks.length rkc] _ (kG (ds:=[.slice fa fs.length fcp,.bool fd,.bool al]) HB1.out) lK rfl g8 ?_)
   | (go_at_call 37;refine HRM.out.mono ?_))
  exact bh
 | true =>
  rw [hm] at HRM;clear hm;go_enter Tryz.func67,Tryz.ntmps67
  go_upto_region 1 with fail
  rw [←HW0.out];clear HW0;go_wp2_with (first
   | (refine kA rfl 38 (.tmp 3) rfl w.heap.size 0 rfl [.int .i64 rk,.string ⟨rch.toArray⟩,.bool rng,.slice ra rrs.length rcp,.int .i64 rlo,.int .i64 rhi,.bool rlz,.slice rka rks.length rkc] _ (kG (ds:=[.slice fa fs.length fcp,.bool fd,.bool al]) HB1.out) lK rfl g8 ?_)
   | (go_at_call 37;refine HRM.out.mono ?_))
  first|rintro e w1 rfl hb1|rintro e w1 ⟨rfl,hb1⟩
  have hx1:=(hb1.block _ (ky HB1.out)).trans HB1.out;have z8:=kz hx1 8 rfl;have HM:=ab (Ez fa fs.length fcp fs w1 (HFS.out.keep (Kept.all hb1)).sl HFL.out);clear hx1;go_wp2_with (go_at_call 85;refine HM.out.mono ?_)
  first|rintro e w2 rfl hb2|rintro e w2 ⟨rfl,hb2⟩
  go_wp2
  go_ret
  exact⟨by simp,bel2 (bel2 hb0 hb1) hb2⟩
theorem rV (S:Nat→Prop) (k:Int) (t:Str) (n:Int) (h u:Bool) (f:Tf) (hf:f.small) (o:List Str) (ks:List Sn) (cc:List Value) (w:World) (hv:SnV w S cc (.mk k t n h u f o ks)) :
  Calls Tryz.prog 51 #[.agg cc.toArray] w fun e w'=>e=.returned (.bool (!h&&(!u&&(ks.isEmpty&&tfZ f))))∧Below w.heap.size w w':=by
 obtain⟨W0,hW0⟩:∃W0,W0=w.alloc (.cells cc.toArray 44):=⟨_,rfl⟩;have hb0:Below w.heap.size w W0:=by rw [hW0];exact(Below.refl _ _).alloc (Ia _) _
 have HB1:Hid (W0.heap[w.heap.size]?=some (.cells cc.toArray 44 (0,0))):=ab g7;have HW0:=ab hW0;have hcl:=hv.len;have HV0:=ab (hv.later hb0);obtain⟨fc,oa,oc,ka,kc,A⟩:=hv.at_;obtain⟨k0,k1,k2,k3,k4,k16,k17,kr⟩:=A.box HB1.out;have HFC:=ab A.fl;have HFV:=ab (A.fv.keep (Kept.all hb0));clear hW0 A hv;have HXE:=ab (wV S f hf fc W0 HFV.out);clear hf HFV;cases h with
 | true =>
  rw [show (!true&&(!u&&(ks.isEmpty&&tfZ f)))=false from rfl];go_enter Tryz.func51,Tryz.ntmps51
  exact cd
 | false =>
  cases u with
  | true =>
   rw [show (!false&&(!true&&(ks.isEmpty&&tfZ f)))=false from rfl];go_enter Tryz.func51,Tryz.ntmps51
   exact cd
  | false =>
   cases ks with
   | cons y ys =>
    rw [show (!false&&(!false&&((y::ys).isEmpty&&tfZ f)))=false from rfl];obtain⟨m,hm⟩:∃m,(y::ys).length=m:=⟨_,rfl⟩;rw [hm] at k17;have gm:((m:Int)==0)=false:=by rw [Iu,←hm];simp;omega
    clear hm HV0;go_enter Tryz.func51,Tryz.ntmps51
    exact cd
   | nil =>
    rw [show (!false&&(!false&&(([]:List Sn).isEmpty&&tfZ f)))=tfZ f from rfl];go_enter Tryz.func51,Tryz.ntmps51
    go_upto_region 1 with fail
    rw [←HW0.out];clear HW0;go_wp2_with (first
     | (refine mh ku 41 (.tmp 18) rfl w.heap.size 5 rfl fc _ kr ma rfl jY ?_)
     | (refine mh ku 44 (.tmp 1) rfl w.heap.size 0 rfl cc _ (kG (ds:=[]) iv) kC rfl gG ?_)
     | (refine kA rfl 44 (.tmp 1) rfl w.heap.size 0 rfl cc _ (kG (ds:=[]) iv) kC rfl gG ?_)
     | (go_at_call 45;refine HXE.out.mono ?_))
    exact bh
theorem uK (S:Nat→Prop) (k:Int) (t:Str) (n:Int) (h u:Bool) (f:Tf) (hf:f.small) (o:List Str) (ks:List Sn) (cc:List Value) (w:World) (hv:SnV w S cc (.mk k t n h u f o ks)) :
  Calls Tryz.prog 52 #[.agg cc.toArray] w fun e w'=>e=.returned (.bool (lv (.mk k t n h u f o ks)))∧Below w.heap.size w w':=by
 obtain⟨W0,hW0⟩:∃W0,W0=w.alloc (.cells cc.toArray 44):=⟨_,rfl⟩;have hb0:Below w.heap.size w W0:=by rw [hW0];exact(Below.refl _ _).alloc (Ia _) _
 have HB1:Hid (W0.heap[w.heap.size]?=some (.cells cc.toArray 44 (0,0))):=ab g7;have HW0:=ab hW0;have hcl:=hv.len;have HV0:=ab (hv.later hb0);obtain⟨fc,oa,oc,ka,kc,A⟩:=hv.at_;obtain⟨k0,k1,k2,k3,k4,k16,k17,kr⟩:=A.box HB1.out;have HFC:=ab A.fl;have HFV:=ab (A.fv.keep (Kept.all hb0));clear hW0 A hv;have HXE:=ab (wV S f hf fc W0 HFV.out);have HXM:=ab (Cu S f hf fc W0 HFV.out);have HNO:=ab (rV S k t n h u f hf o ks cc W0 HV0.out);clear hf HFV HV0;cases h with
 | true =>
  cases u with
  | true =>
   rw [show lv (.mk k t n true true f o ks)=false from rfl];go_enter Tryz.func52,Tryz.ntmps52
   exact cd
  | false =>
   rw [show lv (.mk k t n true false f o ks)=tfZ f from rfl];go_enter Tryz.func52,Tryz.ntmps52
   go_upto_region 1 with fail
   rw [←HW0.out];clear HW0;go_wp2_with (first
    | (refine kA rfl 41 (.tmp 13) rfl w.heap.size 5 rfl fc _ kr ma rfl jY ?_)
    | (refine mh ku 44 (.tmp 1) rfl w.heap.size 0 rfl cc _ (kG (ds:=[]) iv) kC rfl gG ?_)
    | (refine kA rfl 44 (.tmp 1) rfl w.heap.size 0 rfl cc _ (kG (ds:=[]) iv) kC rfl gG ?_)
    | (go_at_call 45;refine HXE.out.mono ?_))
   exact bh
 | false =>
  cases u with
  | true =>
   cases ks with
   | cons y ys =>
    rw [show lv (.mk k t n false true f o (y::ys))=false from rfl];obtain⟨m,hm⟩:∃m,(y::ys).length=m:=⟨_,rfl⟩;rw [hm] at k17;have gm:((m:Int)==0)=false:=by rw [Iu,←hm];simp;omega
    clear hm HNO;go_enter Tryz.func52,Tryz.ntmps52
    exact cd
   | nil =>
    rw [show lv (.mk k t n false true f o [])=oY f from rfl];go_enter Tryz.func52,Tryz.ntmps52
    go_upto_region 1 with fail
    rw [←HW0.out];clear HW0;go_wp2_with (first
     | (refine mh ku 41 (.tmp 25) rfl w.heap.size 5 rfl fc _ kr ma rfl jY ?_)
     | (refine mh ku 44 (.tmp 1) rfl w.heap.size 0 rfl cc _ (kG (ds:=[]) iv) kC rfl gG ?_)
     | (refine kA rfl 44 (.tmp 1) rfl w.heap.size 0 rfl cc _ (kG (ds:=[]) iv) kC rfl gG ?_)
     | (go_at_call 67;refine HXM.out.mono ?_))
    exact bh
  | false =>
   rw [show lv (.mk k t n false false f o ks)=(!false&&(!false&&(ks.isEmpty&&tfZ f))) from rfl];go_enter Tryz.func52,Tryz.ntmps52
   go_upto_region 1 with fail
   rw [←HW0.out];clear HW0;go_wp2_with (first
    | (fail)
    | (refine mh ku 44 (.tmp 1) rfl w.heap.size 0 rfl cc _ (kG (ds:=[]) iv) kC rfl gG ?_)
    | (refine kA rfl 44 (.tmp 1) rfl w.heap.size 0 rfl cc _ (kG (ds:=[]) iv) kC rfl gG ?_)
    | (go_at_call 51;refine HNO.out.mono ?_))
   exact bh
theorem Fld0_any (S:Nat→Prop) (t:Str) (n:Int) (h u:Bool) (f:Tf) (hf:f.small) (o:List Str) (ks:List Sn) (cc:List Value) (w:World) (hv:SnV w S cc (.mk 0 t n h u f o ks)) :
  Calls Tryz.prog 36 #[.agg cc.toArray] w fun e w'=>e=.returned (.bool (!t.isEmpty&&(decide (n=0)&&(o.isEmpty&&(!h&&(!u&&(ks.isEmpty&&tfZ f)))))))∧Below w.heap.size w w':=by
 obtain⟨nb,hnb⟩:∃nb,decide (0≤n∧n≤9999)=nb:=⟨_,rfl⟩;have HNB:=ab hnb;clear hnb;obtain⟨W0,hW0⟩:∃W0,W0=w.alloc (.cells cc.toArray 44):=⟨_,rfl⟩;have hb0:Below w.heap.size w W0:=by rw [hW0];exact(Below.refl _ _).alloc (Ia _) _
 have HB1:Hid (W0.heap[w.heap.size]?=some (.cells cc.toArray 44 (0,0))):=ab g7;have HW0:=ab hW0;have hcl:=hv.len;have HV0:=ab (hv.later hb0);obtain⟨fc,oa,oc,ka,kc,A⟩:=hv.at_;obtain⟨k0,k1,k2,k3,k4,k16,k17,kr⟩:=A.box HB1.out;clear hW0 A hv kr;have HNO:=ab (rV S 0 t n h u f hf o ks cc W0 HV0.out);clear HV0 hf;by_cases ht:t=[]
 ·subst ht
  rw [show (!([]:Str).isEmpty&&(decide (n=0)&&(o.isEmpty&&(!h&&(!u&&(ks.isEmpty&&tfZ f))))))=false from rfl];clear HNO;exact eQ
 ·have e1:(!t.isEmpty)=true:=by simpa using ht
  rw [e1,Im];have hne:(⟨t.toArray⟩:ByteArray)≠⟨#[]⟩:=fun e=>ht ko
  have hq1:(t==([]:Str))=false:=by simpa using ht
  have hq2:(t != ([]:Str))=true:=by simp [bne,hq1]
  have hq3:decide (t=([]:Str))=false:=Ix ht;clear ht e1;by_cases hn:n=0
  ·rw [Iw hn,Im]
   have gn:(n==0)=true:=by rw [Hp];exact hn
   cases o with
   | cons a o' =>
    rw [show ((a::o').isEmpty&&(!h&&(!u&&(ks.isEmpty&&tfZ f))))=false from rfl];obtain⟨on,hon⟩:∃on,(a::o').length=on:=⟨_,rfl⟩;rw [hon] at k16;have hop:0<on:=by rw [←hon];simp
    have go1:((on:Int)==0)=false:=by rw [Iu];omega
    clear hon HNO hn;exact eQ
   | nil =>
    rw [show (([]:List Str).isEmpty&&(!h&&(!u&&(ks.isEmpty&&tfZ f))))=(!h&&(!u&&(ks.isEmpty&&tfZ f))) from rfl];clear hn;go_enter Tryz.func36,Tryz.ntmps36
    go_upto_region 1 with fail
    rw [←HW0.out];clear HW0;go_cut [3] from 4 to 11 (fun c wx=>c=.bool nb∧wx=W0)
    case first =>
     exact ah
    case rest =>
     exact fg
  ·rw [Ix hn,Bool.false_and]
   have gn:(n==0)=false:=by rw [Iu];exact hn
   clear hn HNO;exact eQ
theorem Fld1_any (S:Nat→Prop) (t:Str) (n:Int) (h u:Bool) (f:Tf) (hf:f.small) (o:List Str) (ks:List Sn) (cc:List Value) (w:World) (hv:SnV w S cc (.mk 1 t n h u f o ks)) :
  Calls Tryz.prog 36 #[.agg cc.toArray] w fun e w'=>e=.returned (.bool (t.isEmpty&&(decide (0≤n∧n≤9999)&&(o.isEmpty&&lv (.mk 1 t n h u f o ks)))))∧Below w.heap.size w w':=by
 obtain⟨nb,hnb⟩:∃nb,decide (0≤n∧n≤9999)=nb:=⟨_,rfl⟩;have HNB:=ab hnb;rw [hnb];clear hnb;obtain⟨W0,hW0⟩:∃W0,W0=w.alloc (.cells cc.toArray 44):=⟨_,rfl⟩;have hb0:Below w.heap.size w W0:=by rw [hW0];exact(Below.refl _ _).alloc (Ia _) _
 have HB1:Hid (W0.heap[w.heap.size]?=some (.cells cc.toArray 44 (0,0))):=ab g7;have HW0:=ab hW0;have hcl:=hv.len;have HV0:=ab (hv.later hb0);obtain⟨fc,oa,oc,ka,kc,A⟩:=hv.at_;obtain⟨k0,k1,k2,k3,k4,k16,k17,kr⟩:=A.box HB1.out;clear hW0 A hv kr;have HNO:=ab (uK S 1 t n h u f hf o ks cc W0 HV0.out);obtain⟨bs,hbs⟩:∃bs,lv (.mk 1 t n h u f o ks)=bs:=⟨_,rfl⟩;rw [hbs] at HNO ⊢;clear HV0 hf hbs;by_cases ht:t=[]
 ·subst ht
  rw [show (([]:Str).isEmpty&&(nb&&(o.isEmpty&&bs)))=(nb&&(o.isEmpty&&bs)) from rfl];cases nb with
  | false =>
   exact fy
  | true =>
   rw [Im];cases o with
   | cons a o' =>
    rw [show ((a::o').isEmpty&&bs)=false from rfl];obtain⟨on,hon⟩:∃on,(a::o').length=on:=⟨_,rfl⟩;rw [hon] at k16;have hop:0<on:=by rw [←hon];simp
    have go1:((on:Int)==0)=false:=by rw [Iu];omega
    clear hon HNO;exact fC
   | nil =>
    rw [show (([]:List Str).isEmpty&&bs)=bs from rfl];go_enter Tryz.func36,Tryz.ntmps36
    go_upto_region 1 with fail
    rw [←HW0.out];clear HW0;go_cut [3] from 4 to 11 (fun c wx=>c=.bool true∧wx=W0)
    case first =>
     exact ah
    case rest =>
     obtain⟨rfl,hwc⟩:=hcut;replace hwc:=hwc.symm;subst hwc;exact fw
 ·exact fZ
theorem Fld2_any (S:Nat→Prop) (t:Str) (n:Int) (h u:Bool) (f:Tf) (hf:f.small) (o:List Str) (ks:List Sn) (cc:List Value) (w:World) (hv:SnV w S cc (.mk 2 t n h u f o ks)) :
  Calls Tryz.prog 36 #[.agg cc.toArray] w fun e w'=>e=.returned (.bool (t.isEmpty&&(decide (0≤n∧n≤9999)&&(!o.isEmpty&&(!h&&(!u&&(ks.isEmpty&&tfZ f)))))))∧Below w.heap.size w w':=by
 obtain⟨nb,hnb⟩:∃nb,decide (0≤n∧n≤9999)=nb:=⟨_,rfl⟩;have HNB:=ab hnb;rw [hnb];clear hnb;obtain⟨W0,hW0⟩:∃W0,W0=w.alloc (.cells cc.toArray 44):=⟨_,rfl⟩;have hb0:Below w.heap.size w W0:=by rw [hW0];exact(Below.refl _ _).alloc (Ia _) _
 have HB1:Hid (W0.heap[w.heap.size]?=some (.cells cc.toArray 44 (0,0))):=ab g7;have HW0:=ab hW0;have hcl:=hv.len;have HV0:=ab (hv.later hb0);obtain⟨fc,oa,oc,ka,kc,A⟩:=hv.at_;obtain⟨k0,k1,k2,k3,k4,k16,k17,kr⟩:=A.box HB1.out;clear hW0 A hv kr;have HNO:=ab (rV S 2 t n h u f hf o ks cc W0 HV0.out);obtain⟨bs,hbs⟩:∃bs,(!h&&(!u&&(ks.isEmpty&&tfZ f)))=bs:=⟨_,rfl⟩;rw [hbs] at HNO ⊢;clear HV0 hf hbs;by_cases ht:t=[]
 ·subst ht
  rw [show (([]:Str).isEmpty&&(nb&&(!o.isEmpty&&bs)))=(nb&&(!o.isEmpty&&bs)) from rfl];cases nb with
  | false =>
   exact fy
  | true =>
   rw [Im];cases o with
   | cons a o' =>
    rw [show (!(a::o').isEmpty&&bs)=bs from rfl];obtain⟨on,hon⟩:∃on,(a::o').length=on:=⟨_,rfl⟩;rw [hon] at k16;have hop:0<on:=by rw [←hon];simp
    have go1:decide ((0:Int)<(on:Int))=true:=Iw gj;have go2:decide (0<on)=true:=Iw hop;clear hon;go_enter Tryz.func36,Tryz.ntmps36
    go_upto_region 1 with fail
    rw [←HW0.out];clear HW0;go_cut [3] from 4 to 11 (fun c wx=>c=.bool true∧wx=W0)
    case first =>
     exact ah
    case rest =>
     exact fg
   | nil =>
    rw [show (!([]:List Str).isEmpty&&bs)=false from rfl];clear HNO;exact fC
 ·exact fZ
theorem Fld3_any (S:Nat→Prop) (t:Str) (htl:t.length≤1000000) (n:Int) (h u:Bool) (f:Tf) (hf:f.small) (o:List Str) (ks:List Sn) (cc:List Value) (w:World) (hv:SnV w S cc (.mk 3 t n h u f o ks)) :
  Calls Tryz.prog 36 #[.agg cc.toArray] w fun e w'=>e=.returned (.bool (od t&&(decide (n=0)&&(o.isEmpty&&lv (.mk 3 t n h u f o ks)))))∧Below w.heap.size w w':=by
 obtain⟨nb,hnb⟩:∃nb,decide (0≤n∧n≤9999)=nb:=⟨_,rfl⟩;have HNB:=ab hnb;clear hnb;obtain⟨W0,hW0⟩:∃W0,W0=w.alloc (.cells cc.toArray 44):=⟨_,rfl⟩;have hb0:Below w.heap.size w W0:=by rw [hW0];exact(Below.refl _ _).alloc (Ia _) _
 have HB1:Hid (W0.heap[w.heap.size]?=some (.cells cc.toArray 44 (0,0))):=ab g7;have HW0:=ab hW0;have hcl:=hv.len;have HV0:=ab (hv.later hb0);obtain⟨fc,oa,oc,ka,kc,A⟩:=hv.at_;obtain⟨k0,k1,k2,k3,k4,k16,k17,kr⟩:=A.box HB1.out;clear hW0 A hv kr;have HNO:=ab (uK S 3 t n h u f hf o ks cc W0 HV0.out);have HNA:=ab (fun w=>vJ t w htl);obtain⟨bs,hbs⟩:∃bs,lv (.mk 3 t n h u f o ks)=bs:=⟨_,rfl⟩;rw [hbs] at HNO ⊢;clear HV0 hf hbs;cases hnm:od t with
 | false =>
  rw [Bool.false_and];rw [hnm] at HNA;clear HNO hnm;exact eZ
 | true =>
  rw [Im];rw [hnm] at HNA;clear hnm;by_cases hn:n=0
  ·rw [Iw hn,Im]
   have gn:(n==0)=true:=by rw [Hp];exact hn
   clear hn;cases o with
   | cons a o' =>
    rw [show ((a::o').isEmpty&&bs)=false from rfl];obtain⟨on,hon⟩:∃on,(a::o').length=on:=⟨_,rfl⟩;rw [hon] at k16;have hop:0<on:=by rw [←hon];simp
    have go1:((on:Int)==0)=false:=by rw [Iu];omega
    clear hon HNO;exact eZ
   | nil =>
    rw [show (([]:List Str).isEmpty&&bs)=bs from rfl];go_enter Tryz.func36,Tryz.ntmps36
    go_upto_region 1 with fail
    rw [←HW0.out];clear HW0;go_cut [3] from 4 to 11 (fun c wx=>c=.bool nb∧wx=W0)
    case first =>
     exact ah
    case rest =>
     obtain⟨rfl,hwc⟩:=hcut;replace hwc:=hwc.symm;subst hwc;go_wp2_with (go_at_call 53;refine(HNA.out _).mono ?_)
     first|rintro e w5 rfl rfl|rintro e w5 ⟨rfl,rfl⟩
     exact fw
  ·rw [Ix hn,Bool.false_and]
   have gn:(n==0)=false:=by rw [Iu];exact hn
   clear hn HNO;exact eZ
def rI (ks:List Sn) (i:Nat):Bool:=match i with|0=>false|j+1=>((ks[j]?).map fun x=>decide (x.kind=0)).getD false
theorem xR:∀{l:List Sn},Sn.wfL l=true→∀x∈l,x.wf=true
 | [],_,x,h=>by cases h
 | y::r,hl,x,h=>by
  simp only [Sn.wfL,Ie] at hl;rcases Ii.1 h with rfl|h
  ·exact hl.1
  ·exact xR hl.2 x h
def fitL:Nat→Bool→List Sn→Bool
 | _,_,[]=>true
 | d,pt,.mk k t n h u f o ks::r=>l6 (.mk k t n h u f o ks)&&(!(decide (k=0)&&pt)&&((!h||(decide (0<d)&&fitL (d-1) false ks))&&fitL d (decide (k=0)) r))
theorem vj {k:Int} {t:Str} {n:Int} {u:Bool} {f:Tf} {o:List Str} {ks:List Sn} (hf:l6 (.mk k t n false u f o ks)=true):ks=[]:=by
 have hb:∀{k:Int} {t:Str} {n:Int} {u:Bool} {f:Tf} {o:List Str} {ks:List Sn},lv (.mk k t n false u f o ks)=true→ks=[]:=by
  intro k t n u f o ks h;cases u with
  | true =>
   have h':(ks.isEmpty&&oY f)=true:=h;rw [Ie,List.isEmpty_iff] at h';exact h'.1
  | false =>
   have h':(ks.isEmpty&&tfZ f)=true:=h;rw [Ie,List.isEmpty_iff] at h';exact h'.1
 have hn:∀{u:Bool} {f:Tf} {ks:List Sn},(!false&&(!u&&(ks.isEmpty&&tfZ f)))=true→ks=[]:=by
  intro u f ks h;simp only [Ie,List.isEmpty_iff] at h;exact h.2.2.1
 have hf':(if k=0 then !t.isEmpty&&(decide (n=0)&&(o.isEmpty&&(!false&&(!u&&(ks.isEmpty&&tfZ f))))) else if k=1 then t.isEmpty&&(decide (0≤n∧n≤9999)&&(o.isEmpty&&lv (.mk k t n false u f o ks))) else if k=2 then t.isEmpty&&(decide (0≤n∧n≤9999)&&(!o.isEmpty&&(!false&&(!u&&(ks.isEmpty&&tfZ f))))) else if k=3 then od t&&(decide (n=0)&&(o.isEmpty&&lv (.mk k t n false u f o ks))) else false)=true:=hf;split at hf'
 ·rw [Ie,Ie,Ie] at hf';exact hn hf'.2.2.2
 split at hf'
 ·rw [Ie,Ie,Ie] at hf';exact hb hf'.2.2.2
 split at hf'
 ·rw [Ie,Ie,Ie] at hf';exact hn hf'.2.2.2
 split at hf'
 ·rw [Ie,Ie,Ie] at hf';exact hb hf'.2.2.2
 ·cases hf'
theorem AX:∀(N:Nat) (l:List Sn),Sn.partsL l≤N→∀(d:Nat) (pt:Bool),fitL d pt l=(adjS pt l&&Sn.wfL l&&decide (Sn.deepL l≤d))
 | _,[],_,d,pt=>by simp [fitL,adjS,Sn.wfL,Sn.deepL]
 | 0,x::r,h,_,_=>by have:=Sn.parts_pos x;simp only [Sn.partsL] at h;omega
 | N+1,.mk k t n h u f o ks::r,hN,d,pt=>by
  simp only [Sn.partsL,Sn.parts] at hN;have hp:∀l:List Sn,Sn.partsL l=Sn.partsL l:=fun _=>rfl
  rw [fitL,AX N r gj d,AX N ks gj (d-1) false];rw [show adjS pt (.mk k t n h u f o ks::r)=(!(decide (k=0)&&pt)&&adjS (decide (k=0)) r) from rfl];simp only [Sn.wfL,Sn.wf,Sn.deepL,Sn.deep];cases hfl:l6 (.mk k t n h u f o ks) with
  | false=>simp
  | true =>
   cases h with
   | false =>
    obtain rfl:=vj hfl;simp only [Sn.deepL,Bool.not_false,Bool.true_or,Im,Ho,IF,if_false,Nat.add_zero,Nat.zero_max];generalize decide (k=0)=b0
    generalize adjS b0 r=A
    generalize Sn.wfL r=B
    generalize decide (Sn.deepL r≤d)=C
    cases b0<;>cases pt<;>cases A<;>cases B<;>cases C<;>rfl
   | true =>
    simp only [Bool.not_true,Bool.false_or,Im,if_true];have e:decide (max (Sn.deepL ks+1) (Sn.deepL r)≤d)=((decide (0<d)&&decide (Sn.deepL ks≤d-1))&&decide (Sn.deepL r≤d)):=by
     rw [Bool.eq_iff_iff];simp only [Ie,Hs];omega
    rw [e];generalize decide (k=0)=b0
    generalize adjS b0 r=A
    generalize Sn.wfL r=B
    generalize decide (Sn.deepL r≤d)=C
    generalize adjS false ks=A2
    generalize Sn.wfL ks=B2
    generalize decide (0<d)=D
    generalize decide (Sn.deepL ks≤d-1)=E
    cases b0<;>cases pt<;>cases A<;>cases B<;>cases C<;>cases A2<;>cases B2<;>cases D<;>cases E<;>rfl
theorem fitL_may (l:List Sn):fitL 32 false l=oB l:=AX _ l (Ia _) 32 false
theorem Fld4_any (S:Nat→Prop) (k:Int) (t:Str) (n:Int) (h u:Bool) (f:Tf) (o:List Str) (ks:List Sn) (cc:List Value) (w:World) (hv:SnV w S cc (.mk k t n h u f o ks)) (n0:k≠0) (n1:k≠1) (n2:k≠2) (n3:k≠3) :
  Calls Tryz.prog 36 #[.agg cc.toArray] w fun e w'=>e=.returned (.bool false)∧Below w.heap.size w w':=by
 have g0:(k==0)=false:=by rw [Iu];exact n0
 have g1:(k==1)=false:=by rw [Iu];exact n1
 have g2:(k==2)=false:=by rw [Iu];exact n2
 have g3:(k==3)=false:=by rw [Iu];exact n3
 clear n0 n1 n2 n3;obtain⟨W0,hW0⟩:∃W0,W0=w.alloc (.cells cc.toArray 44):=⟨_,rfl⟩;have hb0:Below w.heap.size w W0:=by rw [hW0];exact(Below.refl _ _).alloc (Ia _) _
 have HB1:Hid (W0.heap[w.heap.size]?=some (.cells cc.toArray 44 (0,0))):=ab g7;have HW0:=ab hW0;obtain⟨fc,oa,oc,ka,kc,A⟩:=hv.at_;obtain⟨k0,k1,k2,k3,k4,k16,k17,kr⟩:=A.box HB1.out;clear hW0 A hv kr;go_enter Tryz.func36,Tryz.ntmps36
 go_upto_region 1 with fail
 rw [←HW0.out];clear HW0;go_cut [3] from 4 to 11 (fun c wx=>(∃nb:Bool,c=.bool nb)∧wx=W0)
 case first =>
  by_cases q0:0≤n
  ·have g0:decide (0≤n)=true:=Iw q0
   clear q0;go_wp2_with fail
   go_meet
   exact⟨⟨_,rfl⟩,rfl⟩
  ·have g0:decide (0≤n)=false:=Ix q0
   clear q0;go_wp2_with fail
   go_meet
   exact⟨⟨_,rfl⟩,rfl⟩
 case rest =>
  obtain⟨⟨nb,rfl⟩,hwc⟩:=hcut;replace hwc:=hwc.symm;subst hwc;go_wp2
  go_ret
  exact⟨rfl,hb0⟩
theorem yW {k:Int} {t:Str} {n:Int} {h u:Bool} {f:Tf} {o:List Str} {ks:List Sn} (n0:k≠0) (n1:k≠1) (n2:k≠2) (n3:k≠3):l6 (.mk k t n h u f o ks)=false:=by
 show (if k=0 then _ else if k=1 then _ else if k=2 then _ else if k=3 then _ else false)=false
 rw [Hx n0,Hx n1,Hx n2,Hx n3]
theorem fld_any {x:Sn} (hs:x.small) (S:Nat→Prop) (cc:List Value) (w:World) (hv:SnV w S cc x) :
  Calls Tryz.prog 36 #[.agg cc.toArray] w fun e w'=>e=.returned (.bool (l6 x))∧Below w.heap.size w w':=by
 obtain⟨k,t,n,h,u,f,o,ks⟩:=x;obtain⟨s1,s2,s3,s4,_⟩:=hs;by_cases n0:k=0
 ·subst n0;exact Fld0_any S t n h u f s1 o ks cc w hv
 by_cases n1:k=1
 ·subst n1;exact Fld1_any S t n h u f s1 o ks cc w hv
 by_cases n2:k=2
 ·subst n2;exact Fld2_any S t n h u f s1 o ks cc w hv
 by_cases n3:k=3
 ·subst n3;exact Fld3_any S t s4 n h u f s1 o ks cc w hv
 ·rw [yW n0 n1 n2 n3]
  exact Fld4_any S k t n h u f o ks cc w hv n0 n1 n2 n3
end Go.Proofs.YtdcnncgpomcaaaaGreatDoor
