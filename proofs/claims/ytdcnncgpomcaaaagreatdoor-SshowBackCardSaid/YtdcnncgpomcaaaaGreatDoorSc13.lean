/- walk of sread: options -/
import Derived.Test.YtdcnncgpomcaaaaGreatDoorSc6
import Derived.Test.YtdcnncgpomcaaaaGreatDoorSc10
import Derived.Test.YtdcnncgpomcaaaaGreatDoorSc12
set_option maxRecDepth 100000
set_option maxHeartbeats 4000000
namespace Go.Proofs.YtdcnncgpomcaaaaGreatDoor
open Go.RowKit
theorem Fi:(Tryz.prog.info? 9).map (fun i=>(i.zero,i.size,i.bytes))=some (some (.string ⟨#[]⟩),1,16):=by kernel_rfl
theorem Pl.grownHi {x:List Value} {w w':World} {g:Nat} {s:Str} {i:Nat} (h:Pl x w g s i) {row:Option Nat} (hg:w.grownBy w' row) (hr:row≠some g):Pl x w' g s i :=
 ⟨(hg.block g (ky h.1) (by first|exact hr|exact fun e=>hr e|exact fun e=>hr e.symm)).trans h.1,h.2⟩
theorem Af {w:World} {B g:Nat} {e:TypeId} {sz:Nat} {v:Value} {n:Nat} {xs:List Value} (h:w.ownsRow B e sz v n xs) (hg:g<B):v.ownBlock≠some g:=fun e'=>by have:=(h.lt g e').1;omega
theorem qq {w0 w w':World} {v:Value} {B:Nat} {e:TypeId} {sz n:Nat} {xs:List Value} {row:Option Nat} (h:w0.grownBy w row) (hown:w.ownsRow B e sz v n xs) (hB:w0.heap.size≤B) (hg:w.grownBy w' v.ownBlock):w0.grownBy w' row :=
 ⟨hg.os.trans h.os,hg.tape.trans h.tape,hg.output.trans h.output,Ib h.size hg.size,fun k hk hne=>(hg.block k (H9 hk h.size) (by
  intro e';first
   | (have:=(hown.lt k e').1;omega)
   | (have:=(hown.lt k e'.symm).1;omega))).trans (h.block k hk hne)⟩
def OptS (x:List Value) (g:Nat) (s:Str) (R:List Str × Str) (w:World) (e:Ending) (w':World):Prop:=w.grownBy w' (some g) ∧
 ∃(a:Option Addr) (c j:Nat),e=.returned (.tuple #[.slice a R.1.length c,.bool (List.isPrefixOf [124,125] R.2)])∧SlS w' (fun b=>w.heap.size≤b) a 1 R.1.length (l8 R.1)∧R.1.length≤s.length+1∧Pl x w' g s j ∧
  s.drop j=if List.isPrefixOf [124,125] R.2=true then R.2.drop 2 else R.2
theorem OptS.mk' {x:List Value} {g:Nat} {s:Str} {o':List Str} {rest:Str} {w w':World} {e:Ending} {a:Option Addr} {n c j:Nat} {ok:Bool} (hg:w.grownBy w' (some g)) (he:e=.returned (.tuple #[.slice a n c,.bool ok])) (hn:o'.length=n)
  (hok:List.isPrefixOf [124,125] rest=ok) (hown:w'.ownsRow w.heap.size 9 1 (.slice a n c) n (l8 o')) (hlen:n≤s.length+1) (hp:Pl x w' g s j) (hd:s.drop j=if ok=true then rest.drop 2 else rest):OptS x g s (o',rest) w e w':=by
 subst hn;subst hok;exact⟨hg,a,c,j,he,SlS.ownB hown,hlen,hp,hd⟩
def OpRel (x:List Value) (g:Nat) (s:Str) (w:World) (RX:List Str × Str) (k:Nat) (v4 v5:Value) (wr:World):Prop :=
 ∃(j:Nat) (o:List Str) (t:Str),Pl x wr g s j∧s.length-j<k∧wr.ownsRow w.heap.size 9 1 v4 o.length (l8 o)∧wr.ownsRow w.heap.size 5 1 v5 t.length (lZ t)∧w.grownBy wr (some g)∧o.length≤j∧t.length≤j∧Hid (optL (s.drop j) o t=RX)
theorem Gj {x:List Value} {g:Nat} {s:Str} {i:Nat} (w:World) (h:Pl x w g s i) :
  Calls Tryz.prog 93 #[.pointer (some ⟨g,0,none⟩)] w fun e w'=>OptS x g s (optL (s.drop i) [] []) w e w':=by
 obtain⟨RX,hRX⟩:∃RX,optL (s.drop i) [] []=RX:=⟨_,rfl⟩;rw [hRX];have HR:=ab hRX;have hgB:=h.lt;have hsl:=h.2.2;obtain⟨iS,hiS⟩:=info_parts Fi;obtain⟨iu,hiu⟩:=info_parts qj;have HPL:=ab h;have hi:=h.2.1;clear h hRX;go_enter Tryz.func93,Tryz.ntmps93
 go_wp2
 go_loopg [4,5] (s.length+1) (fun k v4 v5 wr=>OpRel x g s w RX k v4 v5 wr)
 case atStart=>exact⟨i,[],[],HPL.out,by omega,World.ownsRow_nil _ _ _ _,World.ownsRow_nil _ _ _ _,kZ _ _,by simp,by simp,HR⟩
 case round =>
  clear HR HPL;obtain⟨j,o,t,hpl,hk,ho,ht,hg,hol,htl,HF⟩:=hrel;have hj:=hpl.2.1;have HPL:=ab hpl;have hB:=hg.size;have d0:∀x':ExtOf wr,x'.val.cell? ⟨g,0,none⟩=some (.string ⟨s.toArray⟩):=ExtOf.cell hpl.c0;have d1:∀x':ExtOf wr,x'.val.cell? ⟨g,1,none⟩=some (.int .i64 j):=ExtOf.cell hpl.c1;clear hpl;cases hd:s.drop j with
  | nil =>
   have h2:=lX hd;have gl:decide ((j:Int)<(s.length:Int))=false:=Ix gj;have gln:decide (j<s.length)=false:=Ix gj;have HX:Hid (RX=(o++[t],[])):=ab ic;have HNO:Hid (List.isPrefixOf [124,125] (s.drop j)=false):=ab (by rw [hd];rfl);have HD:=ab hd;clear hd HF;go_wp2
   refine kE gC gC ?_;repeat (go_big_quiet_step ((fail)))
   refine wpQuiet_nil ?_;rintro _ ⟨xq,rfl⟩;have hba:=xq.ext;have hpa:=HPL.out.later hba;have hga:=kw hg (kx hba (some g));generalize xq.val=wa at *
   clear d0 d1 hg;have hoa:=kJ ho (hba.trans ((Below.refl _ _).drew));have hta:=kJ ht (hba.trans ((Below.refl _ _).drew));have hcv:=nU (P:=Tryz.prog) (src:=52) (dst:=9) Tryz.underlying52 Tryz.underlying5 Tryz.underlying9 hta;have hBa:w.heap.size≤wa.drew.heap.size:=hga.size;have HPA:=ab (hpa.later ((Below.refl _ _).drew));have HGA:=ab (kw hga (kx ((Below.refl wa.heap.size wa).drew) (some g)));clear ho ht hpa hga hba;go_wp2
   go_region_law (first
    | (refine pm w.heap.size 9 (w:=wa.drew) rfl rfl _ _ 42 rfl Tryz.underlying42 hiS rfl gv rfl hoa rfl iz rfl gP gj gv hBa ?_;intro v8 w8 hown8 hg8 _ hne8;have hp8:Pl x w8 g s j:=HPA.out.grownHi hg8 (Af hoa hgB))
    | (go_simp;go_at_call 73;refine(mH _ hp8 gz HNO.out).mono ?_;rintro e w9 ⟨rfl,hp9,hg9⟩))
   all_goals
    go_wp2
    go_ret2
    obtain⟨a8,c8,rfl⟩:=kW hown8;have hown9:=kT hown8 hg9 hgB;have hgz:w.grownBy w9 (some g):=kw (qq HGA.out hoa (Ia _) hg8) hg9;rw [HX.out];exact OptS.mk' (j:=j) hgz rfl gz rfl j8 gj hp9 (by rw [HD.out];rfl)
  | cons c r =>
   obtain⟨h2,h3,hr⟩:=kY hd;have gl:decide ((j:Int)<(s.length:Int))=true:=Iw gj;have gln:decide (j<s.length)=true:=Iw gj;have HSEE:Hid (∀x':ExtOf wr,Calls Tryz.prog 39 #[.pointer (some ⟨g,0,none⟩),.string ⟨([124]).toArray⟩] x'.val fun e w'=>e=.returned (.bool (decide (c.toNat=124)))∧Below x'.val.heap.size x'.val w'):=ab fun x'=>(Bd (p:=[124]) _ (HPL.out.later x'.ext) gz).mono fun _ _ ⟨h1,h2⟩=>⟨by rw [h1,hd,pre1];rfl,h2⟩
   have HD:=ab hd;by_cases h124:c.toNat=124
   ·rw [Iw h124] at HSEE
    have HX:Hid (RX=(o++[t],c::r)):=ab (by rw [←HF.out,hd,mR,Hu h124]);cases hb:List.isPrefixOf [124,125] (c::r) with
    | true =>
     have HB:=ab hb;have HYES:Hid (List.isPrefixOf [124,125] (s.drop j)=true):=ab (by rw [hd];exact hb);clear hd HF hb h3 hr h124;go_wp2
     refine kE gC gC ?_;repeat (go_big_quiet_step ((go_at_call 39;exact lA (HSEE.out _))))
     refine wpQuiet_nil ?_;rintro _ ⟨xq,rfl⟩;have hba:=xq.ext;have hpa:=HPL.out.later hba;have hga:=kw hg (kx hba (some g));generalize xq.val=wa at *
     clear d0 d1 hg;clear HSEE;have hoa:=kJ ho (hba.trans ((Below.refl _ _).drew));have hta:=kJ ht (hba.trans ((Below.refl _ _).drew));have hcv:=nU (P:=Tryz.prog) (src:=52) (dst:=9) Tryz.underlying52 Tryz.underlying5 Tryz.underlying9 hta;have hBa:w.heap.size≤wa.drew.heap.size:=hga.size;have HPA:=ab (hpa.later ((Below.refl _ _).drew));have HGA:=ab (kw hga (kx ((Below.refl wa.heap.size wa).drew) (some g)));clear ho ht hpa hga hba;go_wp2
     go_region_law (first
      | (refine pm w.heap.size 9 (w:=wa.drew) rfl rfl _ _ 42 rfl Tryz.underlying42 hiS rfl gv rfl hoa rfl iz rfl gP gj gv hBa ?_;intro v8 w8 hown8 hg8 _ hne8;have hp8:Pl x w8 g s j:=HPA.out.grownHi hg8 (Af hoa hgB))
      | (go_simp;go_at_call 73;refine(mZ _ hp8 gz HYES.out).mono ?_;rintro e w9 ⟨rfl,hp9,hg9⟩))
     all_goals
      go_wp2
      go_ret2
      obtain⟨a8,c8,rfl⟩:=kW hown8;have hown9:=kT hown8 hg9 hgB;have hgz:w.grownBy w9 (some g):=kw (qq HGA.out hoa (Ia _) hg8) hg9;rw [HX.out];exact OptS.mk' (j:=(j+2)) hgz rfl gz HB.out j8 gj hp9 (by rw [←List.drop_drop,HD.out];rfl)
    | false =>
     have HB:=ab hb;have HNO:Hid (List.isPrefixOf [124,125] (s.drop j)=false):=ab (by rw [hd];exact hb);clear hd HF hb h3 hr h124;go_wp2
     refine kE gC gC ?_;repeat (go_big_quiet_step ((go_at_call 39;exact lA (HSEE.out _))))
     refine wpQuiet_nil ?_;rintro _ ⟨xq,rfl⟩;have hba:=xq.ext;have hpa:=HPL.out.later hba;have hga:=kw hg (kx hba (some g));generalize xq.val=wa at *
     clear d0 d1 hg;clear HSEE;have hoa:=kJ ho (hba.trans ((Below.refl _ _).drew));have hta:=kJ ht (hba.trans ((Below.refl _ _).drew));have hcv:=nU (P:=Tryz.prog) (src:=52) (dst:=9) Tryz.underlying52 Tryz.underlying5 Tryz.underlying9 hta;have hBa:w.heap.size≤wa.drew.heap.size:=hga.size;have HPA:=ab (hpa.later ((Below.refl _ _).drew));have HGA:=ab (kw hga (kx ((Below.refl wa.heap.size wa).drew) (some g)));clear ho ht hpa hga hba;go_wp2
     go_region_law (first
      | (refine pm w.heap.size 9 (w:=wa.drew) rfl rfl _ _ 42 rfl Tryz.underlying42 hiS rfl gv rfl hoa rfl iz rfl gP gj gv hBa ?_;intro v8 w8 hown8 hg8 _ hne8;have hp8:Pl x w8 g s j:=HPA.out.grownHi hg8 (Af hoa hgB))
      | (go_simp;go_at_call 73;refine(mH _ hp8 gz HNO.out).mono ?_;rintro e w9 ⟨rfl,hp9,hg9⟩))
     all_goals
      go_wp2
      go_ret2
      obtain⟨a8,c8,rfl⟩:=kW hown8;have hown9:=kT hown8 hg9 hgB;have hgz:w.grownBy w9 (some g):=kw (qq HGA.out hoa (Ia _) hg8) hg9;rw [HX.out];exact OptS.mk' (j:=j) hgz rfl gz HB.out j8 gj hp9 (by rw [HD.out];rfl)
   ·rw [Ix h124] at HSEE
    by_cases h44:c.toNat=44
    ·have HX:Hid (optL (s.drop (j+1)) (o++[t]) []=RX):=ab (by rw [←HF.out,hd,mR,Hx h124,Hu h44,hr])
     have HYES:Hid (List.isPrefixOf [44] (s.drop j)=true):=ab (by rw [hd,pre1];exact Iw h44);clear hd HF h3 hr h124 h44;go_wp2
     refine kE gC gC ?_;repeat (go_big_quiet_step ((go_at_call 39;exact lA (HSEE.out _))))
     refine wpQuiet_nil ?_;rintro _ ⟨xq,rfl⟩;have hba:=xq.ext;have hpa:=HPL.out.later hba;have hga:=kw hg (kx hba (some g));generalize xq.val=wa at *
     clear d0 d1 hg;clear HSEE;have hoa:=kJ ho hba;have hta:=kJ ht hba;clear ho ht hba;go_wp2_with (go_at_call 73;refine(mZ _ hpa gz HYES.out).mono ?_)
     rintro e w1 ⟨rfl,hp1,hg1⟩;have HP1:=ab hp1;have hoo:=kT hoa hg1 hgB;have hot:=kT hta hg1 hgB;have HG1:=ab (kw hga hg1);have hB1:w.heap.size≤w1.heap.size:=(kw hga hg1).size;have hcv:=nU (P:=Tryz.prog) (src:=52) (dst:=9) Tryz.underlying52 Tryz.underlying5 Tryz.underlying9 hot;clear hoa hta hpa hga hp1 hg1;go_wp2_with (at_builtin;refine l7 w.heap.size 9 rfl _ _ 42 rfl Tryz.underlying42 hiS rfl gv rfl hoo rfl iz rfl gP gj gv hB1 ?_;intro v8 w8 hown8 hg8 _ hne8)
     go_roundg (s.length-j)
     case measure=>omega
     case rel =>
      exact⟨j+1,o++[t],[],HP1.out.grownHi hg8 (Af hoo hgB),by omega,by rw [rX,Ig];exact hown8,World.ownsRow_nil _ _ _ _,qq HG1.out hoo (Ia _) hg8,by simp;omega,by simp,HX⟩
    ·have HNO:Hid (List.isPrefixOf [44] (s.drop j)=false):=ab (by rw [hd,pre1];exact Ix h44)
     have HX:Hid (optL (nxtM fiveS (c::r)).2 o (t++[(nxtM fiveS (c::r)).1])=RX):=ab (by rw [←HF.out,hd,mR,Hx h124,Hx h44]);have HLN:Hid ((nxtM fiveS (c::r)).2.length≤r.length∧r.length+1=s.length-j):=ab ⟨nV _ _ _,by have:=Hy List.length hd;simp at this;omega⟩;clear hd HF h3 hr h124 h44;go_wp2
     refine kE gC gC ?_;repeat (go_big_quiet_step ((go_at_call 39;exact lA (HSEE.out _))))
     refine wpQuiet_nil ?_;rintro _ ⟨xq,rfl⟩;have hba:=xq.ext;have hpa:=HPL.out.later hba;have hga:=kw hg (kx hba (some g));generalize xq.val=wa at *
     clear d0 d1 hg;clear HSEE;have hoa:=kJ ho hba;have hta:=kJ ht hba;clear ho ht hba;go_wp2_with (go_at_call 73;refine(mH _ hpa gz HNO.out).mono ?_)
     rintro e w1 ⟨rfl,hp1,hg1⟩;have hoo:=kT hoa hg1 hgB;have hot:=kT hta hg1 hgB;have hgg1:=kw hga hg1;clear hoa hta hpa hga hg1;have HNX:=ab (Gz (th:=[36,125,92,44,124]) w1 hp1 HD.out gz);clear hp1;go_wp2_with (go_at_call 42;refine HNX.out.mono ?_)
     rintro e w2 ⟨rfl,⟨j2,hp2,hd2,hj2⟩,hg2⟩;have HP2:=ab hp2;have hoo2:=kT hoo hg2 hgB;have hot2:=kT hot hg2 hgB;have HG2:=ab (kw hgg1 hg2);have hB2:w.heap.size≤w2.heap.size:=(kw hgg1 hg2).size;have hls:s.length-j2<s.length-j∧j<j2:=by
      have h1:=HLN.out;have h2:=Hy List.length hd2;rw [Iy] at h2;have h3:=hp2.2.1;have h4:(nxtM [36,125,92,44,124] (c::r)).2.length≤r.length:=h1.1;omega
     have HD2:=ab hd2;obtain⟨nb,hnb⟩:∃nb,nb=(nxtM [36,125,92,44,124] (c::r)).1:=⟨_,rfl⟩;have HX2:Hid (optL (s.drop j2) o (t++[nb])=RX):=ab (by rw [hd2,hnb];exact HX.out);rw [←hnb];clear hoo hot hgg1 hp2 hg2 hd2 HX HLN HNX hnb;go_wp2_with (at_builtin;refine l7 w.heap.size 5 rfl _ _ 52 rfl Tryz.underlying52 hiu rfl gv rfl hot2 rfl iz rfl gP gj gv hB2 ?_;intro v8 w8 hown8 hg8 _ hne8)
     go_roundg (s.length-j)
     case measure=>omega
     case rel =>
      exact⟨j2,o,t++[nb],HP2.out.grownHi hg8 (Af hot2 hgB),by omega,hoo2.kept hg8 (rT hoo2 hot2 gv),by simpa [lZ] using hown8,qq HG2.out hot2 (Ia _) hg8,by omega,by simp;omega,HX2⟩
theorem By (fs:List Fm):∀u∈l5 fs,u.oneCell'=true:=by
 intro u hu;simp only [l5,List.mem_flatMap] at hu;obtain⟨f,_,hf⟩:=hu;simp only [Fm.cells,Ii,Ip,Iq] at hf;rcases hf with rfl|rfl|rfl|rfl|rfl<;>rfl
def TfV (w:World) (S:Nat→Prop) (cc:List Value) (f:Tf):Prop :=
 ∃(rc:List Value) (fa:Option Addr) (fc:Nat),RxV w S rc f.rx∧SlS w S fa 5 f.fs.length (l5 f.fs)∧cc=rc++[.slice fa f.fs.length fc,.bool f.fold,.bool f.all]
theorem TfV.keep {w w':World} {S:Nat→Prop} (hk:Kept S w w') {c:List Value} {f:Tf} (h:TfV w S c f):TfV w' S c f:=by
 obtain⟨rc,fa,fc,h1,h2,h3⟩:=h;exact⟨rc,fa,fc,h1.keep hk,h2.keep hk,h3⟩
theorem TfV.mono {w:World} {S S':Nat→Prop} (hS:∀b,S b→b<w.heap.size→S' b) {c:List Value} {f:Tf} (h:TfV w S c f):TfV w S' c f:=by
 obtain⟨rc,fa,fc,h1,h2,h3⟩:=h;exact⟨rc,fa,fc,h1.mono hS,h2.mono hS,h3⟩
theorem TfV.len {w:World} {S:Nat→Prop} {c:List Value} {f:Tf} (h:TfV w S c f):c.length=11:=by
 obtain⟨rc,fa,fc,h1,h2,rfl⟩:=h;rw [Ig,h1.len];rfl
theorem TfV.one {w:World} {S:Nat→Prop} {c:List Value} {f:Tf} (h:TfV w S c f):∀u∈c,u.oneCell'=true:=by
 obtain⟨rc,fa,fc,h1,h2,rfl⟩:=h;intro u hu;rcases IB.1 hu with hu|hu
 ·exact h1.one u hu
 ·simp only [Ii,Ip,Iq] at hu
  rcases hu with rfl|rfl|rfl<;>rfl
theorem TfV.zero (w:World) (S:Nat→Prop):TfV w S (rxc 0 [] false none ([]:List Row).length 0 0 0 false none ([]:List Rx).length 0++[.slice none 0 0,.bool false,.bool false]) tf0 :=
 ⟨_,none,0,RxV.close (SlS.none_ _ _ _ _) ⟨[],SlS.none_ _ _ _ _,.nil⟩,SlS.none_ _ _ _ _,rfl⟩
def snc (k:Int) (t:Str) (n:Int) (h u:Bool) (fc:List Value) (oa:Option Addr) (on oc:Nat) (ka:Option Addr) (kn kc:Nat):List Value :=
 [.int .i64 k,.string ⟨t.toArray⟩,.int .i64 n,.bool h,.bool u]++fc++[.slice oa on oc,.slice ka kn kc]
mutual
inductive SnV (w:World) (S:Nat→Prop):List Value→Sn→Prop
 | mk {k:Int} {t:Str} {n:Int} {h u:Bool} {f:Tf} {os:List Str} {ks:List Sn} {fc:List Value} {oa ka:Option Addr} {oc kc:Nat} {css:List (List Value)} :
   TfV w S fc f→SlS w S oa 1 os.length (l8 os)→SlS w S ka 18 ks.length css.flatten→SnVs w S css ks→SnV w S (snc k t n h u fc oa os.length oc ka ks.length kc) (.mk k t n h u f os ks)
inductive SnVs (w:World) (S:Nat→Prop):List (List Value)→List Sn→Prop
 | nil:SnVs w S [] []
 | cons {c:List Value} {x:Sn} {cs:List (List Value)} {xs:List Sn}:SnV w S c x→SnVs w S cs xs→SnVs w S (c::cs) (x::xs)
end
mutual
theorem SnV.keep {w w':World} {S:Nat→Prop} (hk:Kept S w w'):∀{c:List Value} {x:Sn},SnV w S c x→SnV w' S c x
 | _,_,.mk h0 h1 h2 h3=>.mk (h0.keep hk) (h1.keep hk) (h2.keep hk) (SnVs.keep hk h3)
theorem SnVs.keep {w w':World} {S:Nat→Prop} (hk:Kept S w w'):∀{cs:List (List Value)} {xs:List Sn},SnVs w S cs xs→SnVs w' S cs xs
 | _,_,.nil=>.nil
 | _,_,.cons h1 h2=>.cons (SnV.keep hk h1) (SnVs.keep hk h2)
end
mutual
theorem SnV.mono {w:World} {S S':Nat→Prop} (hS:∀b,S b→b<w.heap.size→S' b):∀{c:List Value} {x:Sn},SnV w S c x→SnV w S' c x
 | _,_,.mk h0 h1 h2 h3=>.mk (h0.mono hS) (h1.mono hS) (h2.mono hS) (SnVs.mono hS h3)
theorem SnVs.mono {w:World} {S S':Nat→Prop} (hS:∀b,S b→b<w.heap.size→S' b):∀{cs:List (List Value)} {xs:List Sn},SnVs w S cs xs→SnVs w S' cs xs
 | _,_,.nil=>.nil
 | _,_,.cons h1 h2=>.cons (SnV.mono hS h1) (SnVs.mono hS h2)
end
theorem SnV.later {w w':World} {S:Nat→Prop} {c:List Value} {x:Sn} (h:SnV w S c x) (hb:Below w.heap.size w w'):SnV w' S c x:=h.keep (Kept.all hb)
theorem SnVs.later {w w':World} {S:Nat→Prop} {c:List (List Value)} {x:List Sn} (h:SnVs w S c x) (hb:Below w.heap.size w w'):SnVs w' S c x:=h.keep (Kept.all hb)
theorem SnV.len {w:World} {S:Nat→Prop} {c:List Value} {x:Sn} (h:SnV w S c x):c.length=18:=by
 cases h with
 | mk h0 h1 h2 h3=>unfold snc;simp [h0.len]
theorem SnVs.length {w:World} {S:Nat→Prop}:∀{cs:List (List Value)} {xs:List Sn},SnVs w S cs xs→cs.length=xs.length
 | _,_,.nil=>rfl
 | _,_,.cons _ h=>by simp [h.length]
theorem SnVs.eights {w:World} {S:Nat→Prop}:∀{cs:List (List Value)} {xs:List Sn},SnVs w S cs xs→∀c∈cs,c.length=18
 | _,_,.nil,c,hc=>by simp at hc
 | _,_,.cons h1 h2,c,hc=>by
  rcases Ii.1 hc with rfl|hc
  ·exact h1.len
  ·exact h2.eights c hc
theorem SnVs.at_ {w:World} {S:Nat→Prop}:∀{cs:List (List Value)} {xs:List Sn},SnVs w S cs xs→∀{k:Nat} {x:Sn},xs[k]?=some x→∃c,cs[k]?=some c∧SnV w S c x
 | _,_,.nil,k,x,h=>by simp at h
 | _,_,.cons h1 h2,0,x,h=>by simp at h;subst h;exact⟨_,rfl,h1⟩
 | _,_,.cons h1 h2,k+1,x,h=>by simpa using h2.at_ gu
theorem SnVs.append {w:World} {S:Nat→Prop}:∀{cs ds:List (List Value)} {xs ys:List Sn},SnVs w S cs xs→SnVs w S ds ys→SnVs w S (cs++ds) (xs++ys)
 | _,_,_,_,.nil,h=>h
 | _,_,_,_,.cons h1 h2,h=>.cons h1 (h2.append h)
theorem SnV.one {w:World} {S:Nat→Prop} {c:List Value} {x:Sn} (h:SnV w S c x):∀u∈c,u.oneCell'=true:=by
 cases h with
 | mk h0 h1 h2 h3 =>
  intro u hu;unfold snc at hu;rcases IB.1 hu with hu|hu
  ·rcases IB.1 hu with hu|hu
   ·simp only [Ii,Ip,Iq] at hu
    rcases hu with rfl|rfl|rfl|rfl|rfl<;>rfl
   ·exact h0.one u hu
  ·simp only [Ii,Ip,Iq] at hu
   rcases hu with rfl|rfl<;>rfl
def SnSl (w:World) (S:Nat→Prop) (a:Option Addr) (n:Nat) (xs:List Sn):Prop:=∃css,SlS w S a 18 n css.flatten∧SnVs w S css xs
theorem SnSl.keep {w w':World} {S:Nat→Prop} {a:Option Addr} {n:Nat} {xs:List Sn} (h:SnSl w S a n xs) (hk:Kept S w w'):SnSl w' S a n xs:=by
 obtain⟨css,h1,h2⟩:=h;exact⟨css,h1.keep hk,h2.keep hk⟩
theorem SnSl.later {w w':World} {S:Nat→Prop} {a:Option Addr} {n:Nat} {xs:List Sn} (h:SnSl w S a n xs) (hb:Below w.heap.size w w'):SnSl w' S a n xs:=h.keep (Kept.all hb)
theorem SnSl.mono {w:World} {S S':Nat→Prop} {a:Option Addr} {n:Nat} {xs:List Sn} (h:SnSl w S a n xs) (hS:∀b,S b→b<w.heap.size→S' b):SnSl w S' a n xs:=by
 obtain⟨css,h1,h2⟩:=h;exact⟨css,h1.mono hS,h2.mono hS⟩
theorem SnSl.nil (w:World) (S:Nat→Prop) (a:Option Addr):SnSl w S a 0 []:=⟨[],SlS.none_ _ _ _ _,.nil⟩
theorem C2 {C:Nat}:∀{cs:List (List Value)},(∀c∈cs,c.length=C)→cs.flatten.length=cs.length*C
 | [],_=>by simp
 | c::cs,h=>by rw [List.flatten_cons,Ig,C2 (fun x hx=>h x (Il _ hx)),h c (Ik ..),H7,Nat.succ_mul];omega
theorem SnSl.len {w:World} {S:Nat→Prop} {a:Option Addr} {n:Nat} {xs:List Sn} (h:SnSl w S a n xs):n=xs.length:=by
 obtain⟨css,h1,h2⟩:=h;have h3:=h1.1;rw [C2 h2.eights,h2.length] at h3;omega
theorem SnSl.at_ {w:World} {S:Nat→Prop} {a:Option Addr} {n:Nat} {xs:List Sn} (h:SnSl w S a n xs) {k:Nat} {x:Sn} (hk:xs[k]?=some x) :
  ∃b o c,a=some ⟨b,o,none⟩∧S b∧b<w.heap.size∧SnV w S c x∧∀(j:Nat) (u:Value),c[j]?=some u→w.cell? ⟨b,o+(k*18+j),none⟩=some u:=by
 exact cw
structure TfCells (fc:List Value) (f:Tf) (w:World) (S:Nat→Prop) (rk:Int) (rch:Str) (rng:Bool) (rrs:List Row) (rlo rhi:Int) (rlz:Bool) (rks:List Rx) (ra:Option Addr) (rcp:Nat) (rka:Option Addr) (rkc:Nat) (fa:Option Addr) (fcp:Nat):Prop where
 eq:fc=[.int .i64 rk,.string ⟨rch.toArray⟩,.bool rng,.slice ra rrs.length rcp,.int .i64 rlo,.int .i64 rhi,.bool rlz,.slice rka rks.length rkc,.slice fa f.fs.length fcp,.bool f.fold,.bool f.all]
 rx:f.rx=.mk rk rch rng rrs rlo rhi rlz rks
 rv:RxV w S (rxc rk rch rng ra rrs.length rcp rlo rhi rlz rka rks.length rkc) (.mk rk rch rng rrs rlo rhi rlz rks)
 fv:SlS w S fa 5 f.fs.length (l5 f.fs)
theorem TfV.open_ {w:World} {S:Nat→Prop} {fc:List Value} {f:Tf} (h:TfV w S fc f):∃rk rch rng rrs rlo rhi rlz rks ra rcp rka rkc fa fcp,TfCells fc f w S rk rch rng rrs rlo rhi rlz rks ra rcp rka rkc fa fcp:=by
 obtain⟨rc,fa,fcp,h1,h2,rfl⟩:=h;obtain⟨rx,fs,fd,al⟩:=f;obtain⟨rk,rch,rng,rrs,rlo,rhi,rlz,rks⟩:=rx;have h0:=h1;obtain⟨ra,rcp,rka,rkc,rfl,_,_⟩:=h1.open_;exact⟨rk,rch,rng,rrs,rlo,rhi,rlz,rks,ra,rcp,rka,rkc,fa,fcp,rfl,rfl,h0,h2⟩
theorem SnV.open_ {w:World} {S:Nat→Prop} {cc:List Value} {k:Int} {t:Str} {n:Int} {h u:Bool} {f:Tf} {os:List Str} {ks:List Sn} (hv:SnV w S cc (.mk k t n h u f os ks)) :
  ∃fc oa oc ka kc,cc=snc k t n h u fc oa os.length oc ka ks.length kc∧TfV w S fc f∧SlS w S oa 1 os.length (l8 os)∧SnSl w S ka ks.length ks:=by
 cases hv with
 | mk h0 h1 h2 h3=>exact⟨_,_,_,_,_,rfl,h0,h1,_,h2,h3⟩
theorem SnV.close {w:World} {S:Nat→Prop} {k:Int} {t:Str} {n:Int} {h u:Bool} {f:Tf} {os:List Str} {ks:List Sn} {fc:List Value} {oa ka:Option Addr} {oc kc:Nat} (h0:TfV w S fc f) (h1:SlS w S oa 1 os.length (l8 os)) (h2:SnSl w S ka ks.length ks) :
  SnV w S (snc k t n h u fc oa os.length oc ka ks.length kc) (.mk k t n h u f os ks):=by
 obtain⟨css,a,b⟩:=h2;exact .mk h0 h1 a b
theorem SnSl.one {w:World} {S:Nat→Prop} {b:Nat} {cc:List Value} {x:Sn} {t:TypeId} (h:SnV w S cc x) (hb:w.heap[b]?=some (.cells cc.toArray t (0,0))) (hS:S b):SnSl w S (some ⟨b,0,none⟩) 1 [x]:=by
 refine⟨[cc],⟨by simp [h.len],fun _=>⟨b,0,rfl,hS,ky hb,fun j u hu=>?_⟩⟩,.cons h .nil⟩;rw [Ic hb];simpa using hu
def OwnN (w:World) (B:Nat) (S:Nat→Prop) (v:Value) (xs:List Sn):Prop :=
 ∃css,w.ownsRow B 44 18 v xs.length css.flatten∧SnVs w (fun b=>S b∧v.ownBlock≠some b) css xs
theorem OwnN.nil (w:World) (B:Nat) (S:Nat→Prop):OwnN w B S (.slice none 0 0) []:=⟨[],World.ownsRow_nil _ _ _ _,.nil⟩
theorem OwnN.later {w w':World} {B:Nat} {S:Nat→Prop} {v:Value} {xs:List Sn} (h:OwnN w B S v xs) (hb:Below w.heap.size w w'):OwnN w' B S v xs:=by
 obtain⟨css,h1,h2⟩:=h;exact⟨css,kJ h1 hb,h2.later hb⟩
theorem OwnN.form {w:World} {B:Nat} {S:Nat→Prop} {v:Value} {xs:List Sn} (h:OwnN w B S v xs):∃(a:Option Addr) (c:Nat),v=.slice a xs.length c:=by
 obtain⟨css,h1,_⟩:=h;exact kW h1
theorem OwnN.lt {w:World} {B:Nat} {S:Nat→Prop} {v:Value} {xs:List Sn} (h:OwnN w B S v xs):∀k,v.ownBlock=some k→B≤k∧k<w.heap.size:=by
 obtain⟨css,h1,_⟩:=h;exact fun k hk=>h1.lt k hk
theorem sY (P:List Row) (x:Row) (S:List Row):(P++x::S)[P.length]?=some x:=by
 rw [Ih (Ia _),Nat.sub_self];rfl
theorem FQ (P:List Row) (x y:Row) (S:List Row):(P++x::S).set P.length y=P++y::S:=by
 rw [List.set_append_right _ _ (Ia _),Nat.sub_self];rfl
theorem sC (P Q S:List Row) (x y:Row) (i j:Nat) (hi:i=P.length) (hj:j=P.length+1+Q.length):nH (P++x::(Q++y::S)) i j=P++y::(Q++x::S):=by
 subst hi hj;have h2:P++x::(Q++y::S)=(P++x::Q)++y::S:=gz;have hl:(P++x::Q).length=P.length+1+Q.length:=by simp;omega
 have g1:(P++x::(Q++y::S))[P.length]?=some x:=sY _ _ _;have g2:(P++x::(Q++y::S))[P.length+1+Q.length]?=some y:=by rw [h2,←hl];exact sY _ _ _
 rw [Ce g1 g2,FQ];have h3:P++y::(Q++y::S)=(P++y::Q)++y::S:=gz;have hl2:(P++y::Q).length=P.length+1+Q.length:=by simp;omega
 rw [h3,←hl2,FQ];simp
theorem uW {rs:List Row} {i j:Nat} (h:i≠j):nH rs i j=nH rs j i:=by
 unfold nH;cases h1:rs[i]? with
 | none=>cases h2:rs[j]?<;>rfl
 | some x =>
  cases h2:rs[j]? with
  | none=>rfl
  | some y=>exact List.set_comm _ _ h
theorem Az (a b:Nat):∀(X Y P Q S:List Row) (i:Nat),X.length=Y.length→a+i=P.length→b+i=P.length+X.length+Q.length →
  (List.range' i X.length).foldl (fun l k=>nH l (a+k) (b+k)) (P++(X++(Q++(Y++S))))=P++(Y++(Q++(X++S)))
 | [],[],P,Q,S,i,_,_,_=>by simp
 | [],_::_,_,_,_,_,h,_,_=>by simp at h
 | _::_,[],_,_,_,_,h,_,_=>by simp at h
 | x::X,y::Y,P,Q,S,i,hl,ha,hb=>by
  simp only [H7] at hl hb;rw [H7,List.range'_succ,Iv];have h1:P++(x::X++(Q++(y::Y++S)))=P++x::((X++Q)++y::(Y++S)):=gz;rw [h1,sC P (X++Q) (Y++S) x y (a+i) (b+i) ha iE];have h2:P++y::((X++Q)++x::(Y++S))=(P++[y])++(X++((Q++[x])++(Y++S))):=gz;rw [h2,Az a b X Y (P++[y]) (Q++[x]) S (i+1) gj gD gD];simp
theorem uC (X Y P Q S:List Row) (a b n:Nat) (hl:X.length=Y.length) (ha:a=P.length) (hb:b=P.length+X.length+Q.length) (hn:n=X.length) :
  uH (P++(X++(Q++(Y++S)))) a b n=P++(Y++(Q++(X++S))):=by
 subst hn;exact Az a b X Y P Q S 0 hl gj gj
theorem pQ (l:List Row) {n:Nat} (h:n≤l.length):∃a b,l=a++b∧a.length=n∧b.length=l.length-n :=
 ⟨l.take n,l.drop n,(List.take_append_drop n l).symm,by rw [Is];omega,by rw [Iy]⟩
theorem yL:∀(k:Nat) (P A B S:List Row) (m i j:Nat),m=P.length+A.length→i=A.length→j=B.length→0<i→0<j→i+j≤k →
  rotL k (P++(A++(B++S))) m i j=P++(B++(A++S))
 | 0,P,A,B,S,m,i,j,_,_,_,h1,_,h=>by omega
 | k+1,P,A,B,S,m,i,j,hm,hi,hj,h1,h2,hk=>by
  simp only [rotL];by_cases hij:i=j
  ·rw [Hu hij]
   have:=uC A B P [] S (m-i) m i gj gj gD hi
   simpa using this
  ·rw [Hx hij]
   by_cases hlt:j<i
   ·rw [Hu hlt]
    obtain⟨A1,A2,rfl,l1,l2⟩:=pQ A (n:=j) gj;rw [Ig] at hm hi;have e1:P++(A1++A2++(B++S))=P++(A1++(A2++(B++S))):=gz;rw [e1,uC A1 B P A2 S (m-i) m j gj gj gj l1.symm];have e2:P++(B++(A2++(A1++S)))=(P++B)++(A2++(A1++S)):=gz;rw [e2,yL k (P++B) A2 A1 S m (i-j) j gD gj gj gj h2 gj];simp
   ·rw [Hx hlt]
    obtain⟨B1,B2,rfl,l1,l2⟩:=pQ B (n:=j-i) gj;rw [Ig] at hj l2;have e1:P++(A++(B1++B2++S))=P++(A++(B1++(B2++S))):=gz;rw [e1,uC A B2 P B1 S (m-i) (m+j-i) i gj gj gj hi];have e2:P++(B2++(B1++(A++S)))=P++(B2++(B1++(A++S))):=rfl;rw [yL k P B2 B1 (A++S) m i (j-i) gj gj gj h1 gj gj];simp
theorem Cc (x:Row):∀(B P S:List Row) (a n:Nat),a=P.length→n=B.length→upSw (P++x::(B++S)) a n=P++(B++x::S)
 | [],P,S,a,n,_,hn=>by simp at hn;subst hn;simp [upSw]
 | b::B,P,S,a,n,ha,hn=>by
  subst hn;have ih:=Cc x B (P++[b]) S (a+1) B.length gD rfl;unfold upSw at ih ⊢;rw [H7,List.range'_succ,Iv];have h1:=sC P [] (B++S) x b a (a+1) ha gD;rw [Iz,Iz] at h1;rw [show P++x::(b::B++S)=P++x::b::(B++S) by simp,h1];simpa using ih
theorem Cj (x:Row):∀(n:Nat) (B P S:List Row) (m:Nat),n=B.length→m=P.length+B.length→dnSw n (P++(B++x::S)) m=P++x::(B++S)
 | 0,B,P,S,m,hn,_=>by
  have hB:B=[]:=Hv hn.symm;subst hB;simp [dnSw]
 | n+1,B,P,S,m,hn,hm=>by
  have hne:B≠[]:=by rintro rfl;simp at hn
  obtain⟨C,b,rfl⟩:∃C b,B=C++[b]:=⟨B.dropLast,B.getLast hne,(List.dropLast_concat_getLast hne).symm⟩;simp only [Ig,H7,IE] at hn hm;simp only [dnSw];have h1:=sC (P++C) [] S b x (m-1) m gD gD;rw [Iz,Iz] at h1;rw [uW gj,show P++(C++[b]++x::S)=P++C++b::x::S by simp,h1];have ih:=Cj x n C P (b::S) (m-1) gj gj;rw [show P++C++x::b::S=P++(C++x::b::S) by simp,ih];simp
theorem vd {a b:Row}:cmpR a b<0↔Op.bytesLess a.1 b.1=true∨(a.1=b.1∧Op.bytesLess a.2 b.2=true):=by
 unfold cmpR;rcases tt a.1 b.1 with⟨h1,h2⟩|⟨h1,h2⟩|⟨h1,h2⟩
 ·rw [h1];simp [h2]
 ·rw [h1,Hu rfl]
  have hn:Op.bytesLess a.1 b.1=false:=by rw [h2];exact mb _
  rcases tt a.2 b.2 with⟨g1,g2⟩|⟨g1,g2⟩|⟨g1,g2⟩
  ·rw [g1];simp [h2,g2]
  ·rw [g1];simp [hn,g2,mb]
  ·rw [g1];simp [hn,pi g2]
 ·rw [h1,Hx gv]
  have hn:=pi h2;have hne:a.1≠b.1:=by intro e;rw [e,mb] at h2;cases h2
  simp [hn,hne]
def ltR (a b:Row):Prop:=cmpR a b<0
def leR (a b:Row):Prop:=¬ltR b a
instance (a b:Row):Decidable (ltR a b):=inferInstanceAs (Decidable (_<_))
theorem wJ (a:Row):¬ltR a a:=by unfold ltR;rw [vd];simp [mb]
theorem vl {a b c:Row} (h1:ltR a b) (h2:ltR b c):ltR a c:=by
 unfold ltR at *;rw [vd] at *;rcases h1 with h1|⟨e1,h1⟩<;>rcases h2 with h2|⟨e2,h2⟩
 ·exact .inl (nr h1 h2)
 ·exact .inl (e2▸h1)
 ·exact .inl (e1▸h2)
 ·exact .inr ⟨e1.trans e2,nr h1 h2⟩
theorem sd (a b:Row):ltR a b∨a=b∨ltR b a:=by
 unfold ltR;rw [vd,vd];obtain⟨a1,a2⟩:=a;obtain⟨b1,b2⟩:=b;rcases oK a1 b1 with h|rfl|h
 ·exact .inl (.inl h)
 ·rcases oK a2 b2 with h|rfl|h
  ·exact .inl (.inr ⟨rfl,h⟩)
  ·exact .inr (.inl rfl)
  ·exact .inr (.inr (.inr ⟨rfl,h⟩))
 ·exact .inr (.inr (.inl h))
theorem CF (a:Row):leR a a:=wJ a
theorem qG {a b:Row} (h:ltR a b):leR a b:=fun h2=>wJ a (vl h h2)
theorem n8 {a b c:Row} (h1:leR a b) (h2:leR b c):leR a c:=fun h=>by
 rcases sd b a with h3|rfl|h3
 ·exact h1 h3
 ·exact h2 h
 ·exact h2 (vl h h3)
theorem zx {a b:Row} (h1:leR a b) (h2:leR b a):a=b:=by
 rcases sd a b with h|h|h
 ·exact absurd h h2
 ·exact h
 ·exact absurd h h1
theorem zO (a b:Row):leR a b∨leR b a:=by
 rcases sd a b with h|rfl|h
 ·exact .inl (qG h)
 ·exact .inl (CF a)
 ·exact .inr (qG h)
abbrev Srt (l:List Row):Prop:=l.Pairwise leR
theorem qv {l:List Row} (h:Srt l) {i j:Nat} {x y:Row} (hij:i≤j) (hi:l[i]?=some x) (hj:l[j]?=some y):leR x y:=by
 rcases Nat.eq_or_lt_of_le hij with rfl|hlt
 ·rw [hi] at hj;injection hj with hj;subst hj;exact CF _
 ·obtain⟨hi',rfl⟩:=Id.1 hi
  obtain⟨hj',rfl⟩:=Id.1 hj;exact List.pairwise_iff_getElem.1 h i j hi' hj' hlt
theorem Eb {l r:List Row} (h:l.Perm r) (h1:Srt l) (h2:Srt r):l=r :=
 List.Perm.eq_of_pairwise (le:=leR) (fun _ _ _ _ a b=>zx a b) h1 h2 h
theorem vv (p:Nat→Bool):∀(k i j:Nat),i≤j→j-i≤k→(∀x y,i≤x→x≤y→y<j→p y=true→p x=true) →
  (∀x,i≤x→x<bs p k i j→p x=true)∧(∀x,bs p k i j≤x→x<j→p x=false)
 | 0,i,j,h,hk,_=>by
  simp only [bs];exact⟨fun x h1 h2=>by omega,fun x h1 h2=>by omega⟩
 | k+1,i,j,h,hk,hm=>by
  simp only [bs];by_cases hlt:i<j
  ·rw [Hu hlt]
   generalize hH:(i+j) / 2=H
   have hHb:i≤H∧H<j:=gj;cases hp:p H with
   | true =>
    rw [Hu rfl];obtain⟨g1,g2⟩:=vv p k (H+1) j gj gj (fun x y a b c d=>hm x y gj b c d);refine⟨fun x h1 h2=>?_,g2⟩;by_cases hx:x≤H
    ·exact hm x H h1 hx hHb.2 hp
    ·exact g1 x gj h2
   | false =>
    rw [Hx gz];obtain⟨g1,g2⟩:=vv p k i H hHb.1 gj (fun x y a b c d=>hm x y a b gj d);have hbd:=ym p k i H hHb.1;refine⟨g1,fun x h1 h2=>?_⟩;by_cases hx:x<H
    ·exact g2 x h1 hx
    ·cases hq:p x with
     | false=>rfl
     | true=>rw [hm H x hHb.1 gj h2 hq] at hp;cases hp
  ·rw [Hx hlt]
   exact⟨fun x h1 h2=>by omega,fun x h1 h2=>by omega⟩
theorem xm (P B S:List Row) {t:Nat} (h:t<B.length):(P++(B++S))[P.length+t]?=B[t]?:=by
 rw [Ih gj,Nat.add_sub_cancel_left,Ij h]
theorem srt_app {l r:List Row}:Srt (l++r)↔Srt l∧Srt r∧∀x∈l,∀y∈r,leR x y:=List.pairwise_append
theorem yO {rs:List Row} {i j:Nat} {x y:Row} (h1:rs[i]?=some x) (h2:rs[j]?=some y):ltAt rs i j=true↔ltR x y:=by
 rw [xL h1 h2,Hs];rfl
theorem sym_one (P B S:List Row) (x:Row) (a b:Nat) (ha:a=P.length) (hb:b=a+1+B.length) (hs:Srt B) :
  ∃M,upSw (P++([x]++(B++S))) a (bs (fun h=>ltAt (P++([x]++(B++S))) h a) b (a+1) b-1-a)=P++(M++S)∧M.Perm ([x]++B)∧Srt M:=by
 obtain⟨rs,hrs⟩:∃rs,P++([x]++(B++S))=rs:=⟨_,rfl⟩;rw [hrs];have hx:rs[a]?=some x:=by rw [←hrs,ha];exact sY _ _ _
 have hget:∀t,t<B.length→rs[a+1+t]?=B[t]?:=fun t ht=>by
  rw [←hrs,show P++([x]++(B++S))=(P++[x])++(B++S) by simp];have:=xm (P++[x]) B S ht
  rw [←this,Ig];simp [ha]
 have hval:∀t,t<B.length→∃y,B[t]?=some y:=fun t ht=>⟨_,Hw ht⟩
 have hp:∀t y,B[t]?=some y→(ltAt rs (a+1+t) a=true↔ltR y x):=fun t y hy=>by
  have ht:=(Id.1 hy).1;exact yO (by rw [hget t ht];exact hy) hx
 have hbd:=ym (fun h=>ltAt rs h a) b (a+1) b gj;obtain⟨g1,g2⟩:=vv (fun h=>ltAt rs h a) b (a+1) b gj gj (fun u v h1 h2 h3 h4=>by
  obtain⟨yu,hu⟩:=hval (u-(a+1)) gj;obtain⟨yv,hv⟩:=hval (v-(a+1)) gj;have q1:=hp _ _ hu;have q2:=hp _ _ hv;rw [show a+1+(u-(a+1))=u by omega] at q1;rw [show a+1+(v-(a+1))=v by omega] at q2;rw [q1];have hle:=qv hs (by omega:u-(a+1)≤v-(a+1)) hu hv;have hlt:=q2.1 h4;rcases sd yu x with h|h|h
  ·exact h
  ·rw [h] at hle;exact absurd hlt hle
  ·exact absurd (vl hlt h) hle)
 generalize bs (fun h=>ltAt rs h a) b (a+1) b=s at *
 obtain⟨B1,B2,rfl,l1,l2⟩:=pQ B (n:=s-1-a) gj;rw [Ig] at hb hval hget;refine⟨B1++x::B2,?_,?_,?_⟩
 ·rw [←hrs]
  have:=Cc x B1 P (B2++S) a (s-1-a) ha l1.symm
  simpa using this
 ·simp
 ·obtain⟨h1,h2,h3⟩:=srt_app.1 hs
  have k1:∀y∈B1,leR y x:=fun y hy=>by
   obtain⟨t,ht⟩:=List.getElem?_of_mem hy;have htl:=(Id.1 ht).1;exact qG ((hp t y (by rw [Ij htl];exact ht)).1 (g1 _ gj gj))
  have k2:∀y∈B2,leR x y:=fun y hy=>by
   obtain⟨t,ht⟩:=List.getElem?_of_mem hy;have htl:=(Id.1 ht).1;intro hlt;have:=(hp (B1.length+t) y (by rw [Ih gj,Nat.add_sub_cancel_left];exact ht)).2 hlt
   rw [g2 _ gj gj] at this;cases this
  exact cX
theorem sym_last (P A S:List Row) (x:Row) (a m:Nat) (ha:a=P.length) (hm:m=a+A.length) (hs:Srt A) :
  ∃M,dnSw (m-bs (fun h=>!ltAt (P++(A++([x]++S))) m h) m a m) (P++(A++([x]++S))) m=P++(M++S)∧M.Perm (A++[x])∧Srt M:=by
 obtain⟨rs,hrs⟩:∃rs,P++(A++([x]++S))=rs:=⟨_,rfl⟩;rw [hrs];have hx:rs[m]?=some x:=by
  rw [←hrs,show P++(A++([x]++S))=(P++A)++x::S by simp,show m=(P++A).length by simp;omega];exact sY _ _ _
 have hget:∀t,t<A.length→rs[a+t]?=A[t]?:=fun t ht=>by rw [←hrs,ha];exact xm P A _ ht
 have hval:∀t,t<A.length→∃y,A[t]?=some y:=fun t ht=>⟨_,Hw ht⟩
 have hp:∀t y,A[t]?=some y→((!ltAt rs m (a+t))=true↔leR y x):=fun t y hy=>by
  have ht:=(Id.1 hy).1;have:=yO hx (show rs[a+t]?=some y by rw [hget t ht];exact hy)
  unfold leR;rw [←this];simp
 have hbd:=ym (fun h=>!ltAt rs m h) m a m gj;obtain⟨g1,g2⟩:=vv (fun h=>!ltAt rs m h) m a m gj gj (fun u v h1 h2 h3 h4=>by
  obtain⟨yu,hu⟩:=hval (u-a) gj;obtain⟨yv,hv⟩:=hval (v-a) gj;have q1:=hp _ _ hu;have q2:=hp _ _ hv;rw [show a+(u-a)=u by omega] at q1;rw [show a+(v-a)=v by omega] at q2;rw [q1];exact n8 (qv hs (by omega:u-a≤v-a) hu hv) (q2.1 h4))
 generalize bs (fun h=>!ltAt rs m h) m a m=s at *
 obtain⟨A1,A2,rfl,l1,l2⟩:=pQ A (n:=s-a) gj;rw [Ig] at hm hval hget l2;refine⟨A1++x::A2,?_,?_,?_⟩
 ·rw [←hrs]
  have:=Cj x (m-s) A2 (P++A1) S m gj gD
  simpa using this
 ·have:=List.perm_middle (l₁:=A1) (l₂:=A2) (a:=x)
  exact this.trans ((List.perm_append_singleton x (A1++A2)).symm)
 ·obtain⟨h1,h2,h3⟩:=srt_app.1 hs
  have k1:∀y∈A1,leR y x:=fun y hy=>by
   obtain⟨t,ht⟩:=List.getElem?_of_mem hy;have htl:=(Id.1 ht).1;exact(hp t y (by rw [Ij htl];exact ht)).1 (g1 _ gj gj)
  have k2:∀y∈A2,leR x y:=fun y hy=>by
   obtain⟨t,ht⟩:=List.getElem?_of_mem hy;have htl:=(Id.1 ht).1;have hb:=g2 (a+(A1.length+t)) gj gj;have hq:=hp (A1.length+t) y (by rw [Ih gj,Nat.add_sub_cancel_left];exact ht);rw [hb] at hq;exact(zO x y).resolve_right (fun h=>by have:=hq.2 h;cases this)
  exact cX
theorem nu {l:List Row} (h:l.length=0):l=[]:=Hv h
theorem qh:∀(f:Nat) (P A B S:List Row) (a m b:Nat),a=P.length→m=a+A.length→b=m+B.length→0<A.length→0<B.length→A.length+B.length≤f→Srt A→Srt B →
  ∃M,symM f (P++(A++(B++S))) a m b=P++(M++S)∧M.Perm (A++B)∧Srt M
 | 0,P,A,B,S,a,m,b,_,_,_,h1,h2,h,_,_=>by omega
 | f+1,P,A,B,S,a,m,b,ha,hm,hb,h1,h2,hf,hA,hB=>by
  by_cases c1:m=a+1
  ·match A,hm,hA with
   | [x],hm,_ =>
    subst c1;rw [Cb];exact sym_one P B S x a b ha hb hB
   | [],hm,_=>simp at h1
   | _::_::_,hm,_=>simp at hm;omega
  by_cases c2:b=m+1
  ·match B,hb,hB with
   | [x],hb,_ =>
    subst c2;rw [zW c1];exact sym_last P A S x a m ha hm hA
   | [],hb,_=>simp at h2
   | _::_::_,hb,_=>simp at hb;omega
  rw [Cv c1 c2];obtain⟨rs,hrs⟩:∃rs,P++(A++(B++S))=rs:=⟨_,rfl⟩;rw [hrs];obtain⟨Mi,hMi⟩:∃M,(a+b) / 2=M:=⟨_,rfl⟩;obtain⟨LO,hLO⟩:∃LO,sLo a m b=LO:=⟨_,rfl⟩;obtain⟨HI,hHI⟩:∃HI,sHi a m b=HI:=⟨_,rfl⟩;rw [hMi,hLO,hHI];have hlohi:a≤LO∧LO≤HI∧HI≤Mi∧HI≤m∧Mi+m≤LO+b∧(LO=a∨LO=Mi+m-b)∧(HI=m∨HI=Mi):=by
   unfold sLo at hLO;unfold sHi at hHI;rw [hMi] at hLO hHI;by_cases hc:Mi<m
   ·rw [Hu hc] at hLO hHI;omega
   ·rw [Hx hc] at hLO hHI;omega
  obtain⟨q1,q2,q3,q4,q5,q6,q7⟩:=hlohi;have gA:∀c,a≤c→c<m→∃x,A[c-a]?=some x∧rs[c]?=some x:=fun c u v=>by
   obtain⟨x,hx⟩:∃x,A[c-a]?=some x:=⟨_,Hw gj⟩;refine⟨x,hx,?_⟩;rw [←hrs,←hx];have:=xm P A (B++S) (t:=c-a) gj
   rw [show P.length+(c-a)=c by omega] at this;exact this
  have gB:∀c,m≤c→c<b→∃x,B[c-m]?=some x∧rs[c]?=some x:=fun c u v=>by
   obtain⟨x,hx⟩:∃x,B[c-m]?=some x:=⟨_,Hw gj⟩;refine⟨x,hx,?_⟩;rw [←hrs,←hx,show P++(A++(B++S))=(P++A)++(B++S) by simp];have:=xm (P++A) B S (t:=c-m) gj
   rw [show (P++A).length+(c-m)=c by simp;omega] at this;exact this
  have hp:∀c x y,LO≤c→c<HI→A[c-a]?=some x→B[Mi+m-1-c-m]?=some y→((!ltAt rs (Mi+m-1-c) c)=true↔leR x y):=fun c x y u v hx hy=>by
   obtain⟨x',hx1,hx2⟩:=gA c gj gj;obtain⟨y',hy1,hy2⟩:=gB (Mi+m-1-c) gj gj;obtain rfl:=Option.some.inj (hx.symm.trans hx1);obtain rfl:=Option.some.inj (hy.symm.trans hy1);have:=yO hy2 hx2
   unfold leR;rw [←this];simp
  have hbd:=ym (fun c=>!ltAt rs (Mi+m-1-c) c) b LO HI q2;obtain⟨g1,g2⟩:=vv (fun c=>!ltAt rs (Mi+m-1-c) c) b LO HI q2 gj (fun u v k1 k2 k3 k4=>by
   obtain⟨xu,hxu,_⟩:=gA u gj gj;obtain⟨xv,hxv,_⟩:=gA v gj gj;obtain⟨yu,hyu,_⟩:=gB (Mi+m-1-u) gj gj;obtain⟨yv,hyv,_⟩:=gB (Mi+m-1-v) gj gj;rw [hp u xu yu k1 gj hxu hyu];have:=(hp v xv yv gj k3 hxv hyv).1 k4
   exact n8 (n8 (qv hA gj hxu hxv) this) (qv hB gj hyv hyu))
  generalize bs (fun c=>!ltAt rs (Mi+m-1-c) c) b LO HI=s at *
  obtain⟨E,hE⟩:∃E,Mi+m-s=E:=⟨_,rfl⟩;rw [hE];obtain⟨A1,A2,rfl,l1,l2⟩:=pQ A (n:=s-a) gj;obtain⟨B1,B2,rfl,l3,l4⟩:=pQ B (n:=E-m) gj;simp only [Ig] at hm hb h1 h2 hf l2 l4;obtain⟨sA1,sA2,sA⟩:=srt_app.1 hA;obtain⟨sB1,sB2,sB⟩:=srt_app.1 hB;have hcross:∀x∈A1++B1,∀y∈A2++B2,leR x y:=by
   intro x hx y hy;rcases IB.1 hx with hx|hx<;>rcases IB.1 hy with hy|hy
   ·exact sA x hx y hy
   ·obtain⟨t,ht⟩:=List.getElem?_of_mem hx
    obtain⟨v,hv⟩:=List.getElem?_of_mem hy;have htl:=(Id.1 ht).1;have hvl:=(Id.1 hv).1;have hLs:LO<s:=gj;obtain⟨x',hx1,_⟩:=gA (s-1) gj gj;obtain⟨y',hy1,_⟩:=gB (Mi+m-1-(s-1)) gj gj;have:=(hp (s-1) x' y' gj gj hx1 hy1).1 (g1 (s-1) gj gj)
    exact n8 (n8 (qv hA (show t≤s-1-a by omega) (by rw [Ij htl];exact ht) hx1) this)
     (qv hB (show Mi+m-1-(s-1)-m≤B1.length+v by omega) hy1 (by rw [Ih gj,Nat.add_sub_cancel_left];exact hv))
   ·obtain⟨t,ht⟩:=List.getElem?_of_mem hx
    obtain⟨v,hv⟩:=List.getElem?_of_mem hy;have htl:=(Id.1 ht).1;have hvl:=(Id.1 hv).1;have hsH:s<HI:=gj;obtain⟨x',hx1,_⟩:=gA s gj gj;obtain⟨y',hy1,_⟩:=gB (Mi+m-1-s) gj gj;have hn:=g2 s (Ia _) hsH;have hq:=hp s x' y' hbd.1 hsH hx1 hy1;have hle:leR y' x':=(zO x' y').resolve_left (fun h=>by have:=hq.2 h;rw [hn] at this;cases this);exact n8 (n8 (qv hB (show t≤Mi+m-1-s-m by omega) (by rw [Ij htl];exact ht) hy1) hle)
     (qv hA (show s-a≤A1.length+v by omega) hx1 (by rw [Ih gj,Nat.add_sub_cancel_left];exact hv))
   ·exact sB x hx y hy
  have hr1:(if s<m∧m<E then rotL (E-s) rs m (m-s) (E-m) else rs)=P++(A1++(B1++(A2++(B2++S)))):=by
   by_cases hc:s<m∧m<E
   ·rw [Hu hc,←hrs]
    have:=yL (E-s) (P++A1) A2 B1 (B2++S) m (m-s) (E-m) gD gj gj gj gj gj
    simpa using this
   ·rw [Hx hc,←hrs]
    by_cases hs:s<m
    ·have:B1=[]:=nu gj
     subst this;simp
    ·have:A2=[]:=nu gj
     subst this;simp
  rw [hr1];have hr2:∃M1,(if a<s∧s<Mi then symM f (P++(A1++(B1++(A2++(B2++S))))) a s Mi else P++(A1++(B1++(A2++(B2++S)))))=P++(M1++(A2++(B2++S)))∧M1.Perm (A1++B1)∧Srt M1:=by
   by_cases hc:a<s∧s<Mi
   ·rw [Hu hc]
    exact qh f P A1 B1 (A2++(B2++S)) a s Mi ha gj gj gj gj gj sA1 sB1
   ·rw [Hx hc]
    by_cases hs:a<s
    ·have:B1=[]:=nu gj
     subst this;exact⟨A1,by simp,by simp,sA1⟩
    ·have:A1=[]:=nu gj
     subst this;exact⟨B1,by simp,by simp,sB1⟩
  obtain⟨M1,e1,p1,s1⟩:=hr2;unfold symT;rw [e1];have hl1:M1.length=Mi-a:=by rw [p1.length_eq,Ig];omega
  have hr3:∃M2,(if Mi<E∧E<b then symM f (P++(M1++(A2++(B2++S)))) Mi E b else P++(M1++(A2++(B2++S))))=P++(M1++(M2++S))∧M2.Perm (A2++B2)∧Srt M2:=by
   by_cases hc:Mi<E∧E<b
   ·rw [Hu hc]
    obtain⟨M2,e2,p2,s2⟩:=qh f (P++M1) A2 B2 S Mi E b gD gj gj gj gj gj sA2 sB2;exact⟨M2,by simpa using e2,p2,s2⟩
   ·rw [Hx hc]
    by_cases hs:Mi<E
    ·have:B2=[]:=nu gj
     subst this;exact⟨A2,by simp,by simp,sA2⟩
    ·have:A2=[]:=nu gj
     subst this;exact⟨B2,by simp,by simp,sB2⟩
  obtain⟨M2,e2,p2,s2⟩:=hr3;refine⟨M1++M2,by rw [e2];simp,?_,?_⟩
  ·refine(p1.append p2).trans ?_
   have h1:((A1++B1)++(A2++B2)).Perm ((A1++A2)++(B1++B2)):=by
    rw [II,II];refine List.Perm.append_left A1 ?_;rw [←II,←II];exact List.Perm.append_right B2 List.perm_append_comm
   exact h1
  ·rw [srt_app]
   exact⟨s1,s2,fun x hx y hy=>hcross x (p1.mem_iff.1 hx) y (p2.mem_iff.1 hy)⟩
theorem D7 (a:Nat) (rs:List Row):so a a rs=rs:=by
 cases a with
 | zero=>rfl
 | succ j =>
  simp only [so];split
  ·rw [Hx gj]
  ·rfl
theorem Dc {A:List Row} {x:Row} (h:Srt A) (hx:∀y∈A,leR y x):Srt (A++[x]):=by
 refine List.pairwise_append.2 ⟨h,List.pairwise_singleton _ _,fun y hy z hz=>?_⟩;rw [IC] at hz;subst hz;exact hx y hy
theorem zG (P:List Row) (x:Row):∀(n:Nat) (A S:List Row) (a j:Nat),n=A.length→a=P.length→j=a+A.length→Srt A →
  ∃M,so a j (P++(A++x::S))=P++(M++S)∧M.Perm (A++[x])∧Srt M
 | 0,A,S,a,j,hn,ha,hj,hA=>by
  obtain rfl:=nu hn.symm;obtain rfl:j=a:=by simpa using hj
  exact⟨[x],by rw [D7];simp,by simp,List.pairwise_singleton _ _⟩
 | n+1,A,S,a,j,hn,ha,hj,hA=>by
  rcases xf A with rfl|⟨B,y,rfl⟩
  ·simp at hn
  simp only [Ig,List.length_singleton] at hn hj;obtain⟨j,rfl⟩:∃j',j=j'+1:=⟨a+B.length,by omega⟩;obtain⟨hB,_,hy⟩:=List.pairwise_append.1 hA;have hy:∀z∈B,leR z y:=fun z hz=>hy z hz y gz
  have e1:P++((B++[y])++x::S)=(P++B)++y::([]++x::S):=gz;have hl:(P++B).length=j:=by rw [Ig];omega
  have g1:((P++B)++y::([]++x::S))[j]?=some y:=by rw [←hl];exact sY _ _ _
  have g2:((P++B)++y::([]++x::S))[j+1]?=some x:=by
   rw [show (P++B)++y::([]++x::S)=(P++B++[y])++x::S by simp,show j+1=(P++B++[y]).length by rw [Ig,hl];rfl];exact sY _ _ _
  rw [e1];simp only [so,g1,g2];by_cases hc:cmpR x y<0
  ·rw [Hu ⟨by omega,hc⟩,uW gj,sC (P++B) [] S y x j (j+1) hl.symm (by rw [hl];simp)]
   obtain⟨M,h1,h2,h3⟩:=zG P x n B (y::S) a j gj ha gj hB;refine⟨M++[y],?_,?_,?_⟩
   ·rw [show (P++B)++x::([]++y::S)=P++(B++x::y::S) by simp,h1];simp
   ·have:=h2.append_right [y]
    refine this.trans ?_;rw [II,II];exact List.Perm.append_left B (List.Perm.swap _ _ _)
   ·refine Dc h3 (fun z hz=>?_)
    have hz:=h2.mem_iff.1 hz;rw [IB,IC] at hz;rcases hz with hz|rfl
    ·exact hy z hz
    ·exact qG hc
  ·rw [Hx (by intro h;exact hc h.2)]
   refine⟨B++[y]++[x],by simp,.refl _,Dc hA (fun z hz=>?_)⟩;rw [IB,IC] at hz;rcases hz with hz|rfl
   ·exact n8 (hy z hz) hc
   ·exact hc
theorem sT (P:List Row):∀(B A S:List Row) (a k i:Nat),k=B.length→a=P.length→i=a+A.length→Srt A →
  ∃M,om a k i (P++(A++(B++S)))=P++(M++S)∧M.Perm (A++B)∧Srt M
 | [],A,S,a,k,i,hk,ha,hi,hA=>by
  subst hk;exact⟨A,by simp [om],by simp,hA⟩
 | x::B,A,S,a,k,i,hk,ha,hi,hA=>by
  subst hk;obtain⟨M,h1,h2,h3⟩:=zG P x A.length A (B++S) a i rfl ha hi hA;have hl:M.length=A.length+1:=by rw [h2.length_eq];simp
  obtain⟨M2,g1,g2,g3⟩:=sT P B M S a B.length (i+1) rfl ha gj h3;refine⟨M2,?_,?_,g3⟩
  ·simp only [H7,om,IA];rw [h1,g1]
  ·refine g2.trans ((h2.append_right B).trans ?_)
   simp
inductive Blk (s:Nat):List Row→Prop
 | last {l:List Row}:l.length<s→Srt l→Blk s l
 | cons {A l:List Row}:A.length=s→Srt A→Blk s l→Blk s (A++l)
theorem Blk.take {s:Nat} {l:List Row} (h:Blk s l) (hl:s≤l.length):∃A T,l=A++T∧A.length=s∧Srt A∧Blk s T:=by
 cases h with
 | last h1 _=>omega
 | cons h1 h2 h3=>exact⟨_,_,rfl,h1,h2,h3⟩
theorem Blk.short {s:Nat} {l:List Row} (h:Blk s l) (hl:l.length<s):Srt l:=by
 cases h with
 | last _ h2=>exact h2
 | cons h1 h2 h3=>rw [Ig] at hl;omega
theorem Blk.whole {s:Nat} {l:List Row} (h:Blk s l) (hl:l.length≤s):Srt l:=by
 rcases Nat.eq_or_lt_of_le hl with e|e
 ·obtain⟨A,T,rfl,h1,h2,h3⟩:=h.take gj
  obtain rfl:T=[]:=nu (by rw [Ig] at e;omega);simpa using h2
 ·exact h.short e
theorem GI:∀(k:Nat) (P S:List Row) (a n:Nat),a=P.length→n=a+S.length→n<a+k→∃M,stA k (P++S) a n=P++M∧M.Perm S∧Blk 20 M
 | 0,P,S,a,n,_,_,h=>by omega
 | k+1,P,S,a,n,ha,hn,hk=>by
  simp only [stA];by_cases hc:a+20≤n
  ·rw [Hu hc]
   obtain⟨A,T,rfl,hA,hT⟩:=pQ S (n:=20) gj;match A,hA,hn,hT with
   | x::A,hA,hn,hT =>
    simp only [H7] at hA;obtain⟨M,h1,h2,h3⟩:=sT P A [x] T a (a+20-(a+1)) (a+1) gj ha rfl (List.pairwise_singleton _ _);have hl:M.length=20:=by rw [h2.length_eq];simp;omega
    obtain⟨M2,g1,g2,g3⟩:=GI k (P++M) T (a+20) n iE (by simp at hn;omega) gj;refine⟨M++M2,?_,?_,.cons hl h3 g3⟩
    ·rw [show P++((x::A)++T)=P++([x]++(A++T)) by simp,h1,←II,g1,II]
    ·exact(h2.append_right M2).trans (g2.append_left _)
   | [],hA,_,_=>simp at hA
  ·rw [Hx hc]
   match S,hn with
   | [],hn =>
    obtain rfl:n=a:=by simpa using hn
    refine⟨[],?_,.refl _,.last gz List.Pairwise.nil⟩;rw [show n-(n+1)=0 by omega];rfl
   | x::S,hn =>
    simp only [H7] at hn;obtain⟨M,h1,h2,h3⟩:=sT P S [x] [] a (n-(a+1)) (a+1) gj ha rfl (List.pairwise_singleton _ _);have hl:M.length=S.length+1:=by rw [h2.length_eq];simp
    refine⟨M,?_,h2,.last gj h3⟩;rw [IK,IK] at h1;exact h1
theorem EW (s:Nat) (hs:0<s):∀(k:Nat) (P S:List Row) (a n:Nat),a=P.length→n=a+S.length→n<a+k→Blk s S→∃M,stB k (P++S) a s n=P++M∧M.Perm S∧Blk (2*s) M
 | 0,P,S,a,n,_,_,h,_=>by omega
 | k+1,P,S,a,n,ha,hn,hk,hB=>by
  simp only [stB];by_cases hc:a+2*s≤n
  ·rw [Hu hc]
   obtain⟨A,T,rfl,hA,hsA,hT⟩:=hB.take gj;rw [Ig] at hn;obtain⟨B,T,rfl,hB2,hsB,hT2⟩:=hT.take gj;rw [Ig] at hn;obtain⟨M,h1,h2,h3⟩:=qh (2*s) P A B T a (a+s) (a+2*s) ha gj gj gj gj gj hsA hsB;have hl:M.length=2*s:=by rw [h2.length_eq,Ig];omega
   obtain⟨M2,g1,g2,g3⟩:=EW s hs k (P++M) T (a+2*s) n iE gj gj hT2;refine⟨M++M2,?_,?_,.cons hl h3 g3⟩
   ·rw [h1,←II,g1,II]
   ·rw [←II];exact(h2.append_right M2).trans (g2.append_left _)
  ·rw [Hx hc]
   by_cases hd:a+s<n
   ·rw [Hu hd]
    obtain⟨A,T,rfl,hA,hsA,hT⟩:=hB.take gj;rw [Ig] at hn;obtain⟨M,h1,h2,h3⟩:=qh (n-a) P A T [] a (a+s) n ha gj gj gj gj gj hsA (hT.short gj);have hl:M.length=n-a:=by rw [h2.length_eq,Ig];omega
    rw [IK,IK] at h1;exact⟨M,h1,h2,.last gj h3⟩
   ·rw [Hx hd]
    exact⟨S,rfl,.refl _,.last gj (hB.whole gj)⟩
theorem Hg:∀(k:Nat) (S:List Row) (s n:Nat),0<s→n=S.length→n<s+k→Blk s S→(stC k S s n).Perm S∧Srt (stC k S s n)
 | 0,S,s,n,_,hn,hk,hB=>⟨.refl _,hB.whole gj⟩
 | k+1,S,s,n,hs,hn,hk,hB=>by
  simp only [stC];by_cases hc:s<n
  ·rw [Hu hc]
   obtain⟨M,h1,h2,h3⟩:=EW s hs (n+1) [] S 0 n rfl gj gj hB;rw [Iz,Iz] at h1;rw [h1];obtain⟨g1,g2⟩:=Hg k M (2*s) n gj (by rw [h2.length_eq];exact hn) gj h3;exact⟨g1.trans h2,g2⟩
  ·rw [Hx hc]
   exact⟨.refl _,hB.whole gj⟩
theorem ru (rs:List Row):(stL rs).Perm rs∧Srt (stL rs):=by
 obtain⟨M,h1,h2,h3⟩:=GI (rs.length+1) [] rs 0 rs.length rfl gz gj;rw [Iz,Iz] at h1;unfold stL;rw [h1];obtain⟨g1,g2⟩:=Hg (rs.length+1) M 20 rs.length gj (by rw [h2.length_eq]) gj h3;exact⟨g1.trans h2,g2⟩
end Go.Proofs.YtdcnncgpomcaaaaGreatDoor
