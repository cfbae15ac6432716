/- walk of sread: options -/
import Derived.Test.YtdcnncgpomcaaaaGreatDoorRc6
import Derived.Test.YtdcnncgpomcaaaaGreatDoorRc10
import Derived.Test.YtdcnncgpomcaaaaGreatDoorRc12
set_option maxRecDepth 100000
set_option maxHeartbeats 4000000
namespace Go.Proofs.YtdcnncgpomcaaaaGreatDoor
open Go.RowKit
theorem FW:(Tryz.prog.info? 9).map (fun i=>(i.zero,i.size,i.bytes))=some (some (.string ⟨#[]⟩),1,16):=by kernel_rfl
theorem Pl.grownHi {x:List Value} {w w':World} {g:Nat} {s:Str} {i:Nat} (h:Pl x w g s i) {row:Option Nat} (hg:w.grownBy w' row) (hr:row≠some g):Pl x w' g s i :=
 ⟨(hg.block g (kT h.1) (by first|exact hr|exact fun e=>hr e|exact fun e=>hr e.symm)).trans h.1,h.2⟩
theorem BM {w:World} {B g:Nat} {e:TypeId} {sz:Nat} {v:Value} {n:Nat} {xs:List Value} (h:w.ownsRow B e sz v n xs) (hg:g<B):v.ownBlock≠some g:=fun e'=>by have:=(h.lt g e').1;omega
theorem rM {w0 w w':World} {v:Value} {B:Nat} {e:TypeId} {sz n:Nat} {xs:List Value} {row:Option Nat} (h:w0.grownBy w row) (hown:w.ownsRow B e sz v n xs) (hB:w0.heap.size≤B) (hg:w.grownBy w' v.ownBlock):w0.grownBy w' row :=
 ⟨hg.os.trans h.os,hg.tape.trans h.tape,hg.output.trans h.output,Jv h.size hg.size,fun k hk hne=>(hg.block k (Jt hk h.size) (by
  intro e';first
   | (have:=(hown.lt k e').1;omega)
   | (have:=(hown.lt k e'.symm).1;omega))).trans (h.block k hk hne)⟩
def OptS (x:List Value) (g:Nat) (s:Str) (R:List Str × Str) (w:World) (e:Ending) (w':World):Prop:=w.grownBy w' (some g) ∧
 ∃(a:Option Addr) (c j:Nat),e=.returned (.tuple #[.slice a R.1.length c,.bool (List.isPrefixOf [124,125] R.2)])∧SlS w' (fun b=>w.heap.size≤b) a 1 R.1.length (mE R.1)∧R.1.length≤s.length+1∧Pl x w' g s j ∧
  s.drop j=if List.isPrefixOf [124,125] R.2=true then R.2.drop 2 else R.2
theorem OptS.mk' {x:List Value} {g:Nat} {s:Str} {o':List Str} {rest:Str} {w w':World} {e:Ending} {a:Option Addr} {n c j:Nat} {ok:Bool} (hg:w.grownBy w' (some g)) (he:e=.returned (.tuple #[.slice a n c,.bool ok])) (hn:o'.length=n)
  (hok:List.isPrefixOf [124,125] rest=ok) (hown:w'.ownsRow w.heap.size 9 1 (.slice a n c) n (mE o')) (hlen:n≤s.length+1) (hp:Pl x w' g s j) (hd:s.drop j=if ok=true then rest.drop 2 else rest):OptS x g s (o',rest) w e w':=by
 subst hn;subst hok;exact⟨hg,a,c,j,he,SlS.ownB hown,hlen,hp,hd⟩
def OpRel (x:List Value) (g:Nat) (s:Str) (w:World) (RX:List Str × Str) (k:Nat) (v4 v5:Value) (wr:World):Prop :=
 ∃(j:Nat) (o:List Str) (t:Str),Pl x wr g s j∧s.length-j<k∧wr.ownsRow w.heap.size 9 1 v4 o.length (mE o)∧wr.ownsRow w.heap.size 5 1 v5 t.length (mt t)∧w.grownBy wr (some g)∧o.length≤j∧t.length≤j∧Hid (optL (s.drop j) o t=RX)
theorem F8 {x:List Value} {g:Nat} {s:Str} {i:Nat} (w:World) (h:Pl x w g s i) :
  Calls Tryz.prog 93 #[.pointer (some ⟨g,0,none⟩)] w fun e w'=>OptS x g s (optL (s.drop i) [] []) w e w':=by
 obtain⟨RX,hRX⟩:∃RX,optL (s.drop i) [] []=RX:=⟨_,rfl⟩;rw [hRX];have HR:=ab hRX;have hgB:=h.lt;have hsl:=h.2.2;obtain⟨iS,hiS⟩:=info_parts FW;obtain⟨iu,hiu⟩:=info_parts qP;have HPL:=ab h;have hi:=h.2.1;clear h hRX;go_enter Tryz.func93,Tryz.ntmps93
 go_wp2
 go_loopg [4,5] (s.length+1) (fun k v4 v5 wr=>OpRel x g s w RX k v4 v5 wr)
 case atStart=>exact⟨i,[],[],HPL.out,by omega,World.ownsRow_nil _ _ _ _,World.ownsRow_nil _ _ _ _,lF _ _,by simp,by simp,HR⟩
 case round =>
  clear HR HPL;obtain⟨j,o,t,hpl,hk,ho,ht,hg,hol,htl,HF⟩:=hrel;have hj:=hpl.2.1;have HPL:=ab hpl;have hB:=hg.size;have d0:∀x':ExtOf wr,x'.val.cell? ⟨g,0,none⟩=some (.string ⟨s.toArray⟩):=ExtOf.cell hpl.c0;have d1:∀x':ExtOf wr,x'.val.cell? ⟨g,1,none⟩=some (.int .i64 j):=ExtOf.cell hpl.c1;clear hpl;cases hd:s.drop j with
  | nil =>
   have h2:=ms hd;have gl:decide ((j:Int)<(s.length:Int))=false:=JT gN;have gln:decide (j<s.length)=false:=JT gN;have HX:Hid (RX=(o++[t],[])):=ab iE;have HNO:Hid (List.isPrefixOf [124,125] (s.drop j)=false):=ab (by rw [hd];rfl);have HD:=ab hd;clear hd HF;go_wp2
   refine kZ gT gT ?_;repeat (go_big_quiet_step ((fail)))
   refine wpQuiet_nil ?_;rintro _ ⟨xq,rfl⟩;have hba:=xq.ext;have hpa:=HPL.out.later hba;have hga:=kR hg (kS hba (some g));generalize xq.val=wa at *
   clear d0 d1 hg;have hoa:=lh ho (hba.trans ((Below.refl _ _).drew));have hta:=lh ht (hba.trans ((Below.refl _ _).drew));have hcv:=oN (P:=Tryz.prog) (src:=52) (dst:=9) Tryz.underlying52 Tryz.underlying5 Tryz.underlying9 hta;have hBa:w.heap.size≤wa.drew.heap.size:=hga.size;have HPA:=ab (hpa.later ((Below.refl _ _).drew));have HGA:=ab (kR hga (kS ((Below.refl wa.heap.size wa).drew) (some g)));clear ho ht hpa hga hba;go_wp2
   go_region_law (first
    | (refine qw w.heap.size 9 (w:=wa.drew) rfl rfl _ _ 42 rfl Tryz.underlying42 hiS rfl gR rfl hoa rfl iV rfl ii gN gR hBa ?_;intro v8 w8 hown8 hg8 _ hne8;have hp8:Pl x w8 g s j:=HPA.out.grownHi hg8 (BM hoa hgB))
    | (go_simp;go_at_call 73;refine(nl _ hp8 gU HNO.out).mono ?_;rintro e w9 ⟨rfl,hp9,hg9⟩))
   all_goals
    go_wp2
    go_ret2
    obtain⟨a8,c8,rfl⟩:=lD hown8;have hown9:=ly hown8 hg9 hgB;have hgz:w.grownBy w9 (some g):=kR (rM HGA.out hoa (Ju _) hg8) hg9;rw [HX.out];exact OptS.mk' (j:=j) hgz rfl gU rfl kC gN hp9 (by rw [HD.out];rfl)
  | cons c r =>
   obtain⟨h2,h3,hr⟩:=lG hd;have gl:decide ((j:Int)<(s.length:Int))=true:=JR gN;have gln:decide (j<s.length)=true:=JR gN;have HSEE:Hid (∀x':ExtOf wr,Calls Tryz.prog 39 #[.pointer (some ⟨g,0,none⟩),.string ⟨([124]).toArray⟩] x'.val fun e w'=>e=.returned (.bool (decide (c.toNat=124)))∧Below x'.val.heap.size x'.val w'):=ab fun x'=>(CQ (p:=[124]) _ (HPL.out.later x'.ext) gU).mono fun _ _ ⟨h1,h2⟩=>⟨by rw [h1,hd,pre1];rfl,h2⟩
   have HD:=ab hd;by_cases h124:c.toNat=124
   ·rw [JR h124] at HSEE
    have HX:Hid (RX=(o++[t],c::r)):=ab (by rw [←HF.out,hd,nG,Jl h124]);cases hb:List.isPrefixOf [124,125] (c::r) with
    | true =>
     have HB:=ab hb;have HYES:Hid (List.isPrefixOf [124,125] (s.drop j)=true):=ab (by rw [hd];exact hb);clear hd HF hb h3 hr h124;go_wp2
     refine kZ gT gT ?_;repeat (go_big_quiet_step ((go_at_call 39;exact lW (HSEE.out _))))
     refine wpQuiet_nil ?_;rintro _ ⟨xq,rfl⟩;have hba:=xq.ext;have hpa:=HPL.out.later hba;have hga:=kR hg (kS hba (some g));generalize xq.val=wa at *
     clear d0 d1 hg;clear HSEE;have hoa:=lh ho (hba.trans ((Below.refl _ _).drew));have hta:=lh ht (hba.trans ((Below.refl _ _).drew));have hcv:=oN (P:=Tryz.prog) (src:=52) (dst:=9) Tryz.underlying52 Tryz.underlying5 Tryz.underlying9 hta;have hBa:w.heap.size≤wa.drew.heap.size:=hga.size;have HPA:=ab (hpa.later ((Below.refl _ _).drew));have HGA:=ab (kR hga (kS ((Below.refl wa.heap.size wa).drew) (some g)));clear ho ht hpa hga hba;go_wp2
     go_region_law (first
      | (refine qw w.heap.size 9 (w:=wa.drew) rfl rfl _ _ 42 rfl Tryz.underlying42 hiS rfl gR rfl hoa rfl iV rfl ii gN gR hBa ?_;intro v8 w8 hown8 hg8 _ hne8;have hp8:Pl x w8 g s j:=HPA.out.grownHi hg8 (BM hoa hgB))
      | (go_simp;go_at_call 73;refine(nK _ hp8 gU HYES.out).mono ?_;rintro e w9 ⟨rfl,hp9,hg9⟩))
     all_goals
      go_wp2
      go_ret2
      obtain⟨a8,c8,rfl⟩:=lD hown8;have hown9:=ly hown8 hg9 hgB;have hgz:w.grownBy w9 (some g):=kR (rM HGA.out hoa (Ju _) hg8) hg9;rw [HX.out];exact OptS.mk' (j:=(j+2)) hgz rfl gU HB.out kC gN hp9 (by rw [←List.drop_drop,HD.out];rfl)
    | false =>
     have HB:=ab hb;have HNO:Hid (List.isPrefixOf [124,125] (s.drop j)=false):=ab (by rw [hd];exact hb);clear hd HF hb h3 hr h124;go_wp2
     refine kZ gT gT ?_;repeat (go_big_quiet_step ((go_at_call 39;exact lW (HSEE.out _))))
     refine wpQuiet_nil ?_;rintro _ ⟨xq,rfl⟩;have hba:=xq.ext;have hpa:=HPL.out.later hba;have hga:=kR hg (kS hba (some g));generalize xq.val=wa at *
     clear d0 d1 hg;clear HSEE;have hoa:=lh ho (hba.trans ((Below.refl _ _).drew));have hta:=lh ht (hba.trans ((Below.refl _ _).drew));have hcv:=oN (P:=Tryz.prog) (src:=52) (dst:=9) Tryz.underlying52 Tryz.underlying5 Tryz.underlying9 hta;have hBa:w.heap.size≤wa.drew.heap.size:=hga.size;have HPA:=ab (hpa.later ((Below.refl _ _).drew));have HGA:=ab (kR hga (kS ((Below.refl wa.heap.size wa).drew) (some g)));clear ho ht hpa hga hba;go_wp2
     go_region_law (first
      | (refine qw w.heap.size 9 (w:=wa.drew) rfl rfl _ _ 42 rfl Tryz.underlying42 hiS rfl gR rfl hoa rfl iV rfl ii gN gR hBa ?_;intro v8 w8 hown8 hg8 _ hne8;have hp8:Pl x w8 g s j:=HPA.out.grownHi hg8 (BM hoa hgB))
      | (go_simp;go_at_call 73;refine(nl _ hp8 gU HNO.out).mono ?_;rintro e w9 ⟨rfl,hp9,hg9⟩))
     all_goals
      go_wp2
      go_ret2
      obtain⟨a8,c8,rfl⟩:=lD hown8;have hown9:=ly hown8 hg9 hgB;have hgz:w.grownBy w9 (some g):=kR (rM HGA.out hoa (Ju _) hg8) hg9;rw [HX.out];exact OptS.mk' (j:=j) hgz rfl gU HB.out kC gN hp9 (by rw [HD.out];rfl)
   ·rw [JT h124] at HSEE
    by_cases h44:c.toNat=44
    ·have HX:Hid (optL (s.drop (j+1)) (o++[t]) []=RX):=ab (by rw [←HF.out,hd,nG,Jo h124,Jl h44,hr])
     have HYES:Hid (List.isPrefixOf [44] (s.drop j)=true):=ab (by rw [hd,pre1];exact JR h44);clear hd HF h3 hr h124 h44;go_wp2
     refine kZ gT gT ?_;repeat (go_big_quiet_step ((go_at_call 39;exact lW (HSEE.out _))))
     refine wpQuiet_nil ?_;rintro _ ⟨xq,rfl⟩;have hba:=xq.ext;have hpa:=HPL.out.later hba;have hga:=kR hg (kS hba (some g));generalize xq.val=wa at *
     clear d0 d1 hg;clear HSEE;have hoa:=lh ho hba;have hta:=lh ht hba;clear ho ht hba;go_wp2_with (go_at_call 73;refine(nK _ hpa gU HYES.out).mono ?_)
     rintro e w1 ⟨rfl,hp1,hg1⟩;have HP1:=ab hp1;have hoo:=ly hoa hg1 hgB;have hot:=ly hta hg1 hgB;have HG1:=ab (kR hga hg1);have hB1:w.heap.size≤w1.heap.size:=(kR hga hg1).size;have hcv:=oN (P:=Tryz.prog) (src:=52) (dst:=9) Tryz.underlying52 Tryz.underlying5 Tryz.underlying9 hot;clear hoa hta hpa hga hp1 hg1;go_wp2_with (at_builtin;refine mA w.heap.size 9 rfl _ _ 42 rfl Tryz.underlying42 hiS rfl gR rfl hoo rfl iV rfl ii gN gR hB1 ?_;intro v8 w8 hown8 hg8 _ hne8)
     go_roundg (s.length-j)
     case measure=>omega
     case rel =>
      exact⟨j+1,o++[t],[],HP1.out.grownHi hg8 (BM hoo hgB),by omega,by rw [sS,JA];exact hown8,World.ownsRow_nil _ _ _ _,rM HG1.out hoo (Ju _) hg8,by simp;omega,by simp,HX⟩
    ·have HNO:Hid (List.isPrefixOf [44] (s.drop j)=false):=ab (by rw [hd,pre1];exact JT h44)
     have HX:Hid (optL (nxtM fiveS (c::r)).2 o (t++[(nxtM fiveS (c::r)).1])=RX):=ab (by rw [←HF.out,hd,nG,Jo h124,Jo h44]);have HLN:Hid ((nxtM fiveS (c::r)).2.length≤r.length∧r.length+1=s.length-j):=ab ⟨nU _ _ _,by have:=Jp List.length hd;simp at this;omega⟩;clear hd HF h3 hr h124 h44;go_wp2
     refine kZ gT gT ?_;repeat (go_big_quiet_step ((go_at_call 39;exact lW (HSEE.out _))))
     refine wpQuiet_nil ?_;rintro _ ⟨xq,rfl⟩;have hba:=xq.ext;have hpa:=HPL.out.later hba;have hga:=kR hg (kS hba (some g));generalize xq.val=wa at *
     clear d0 d1 hg;clear HSEE;have hoa:=lh ho hba;have hta:=lh ht hba;clear ho ht hba;go_wp2_with (go_at_call 73;refine(nl _ hpa gU HNO.out).mono ?_)
     rintro e w1 ⟨rfl,hp1,hg1⟩;have hoo:=ly hoa hg1 hgB;have hot:=ly hta hg1 hgB;have hgg1:=kR hga hg1;clear hoa hta hpa hga hg1;have HNX:=ab (F4 (th:=[36,125,92,44,124]) w1 hp1 HD.out gU);clear hp1;go_wp2_with (go_at_call 42;refine HNX.out.mono ?_)
     rintro e w2 ⟨rfl,⟨j2,hp2,hd2,hj2⟩,hg2⟩;have HP2:=ab hp2;have hoo2:=ly hoo hg2 hgB;have hot2:=ly hot hg2 hgB;have HG2:=ab (kR hgg1 hg2);have hB2:w.heap.size≤w2.heap.size:=(kR hgg1 hg2).size;have hls:s.length-j2<s.length-j∧j<j2:=by
      have h1:=HLN.out;have h2:=Jp List.length hd2;rw [JU] at h2;have h3:=hp2.2.1;have h4:(nxtM [36,125,92,44,124] (c::r)).2.length≤r.length:=h1.1;omega
     have HD2:=ab hd2;obtain⟨nb,hnb⟩:∃nb,nb=(nxtM [36,125,92,44,124] (c::r)).1:=⟨_,rfl⟩;have HX2:Hid (optL (s.drop j2) o (t++[nb])=RX):=ab (by rw [hd2,hnb];exact HX.out);rw [←hnb];clear hoo hot hgg1 hp2 hg2 hd2 HX HLN HNX hnb;go_wp2_with (at_builtin;refine mA w.heap.size 5 rfl _ _ 52 rfl Tryz.underlying52 hiu rfl gR rfl hot2 rfl iV rfl ii gN gR hB2 ?_;intro v8 w8 hown8 hg8 _ hne8)
     go_roundg (s.length-j)
     case measure=>omega
     case rel =>
      exact⟨j2,o,t++[nb],HP2.out.grownHi hg8 (BM hot2 hgB),by omega,hoo2.kept hg8 (sU hoo2 hot2 gR),by simpa [mt] using hown8,rM HG2.out hot2 (Ju _) hg8,by omega,by simp;omega,HX2⟩
theorem Ck (fs:List Fm):∀u∈mu fs,u.oneCell'=true:=by
 intro u hu;simp only [mu,List.mem_flatMap] at hu;obtain⟨f,_,hf⟩:=hu;simp only [Fm.cells,JC,JK,JL] at hf;rcases hf with rfl|rfl|rfl|rfl|rfl<;>rfl
def TfV (w:World) (S:Nat→Prop) (cc:List Value) (f:Tf):Prop :=
 ∃(rc:List Value) (fa:Option Addr) (fc:Nat),RxV w S rc f.rx∧SlS w S fa 5 f.fs.length (mu f.fs)∧cc=rc++[.slice fa f.fs.length fc,.bool f.fold,.bool f.all]
theorem TfV.keep {w w':World} {S:Nat→Prop} (hk:Kept S w w') {c:List Value} {f:Tf} (h:TfV w S c f):TfV w' S c f:=by
 obtain⟨rc,fa,fc,h1,h2,h3⟩:=h;exact⟨rc,fa,fc,h1.keep hk,h2.keep hk,h3⟩
theorem TfV.mono {w:World} {S S':Nat→Prop} (hS:∀b,S b→b<w.heap.size→S' b) {c:List Value} {f:Tf} (h:TfV w S c f):TfV w S' c f:=by
 obtain⟨rc,fa,fc,h1,h2,h3⟩:=h;exact⟨rc,fa,fc,h1.mono hS,h2.mono hS,h3⟩
theorem TfV.len {w:World} {S:Nat→Prop} {c:List Value} {f:Tf} (h:TfV w S c f):c.length=11:=by
 obtain⟨rc,fa,fc,h1,h2,rfl⟩:=h;rw [JA,h1.len];rfl
theorem TfV.one {w:World} {S:Nat→Prop} {c:List Value} {f:Tf} (h:TfV w S c f):∀u∈c,u.oneCell'=true:=by
 obtain⟨rc,fa,fc,h1,h2,rfl⟩:=h;intro u hu;rcases JX.1 hu with hu|hu
 ·exact h1.one u hu
 ·simp only [JC,JK,JL] at hu
  rcases hu with rfl|rfl|rfl<;>rfl
theorem TfV.zero (w:World) (S:Nat→Prop):TfV w S (rxc 0 [] false none ([]:List Row).length 0 0 0 false none ([]:List Rx).length 0++[.slice none 0 0,.bool false,.bool false]) tf0 :=
 ⟨_,none,0,RxV.close (SlS.none_ _ _ _ _) ⟨[],SlS.none_ _ _ _ _,.nil⟩,SlS.none_ _ _ _ _,rfl⟩
def snc (k:Int) (t:Str) (n:Int) (h u:Bool) (fc:List Value) (oa:Option Addr) (on oc:Nat) (ka:Option Addr) (kn kc:Nat):List Value :=
 [.int .i64 k,.string ⟨t.toArray⟩,.int .i64 n,.bool h,.bool u]++fc++[.slice oa on oc,.slice ka kn kc]
mutual
inductive SnV (w:World) (S:Nat→Prop):List Value→Sn→Prop
 | mk {k:Int} {t:Str} {n:Int} {h u:Bool} {f:Tf} {os:List Str} {ks:List Sn} {fc:List Value} {oa ka:Option Addr} {oc kc:Nat} {css:List (List Value)} :
   TfV w S fc f→SlS w S oa 1 os.length (mE os)→SlS w S ka 18 ks.length css.flatten→SnVs w S css ks→SnV w S (snc k t n h u fc oa os.length oc ka ks.length kc) (.mk k t n h u f os ks)
inductive SnVs (w:World) (S:Nat→Prop):List (List Value)→List Sn→Prop
 | nil:SnVs w S [] []
 | cons {c:List Value} {x:Sn} {cs:List (List Value)} {xs:List Sn}:SnV w S c x→SnVs w S cs xs→SnVs w S (c::cs) (x::xs)
end
mutual
theorem SnV.keep {w w':World} {S:Nat→Prop} (hk:Kept S w w'):∀{c:List Value} {x:Sn},SnV w S c x→SnV w' S c x
 | _,_,.mk h0 h1 h2 h3=>.mk (h0.keep hk) (h1.keep hk) (h2.keep hk) (SnVs.keep hk h3)
theorem SnVs.keep {w w':World} {S:Nat→Prop} (hk:Kept S w w'):∀{cs:List (List Value)} {xs:List Sn},SnVs w S cs xs→SnVs w' S cs xs
 | _,_,.nil=>.nil
 | _,_,.cons h1 h2=>.cons (SnV.keep hk h1) (SnVs.keep hk h2)
end
mutual
theorem SnV.mono {w:World} {S S':Nat→Prop} (hS:∀b,S b→b<w.heap.size→S' b):∀{c:List Value} {x:Sn},SnV w S c x→SnV w S' c x
 | _,_,.mk h0 h1 h2 h3=>.mk (h0.mono hS) (h1.mono hS) (h2.mono hS) (SnVs.mono hS h3)
theorem SnVs.mono {w:World} {S S':Nat→Prop} (hS:∀b,S b→b<w.heap.size→S' b):∀{cs:List (List Value)} {xs:List Sn},SnVs w S cs xs→SnVs w S' cs xs
 | _,_,.nil=>.nil
 | _,_,.cons h1 h2=>.cons (SnV.mono hS h1) (SnVs.mono hS h2)
end
theorem SnV.later {w w':World} {S:Nat→Prop} {c:List Value} {x:Sn} (h:SnV w S c x) (hb:Below w.heap.size w w'):SnV w' S c x:=h.keep (Kept.all hb)
theorem SnVs.later {w w':World} {S:Nat→Prop} {c:List (List Value)} {x:List Sn} (h:SnVs w S c x) (hb:Below w.heap.size w w'):SnVs w' S c x:=h.keep (Kept.all hb)
theorem SnV.len {w:World} {S:Nat→Prop} {c:List Value} {x:Sn} (h:SnV w S c x):c.length=18:=by
 cases h with
 | mk h0 h1 h2 h3=>unfold snc;simp [h0.len]
theorem SnVs.length {w:World} {S:Nat→Prop}:∀{cs:List (List Value)} {xs:List Sn},SnVs w S cs xs→cs.length=xs.length
 | _,_,.nil=>rfl
 | _,_,.cons _ h=>by simp [h.length]
theorem SnVs.eights {w:World} {S:Nat→Prop}:∀{cs:List (List Value)} {xs:List Sn},SnVs w S cs xs→∀c∈cs,c.length=18
 | _,_,.nil,c,hc=>by simp at hc
 | _,_,.cons h1 h2,c,hc=>by
  rcases JC.1 hc with rfl|hc
  ·exact h1.len
  ·exact h2.eights c hc
theorem SnVs.at_ {w:World} {S:Nat→Prop}:∀{cs:List (List Value)} {xs:List Sn},SnVs w S cs xs→∀{k:Nat} {x:Sn},xs[k]?=some x→∃c,cs[k]?=some c∧SnV w S c x
 | _,_,.nil,k,x,h=>by simp at h
 | _,_,.cons h1 h2,0,x,h=>by simp at h;subst h;exact⟨_,rfl,h1⟩
 | _,_,.cons h1 h2,k+1,x,h=>by simpa using h2.at_ gQ
theorem SnVs.append {w:World} {S:Nat→Prop}:∀{cs ds:List (List Value)} {xs ys:List Sn},SnVs w S cs xs→SnVs w S ds ys→SnVs w S (cs++ds) (xs++ys)
 | _,_,_,_,.nil,h=>h
 | _,_,_,_,.cons h1 h2,h=>.cons h1 (h2.append h)
theorem SnV.one {w:World} {S:Nat→Prop} {c:List Value} {x:Sn} (h:SnV w S c x):∀u∈c,u.oneCell'=true:=by
 cases h with
 | mk h0 h1 h2 h3 =>
  intro u hu;unfold snc at hu;rcases JX.1 hu with hu|hu
  ·rcases JX.1 hu with hu|hu
   ·simp only [JC,JK,JL] at hu
    rcases hu with rfl|rfl|rfl|rfl|rfl<;>rfl
   ·exact h0.one u hu
  ·simp only [JC,JK,JL] at hu
   rcases hu with rfl|rfl<;>rfl
def SnSl (w:World) (S:Nat→Prop) (a:Option Addr) (n:Nat) (xs:List Sn):Prop:=∃css,SlS w S a 18 n css.flatten∧SnVs w S css xs
theorem SnSl.keep {w w':World} {S:Nat→Prop} {a:Option Addr} {n:Nat} {xs:List Sn} (h:SnSl w S a n xs) (hk:Kept S w w'):SnSl w' S a n xs:=by
 obtain⟨css,h1,h2⟩:=h;exact⟨css,h1.keep hk,h2.keep hk⟩
theorem SnSl.later {w w':World} {S:Nat→Prop} {a:Option Addr} {n:Nat} {xs:List Sn} (h:SnSl w S a n xs) (hb:Below w.heap.size w w'):SnSl w' S a n xs:=h.keep (Kept.all hb)
theorem SnSl.mono {w:World} {S S':Nat→Prop} {a:Option Addr} {n:Nat} {xs:List Sn} (h:SnSl w S a n xs) (hS:∀b,S b→b<w.heap.size→S' b):SnSl w S' a n xs:=by
 obtain⟨css,h1,h2⟩:=h;exact⟨css,h1.mono hS,h2.mono hS⟩
theorem SnSl.nil (w:World) (S:Nat→Prop) (a:Option Addr):SnSl w S a 0 []:=⟨[],SlS.none_ _ _ _ _,.nil⟩
theorem Dx {C:Nat}:∀{cs:List (List Value)},(∀c∈cs,c.length=C)→cs.flatten.length=cs.length*C
 | [],_=>by simp
 | c::cs,h=>by rw [List.flatten_cons,JA,Dx (fun x hx=>h x (JF _ hx)),h c (JE ..),Jr,Nat.succ_mul];omega
theorem SnSl.len {w:World} {S:Nat→Prop} {a:Option Addr} {n:Nat} {xs:List Sn} (h:SnSl w S a n xs):n=xs.length:=by
 obtain⟨css,h1,h2⟩:=h;have h3:=h1.1;rw [Dx h2.eights,h2.length] at h3;omega
theorem SnSl.at_ {w:World} {S:Nat→Prop} {a:Option Addr} {n:Nat} {xs:List Sn} (h:SnSl w S a n xs) {k:Nat} {x:Sn} (hk:xs[k]?=some x) :
  ∃b o c,a=some ⟨b,o,none⟩∧S b∧b<w.heap.size∧SnV w S c x∧∀(j:Nat) (u:Value),c[j]?=some u→w.cell? ⟨b,o+(k*18+j),none⟩=some u:=by
 exact cA
structure TfCells (fc:List Value) (f:Tf) (w:World) (S:Nat→Prop) (rk:Int) (rch:Str) (rng:Bool) (rrs:List Row) (rlo rhi:Int) (rlz:Bool) (rks:List Rx) (ra:Option Addr) (rcp:Nat) (rka:Option Addr) (rkc:Nat) (fa:Option Addr) (fcp:Nat):Prop where
 eq:fc=[.int .i64 rk,.string ⟨rch.toArray⟩,.bool rng,.slice ra rrs.length rcp,.int .i64 rlo,.int .i64 rhi,.bool rlz,.slice rka rks.length rkc,.slice fa f.fs.length fcp,.bool f.fold,.bool f.all]
 rx:f.rx=.mk rk rch rng rrs rlo rhi rlz rks
 rv:RxV w S (rxc rk rch rng ra rrs.length rcp rlo rhi rlz rka rks.length rkc) (.mk rk rch rng rrs rlo rhi rlz rks)
 fv:SlS w S fa 5 f.fs.length (mu f.fs)
theorem TfV.open_ {w:World} {S:Nat→Prop} {fc:List Value} {f:Tf} (h:TfV w S fc f):∃rk rch rng rrs rlo rhi rlz rks ra rcp rka rkc fa fcp,TfCells fc f w S rk rch rng rrs rlo rhi rlz rks ra rcp rka rkc fa fcp:=by
 obtain⟨rc,fa,fcp,h1,h2,rfl⟩:=h;obtain⟨rx,fs,fd,al⟩:=f;obtain⟨rk,rch,rng,rrs,rlo,rhi,rlz,rks⟩:=rx;have h0:=h1;obtain⟨ra,rcp,rka,rkc,rfl,_,_⟩:=h1.open_;exact⟨rk,rch,rng,rrs,rlo,rhi,rlz,rks,ra,rcp,rka,rkc,fa,fcp,rfl,rfl,h0,h2⟩
theorem SnV.open_ {w:World} {S:Nat→Prop} {cc:List Value} {k:Int} {t:Str} {n:Int} {h u:Bool} {f:Tf} {os:List Str} {ks:List Sn} (hv:SnV w S cc (.mk k t n h u f os ks)) :
  ∃fc oa oc ka kc,cc=snc k t n h u fc oa os.length oc ka ks.length kc∧TfV w S fc f∧SlS w S oa 1 os.length (mE os)∧SnSl w S ka ks.length ks:=by
 cases hv with
 | mk h0 h1 h2 h3=>exact⟨_,_,_,_,_,rfl,h0,h1,_,h2,h3⟩
theorem SnV.close {w:World} {S:Nat→Prop} {k:Int} {t:Str} {n:Int} {h u:Bool} {f:Tf} {os:List Str} {ks:List Sn} {fc:List Value} {oa ka:Option Addr} {oc kc:Nat} (h0:TfV w S fc f) (h1:SlS w S oa 1 os.length (mE os)) (h2:SnSl w S ka ks.length ks) :
  SnV w S (snc k t n h u fc oa os.length oc ka ks.length kc) (.mk k t n h u f os ks):=by
 obtain⟨css,a,b⟩:=h2;exact .mk h0 h1 a b
theorem SnSl.one {w:World} {S:Nat→Prop} {b:Nat} {cc:List Value} {x:Sn} {t:TypeId} (h:SnV w S cc x) (hb:w.heap[b]?=some (.cells cc.toArray t (0,0))) (hS:S b):SnSl w S (some ⟨b,0,none⟩) 1 [x]:=by
 refine⟨[cc],⟨by simp [h.len],fun _=>⟨b,0,rfl,hS,kT hb,fun j u hu=>?_⟩⟩,.cons h .nil⟩;rw [Jw hb];simpa using hu
def OwnN (w:World) (B:Nat) (S:Nat→Prop) (v:Value) (xs:List Sn):Prop :=
 ∃css,w.ownsRow B 44 18 v xs.length css.flatten∧SnVs w (fun b=>S b∧v.ownBlock≠some b) css xs
theorem OwnN.nil (w:World) (B:Nat) (S:Nat→Prop):OwnN w B S (.slice none 0 0) []:=⟨[],World.ownsRow_nil _ _ _ _,.nil⟩
theorem OwnN.later {w w':World} {B:Nat} {S:Nat→Prop} {v:Value} {xs:List Sn} (h:OwnN w B S v xs) (hb:Below w.heap.size w w'):OwnN w' B S v xs:=by
 obtain⟨css,h1,h2⟩:=h;exact⟨css,lh h1 hb,h2.later hb⟩
theorem OwnN.form {w:World} {B:Nat} {S:Nat→Prop} {v:Value} {xs:List Sn} (h:OwnN w B S v xs):∃(a:Option Addr) (c:Nat),v=.slice a xs.length c:=by
 obtain⟨css,h1,_⟩:=h;exact lD h1
theorem OwnN.lt {w:World} {B:Nat} {S:Nat→Prop} {v:Value} {xs:List Sn} (h:OwnN w B S v xs):∀k,v.ownBlock=some k→B≤k∧k<w.heap.size:=by
 obtain⟨css,h1,_⟩:=h;exact fun k hk=>h1.lt k hk
theorem tZ (P:List Row) (x:Row) (S:List Row):(P++x::S)[P.length]?=some x:=by
 rw [JB (Ju _),Nat.sub_self];rfl
theorem Hb (P:List Row) (x y:Row) (S:List Row):(P++x::S).set P.length y=P++y::S:=by
 rw [List.set_append_right _ _ (Ju _),Nat.sub_self];rfl
theorem tt (P Q S:List Row) (x y:Row) (i j:Nat) (hi:i=P.length) (hj:j=P.length+1+Q.length):oA (P++x::(Q++y::S)) i j=P++y::(Q++x::S):=by
 subst hi hj;have h2:P++x::(Q++y::S)=(P++x::Q)++y::S:=gU;have hl:(P++x::Q).length=P.length+1+Q.length:=by simp;omega
 have g1:(P++x::(Q++y::S))[P.length]?=some x:=tZ _ _ _;have g2:(P++x::(Q++y::S))[P.length+1+Q.length]?=some y:=by rw [h2,←hl];exact tZ _ _ _
 rw [DC g1 g2,Hb];have h3:P++y::(Q++y::S)=(P++y::Q)++y::S:=gU;have hl2:(P++y::Q).length=P.length+1+Q.length:=by simp;omega
 rw [h3,←hl2,Hb];simp
theorem xd {rs:List Row} {i j:Nat} (h:i≠j):oA rs i j=oA rs j i:=by
 unfold oA;cases h1:rs[i]? with
 | none=>cases h2:rs[j]?<;>rfl
 | some x =>
  cases h2:rs[j]? with
  | none=>rfl
  | some y=>exact List.set_comm _ _ h
theorem AB (a b:Nat):∀(X Y P Q S:List Row) (i:Nat),X.length=Y.length→a+i=P.length→b+i=P.length+X.length+Q.length →
  (List.range' i X.length).foldl (fun l k=>oA l (a+k) (b+k)) (P++(X++(Q++(Y++S))))=P++(Y++(Q++(X++S)))
 | [],[],P,Q,S,i,_,_,_=>by simp
 | [],_::_,_,_,_,_,h,_,_=>by simp at h
 | _::_,[],_,_,_,_,h,_,_=>by simp at h
 | x::X,y::Y,P,Q,S,i,hl,ha,hb=>by
  simp only [Jr] at hl hb;rw [Jr,List.range'_succ,JQ];have h1:P++(x::X++(Q++(y::Y++S)))=P++x::((X++Q)++y::(Y++S)):=gU;rw [h1,tt P (X++Q) (Y++S) x y (a+i) (b+i) ha iZ];have h2:P++y::((X++Q)++x::(Y++S))=(P++[y])++(X++((Q++[x])++(Y++S))):=gU;rw [h2,AB a b X Y (P++[y]) (Q++[x]) S (i+1) gN gV gV];simp
theorem vW (X Y P Q S:List Row) (a b n:Nat) (hl:X.length=Y.length) (ha:a=P.length) (hb:b=P.length+X.length+Q.length) (hn:n=X.length) :
  vJ (P++(X++(Q++(Y++S)))) a b n=P++(Y++(Q++(X++S))):=by
 subst hn;exact AB a b X Y P Q S 0 hl gN gN
theorem qJ (l:List Row) {n:Nat} (h:n≤l.length):∃a b,l=a++b∧a.length=n∧b.length=l.length-n :=
 ⟨l.take n,l.drop n,(List.take_append_drop n l).symm,by rw [JN];omega,by rw [JU]⟩
theorem zp:∀(k:Nat) (P A B S:List Row) (m i j:Nat),m=P.length+A.length→i=A.length→j=B.length→0<i→0<j→i+j≤k →
  rotL k (P++(A++(B++S))) m i j=P++(B++(A++S))
 | 0,P,A,B,S,m,i,j,_,_,_,h1,_,h=>by omega
 | k+1,P,A,B,S,m,i,j,hm,hi,hj,h1,h2,hk=>by
  simp only [rotL];by_cases hij:i=j
  ·rw [Jl hij]
   have:=vW A B P [] S (m-i) m i gN gN gV hi
   simpa using this
  ·rw [Jo hij]
   by_cases hlt:j<i
   ·rw [Jl hlt]
    obtain⟨A1,A2,rfl,l1,l2⟩:=qJ A (n:=j) gN;rw [JA] at hm hi;have e1:P++(A1++A2++(B++S))=P++(A1++(A2++(B++S))):=gU;rw [e1,vW A1 B P A2 S (m-i) m j gN gN gN l1.symm];have e2:P++(B++(A2++(A1++S)))=(P++B)++(A2++(A1++S)):=gU;rw [e2,zp k (P++B) A2 A1 S m (i-j) j gV gN gN gN h2 gN];simp
   ·rw [Jo hlt]
    obtain⟨B1,B2,rfl,l1,l2⟩:=qJ B (n:=j-i) gN;rw [JA] at hj l2;have e1:P++(A++(B1++B2++S))=P++(A++(B1++(B2++S))):=gU;rw [e1,vW A B2 P B1 S (m-i) (m+j-i) i gN gN gN hi];have e2:P++(B2++(B1++(A++S)))=P++(B2++(B1++(A++S))):=rfl;rw [zp k P B2 B1 (A++S) m i (j-i) gN gN gN h1 gN gN];simp
theorem D1 (x:Row):∀(B P S:List Row) (a n:Nat),a=P.length→n=B.length→upSw (P++x::(B++S)) a n=P++(B++x::S)
 | [],P,S,a,n,_,hn=>by simp at hn;subst hn;simp [upSw]
 | b::B,P,S,a,n,ha,hn=>by
  subst hn;have ih:=D1 x B (P++[b]) S (a+1) B.length gV rfl;unfold upSw at ih ⊢;rw [Jr,List.range'_succ,JQ];have h1:=tt P [] (B++S) x b a (a+1) ha gV;rw [JV,JV] at h1;rw [show P++x::(b::B++S)=P++x::b::(B++S) by simp,h1];simpa using ih
theorem DI (x:Row):∀(n:Nat) (B P S:List Row) (m:Nat),n=B.length→m=P.length+B.length→dnSw n (P++(B++x::S)) m=P++x::(B++S)
 | 0,B,P,S,m,hn,_=>by
  have hB:B=[]:=Jm hn.symm;subst hB;simp [dnSw]
 | n+1,B,P,S,m,hn,hm=>by
  have hne:B≠[]:=by rintro rfl;simp at hn
  obtain⟨C,b,rfl⟩:∃C b,B=C++[b]:=⟨B.dropLast,B.getLast hne,(List.dropLast_concat_getLast hne).symm⟩;simp only [JA,Jr,J0] at hn hm;simp only [dnSw];have h1:=tt (P++C) [] S b x (m-1) m gV gV;rw [JV,JV] at h1;rw [xd gN,show P++(C++[b]++x::S)=P++C++b::x::S by simp,h1];have ih:=DI x n C P (b::S) (m-1) gN gN;rw [show P++C++x::b::S=P++(C++x::b::S) by simp,ih];simp
theorem vN {a b:Row}:cmpR a b<0↔Op.bytesLess a.1 b.1=true∨(a.1=b.1∧Op.bytesLess a.2 b.2=true):=by
 unfold cmpR;rcases un a.1 b.1 with⟨h1,h2⟩|⟨h1,h2⟩|⟨h1,h2⟩
 ·rw [h1];simp [h2]
 ·rw [h1,Jl rfl]
  have hn:Op.bytesLess a.1 b.1=false:=by rw [h2];exact mJ _
  rcases un a.2 b.2 with⟨g1,g2⟩|⟨g1,g2⟩|⟨g1,g2⟩
  ·rw [g1];simp [h2,g2]
  ·rw [g1];simp [hn,g2,mJ]
  ·rw [g1];simp [hn,qp g2]
 ·rw [h1,Jo gR]
  have hn:=qp h2;have hne:a.1≠b.1:=by intro e;rw [e,mJ] at h2;cases h2
  simp [hn,hne]
def ltR (a b:Row):Prop:=cmpR a b<0
def leR (a b:Row):Prop:=¬ltR b a
instance (a b:Row):Decidable (ltR a b):=inferInstanceAs (Decidable (_<_))
theorem yB (a:Row):¬ltR a a:=by unfold ltR;rw [vN];simp [mJ]
theorem vF {a b c:Row} (h1:ltR a b) (h2:ltR b c):ltR a c:=by
 unfold ltR at *;rw [vN] at *;rcases h1 with h1|⟨e1,h1⟩<;>rcases h2 with h2|⟨e2,h2⟩
 ·exact .inl (n9 h1 h2)
 ·exact .inl (e2▸h1)
 ·exact .inl (e1▸h2)
 ·exact .inr ⟨e1.trans e2,n9 h1 h2⟩
theorem tP (a b:Row):ltR a b∨a=b∨ltR b a:=by
 unfold ltR;rw [vN,vN];obtain⟨a1,a2⟩:=a;obtain⟨b1,b2⟩:=b;rcases pi a1 b1 with h|rfl|h
 ·exact .inl (.inl h)
 ·rcases pi a2 b2 with h|rfl|h
  ·exact .inl (.inr ⟨rfl,h⟩)
  ·exact .inr (.inl rfl)
  ·exact .inr (.inr (.inr ⟨rfl,h⟩))
 ·exact .inr (.inr (.inl h))
theorem DY (a:Row):leR a a:=yB a
theorem ru {a b:Row} (h:ltR a b):leR a b:=fun h2=>yB a (vF h h2)
theorem oU {a b c:Row} (h1:leR a b) (h2:leR b c):leR a c:=fun h=>by
 rcases tP b a with h3|rfl|h3
 ·exact h1 h3
 ·exact h2 h
 ·exact h2 (vF h h3)
theorem Az {a b:Row} (h1:leR a b) (h2:leR b a):a=b:=by
 rcases tP a b with h|h|h
 ·exact absurd h h2
 ·exact h
 ·exact absurd h h1
theorem Ao (a b:Row):leR a b∨leR b a:=by
 rcases tP a b with h|rfl|h
 ·exact .inl (ru h)
 ·exact .inl (DY a)
 ·exact .inr (ru h)
abbrev Srt (l:List Row):Prop:=l.Pairwise leR
theorem rA {l:List Row} (h:Srt l) {i j:Nat} {x y:Row} (hij:i≤j) (hi:l[i]?=some x) (hj:l[j]?=some y):leR x y:=by
 rcases Nat.eq_or_lt_of_le hij with rfl|hlt
 ·rw [hi] at hj;injection hj with hj;subst hj;exact DY _
 ·obtain⟨hi',rfl⟩:=Jx.1 hi
  obtain⟨hj',rfl⟩:=Jx.1 hj;exact List.pairwise_iff_getElem.1 h i j hi' hj' hlt
theorem Es {l r:List Row} (h:l.Perm r) (h1:Srt l) (h2:Srt r):l=r :=
 List.Perm.eq_of_pairwise (le:=leR) (fun _ _ _ _ a b=>Az a b) h1 h2 h
theorem wd (p:Nat→Bool):∀(k i j:Nat),i≤j→j-i≤k→(∀x y,i≤x→x≤y→y<j→p y=true→p x=true) →
  (∀x,i≤x→x<bs p k i j→p x=true)∧(∀x,bs p k i j≤x→x<j→p x=false)
 | 0,i,j,h,hk,_=>by
  simp only [bs];exact⟨fun x h1 h2=>by omega,fun x h1 h2=>by omega⟩
 | k+1,i,j,h,hk,hm=>by
  simp only [bs];by_cases hlt:i<j
  ·rw [Jl hlt]
   generalize hH:(i+j) / 2=H
   have hHb:i≤H∧H<j:=gN;cases hp:p H with
   | true =>
    rw [Jl rfl];obtain⟨g1,g2⟩:=wd p k (H+1) j gN gN (fun x y a b c d=>hm x y gN b c d);refine⟨fun x h1 h2=>?_,g2⟩;by_cases hx:x≤H
    ·exact hm x H h1 hx hHb.2 hp
    ·exact g1 x gN h2
   | false =>
    rw [Jo gU];obtain⟨g1,g2⟩:=wd p k i H hHb.1 gN (fun x y a b c d=>hm x y a b gN d);have hbd:=zE p k i H hHb.1;refine⟨g1,fun x h1 h2=>?_⟩;by_cases hx:x<H
    ·exact g2 x h1 hx
    ·cases hq:p x with
     | false=>rfl
     | true=>rw [hm H x hHb.1 gN h2 hq] at hp;cases hp
  ·rw [Jo hlt]
   exact⟨fun x h1 h2=>by omega,fun x h1 h2=>by omega⟩
theorem zk (P B S:List Row) {t:Nat} (h:t<B.length):(P++(B++S))[P.length+t]?=B[t]?:=by
 rw [JB gN,Nat.add_sub_cancel_left,JD h]
theorem srt_app {l r:List Row}:Srt (l++r)↔Srt l∧Srt r∧∀x∈l,∀y∈r,leR x y:=List.pairwise_append
theorem zI {rs:List Row} {i j:Nat} {x y:Row} (h1:rs[i]?=some x) (h2:rs[j]?=some y):ltAt rs i j=true↔ltR x y:=by
 rw [zA h1 h2,Jj];rfl
theorem sym_one (P B S:List Row) (x:Row) (a b:Nat) (ha:a=P.length) (hb:b=a+1+B.length) (hs:Srt B) :
  ∃M,upSw (P++([x]++(B++S))) a (bs (fun h=>ltAt (P++([x]++(B++S))) h a) b (a+1) b-1-a)=P++(M++S)∧M.Perm ([x]++B)∧Srt M:=by
 obtain⟨rs,hrs⟩:∃rs,P++([x]++(B++S))=rs:=⟨_,rfl⟩;rw [hrs];have hx:rs[a]?=some x:=by rw [←hrs,ha];exact tZ _ _ _
 have hget:∀t,t<B.length→rs[a+1+t]?=B[t]?:=fun t ht=>by
  rw [←hrs,show P++([x]++(B++S))=(P++[x])++(B++S) by simp];have:=zk (P++[x]) B S ht
  rw [←this,JA];simp [ha]
 have hval:∀t,t<B.length→∃y,B[t]?=some y:=fun t ht=>⟨_,Jn ht⟩
 have hp:∀t y,B[t]?=some y→(ltAt rs (a+1+t) a=true↔ltR y x):=fun t y hy=>by
  have ht:=(Jx.1 hy).1;exact zI (by rw [hget t ht];exact hy) hx
 have hbd:=zE (fun h=>ltAt rs h a) b (a+1) b gN;obtain⟨g1,g2⟩:=wd (fun h=>ltAt rs h a) b (a+1) b gN gN (fun u v h1 h2 h3 h4=>by
  obtain⟨yu,hu⟩:=hval (u-(a+1)) gN;obtain⟨yv,hv⟩:=hval (v-(a+1)) gN;have q1:=hp _ _ hu;have q2:=hp _ _ hv;rw [show a+1+(u-(a+1))=u by omega] at q1;rw [show a+1+(v-(a+1))=v by omega] at q2;rw [q1];have hle:=rA hs (by omega:u-(a+1)≤v-(a+1)) hu hv;have hlt:=q2.1 h4;rcases tP yu x with h|h|h
  ·exact h
  ·rw [h] at hle;exact absurd hlt hle
  ·exact absurd (vF hlt h) hle)
 generalize bs (fun h=>ltAt rs h a) b (a+1) b=s at *
 obtain⟨B1,B2,rfl,l1,l2⟩:=qJ B (n:=s-1-a) gN;rw [JA] at hb hval hget;refine⟨B1++x::B2,?_,?_,?_⟩
 ·rw [←hrs]
  have:=D1 x B1 P (B2++S) a (s-1-a) ha l1.symm
  simpa using this
 ·simp
 ·obtain⟨h1,h2,h3⟩:=srt_app.1 hs
  have k1:∀y∈B1,leR y x:=fun y hy=>by
   obtain⟨t,ht⟩:=List.getElem?_of_mem hy;have htl:=(Jx.1 ht).1;exact ru ((hp t y (by rw [JD htl];exact ht)).1 (g1 _ gN gN))
  have k2:∀y∈B2,leR x y:=fun y hy=>by
   obtain⟨t,ht⟩:=List.getElem?_of_mem hy;have htl:=(Jx.1 ht).1;intro hlt;have:=(hp (B1.length+t) y (by rw [JB gN,Nat.add_sub_cancel_left];exact ht)).2 hlt
   rw [g2 _ gN gN] at this;cases this
  exact df
theorem sym_last (P A S:List Row) (x:Row) (a m:Nat) (ha:a=P.length) (hm:m=a+A.length) (hs:Srt A) :
  ∃M,dnSw (m-bs (fun h=>!ltAt (P++(A++([x]++S))) m h) m a m) (P++(A++([x]++S))) m=P++(M++S)∧M.Perm (A++[x])∧Srt M:=by
 obtain⟨rs,hrs⟩:∃rs,P++(A++([x]++S))=rs:=⟨_,rfl⟩;rw [hrs];have hx:rs[m]?=some x:=by
  rw [←hrs,show P++(A++([x]++S))=(P++A)++x::S by simp,show m=(P++A).length by simp;omega];exact tZ _ _ _
 have hget:∀t,t<A.length→rs[a+t]?=A[t]?:=fun t ht=>by rw [←hrs,ha];exact zk P A _ ht
 have hval:∀t,t<A.length→∃y,A[t]?=some y:=fun t ht=>⟨_,Jn ht⟩
 have hp:∀t y,A[t]?=some y→((!ltAt rs m (a+t))=true↔leR y x):=fun t y hy=>by
  have ht:=(Jx.1 hy).1;have:=zI hx (show rs[a+t]?=some y by rw [hget t ht];exact hy)
  unfold leR;rw [←this];simp
 have hbd:=zE (fun h=>!ltAt rs m h) m a m gN;obtain⟨g1,g2⟩:=wd (fun h=>!ltAt rs m h) m a m gN gN (fun u v h1 h2 h3 h4=>by
  obtain⟨yu,hu⟩:=hval (u-a) gN;obtain⟨yv,hv⟩:=hval (v-a) gN;have q1:=hp _ _ hu;have q2:=hp _ _ hv;rw [show a+(u-a)=u by omega] at q1;rw [show a+(v-a)=v by omega] at q2;rw [q1];exact oU (rA hs (by omega:u-a≤v-a) hu hv) (q2.1 h4))
 generalize bs (fun h=>!ltAt rs m h) m a m=s at *
 obtain⟨A1,A2,rfl,l1,l2⟩:=qJ A (n:=s-a) gN;rw [JA] at hm hval hget l2;refine⟨A1++x::A2,?_,?_,?_⟩
 ·rw [←hrs]
  have:=DI x (m-s) A2 (P++A1) S m gN gV
  simpa using this
 ·have:=List.perm_middle (l₁:=A1) (l₂:=A2) (a:=x)
  exact this.trans ((List.perm_append_singleton x (A1++A2)).symm)
 ·obtain⟨h1,h2,h3⟩:=srt_app.1 hs
  have k1:∀y∈A1,leR y x:=fun y hy=>by
   obtain⟨t,ht⟩:=List.getElem?_of_mem hy;have htl:=(Jx.1 ht).1;exact(hp t y (by rw [JD htl];exact ht)).1 (g1 _ gN gN)
  have k2:∀y∈A2,leR x y:=fun y hy=>by
   obtain⟨t,ht⟩:=List.getElem?_of_mem hy;have htl:=(Jx.1 ht).1;have hb:=g2 (a+(A1.length+t)) gN gN;have hq:=hp (A1.length+t) y (by rw [JB gN,Nat.add_sub_cancel_left];exact ht);rw [hb] at hq;exact(Ao x y).resolve_right (fun h=>by have:=hq.2 h;cases this)
  exact df
theorem od {l:List Row} (h:l.length=0):l=[]:=Jm h
theorem qH:∀(f:Nat) (P A B S:List Row) (a m b:Nat),a=P.length→m=a+A.length→b=m+B.length→0<A.length→0<B.length→A.length+B.length≤f→Srt A→Srt B →
  ∃M,symM f (P++(A++(B++S))) a m b=P++(M++S)∧M.Perm (A++B)∧Srt M
 | 0,P,A,B,S,a,m,b,_,_,_,h1,h2,h,_,_=>by omega
 | f+1,P,A,B,S,a,m,b,ha,hm,hb,h1,h2,hf,hA,hB=>by
  by_cases c1:m=a+1
  ·match A,hm,hA with
   | [x],hm,_ =>
    subst c1;rw [D2];exact sym_one P B S x a b ha hb hB
   | [],hm,_=>simp at h1
   | _::_::_,hm,_=>simp at hm;omega
  by_cases c2:b=m+1
  ·match B,hb,hB with
   | [x],hb,_ =>
    subst c2;rw [BT c1];exact sym_last P A S x a m ha hm hA
   | [],hb,_=>simp at h2
   | _::_::_,hb,_=>simp at hb;omega
  rw [Dq c1 c2];obtain⟨rs,hrs⟩:∃rs,P++(A++(B++S))=rs:=⟨_,rfl⟩;rw [hrs];obtain⟨Mi,hMi⟩:∃M,(a+b) / 2=M:=⟨_,rfl⟩;obtain⟨LO,hLO⟩:∃LO,sLo a m b=LO:=⟨_,rfl⟩;obtain⟨HI,hHI⟩:∃HI,sHi a m b=HI:=⟨_,rfl⟩;rw [hMi,hLO,hHI];have hlohi:a≤LO∧LO≤HI∧HI≤Mi∧HI≤m∧Mi+m≤LO+b∧(LO=a∨LO=Mi+m-b)∧(HI=m∨HI=Mi):=by
   unfold sLo at hLO;unfold sHi at hHI;rw [hMi] at hLO hHI;by_cases hc:Mi<m
   ·rw [Jl hc] at hLO hHI;omega
   ·rw [Jo hc] at hLO hHI;omega
  obtain⟨q1,q2,q3,q4,q5,q6,q7⟩:=hlohi;have gA:∀c,a≤c→c<m→∃x,A[c-a]?=some x∧rs[c]?=some x:=fun c u v=>by
   obtain⟨x,hx⟩:∃x,A[c-a]?=some x:=⟨_,Jn gN⟩;refine⟨x,hx,?_⟩;rw [←hrs,←hx];have:=zk P A (B++S) (t:=c-a) gN
   rw [show P.length+(c-a)=c by omega] at this;exact this
  have gB:∀c,m≤c→c<b→∃x,B[c-m]?=some x∧rs[c]?=some x:=fun c u v=>by
   obtain⟨x,hx⟩:∃x,B[c-m]?=some x:=⟨_,Jn gN⟩;refine⟨x,hx,?_⟩;rw [←hrs,←hx,show P++(A++(B++S))=(P++A)++(B++S) by simp];have:=zk (P++A) B S (t:=c-m) gN
   rw [show (P++A).length+(c-m)=c by simp;omega] at this;exact this
  have hp:∀c x y,LO≤c→c<HI→A[c-a]?=some x→B[Mi+m-1-c-m]?=some y→((!ltAt rs (Mi+m-1-c) c)=true↔leR x y):=fun c x y u v hx hy=>by
   obtain⟨x',hx1,hx2⟩:=gA c gN gN;obtain⟨y',hy1,hy2⟩:=gB (Mi+m-1-c) gN gN;obtain rfl:=Option.some.inj (hx.symm.trans hx1);obtain rfl:=Option.some.inj (hy.symm.trans hy1);have:=zI hy2 hx2
   unfold leR;rw [←this];simp
  have hbd:=zE (fun c=>!ltAt rs (Mi+m-1-c) c) b LO HI q2;obtain⟨g1,g2⟩:=wd (fun c=>!ltAt rs (Mi+m-1-c) c) b LO HI q2 gN (fun u v k1 k2 k3 k4=>by
   obtain⟨xu,hxu,_⟩:=gA u gN gN;obtain⟨xv,hxv,_⟩:=gA v gN gN;obtain⟨yu,hyu,_⟩:=gB (Mi+m-1-u) gN gN;obtain⟨yv,hyv,_⟩:=gB (Mi+m-1-v) gN gN;rw [hp u xu yu k1 gN hxu hyu];have:=(hp v xv yv gN k3 hxv hyv).1 k4
   exact oU (oU (rA hA gN hxu hxv) this) (rA hB gN hyv hyu))
  generalize bs (fun c=>!ltAt rs (Mi+m-1-c) c) b LO HI=s at *
  obtain⟨E,hE⟩:∃E,Mi+m-s=E:=⟨_,rfl⟩;rw [hE];obtain⟨A1,A2,rfl,l1,l2⟩:=qJ A (n:=s-a) gN;obtain⟨B1,B2,rfl,l3,l4⟩:=qJ B (n:=E-m) gN;simp only [JA] at hm hb h1 h2 hf l2 l4;obtain⟨sA1,sA2,sA⟩:=srt_app.1 hA;obtain⟨sB1,sB2,sB⟩:=srt_app.1 hB;have hcross:∀x∈A1++B1,∀y∈A2++B2,leR x y:=by
   intro x hx y hy;rcases JX.1 hx with hx|hx<;>rcases JX.1 hy with hy|hy
   ·exact sA x hx y hy
   ·obtain⟨t,ht⟩:=List.getElem?_of_mem hx
    obtain⟨v,hv⟩:=List.getElem?_of_mem hy;have htl:=(Jx.1 ht).1;have hvl:=(Jx.1 hv).1;have hLs:LO<s:=gN;obtain⟨x',hx1,_⟩:=gA (s-1) gN gN;obtain⟨y',hy1,_⟩:=gB (Mi+m-1-(s-1)) gN gN;have:=(hp (s-1) x' y' gN gN hx1 hy1).1 (g1 (s-1) gN gN)
    exact oU (oU (rA hA (show t≤s-1-a by omega) (by rw [JD htl];exact ht) hx1) this)
     (rA hB (show Mi+m-1-(s-1)-m≤B1.length+v by omega) hy1 (by rw [JB gN,Nat.add_sub_cancel_left];exact hv))
   ·obtain⟨t,ht⟩:=List.getElem?_of_mem hx
    obtain⟨v,hv⟩:=List.getElem?_of_mem hy;have htl:=(Jx.1 ht).1;have hvl:=(Jx.1 hv).1;have hsH:s<HI:=gN;obtain⟨x',hx1,_⟩:=gA s gN gN;obtain⟨y',hy1,_⟩:=gB (Mi+m-1-s) gN gN;have hn:=g2 s (Ju _) hsH;have hq:=hp s x' y' hbd.1 hsH hx1 hy1;have hle:leR y' x':=(Ao x' y').resolve_left (fun h=>by have:=hq.2 h;rw [hn] at this;cases this);exact oU (oU (rA hB (show t≤Mi+m-1-s-m by omega) (by rw [JD htl];exact ht) hy1) hle)
     (rA hA (show s-a≤A1.length+v by omega) hx1 (by rw [JB gN,Nat.add_sub_cancel_left];exact hv))
   ·exact sB x hx y hy
  have hr1:(if s<m∧m<E then rotL (E-s) rs m (m-s) (E-m) else rs)=P++(A1++(B1++(A2++(B2++S)))):=by
   by_cases hc:s<m∧m<E
   ·rw [Jl hc,←hrs]
    have:=zp (E-s) (P++A1) A2 B1 (B2++S) m (m-s) (E-m) gV gN gN gN gN gN
    simpa using this
   ·rw [Jo hc,←hrs]
    by_cases hs:s<m
    ·have:B1=[]:=od gN
     subst this;simp
    ·have:A2=[]:=od gN
     subst this;simp
  rw [hr1];have hr2:∃M1,(if a<s∧s<Mi then symM f (P++(A1++(B1++(A2++(B2++S))))) a s Mi else P++(A1++(B1++(A2++(B2++S)))))=P++(M1++(A2++(B2++S)))∧M1.Perm (A1++B1)∧Srt M1:=by
   by_cases hc:a<s∧s<Mi
   ·rw [Jl hc]
    exact qH f P A1 B1 (A2++(B2++S)) a s Mi ha gN gN gN gN gN sA1 sB1
   ·rw [Jo hc]
    by_cases hs:a<s
    ·have:B1=[]:=od gN
     subst this;exact⟨A1,by simp,by simp,sA1⟩
    ·have:A1=[]:=od gN
     subst this;exact⟨B1,by simp,by simp,sB1⟩
  obtain⟨M1,e1,p1,s1⟩:=hr2;unfold symT;rw [e1];have hl1:M1.length=Mi-a:=by rw [p1.length_eq,JA];omega
  have hr3:∃M2,(if Mi<E∧E<b then symM f (P++(M1++(A2++(B2++S)))) Mi E b else P++(M1++(A2++(B2++S))))=P++(M1++(M2++S))∧M2.Perm (A2++B2)∧Srt M2:=by
   by_cases hc:Mi<E∧E<b
   ·rw [Jl hc]
    obtain⟨M2,e2,p2,s2⟩:=qH f (P++M1) A2 B2 S Mi E b gV gN gN gN gN gN sA2 sB2;exact⟨M2,by simpa using e2,p2,s2⟩
   ·rw [Jo hc]
    by_cases hs:Mi<E
    ·have:B2=[]:=od gN
     subst this;exact⟨A2,by simp,by simp,sA2⟩
    ·have:A2=[]:=od gN
     subst this;exact⟨B2,by simp,by simp,sB2⟩
  obtain⟨M2,e2,p2,s2⟩:=hr3;refine⟨M1++M2,by rw [e2];simp,?_,?_⟩
  ·refine(p1.append p2).trans ?_
   have h1:((A1++B1)++(A2++B2)).Perm ((A1++A2)++(B1++B2)):=by
    rw [J3,J3];refine List.Perm.append_left A1 ?_;rw [←J3,←J3];exact List.Perm.append_right B2 List.perm_append_comm
   exact h1
  ·rw [srt_app]
   exact⟨s1,s2,fun x hx y hy=>hcross x (p1.mem_iff.1 hx) y (p2.mem_iff.1 hy)⟩
theorem ET (a:Nat) (rs:List Row):tg a a rs=rs:=by
 cases a with
 | zero=>rfl
 | succ j =>
  simp only [tg];split
  ·rw [Jo gN]
  ·rfl
theorem Df {A:List Row} {x:Row} (h:Srt A) (hx:∀y∈A,leR y x):Srt (A++[x]):=by
 refine List.pairwise_append.2 ⟨h,List.pairwise_singleton _ _,fun y hy z hz=>?_⟩;rw [JY] at hz;subst hz;exact hx y hy
theorem A6 (P:List Row) (x:Row):∀(n:Nat) (A S:List Row) (a j:Nat),n=A.length→a=P.length→j=a+A.length→Srt A →
  ∃M,tg a j (P++(A++x::S))=P++(M++S)∧M.Perm (A++[x])∧Srt M
 | 0,A,S,a,j,hn,ha,hj,hA=>by
  obtain rfl:=od hn.symm;obtain rfl:j=a:=by simpa using hj
  exact⟨[x],by rw [ET];simp,by simp,List.pairwise_singleton _ _⟩
 | n+1,A,S,a,j,hn,ha,hj,hA=>by
  rcases xR A with rfl|⟨B,y,rfl⟩
  ·simp at hn
  simp only [JA,List.length_singleton] at hn hj;obtain⟨j,rfl⟩:∃j',j=j'+1:=⟨a+B.length,by omega⟩;obtain⟨hB,_,hy⟩:=List.pairwise_append.1 hA;have hy:∀z∈B,leR z y:=fun z hz=>hy z hz y gU
  have e1:P++((B++[y])++x::S)=(P++B)++y::([]++x::S):=gU;have hl:(P++B).length=j:=by rw [JA];omega
  have g1:((P++B)++y::([]++x::S))[j]?=some y:=by rw [←hl];exact tZ _ _ _
  have g2:((P++B)++y::([]++x::S))[j+1]?=some x:=by
   rw [show (P++B)++y::([]++x::S)=(P++B++[y])++x::S by simp,show j+1=(P++B++[y]).length by rw [JA,hl];rfl];exact tZ _ _ _
  rw [e1];simp only [tg,g1,g2];by_cases hc:cmpR x y<0
  ·rw [Jl ⟨by omega,hc⟩,xd gN,tt (P++B) [] S y x j (j+1) hl.symm (by rw [hl];simp)]
   obtain⟨M,h1,h2,h3⟩:=A6 P x n B (y::S) a j gN ha gN hB;refine⟨M++[y],?_,?_,?_⟩
   ·rw [show (P++B)++x::([]++y::S)=P++(B++x::y::S) by simp,h1];simp
   ·have:=h2.append_right [y]
    refine this.trans ?_;rw [J3,J3];exact List.Perm.append_left B (List.Perm.swap _ _ _)
   ·refine Df h3 (fun z hz=>?_)
    have hz:=h2.mem_iff.1 hz;rw [JX,JY] at hz;rcases hz with hz|rfl
    ·exact hy z hz
    ·exact ru hc
  ·rw [Jo (by intro h;exact hc h.2)]
   refine⟨B++[y]++[x],by simp,.refl _,Df hA (fun z hz=>?_)⟩;rw [JX,JY] at hz;rcases hz with hz|rfl
   ·exact oU (hy z hz) hc
   ·exact hc
theorem ur (P:List Row):∀(B A S:List Row) (a k i:Nat),k=B.length→a=P.length→i=a+A.length→Srt A →
  ∃M,oW a k i (P++(A++(B++S)))=P++(M++S)∧M.Perm (A++B)∧Srt M
 | [],A,S,a,k,i,hk,ha,hi,hA=>by
  subst hk;exact⟨A,by simp [oW],by simp,hA⟩
 | x::B,A,S,a,k,i,hk,ha,hi,hA=>by
  subst hk;obtain⟨M,h1,h2,h3⟩:=A6 P x A.length A (B++S) a i rfl ha hi hA;have hl:M.length=A.length+1:=by rw [h2.length_eq];simp
  obtain⟨M2,g1,g2,g3⟩:=ur P B M S a B.length (i+1) rfl ha gN h3;refine⟨M2,?_,?_,g3⟩
  ·simp only [Jr,oW,JW];rw [h1,g1]
  ·refine g2.trans ((h2.append_right B).trans ?_)
   simp
inductive Blk (s:Nat):List Row→Prop
 | last {l:List Row}:l.length<s→Srt l→Blk s l
 | cons {A l:List Row}:A.length=s→Srt A→Blk s l→Blk s (A++l)
theorem Blk.take {s:Nat} {l:List Row} (h:Blk s l) (hl:s≤l.length):∃A T,l=A++T∧A.length=s∧Srt A∧Blk s T:=by
 cases h with
 | last h1 _=>omega
 | cons h1 h2 h3=>exact⟨_,_,rfl,h1,h2,h3⟩
theorem Blk.short {s:Nat} {l:List Row} (h:Blk s l) (hl:l.length<s):Srt l:=by
 cases h with
 | last _ h2=>exact h2
 | cons h1 h2 h3=>rw [JA] at hl;omega
theorem Blk.whole {s:Nat} {l:List Row} (h:Blk s l) (hl:l.length≤s):Srt l:=by
 rcases Nat.eq_or_lt_of_le hl with e|e
 ·obtain⟨A,T,rfl,h1,h2,h3⟩:=h.take gN
  obtain rfl:T=[]:=od (by rw [JA] at e;omega);simpa using h2
 ·exact h.short e
theorem GX:∀(k:Nat) (P S:List Row) (a n:Nat),a=P.length→n=a+S.length→n<a+k→∃M,stA k (P++S) a n=P++M∧M.Perm S∧Blk 20 M
 | 0,P,S,a,n,_,_,h=>by omega
 | k+1,P,S,a,n,ha,hn,hk=>by
  simp only [stA];by_cases hc:a+20≤n
  ·rw [Jl hc]
   obtain⟨A,T,rfl,hA,hT⟩:=qJ S (n:=20) gN;match A,hA,hn,hT with
   | x::A,hA,hn,hT =>
    simp only [Jr] at hA;obtain⟨M,h1,h2,h3⟩:=ur P A [x] T a (a+20-(a+1)) (a+1) gN ha rfl (List.pairwise_singleton _ _);have hl:M.length=20:=by rw [h2.length_eq];simp;omega
    obtain⟨M2,g1,g2,g3⟩:=GX k (P++M) T (a+20) n iZ (by simp at hn;omega) gN;refine⟨M++M2,?_,?_,.cons hl h3 g3⟩
    ·rw [show P++((x::A)++T)=P++([x]++(A++T)) by simp,h1,←J3,g1,J3]
    ·exact(h2.append_right M2).trans (g2.append_left _)
   | [],hA,_,_=>simp at hA
  ·rw [Jo hc]
   match S,hn with
   | [],hn =>
    obtain rfl:n=a:=by simpa using hn
    refine⟨[],?_,.refl _,.last gU List.Pairwise.nil⟩;rw [show n-(n+1)=0 by omega];rfl
   | x::S,hn =>
    simp only [Jr] at hn;obtain⟨M,h1,h2,h3⟩:=ur P S [x] [] a (n-(a+1)) (a+1) gN ha rfl (List.pairwise_singleton _ _);have hl:M.length=S.length+1:=by rw [h2.length_eq];simp
    refine⟨M,?_,h2,.last gN h3⟩;rw [J5,J5] at h1;exact h1
theorem IT (s:Nat) (hs:0<s):∀(k:Nat) (P S:List Row) (a n:Nat),a=P.length→n=a+S.length→n<a+k→Blk s S→∃M,stB k (P++S) a s n=P++M∧M.Perm S∧Blk (2*s) M
 | 0,P,S,a,n,_,_,h,_=>by omega
 | k+1,P,S,a,n,ha,hn,hk,hB=>by
  simp only [stB];by_cases hc:a+2*s≤n
  ·rw [Jl hc]
   obtain⟨A,T,rfl,hA,hsA,hT⟩:=hB.take gN;rw [JA] at hn;obtain⟨B,T,rfl,hB2,hsB,hT2⟩:=hT.take gN;rw [JA] at hn;obtain⟨M,h1,h2,h3⟩:=qH (2*s) P A B T a (a+s) (a+2*s) ha gN gN gN gN gN hsA hsB;have hl:M.length=2*s:=by rw [h2.length_eq,JA];omega
   obtain⟨M2,g1,g2,g3⟩:=IT s hs k (P++M) T (a+2*s) n iZ gN gN hT2;refine⟨M++M2,?_,?_,.cons hl h3 g3⟩
   ·rw [h1,←J3,g1,J3]
   ·rw [←J3];exact(h2.append_right M2).trans (g2.append_left _)
  ·rw [Jo hc]
   by_cases hd:a+s<n
   ·rw [Jl hd]
    obtain⟨A,T,rfl,hA,hsA,hT⟩:=hB.take gN;rw [JA] at hn;obtain⟨M,h1,h2,h3⟩:=qH (n-a) P A T [] a (a+s) n ha gN gN gN gN gN hsA (hT.short gN);have hl:M.length=n-a:=by rw [h2.length_eq,JA];omega
    rw [J5,J5] at h1;exact⟨M,h1,h2,.last gN h3⟩
   ·rw [Jo hd]
    exact⟨S,rfl,.refl _,.last gN (hB.whole gN)⟩
theorem G5:∀(k:Nat) (S:List Row) (s n:Nat),0<s→n=S.length→n<s+k→Blk s S→(stC k S s n).Perm S∧Srt (stC k S s n)
 | 0,S,s,n,_,hn,hk,hB=>⟨.refl _,hB.whole gN⟩
 | k+1,S,s,n,hs,hn,hk,hB=>by
  simp only [stC];by_cases hc:s<n
  ·rw [Jl hc]
   obtain⟨M,h1,h2,h3⟩:=IT s hs (n+1) [] S 0 n rfl gN gN hB;rw [JV,JV] at h1;rw [h1];obtain⟨g1,g2⟩:=G5 k M (2*s) n gN (by rw [h2.length_eq];exact hn) gN h3;exact⟨g1.trans h2,g2⟩
  ·rw [Jo hc]
   exact⟨.refl _,hB.whole gN⟩
theorem sa (rs:List Row):(stL rs).Perm rs∧Srt (stL rs):=by
 obtain⟨M,h1,h2,h3⟩:=GX (rs.length+1) [] rs 0 rs.length rfl gU gN;rw [JV,JV] at h1;unfold stL;rw [h1];obtain⟨g1,g2⟩:=G5 (rs.length+1) M 20 rs.length gN (by rw [h2.length_eq]) gN h3;exact⟨g1.trans h2,g2⟩
end Go.Proofs.YtdcnncgpomcaaaaGreatDoor
