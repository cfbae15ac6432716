/- walk of fmts.part -/
import Derived.Test.YtbnkaecmgfolpaaGreatHb2
set_option maxRecDepth 100000
set_option maxHeartbeats 4000000
namespace Go.Proofs.YtbnkaecmgfolpaaGreat
open Go.RowKit
theorem pf {l r:Str} {i:Int} {n:Nat} (w:World) (h0:0≤i) (h1:i≤1000000) (hs:l.length≤1000000) (hN:n9 (l.drop i.toNat)=some (n,r)) :
  Calls Tryz.prog 98 #[.string ⟨l.toArray⟩,.int .i64 i] w fun e w'=>w=w'∧n<10000∧∃j:Nat,i<j∧j≤l.length∧l.drop j=r∧e=.returned (.tuple #[.int .i64 n,.int .i64 j,.bool true]):=by
 exact dn
theorem lG {l:Str} {i:Int} (w:World) (h0:0≤i) (h1:i≤1000000) (hs:l.length≤1000000) (hN:n9 (l.drop i.toNat)=none) :
  Calls Tryz.prog 98 #[.string ⟨l.toArray⟩,.int .i64 i] w fun e w'=>w=w'∧e=.returned (.tuple #[.int .i64 0,.int .i64 i,.bool false]):=by
 exact dn
theorem uq {l r:Str} {i n:Nat} {f:Fm} (w:World) (h1:i≤900000) (hs:l.length≤900000) (hB:km (l.drop i) n=some (f,r)) :
  Calls Tryz.prog 100 #[.string ⟨l.toArray⟩,.int .i64 i,.int .i64 n] w fun e w'=>Below w.heap.size w w'∧f.thn.length≤l.length∧f.els.length≤l.length∧∃j:Nat,i<j∧j≤l.length∧l.drop j=r∧e=.returned (.tuple #[.agg #[.int .i64 (f).kind,.int .i64 (f).n,.int .i64 (f).cse,.string ⟨((f).thn).toArray⟩,.string ⟨((f).els).toArray⟩],.int .i64 j,.bool true]):=by
 exact dC
theorem um {l:Str} {i n:Nat} (w:World) (h1:i≤900000) (hs:l.length≤900000) (hB:km (l.drop i) n=none) :
  Calls Tryz.prog 100 #[.string ⟨l.toArray⟩,.int .i64 i,.int .i64 n] w fun e w'=>Below w.heap.size w w'∧e=.returned (.tuple #[.agg #[.int .i64 0,.int .i64 0,.int .i64 0,.string ⟨#[]⟩,.string ⟨#[]⟩],.int .i64 0,.bool false]):=by
 exact dC
theorem vo (l:Str) (i:Nat) (w:World) (h1:i≤800000) (hs:l.length≤800000) :
  Calls Tryz.prog 68 #[.string ⟨l.toArray⟩,.int .i64 i] w fun e w'=>Below w.heap.size w w'∧vy l i (nS (l.drop i)) e:=by
 generalize hR:nS (l.drop i)=R
 have HR:=ab hR;clear hR;cases hN:n9 (l.drop i) with
 | some p =>
  obtain⟨n,r⟩:=p;have HN:Hid (n9 (l.drop (i:Int).toNat)=some (n,r)):=ab (by rw [Int.toNat_natCast];exact hN);have HE:Hid (R=some (⟨1,n,0,[],[]⟩,r)):=ab (by rw [←HR.out];simp [nS,hN]);clear hN HR;go_enter Tryz.func68,Tryz.ntmps68
  go_wp2_with (go_at_call 98;refine(pf _ fg fg fg HN.out).mono ?_;rintro e w1 ⟨rfl,hn,j,hj1,hj2,hj3,rfl⟩;have HJ:=ab hj3;clear hj3)
  refine Al (v:=.tuple #[.agg #[.int .i64 1,.int .i64 n,.int .i64 0,.string ⟨[].toArray⟩,.string ⟨[].toArray⟩],.int .i64 j,.bool true]) hZ rfl ⟨?_,?_⟩
  ·(repeat (first|with_reducible exact Below.refl _ _|with_reducible assumption|(refine Below.setCell ?_ fD _)|(refine Below.alloc ?_ fw _)|(refine Below.drew ?_)))
  ·rw [HE.out];exact⟨by simp,by simp,j,by omega,hj2,HJ.out,by simp⟩
 | none =>
  have HN:Hid (n9 (l.drop (i:Int).toNat)=none):=ab (by rw [Int.toNat_natCast];exact hN);have HP:Hid (R=partB (l.drop i)):=ab (by
   rw [←HR.out];simp [nS,hN])
  clear hN HR;cases hd:l.drop i with
  | nil =>
   have h2:=ki hd;have HE:Hid (R=none):=ab (by rw [HP.out,hd];rfl);have e1:List.isPrefixOf [123] (List.drop i l)=false:=by rw [hd];rfl
   clear hd HP;exact ep
  | cons c r1 =>
   obtain⟨h2,h3,hr⟩:=jv hd;have Hr:=ab hr;clear hr h3;by_cases hc:c.toNat=123
   ·have HP1:Hid (R=match n9 r1 with|none=>none|some p=>partC p.1 p.2):=ab (by rw [HP.out,hd];exact zL hc)
    have e1:List.isPrefixOf [123] (List.drop i l)=true:=by rw [hd,pre1];simp;omega
    clear hc hd HP;cases hM:n9 r1 with
    | none =>
     have HM:Hid (n9 (l.drop ((i:Int)+1).toNat)=none):=ab g6;have HE:Hid (R=none):=ab (by rw [HP1.out,hM]);clear hM HP1;go_enter Tryz.func68,Tryz.ntmps68
     go_wp2_with (go_at_call 98;refine(lG _ fg fg fg HN.out).mono ?_)
     rintro e w1 ⟨rfl,rfl⟩;go_wp2_with (first|(go_at_call 99;refine(kf _ _ _ _ fg fg fq).mono ?_;rintro e w1 ⟨rfl,rfl⟩)|(go_at_call 98;refine(lG _ fg fg fg HM.out).mono ?_;rintro e w1 ⟨rfl,rfl⟩))
     exact aM
    | some p =>
     obtain⟨n,r2⟩:=p;have HM:Hid (n9 (l.drop ((i:Int)+1).toNat)=some (n,r2)):=ab g6;have HP2:Hid (R=partC n r2):=ab (by rw [HP1.out,hM]);clear hM HP1;go_enter Tryz.func68,Tryz.ntmps68
     go_wp2_with (go_at_call 98;refine(lG _ fg fg fg HN.out).mono ?_)
     rintro e w1 ⟨rfl,rfl⟩;go_wp2_with (first|(go_at_call 99;refine(kf _ _ _ _ fg fg fq).mono ?_;rintro e w1 ⟨rfl,rfl⟩)|(go_at_call 98;refine(pf _ fg fg fg HM.out).mono ?_))
     rintro e w1 ⟨rfl,hn,j,hj1,hj2,hj3,rfl⟩;cases r2 with
     | nil =>
      have HE:Hid (R=none):=HP2;have e2:List.isPrefixOf [125] (List.drop j l)=false:=by rw [hj3];rfl
      have e3:List.isPrefixOf [58] (List.drop j l)=false:=by rw [hj3];rfl
      clear hj3;exact eL
     | cons d r3 =>
      have HJ:=ab (jv hj3).2.2;have hjl:=(jv hj3).1;by_cases hd1:d.toNat=125
      ·have HE:Hid (R=some (⟨1,n,0,[],[]⟩,r3)):=ab (by rw [HP2.out];exact zL hd1)
       have e2:List.isPrefixOf [125] (List.drop j l)=true:=by rw [hj3,pre1];simp;omega
       clear hj3 hd1;go_wp2_with (go_at_call 99;refine(kf _ _ _ _ fg fg fq).mono ?_;rintro e w1 ⟨rfl,rfl⟩)
       refine Al (v:=.tuple #[.agg #[.int .i64 1,.int .i64 n,.int .i64 0,.string ⟨[].toArray⟩,.string ⟨[].toArray⟩],.int .i64 (j+1),.bool true]) hZ rfl ⟨?_,?_⟩
       ·(repeat (first|with_reducible exact Below.refl _ _|with_reducible assumption|(refine Below.setCell ?_ fD _)|(refine Below.alloc ?_ fw _)|(refine Below.drew ?_)))
       ·rw [HE.out];exact⟨by simp,by simp,j+1,by omega,by omega,HJ.out,by simp⟩
      ·have e2:List.isPrefixOf [125] (List.drop j l)=false:=by rw [hj3,pre1];simp;omega
       by_cases hd2:d.toNat=58
       ·have HP3:Hid (R=km r3 n):=ab (by rw [HP2.out];exact(zO hd1).trans (zL hd2))
        have e3:List.isPrefixOf [58] (List.drop j l)=true:=by rw [hj3,pre1];simp;omega
        clear hj3 hd1 hd2;cases hB:km r3 n with
        | none =>
         have HE:Hid (R=none):=ab (by rw [HP3.out,hB]);have HB:Hid (km (l.drop (j+1)) n=none):=ab (by rw [HJ.out];exact hB);clear hB;have ej:((j:Int)+1)=((j+1:Nat):Int):=fg;have EJ:=ab ej;clear ej;go_wp2_with (first|(go_at_call 99;refine(kf _ _ _ _ fg fg fq).mono ?_;rintro e w1 ⟨rfl,rfl⟩)|(go_at_call 100;rw [EJ.out];refine(um _ fg fg HB.out).mono ?_;rintro e w1 ⟨hb1,rfl⟩;obtain⟨hc1,hf1⟩:=oY hb1;have z0:w1.cell? ⟨w.heap.size,0,none⟩=some (.int .i64 0):= fh;have z1:w1.cell? ⟨w.heap.size,1,none⟩=some (.int .i64 0):= fh;have z2:w1.cell? ⟨w.heap.size,2,none⟩=some (.int .i64 0):= fh;have z3:w1.cell? ⟨w.heap.size,3,none⟩=some (.string ⟨#[]⟩):= fh;have z4:w1.cell? ⟨w.heap.size,4,none⟩=some (.string ⟨#[]⟩):= fh;have hbw:Below w.heap.size w w1:=((Below.refl w.heap.size w).alloc (zP _) _).trans (hb1.mono fq)))
         refine Al (v:=.tuple #[.agg #[.int .i64 0,.int .i64 0,.int .i64 0,.string ⟨#[]⟩,.string ⟨#[]⟩],.int .i64 0,.bool false]) ik rfl ⟨?_,by rw [HE.out];rfl⟩
         (repeat (first|with_reducible exact Below.refl _ _|with_reducible assumption|(refine Below.setCell ?_ fD _)|(refine Below.alloc ?_ fw _)|(refine Below.drew ?_)))
        | some q =>
         obtain⟨⟨fk,fn,fc,ft,fe⟩,r4⟩:=q;have HE:Hid (R=some (⟨fk,fn,fc,ft,fe⟩,r4)):=ab (by rw [HP3.out,hB]);have HB:Hid (km (l.drop (j+1)) n=some (⟨fk,fn,fc,ft,fe⟩,r4)):=ab (by rw [HJ.out];exact hB);clear hB;have ej:((j:Int)+1)=((j+1:Nat):Int):=fg;have EJ:=ab ej;clear ej;go_wp2_with (first|(go_at_call 99;refine(kf _ _ _ _ fg fg fq).mono ?_;rintro e w1 ⟨rfl,rfl⟩)|(go_at_call 100;rw [EJ.out];refine(uq _ fg fg HB.out).mono ?_;rintro e w1 ⟨hb1,ht1,ht2,k,hk1,hk2,hk3,rfl⟩;obtain⟨hc1,hf1⟩:=oY hb1;have z0:w1.cell? ⟨w.heap.size,0,none⟩=some (.int .i64 0):= fh;have z1:w1.cell? ⟨w.heap.size,1,none⟩=some (.int .i64 0):= fh;have z2:w1.cell? ⟨w.heap.size,2,none⟩=some (.int .i64 0):= fh;have z3:w1.cell? ⟨w.heap.size,3,none⟩=some (.string ⟨#[]⟩):= fh;have z4:w1.cell? ⟨w.heap.size,4,none⟩=some (.string ⟨#[]⟩):= fh;have hbw:Below w.heap.size w w1:=((Below.refl w.heap.size w).alloc (zP _) _).trans (hb1.mono fq);have HK3:=ab hk3;clear hk3))
         refine Al (v:=.tuple #[.agg #[.int .i64 fk,.int .i64 fn,.int .i64 fc,.string ⟨ft.toArray⟩,.string ⟨fe.toArray⟩],.int .i64 k,.bool true]) ik rfl ⟨?_,?_⟩
         ·(repeat (first|with_reducible exact Below.refl _ _|with_reducible assumption|(refine Below.setCell ?_ fD _)|(refine Below.alloc ?_ fw _)|(refine Below.drew ?_)))
         ·rw [HE.out];exact⟨ht1,ht2,k,by omega,hk2,HK3.out,by simp⟩
       ·have HE:Hid (R=none):=ab (by rw [HP2.out];exact(zO hd1).trans (zO hd2))
        have e3:List.isPrefixOf [58] (List.drop j l)=false:=by rw [hj3,pre1];simp;omega
        clear hj3 hd1 hd2;exact eL
   ·have HE:Hid (R=none):=ab (by rw [HP.out,hd];exact zO hc)
    have e1:List.isPrefixOf [123] (List.drop i l)=false:=by rw [hd,pre1];simp;omega
    clear hc hd HP;exact ep
open Go.RowKit
theorem j9 {w:World} {B:Nat} {e t:TypeId} {sz n:Nat} {v:Value} {xs:List Value} {k:Nat} {cs:Array Value} {m:Nat × Nat} (h:w.ownsRow B e sz v n xs) (hk:w.heap[k]?=some (.cells cs t m)) (hne:t≠e):v.ownBlock≠some k:=fun he=>by
 have:=(lV h he).2
 simp [uT,hk] at this;exact hne this
theorem sG {w:World} {B B':Nat} {e e':TypeId} {sz sz' n n':Nat} {v v':Value} {xs xs':List Value} (h:w.ownsRow B e sz v n xs) (h':w.ownsRow B' e' sz' v' n' xs') (hne:e≠e'):v.ownBlock=none∨v.ownBlock≠v'.ownBlock:=by
 cases hv:v.ownBlock with
 | none=>exact .inl rfl
 | some g =>
  refine .inr fun he=>?_
  have h1:=(lV h hv).2;have h2:=(lV h' he.symm).2;rw [h1] at h2;injection h2 with h2;exact hne h2
theorem nP {w:World} {B:Nat} {e:TypeId} {sz n:Nat} {v:Value} {xs:List Value} (h:w.ownsRow B e sz v n xs) {p:Addr} (hp:v.ownBlock≠some p.block) (u:Value):(w.setCell p u).ownsRow B e sz v n xs :=
 h.kept (row:=some p.block) ⟨rfl,rfl,rfl,by simp [World.setCell],fun k _ hk=>Below.heap_setCell _ _ _ _ (fun e=>hk (by rw [e]))⟩ (.inr hp)
theorem oB {w:World} {g:Nat} {v u:Value} {t:TypeId} (h:w.heap[g]?=some (.cells #[v] t (0,0))):(w.setCell ⟨g,0,none⟩ u).heap[g]?=some (.cells #[u] t (0,0)):=by
 simp [World.setCell,Array.getElem?_modify,h]
theorem mQ {w:World} {g:Nat} {p:Addr} {u:Value} {o:Obj} (h:w.heap[g]?=some o) (hp:p.block≠g):(w.setCell p u).heap[g]?=some o:=by
 rw [Below.heap_setCell _ _ _ _ (fun e=>hp e.symm)];exact h
theorem yG:(Tryz.prog.info? 43).map (fun i=>(i.zero,i.size,i.bytes))=some (some (.agg #[.int .i64 0,.int .i64 0,.int .i64 0,.string ⟨#[]⟩,.string ⟨#[]⟩]),5,56):=by kernel_rfl
def RS (B bt bo:Nat) (tx:Str) (fs:List Fm) (w:World):Prop :=
 ∃tv ov,w.heap[bt]?=some (.cells #[tv] 67 (0,0))∧w.heap[bo]?=some (.cells #[ov] 26 (0,0))∧B≤bt∧B≤bo∧w.ownsRow B 5 1 tv tx.length (jF tx)∧w.ownsRow B 43 5 ov fs.length (kk fs)
theorem qr (fs:List Fm) (f:Fm):kk (fs++[f])=kk fs++f.cells:=by simp [kk]
theorem kK {w w':World} {B:Nat} {e:TypeId} {sz n:Nat} {v:Value} {xs:List Value} (h:w.ownsRow B e sz v n xs) (hb:Below w.heap.size w w'):w'.ownsRow B e sz v n xs:=by
 refine⟨h.1,?_⟩;rcases h.2 with h5|⟨g',cap,cur,hv,hB,hg,r⟩
 ·exact .inl h5
 ·exact .inr ⟨g',cap,cur,hv,hB,(hb.block g' (iN hg)).trans hg,r⟩
theorem RS.keep {B bt bo:Nat} {tx:Str} {fs:List Fm} {w w':World} (h:RS B bt bo tx fs w) (hb:Below w.heap.size w w'):RS B bt bo tx fs w':=by
 obtain⟨tv,ov,h1,h2,h3,h4,h5,h6⟩:=h;exact⟨tv,ov,(hb.block _ (iN h1)).trans h1,(hb.block _ (iN h2)).trans h2,h3,h4,kK h5 hb,kK h6 hb⟩
theorem tO (B bt bo:Nat) (tx:Str) (fs:List Fm) (w0 w:World) (h:RS B bt bo tx fs w0) (hw:Below w0.heap.size w0 w) (hB:B≤w.heap.size) (htx:tx.length≤1000000) (hfs:fs.length≤1000000) :
  Calls Tryz.prog 67 #[.pointer (some ⟨bt,0,none⟩),.pointer (some ⟨bo,0,none⟩)] w fun e w'=>e=.returned (.tuple #[])∧RS B bt bo [] (lc tx fs) w'∧Below B w w'∧∀k,w0.heap.size≤k→k<w.heap.size→w'.heap[k]?=w.heap[k]?:=by
 obtain⟨tv,ov,h1,h2,hbt,hbo,ht,ho⟩:=h;have hlt1:=iN h1;have hlt2:=iN h2;have hrow:∀g,ov.ownBlock=some g→g<w0.heap.size:=fun g hg=>(ho.lt g hg).2
 replace h1:=(hw.block _ hlt1).trans h1;replace h2:=(hw.block _ hlt2).trans h2;replace ht:=kK ht hw;replace ho:=kK ho hw;have HROW:=ab hrow;clear hrow;obtain⟨ta,tc,rfl⟩:=ja ht;obtain⟨oa,oc,rfl⟩:=ja ho;have c1:w.cell? ⟨bt,0,none⟩=some (.slice ta tx.length tc):=by rw [zT h1];rfl
 have c2:w.cell? ⟨bo,0,none⟩=some (.slice oa fs.length oc):=by rw [zT h2];rfl
 have f1:w.frozen? ⟨bt,0,none⟩=false:=Lib.frozen_of_heap h1 0;have hne:bt≠bo:=fun e=>by subst e;rw [h1] at h2;simp at h2
 have H1:=ab h1;have H2:=ab h2;have HNE:=ab hne;clear h1 h2 hne;by_cases h0:tx=[]
 ·subst h0
  simp only [zY] at ht c1;go_enter Tryz.func67,Tryz.ntmps67
  go_wp2
  go_end0
  refine⟨rfl,⟨_,_,H1.out,H2.out,hbt,hbo,ht,ho⟩,Below.refl _ _,fun _ _ _=>rfl⟩
 ·have hl:0<tx.length:=List.length_pos_iff.2 h0
  have hcv:=pl (P:=Tryz.prog) (src:=67) (dst:=9) Tryz.underlying67 Tryz.underlying5 Tryz.underlying9 ht;obtain⟨iu,hiu⟩:=info_parts yG;have H0:=ab h0;clear h0;go_enter Tryz.func67,Tryz.ntmps67
  go_wp2_with (at_builtin;refine jU B 43 rfl _ _ 26 rfl Tryz.underlying26 hiu rfl fo rfl ho rfl f9 rfl fz fg fo hB ?_)
  intro v' w1 ho1 hg1 hb1 _;have g1:w1.heap[bt]?=some (.cells #[.slice ta tx.length tc] 67 (0,0)):=(hg1.block bt (iN H1.out) (fun e=>j9 ho H1.out fo e.symm)).trans H1.out;have g2:w1.heap[bo]?=some (.cells #[.slice oa fs.length oc] 26 (0,0)):=(hg1.block bo (iN H2.out) (fun e=>j9 ho H2.out fo e.symm)).trans H2.out;obtain⟨va,vc,rfl⟩:=ja ho1;have d1:w1.cell? ⟨bt,0,none⟩=some (.slice ta tx.length tc):=by rw [zT g1];rfl
  have d2:w1.cell? ⟨bo,0,none⟩=some (.slice oa fs.length oc):=by rw [zT g2];rfl
  have d3:w1.frozen? ⟨bt,0,none⟩=false:=Lib.frozen_of_heap g1 0;have d4:w1.frozen? ⟨bo,0,none⟩=false:=Lib.frozen_of_heap g2 0;have hR:RS B bt bo [] (lc tx fs) ((w1.setCell ⟨bo,0,none⟩ (.slice va (fs.length+1) vc)).setCell ⟨bt,0,none⟩ (.slice none 0 0)):=by
   have hz:lc tx fs=fs++[⟨0,0,0,tx,[]⟩]:=zO H0.out;refine⟨.slice none 0 0,.slice va (fs.length+1) vc,oB (mQ g1 (fun e=>HNE.out e.symm)),mQ (oB g2) HNE.out,hbt,hbo,World.ownsRow_nil _ _ _ _,?_⟩;rw [hz,qr,zX];exact nP (nP (by simpa [Fm.cells] using ho1) (j9 ho1 g2 fo) _) (j9 (nP ho1 (j9 ho1 g2 fo) (.slice va (fs.length+1) vc)) (mQ (p:=⟨bo,0,none⟩) (u:=.slice va (fs.length+1) vc) g1 (fun e=>HNE.out e.symm)) fo) _
  have hbl:Below B w ((w1.setCell ⟨bo,0,none⟩ (.slice va (fs.length+1) vc)).setCell ⟨bt,0,none⟩ (.slice none 0 0)):=(hb1.setCell (p:=⟨bo,0,none⟩) hbo _).setCell (p:=⟨bt,0,none⟩) hbt _;have hst:∀k,w0.heap.size≤k→k<w.heap.size→((w1.setCell ⟨bo,0,none⟩ (.slice va (fs.length+1) vc)).setCell ⟨bt,0,none⟩ (.slice none 0 0)).heap[k]?=w.heap[k]?:=fun k hk1 hk2=>by
   rw [Below.heap_setCell _ _ _ _ (by show k≠bt;omega),Below.heap_setCell _ _ _ _ (by show k≠bo;omega)];exact hg1.block k hk2 (fun e=>by have:=HROW.out k e.symm;omega)
  have HST:=ab hst;have HRR:=ab hR;have HBL:=ab hbl;have hbb:((bo==bt)=false):=by rw [Aj];exact fun e=>HNE.out e.symm
  have hne1:¬bo=bt:=fun e=>HNE.out e.symm
  have hne2:¬bt=bo:=HNE.out;clear hR hbl g1 g2 hst;go_wp2
  go_end0
  exact⟨rfl,HRR.out,HBL.out,HST.out⟩
inductive Rx where
 | mk (kind:Int) (chr:Str) (neg:Bool) (rows:List (Str × Str)) (lo hi:Int) (lazy:Bool) (kids:List Rx)
namespace Rx
def kind:Rx→Int|mk k _ _ _ _ _ _ _=>k
def chr:Rx→Str|mk _ c _ _ _ _ _ _=>c
def neg:Rx→Bool|mk _ _ n _ _ _ _ _=>n
def rows:Rx→List (Str × Str)|mk _ _ _ r _ _ _ _=>r
def lo:Rx→Int|mk _ _ _ _ l _ _ _=>l
def hi:Rx→Int|mk _ _ _ _ _ h _ _=>h
def lazy:Rx→Bool|mk _ _ _ _ _ _ z _=>z
def kids:Rx→List Rx|mk _ _ _ _ _ _ _ k=>k
mutual
def parts:Rx→Nat
 | mk _ _ _ _ _ _ _ ks=>1+partsL ks
def partsL:List Rx→Nat
 | []=>0
 | x::r=>parts x+partsL r
end
mutual
def groups:Rx→Nat
 | mk k _ _ _ _ _ _ ks=>(if k=5 then 1 else 0)+groupsL ks
def groupsL:List Rx→Nat
 | []=>0
 | x::r=>groups x+groupsL r
end
mutual
def deep:Rx→Nat
 | mk k _ _ _ _ _ _ ks=>deepL ks+(if k=5∨k=6 then 1 else 0)
def deepL:List Rx→Nat
 | []=>0
 | x::r=>max (deep x) (deepL r)
end
theorem parts_pos:∀x:Rx,1≤parts x
 | mk _ _ _ _ _ _ _ ks=>by simp only [parts];omega
theorem parts_mem:∀{ks:List Rx} {x:Rx},x∈ks→parts x≤partsL ks
 | [],_,h=>by simp at h
 | y::r,x,h=>by
  exact dP
theorem len_parts:∀ks:List Rx,ks.length≤partsL ks
 | []=>by simp
 | x::r=>by have:=parts_pos x;have:=len_parts r;simp only [partsL,zW];omega
theorem groups_parts:∀x:Rx,groups x≤parts x:=by
 have key:∀n,∀x:Rx,parts x≤n→groups x≤parts x:=by
  intro n;induction n with
  | zero=>intro x h;have:=parts_pos x;omega
  | succ n ih =>
   rintro⟨k,c,ng,rs,lo,hi,lz,ks⟩ h;have hl:∀l:List Rx,partsL l≤n→groupsL l≤partsL l:=by
    intro l;induction l with
    | nil=>intro _;simp [groupsL,partsL]
    | cons x r ihl =>
     intro hx;simp only [partsL] at hx;simp only [groupsL,partsL];have:=ih x fg;have:=ihl fg;omega
   simp only [parts] at h;have:=hl ks fg
   simp only [groups,parts];split<;>omega
 exact fun x=>key _ x (zP _)
end Rx
def iU (c:UInt8):Bool:=decide (128≤c.toNat∧c.toNat≤191)
def jS:Str→Bool
 | []=>false
 | c::r=>!iU c&&r.all iU
def leS (a b:Str):Bool:=Op.bytesLess a b||a==b
@[go_sem] theorem fold_leS (a b:Str):(Op.bytesLess a b||a==b)=leS a b:=rfl
def rowB (r:Str × Str):Bool:=jS r.1&&jS r.2&&leS r.1 r.2
def mc:Option Str→List (Str × Str)→Bool
 | _,[]=>true
 | p,r::rs=>rowB r&&(match p with|none=>true|some t=>!leS r.1 t)&&mc (some r.2) rs
def mI (rs:List (Str × Str)):Bool:=mc none rs
def nK (x:Rx):Bool:=decide (x.chr=[])&&!x.neg&&decide (x.rows=[])&&decide (x.lo=0)&&decide (x.hi=0)&&!x.lazy
def repB (k:Int):Bool:=decide (k=2∨k=3∨k=4∨k=5∨k=6)
def jn:Rx→Bool
 | .mk k c ng rs lo hi lz ks =>
  if k=2 then nK (.mk k [] ng rs lo hi lz ks)&&decide (ks=[])&&jS c
  else if k=4 then nK (.mk k c false [] lo hi lz ks)&&decide (ks=[])&&mI rs
  else if k=7 then nK (.mk k c ng rs 0 0 false ks)&&(match ks with|[x]=>repB x.kind|_=>false)&&decide (0≤lo∧lo≤255∧(hi=-1∨lo≤hi∧hi≤255))
  else if k=0 then nK (.mk k c ng rs lo hi lz ks)&&decide (ks.length≠1)&&ks.all fun x=>decide (x.kind≠0∧x.kind≠1)
  else if k=1 then nK (.mk k c ng rs lo hi lz ks)&&decide (1<ks.length)&&ks.all fun x=>decide (x.kind≠1)
  else if k=5∨k=6 then nK (.mk k c ng rs lo hi lz ks)&&decide (ks.length=1)
  else if k=3∨k=8∨k=9∨k=10∨k=11 then nK (.mk k c ng rs lo hi lz ks)&&decide (ks=[])
  else false
namespace Rx
mutual
def wf:Rx→Bool
 | mk k c ng rs lo hi lz ks=>jn (mk k c ng rs lo hi lz ks)&&wfL ks
def wfL:List Rx→Bool
 | []=>true
 | x::r=>wf x&&wfL r
end
end Rx
def okB (x:Rx) (left dp:Int):Bool:=x.wf&&decide ((x.parts:Int)≤left)&&decide ((x.deep:Int)≤dp)
def okL (ks:List Rx) (left dp:Int):Bool:=Rx.wfL ks&&decide ((Rx.partsL ks:Int)≤left)&&decide ((Rx.deepL ks:Int)≤dp)
def mayB (x:Rx):Bool:=okB x 512 16
theorem vC (x:Rx) (r:List Rx) (left dp:Int):okL (x::r) left dp=(okB x left dp&&okL r (left-x.parts) dp):=by
 rw [Bool.eq_iff_iff];have:=Rx.parts_pos x
 simp only [okL,okB,Am,zJ];simp only [Rx.wfL,Rx.partsL,Rx.deepL,Am];constructor
 ·rintro⟨⟨⟨a,b⟩,c⟩,d⟩
  exact⟨⟨⟨a,by omega⟩,by omega⟩,⟨b,by omega⟩,by omega⟩
 ·rintro⟨⟨⟨a,b⟩,c⟩,⟨d,e⟩,f⟩
  exact⟨⟨⟨a,d⟩,by omega⟩,by omega⟩
def grpB (k:Int):Bool:=decide (k=5∨k=6)
theorem vh (k:Int) (c:Str) (ng:Bool) (rs:List (Str × Str)) (lo hi:Int) (lz:Bool) (ks:List Rx) (left dp:Int) :
  okB (.mk k c ng rs lo hi lz ks) left dp=(decide (1≤left)&&decide (0≤dp-(if grpB k then 1 else 0))&&jn (.mk k c ng rs lo hi lz ks)&&okL ks (left-1) (dp-(if grpB k then 1 else 0))):=by
 rw [Bool.eq_iff_iff];have hd:((Rx.deepL ks+if k=5∨k=6 then 1 else 0:Nat):Int)=(Rx.deepL ks:Int)+(if grpB k then 1 else 0):=by
  by_cases h:k=5∨k=6<;>simp [grpB,h]
 simp only [okB,okL,Am,zJ];simp only [Rx.wf,Rx.parts,Rx.deep,Am,hd];generalize (if grpB k=true then(1:Int) else 0)=g
 constructor
 ·rintro⟨⟨⟨a,b⟩,c⟩,d⟩
  exact⟨⟨⟨by omega,by omega⟩,a⟩,⟨b,by omega⟩,by omega⟩
 ·rintro⟨⟨⟨a,b⟩,c⟩,⟨d,e⟩,f⟩
  exact⟨⟨⟨c,d⟩,by omega⟩,by omega⟩
open Go.RowKit
def SlS (w:World) (S:Nat→Prop) (a:Option Addr) (sz n:Nat) (cs:List Value):Prop :=
 cs.length=n*sz∧(0<n→∃b o,a=some ⟨b,o,none⟩∧S b∧b<w.heap.size∧∀(j:Nat) (u:Value),cs[j]?=some u→w.cell? ⟨b,o+j,none⟩=some u)
def Kept (S:Nat→Prop) (w w':World):Prop:=w.heap.size≤w'.heap.size∧∀b,S b→b<w.heap.size→w'.heap[b]?=w.heap[b]?
theorem Kept.all {S:Nat→Prop} {w w':World} (h:Below w.heap.size w w'):Kept S w w':=⟨h.size,fun b _ hlt=>h.block b hlt⟩
theorem SlS.keep {w w':World} {S:Nat→Prop} {a:Option Addr} {sz n:Nat} {cs:List Value} (h:SlS w S a sz n cs) (hk:Kept S w w'):SlS w' S a sz n cs :=
 ⟨h.1,fun hn=>by
  obtain⟨b,o,h1,h2,h3,h4⟩:=h.2 hn;exact⟨b,o,h1,h2,zS h3 hk.1,fun j u hu=>by
   have e:=hk.2 b h2 h3;have:=h4 j u hu
   simp only [World.cell?] at this ⊢;rw [e];exact this⟩⟩
theorem SlS.mono {w:World} {S S':Nat→Prop} {a:Option Addr} {sz n:Nat} {cs:List Value} (h:SlS w S a sz n cs) (hS:∀b,S b→b<w.heap.size→S' b):SlS w S' a sz n cs :=
 ⟨h.1,fun hn=>by
  obtain⟨b,o,h1,h2,h3,h4⟩:=h.2 hn;exact⟨b,o,h1,hS b h2 h3,h3,h4⟩⟩
theorem SlS.none_ (w:World) (S:Nat→Prop) (a:Option Addr) (sz:Nat):SlS w S a sz 0 []:=⟨by simp,fun h=>by omega⟩
theorem SlS.sl {w:World} {S:Nat→Prop} {a:Option Addr} {sz n:Nat} {cs:List Value} (h:SlS w S a sz n cs):Sl w w.heap.size a sz n cs :=
 ⟨h.1,fun hn=>by
  obtain⟨b,o,h1,h2,h3,h4⟩:=h.2 hn;exact⟨b,o,h1,h3,h4⟩⟩
def iY (rs:List (Str × Str)):List Value:=rs.flatMap fun r=>[.string ⟨(r.1).toArray⟩,.string ⟨(r.2).toArray⟩]
theorem kL (rs:List (Str × Str)):(iY rs).length=rs.length*2:=by
 induction rs with
 | nil=>rfl
 | cons r rs ih=>simp only [iY,Af,zX] at *;rw [ih];simp;omega
theorem qH {rs:List (Str × Str)} {k:Nat} {r:Str × Str} (h:rs[k]?=some r):(iY rs)[k*2]?=some (.string ⟨(r.1).toArray⟩)∧(iY rs)[k*2+1]?=some (.string ⟨(r.2).toArray⟩):=by
 induction rs generalizing k with
 | nil=>simp at h
 | cons g rs ih =>
  cases k with
  | zero=>simp at h;subst h;simp [iY]
  | succ k =>
   simp only [List.getElem?_cons_succ] at h;obtain⟨h1,h2⟩:=ih h;simp only [iY,Af] at h1 h2 ⊢;exact cw
theorem Sl.row {w:World} {B:Nat} {a:Option Addr} {n:Nat} {rs:List (Str × Str)} (h:Sl w B a 2 n (iY rs)) {k:Nat} {r:Str × Str} (hk:rs[k]?=some r) :
  ∃b o,a=some ⟨b,o,none⟩∧b<B∧w.cell? ⟨b,o+k*2,none⟩=some (.string ⟨(r.1).toArray⟩)∧w.cell? ⟨b,o+k*2+1,none⟩=some (.string ⟨(r.2).toArray⟩):=by
 have hlt:=(zQ.1 hk).1;have hn:n=rs.length:=by have:=h.1;rw [kL] at this;omega
 obtain⟨b,o,h1,h2,h3⟩:=h.2 fg;obtain⟨c1,c2⟩:=qH hk;exact⟨b,o,h1,h2,h3 _ _ c1,h3 _ _ c2⟩
theorem Sl.row_len {w:World} {B:Nat} {a:Option Addr} {n:Nat} {rs:List (Str × Str)} (h:Sl w B a 2 n (iY rs)):n=rs.length:=by
 have:=h.1;rw [kL] at this;omega
def rxc (k:Int) (c:Str) (ng:Bool) (ra:Option Addr) (rn rc:Nat) (lo hi:Int) (lz:Bool) (ka:Option Addr) (kn kc:Nat):List Value :=
 [.int .i64 k,.string ⟨c.toArray⟩,.bool ng,.slice ra rn rc,.int .i64 lo,.int .i64 hi,.bool lz,.slice ka kn kc]
mutual
inductive RxV (w:World) (S:Nat→Prop):List Value→Rx→Prop
 | mk {k:Int} {c:Str} {ng:Bool} {rs:List (Str × Str)} {lo hi:Int} {lz:Bool} {ks:List Rx} {ra ka:Option Addr} {rc kc:Nat} {css:List (List Value)} :
   SlS w S ra 2 rs.length (iY rs)→SlS w S ka 8 ks.length css.flatten→RxVs w S css ks→RxV w S (rxc k c ng ra rs.length rc lo hi lz ka ks.length kc) (.mk k c ng rs lo hi lz ks)
inductive RxVs (w:World) (S:Nat→Prop):List (List Value)→List Rx→Prop
 | nil:RxVs w S [] []
 | cons {c:List Value} {x:Rx} {cs:List (List Value)} {xs:List Rx}:RxV w S c x→RxVs w S cs xs→RxVs w S (c::cs) (x::xs)
end
mutual
theorem RxV.keep {w w':World} {S:Nat→Prop} (hk:Kept S w w'):∀{c:List Value} {x:Rx},RxV w S c x→RxV w' S c x
 | _,_,.mk h1 h2 h3=>.mk (h1.keep hk) (h2.keep hk) (RxVs.keep hk h3)
theorem RxVs.keep {w w':World} {S:Nat→Prop} (hk:Kept S w w'):∀{cs:List (List Value)} {xs:List Rx},RxVs w S cs xs→RxVs w' S cs xs
 | _,_,.nil=>.nil
 | _,_,.cons h1 h2=>.cons (RxV.keep hk h1) (RxVs.keep hk h2)
end
mutual
theorem RxV.mono {w:World} {S S':Nat→Prop} (hS:∀b,S b→b<w.heap.size→S' b):∀{c:List Value} {x:Rx},RxV w S c x→RxV w S' c x
 | _,_,.mk h1 h2 h3=>.mk (h1.mono hS) (h2.mono hS) (RxVs.mono hS h3)
theorem RxVs.mono {w:World} {S S':Nat→Prop} (hS:∀b,S b→b<w.heap.size→S' b):∀{cs:List (List Value)} {xs:List Rx},RxVs w S cs xs→RxVs w S' cs xs
 | _,_,.nil=>.nil
 | _,_,.cons h1 h2=>.cons (RxV.mono hS h1) (RxVs.mono hS h2)
end
theorem RxV.later {w w':World} {S:Nat→Prop} {c:List Value} {x:Rx} (h:RxV w S c x) (hb:Below w.heap.size w w'):RxV w' S c x:=h.keep (Kept.all hb)
theorem RxVs.later {w w':World} {S:Nat→Prop} {c:List (List Value)} {x:List Rx} (h:RxVs w S c x) (hb:Below w.heap.size w w'):RxVs w' S c x:=h.keep (Kept.all hb)
theorem RxV.len {w:World} {S:Nat→Prop} {c:List Value} {x:Rx} (h:RxV w S c x):c.length=8:=by cases h;rfl
theorem RxVs.length {w:World} {S:Nat→Prop}:∀{cs:List (List Value)} {xs:List Rx},RxVs w S cs xs→cs.length=xs.length
 | _,_,.nil=>rfl
 | _,_,.cons _ h=>by simp [h.length]
theorem RxVs.eights {w:World} {S:Nat→Prop}:∀{cs:List (List Value)} {xs:List Rx},RxVs w S cs xs→∀c∈cs,c.length=8
 | _,_,.nil,c,hc=>by simp at hc
 | _,_,.cons h1 h2,c,hc=>by
  rcases An.1 hc with rfl|hc
  ·exact h1.len
  ·exact h2.eights c hc
theorem RxVs.at_ {w:World} {S:Nat→Prop}:∀{cs:List (List Value)} {xs:List Rx},RxVs w S cs xs→∀{k:Nat} {x:Rx},xs[k]?=some x→∃c,cs[k]?=some c∧RxV w S c x
 | _,_,.nil,k,x,h=>by simp at h
 | _,_,.cons h1 h2,0,x,h=>by simp at h;subst h;exact⟨_,rfl,h1⟩
 | _,_,.cons h1 h2,k+1,x,h=>by simpa using h2.at_ fS
theorem RxVs.append {w:World} {S:Nat→Prop}:∀{cs ds:List (List Value)} {xs ys:List Rx},RxVs w S cs xs→RxVs w S ds ys→RxVs w S (cs++ds) (xs++ys)
 | _,_,_,_,.nil,h=>h
 | _,_,_,_,.cons h1 h2,h=>.cons h1 (h2.append h)
theorem oZ {C:Nat}:∀{css:List (List Value)},(∀c∈css,c.length=C)→∀{k:Nat} {c:List Value},css[k]?=some c→∀{j:Nat} {u:Value},c[j]?=some u→css.flatten[k*C+j]?=some u
 | [],_,k,c,h,j,u,hj=>by simp at h
 | d::css,hC,0,c,h,j,u,hj=>by
  simp at h;subst h
  rw [List.flatten_cons,Nat.zero_mul,Nat.zero_add,zZ (zQ.1 hj).1];exact hj
 | d::css,hC,k+1,c,h,j,u,hj=>by
  have hd:=hC d (Ao ..);have ih:=oZ (fun x hx=>hC x (Ap _ hx)) (show css[k]?=some c by simpa using h) hj;rw [List.flatten_cons,Aa (by rw [hd,Nat.succ_mul];omega),hd,show (k+1)*C+j-C=k*C+j by rw [Nat.succ_mul];omega];exact ih
def RxSl (w:World) (S:Nat→Prop) (a:Option Addr) (n:Nat) (xs:List Rx):Prop:=∃css,SlS w S a 8 n css.flatten∧RxVs w S css xs
theorem RxSl.keep {w w':World} {S:Nat→Prop} {a:Option Addr} {n:Nat} {xs:List Rx} (h:RxSl w S a n xs) (hk:Kept S w w'):RxSl w' S a n xs:=by
 obtain⟨css,h1,h2⟩:=h;exact⟨css,h1.keep hk,h2.keep hk⟩
theorem RxSl.later {w w':World} {S:Nat→Prop} {a:Option Addr} {n:Nat} {xs:List Rx} (h:RxSl w S a n xs) (hb:Below w.heap.size w w'):RxSl w' S a n xs:=h.keep (Kept.all hb)
theorem RxSl.mono {w:World} {S S':Nat→Prop} {a:Option Addr} {n:Nat} {xs:List Rx} (h:RxSl w S a n xs) (hS:∀b,S b→b<w.heap.size→S' b):RxSl w S' a n xs:=by
 obtain⟨css,h1,h2⟩:=h;exact⟨css,h1.mono hS,h2.mono hS⟩
theorem RxSl.len {w:World} {S:Nat→Prop} {a:Option Addr} {n:Nat} {xs:List Rx} (h:RxSl w S a n xs):n=xs.length:=by
 obtain⟨css,h1,h2⟩:=h;have h3:=h1.1;have h4:∀{cs:List (List Value)},(∀c∈cs,c.length=8)→cs.flatten.length=cs.length*8:=by
  intro cs;induction cs with
  | nil=>intro _;rfl
  | cons c cs ih=>exact cY
 rw [h4 h2.eights,h2.length] at h3;omega
theorem RxSl.at_ {w:World} {S:Nat→Prop} {a:Option Addr} {n:Nat} {xs:List Rx} (h:RxSl w S a n xs) {k:Nat} {x:Rx} (hk:xs[k]?=some x) :
  ∃b o c,a=some ⟨b,o,none⟩∧S b∧b<w.heap.size∧RxV w S c x∧∀(j:Nat) (u:Value),c[j]?=some u→w.cell? ⟨b,o+(k*8+j),none⟩=some u:=by
 have hn:=h.len;obtain⟨css,h1,h2⟩:=h;have hlt:=(zQ.1 hk).1;obtain⟨b,o,e1,e2,e3,e4⟩:=h1.2 fg;obtain⟨c,hc,hv⟩:=h2.at_ hk;exact⟨b,o,c,e1,e2,e3,hv,fun j u hj=>e4 _ u (oZ h2.eights hc hj)⟩
theorem RxSl.cells {w:World} {S:Nat→Prop} {a:Option Addr} {n:Nat} {xs:List Rx} (h:RxSl w S a n xs) {m:Nat} {k:Int} {c:Str} {ng:Bool} {rs:List (Str × Str)} {lo hi:Int} {lz:Bool} {ks:List Rx} (hk:xs[m]?=some (.mk k c ng rs lo hi lz ks)) :
  ∃b o ra rc ka kc,a=some ⟨b,o,none⟩∧S b∧b<w.heap.size∧SlS w S ra 2 rs.length (iY rs)∧RxSl w S ka ks.length ks∧RxV w S (rxc k c ng ra rs.length rc lo hi lz ka ks.length kc) (.mk k c ng rs lo hi lz ks) ∧
   w.cell? ⟨b,o+m*8,none⟩=some (.int .i64 k)∧w.cell? ⟨b,o+m*8+1,none⟩=some (.string ⟨c.toArray⟩)∧w.cell? ⟨b,o+m*8+2,none⟩=some (.bool ng)∧w.cell? ⟨b,o+m*8+3,none⟩=some (.slice ra rs.length rc) ∧
   w.cell? ⟨b,o+m*8+4,none⟩=some (.int .i64 lo)∧w.cell? ⟨b,o+m*8+5,none⟩=some (.int .i64 hi)∧w.cell? ⟨b,o+m*8+6,none⟩=some (.bool lz)∧w.cell? ⟨b,o+m*8+7,none⟩=some (.slice ka ks.length kc):=by
 obtain⟨b,o,cc,e1,e2,e3,hv,hc⟩:=h.at_ hk;cases hv with
 | mk h1 h2 h3 =>
  exact⟨b,o,_,_,_,_,e1,e2,e3,h1,⟨_,h2,h3⟩,.mk h1 h2 h3,hc 0 _ rfl,hc 1 _ rfl,hc 2 _ rfl,hc 3 _ rfl,hc 4 _ rfl,hc 5 _ rfl,hc 6 _ rfl,hc 7 _ rfl⟩
theorem RxV.open_ {w:World} {S:Nat→Prop} {cc:List Value} {k:Int} {c:Str} {ng:Bool} {rs:List (Str × Str)} {lo hi:Int} {lz:Bool} {ks:List Rx} (h:RxV w S cc (.mk k c ng rs lo hi lz ks)) :
  ∃ra rc ka kc,cc=rxc k c ng ra rs.length rc lo hi lz ka ks.length kc∧SlS w S ra 2 rs.length (iY rs)∧RxSl w S ka ks.length ks:=by
 cases h with
 | mk h1 h2 h3=>exact⟨_,_,_,_,rfl,h1,_,h2,h3⟩
theorem RxV.close {w:World} {S:Nat→Prop} {k:Int} {c:Str} {ng:Bool} {rs:List (Str × Str)} {lo hi:Int} {lz:Bool} {ks:List Rx} {ra ka:Option Addr} {rc kc:Nat} (h1:SlS w S ra 2 rs.length (iY rs)) (h2:RxSl w S ka ks.length ks) :
  RxV w S (rxc k c ng ra rs.length rc lo hi lz ka ks.length kc) (.mk k c ng rs lo hi lz ks):=by
 obtain⟨css,a,b⟩:=h2;exact .mk h1 a b
open Go.RowKit
theorem zA {l r:Str} {i:Int} {f:Fm} (w:World) (h0:0≤i) (h1:i≤800000) (hs:l.length≤800000) (hP:nS (l.drop i.toNat)=some (f,r)) :
  Calls Tryz.prog 68 #[.string ⟨l.toArray⟩,.int .i64 i] w fun e w'=>Below w.heap.size w w'∧f.thn.length≤l.length∧f.els.length≤l.length∧∃j:Nat,i<j∧j≤l.length∧l.drop j=r∧e=.returned (.tuple #[.agg #[.int .i64 (f).kind,.int .i64 (f).n,.int .i64 (f).cse,.string ⟨((f).thn).toArray⟩,.string ⟨((f).els).toArray⟩],.int .i64 j,.bool true]):=by
 obtain⟨i,rfl⟩:=Int.eq_ofNat_of_zero_le h0;refine(vo l i w fg hs).mono ?_
 rintro e w1 ⟨hb,hp⟩;rw [Int.toNat_natCast] at hP;rw [hP] at hp;obtain⟨a,b,j,c,d⟩:=hp;exact⟨hb,a,b,j,by omega,d⟩
theorem xA {l:Str} {i:Int} (w:World) (h0:0≤i) (h1:i≤800000) (hs:l.length≤800000) (hP:nS (l.drop i.toNat)=none) :
  Calls Tryz.prog 68 #[.string ⟨l.toArray⟩,.int .i64 i] w fun e w'=>Below w.heap.size w w'∧e=.returned (.tuple #[.agg #[.int .i64 0,.int .i64 0,.int .i64 0,.string ⟨#[]⟩,.string ⟨#[]⟩],.int .i64 0,.bool false]):=by
 obtain⟨i,rfl⟩:=Int.eq_ofNat_of_zero_le h0;refine(vo l i w fg hs).mono ?_
 rintro e w1 ⟨hb,hp⟩;rw [Int.toNat_natCast] at hP;rw [hP] at hp;exact⟨hb,hp⟩
def lenOk (n:Nat) (fs:List Fm):Prop:=∀f∈fs,f.thn.length≤n∧f.els.length≤n
theorem SlS.ownB {w:World} {B0:Nat} {e:TypeId} {sz:Nat} {a:Option Addr} {n c:Nat} {xs:List Value} (h:w.ownsRow B0 e sz (.slice a n c) n xs):SlS w (fun b=>B0≤b) a sz n xs:=by
 refine⟨h.1,fun hn=>?_⟩;rcases h.2 with⟨hv,h0⟩|⟨g,cap,cur,hv,hb,hg,r⟩
 ·omega
 ·injection hv with ha _ _
  subst ha;refine⟨g,0,rfl,hb,iN hg,fun j u hu=>?_⟩;exact cR
def tD (l:Str) (i B:Nat) (R:Option (List Fm × Str)) (e:Ending) (w':World):Prop :=
 match R with
 | none=>e=.returned (.tuple #[.slice none 0 0,.int .i64 0,.bool false])
 | some (fs,r)=>∃(a:Option Addr) (c j:Nat),e=.returned (.tuple #[.slice a fs.length c,.int .i64 j,.bool true])∧SlS w' (fun b=>B≤b) a 5 fs.length (kk fs)∧i≤j∧j<l.length∧l.drop j=r∧fs.length≤l.length∧lenOk l.length fs
theorem RS.texts {B bt bo:Nat} {tx:Str} {fs:List Fm} {w:World} (h:RS B bt bo tx fs w) :
  ∃ta tc,w.cell? ⟨bt,0,none⟩=some (.slice ta tx.length tc)∧w.frozen? ⟨bt,0,none⟩=false∧w.ownsRow B 5 1 (.slice ta tx.length tc) tx.length (jF tx)∧bt<w.heap.size:=by
 obtain⟨tv,ov,h1,h2,hbt,hbo,ht,ho⟩:=h;obtain⟨ta,tc,rfl⟩:=ja ht;exact⟨ta,tc,by rw [zT h1];rfl,Lib.frozen_of_heap h1 0,ht,iN h1⟩
theorem RS.parts {B bt bo:Nat} {tx:Str} {fs:List Fm} {w:World} (h:RS B bt bo tx fs w) :
  ∃oa oc,w.cell? ⟨bo,0,none⟩=some (.slice oa fs.length oc)∧w.frozen? ⟨bo,0,none⟩=false∧w.ownsRow B 43 5 (.slice oa fs.length oc) fs.length (kk fs)∧bo<w.heap.size:=by
 obtain⟨tv,ov,h1,h2,hbt,hbo,ht,ho⟩:=h;obtain⟨oa,oc,rfl⟩:=ja ho;exact⟨oa,oc,by rw [zT h2];rfl,Lib.frozen_of_heap h2 0,ho,iN h2⟩
theorem RS.text_app {B bt bo:Nat} {tx:Str} {fs:List Fm} {w w1:World} {v v1:Value} {c:UInt8} (h:RS B bt bo tx fs w) (hv:w.cell? ⟨bt,0,none⟩=some v)
  (hown:w1.ownsRow B 5 1 v1 (tx.length+1) (jF tx++[.int .u8 c.toNat])) (hg:w.grownBy w1 v.ownBlock) (hB:B≤w.heap.size) :
  ∃a c',v1=.slice a (tx.length+1) c'∧w1.cell? ⟨bt,0,none⟩=some v∧w1.frozen? ⟨bt,0,none⟩=false∧RS B bt bo (tx++[c]) fs (w1.setCell ⟨bt,0,none⟩ v1)∧Below B w (w1.setCell ⟨bt,0,none⟩ v1):=by
 obtain⟨tv,ov,h1,h2,hbt,hbo,ht,ho⟩:=h;have htv:tv=v:=by rw [zT h1] at hv;simpa using hv
 subst htv;have hne:bt≠bo:=fun e=>by subst e;rw [h1] at h2;simp at h2
 have g1:w1.heap[bt]?=some (.cells #[tv] 67 (0,0)):=(hg.block bt (iN h1) (fun e=>j9 ht h1 fo e.symm)).trans h1;have g2:w1.heap[bo]?=some (.cells #[ov] 26 (0,0)):=(hg.block bo (iN h2) (fun e=>j9 ht h2 fo e.symm)).trans h2;have ho1:=ho.kept hg (sG ho ht fo);obtain⟨a,c',rfl⟩:=ja hown;refine⟨a,c',rfl,by rw [zT g1];rfl,Lib.frozen_of_heap g1 0,⟨_,ov,oB g1,mQ g2 hne,hbt,hbo,?_,nP ho1 (j9 ho1 g1 fo) _⟩,?_⟩
 ·have:=nP hown (j9 hown g1 fo) (p:=⟨bt,0,none⟩) (.slice a (tx.length+1) c')
  simpa [jF] using this
 ·exact((Below.refl B w).grown hg hB fun k hk=>(ht.lt k hk).1).setCell (p:=⟨bt,0,none⟩) hbt _
theorem RS.part_app {B bt bo:Nat} {tx:Str} {fs:List Fm} {w w1:World} {v v1:Value} {f:Fm} (h:RS B bt bo tx fs w) (hv:w.cell? ⟨bo,0,none⟩=some v)
  (hown:w1.ownsRow B 43 5 v1 (fs.length+1) (kk fs++[.int .i64 f.kind,.int .i64 f.n,.int .i64 f.cse,.string ⟨(f.thn).toArray⟩,.string ⟨(f.els).toArray⟩])) (hg:w.grownBy w1 v.ownBlock) (hB:B≤w.heap.size) :
  ∃a c',v1=.slice a (fs.length+1) c'∧w1.cell? ⟨bo,0,none⟩=some v∧w1.frozen? ⟨bo,0,none⟩=false∧RS B bt bo tx (fs++[f]) (w1.setCell ⟨bo,0,none⟩ v1)∧Below B w (w1.setCell ⟨bo,0,none⟩ v1):=by
 obtain⟨tv,ov,h1,h2,hbt,hbo,ht,ho⟩:=h;have htv:ov=v:=by rw [zT h2] at hv;simpa using hv
 subst htv;have hne:bo≠bt:=fun e=>by subst e;rw [h1] at h2;simp at h2
 have g1:w1.heap[bt]?=some (.cells #[tv] 67 (0,0)):=(hg.block bt (iN h1) (fun e=>j9 ho h1 fo e.symm)).trans h1;have g2:w1.heap[bo]?=some (.cells #[ov] 26 (0,0)):=(hg.block bo (iN h2) (fun e=>j9 ho h2 fo e.symm)).trans h2;have ht1:=ht.kept hg (sG ht ho fo);obtain⟨a,c',rfl⟩:=ja hown;refine⟨a,c',rfl,by rw [zT g2];rfl,Lib.frozen_of_heap g2 0,⟨tv,_,mQ g1 hne,oB g2,hbt,hbo,nP ht1 (j9 ht1 g2 fo) _,?_⟩,?_⟩
 ·have:=nP hown (j9 hown g2 fo) (p:=⟨bo,0,none⟩) (.slice a (fs.length+1) c')
  rw [qr,zX];exact this
 ·exact((Below.refl B w).grown hg hB fun k hk=>(ho.lt k hk).1).setCell (p:=⟨bo,0,none⟩) hbo _
theorem rh (tx:Str) (fs:List Fm):(lc tx fs).length≤tx.length+fs.length:=by
 unfold lc;split
 ·omega
 ·rename_i h;have:=List.length_pos_iff.2 h;simp;omega
theorem tm {n:Nat} {tx:Str} {fs:List Fm} (h:lenOk n fs) (ht:tx.length≤n):lenOk n (lc tx fs):=by
 unfold lc;split
 ·exact h
 ·intro f hf
  rcases Aq.1 hf with hf|hf
  ·exact h f hf
  ·simp at hf;subst hf;exact⟨ht,by simp⟩
theorem RS.start (B:Nat) (w:World) (h:B≤w.heap.size):RS B (w.heap.size+1) w.heap.size [] [] ((w.alloc (.cells #[.slice none 0 0] 26)).alloc (.cells #[.slice none 0 0] 67)):=by
 refine⟨_,_,?_,?_,by omega,h,World.ownsRow_nil _ _ _ _,World.ownsRow_nil _ _ _ _⟩
 ·have:=heap_alloc_new (w.alloc (.cells #[.slice none 0 0] 26)) (.cells #[.slice none 0 0] 67)
  simpa using this
 ·rw [Below.heap_alloc _ _ _ fq];exact heap_alloc_new w _
def RdRel (l:Str) (i:Nat) (R:Option (List Fm × Str)) (w:World) (q:Value) (wr:World):Prop :=
 ∃(j:Nat) (tx:Str) (fs:List Fm),i≤j∧j≤l.length∧q=.int .i64 j∧RS w.heap.size (w.heap.size+1) w.heap.size tx fs wr∧Below w.heap.size w wr∧tx.length≤j∧fs.length≤j∧Hid (tx.length+fs.length≤j)∧Hid (lenOk l.length fs)∧Hid (lE (l.drop j) tx fs=R)
theorem zE (l:Str) (i:Nat) (w:World) (h1:i≤l.length) (hs:l.length≤700000) :
  Calls Tryz.prog 35 #[.string ⟨l.toArray⟩,.int .i64 i] w fun e w'=>Below w.heap.size w w'∧tD l i w.heap.size (lE (l.drop i) [] []) e w':=by
 generalize hR:lE (l.drop i) [] []=R
 have HR:=ab hR;clear hR;obtain⟨iu,hiu⟩:=info_parts oM;go_enter Tryz.func35,Tryz.ntmps35
 go_wp2
 go_loopw [1] (fun q wr=>RdRel l i R w q wr) (fun q _=>l.length-(intOf q).toNat)
 case atStart =>
  refine⟨i,[],[],by omega,by omega,rfl,?_,?_,by simp,by simp,ab fq,ab (fun f hf=>by simp at hf),HR⟩
  ·exact RS.start _ w (zP _)
  ·(repeat (first|with_reducible exact Below.refl _ _|with_reducible assumption|(refine Below.setCell ?_ fD _)|(refine Below.alloc ?_ fw _)|(refine Below.drew ?_)))
 case round =>
  obtain⟨j,tx,fs,hij,hjl,rfl,hrs,hb,htx,hfs,HTF,HLO,HF⟩:=hrel;clear HR;have hB:=hb.size;cases hd:l.drop j with
  | nil =>
   have h2:=ki hd;have HF':Hid (R=none):=ab gG;clear hd HF;go_wp2
   go_ret3
   exact⟨hb,by rw [HF'.out];rfl⟩
  | cons c r =>
   obtain⟨h2,h3,hr⟩:=jv hd;have HF':Hid (R=lE (c::r) tx fs):=ab (by rw [←hd];exact HF.out.symm);have Hr:=ab hr;have HD:=ab hd;clear hd HF hr;by_cases c47:c.toNat=47
   ·have HE:Hid (R=some (lc tx fs,c::r)):=ab (by rw [HF'.out,lu,zL c47])
    have b47:((c.toNat:Int)==47)=true:= gu;clear HF' c47;go_wp2_with (go_at_call 67;refine(tO _ _ _ _ _ _ _ hrs (Below.refl _ _) hB fg fg).mono ?_;rintro e w1 ⟨rfl,hrs1,hb1,_⟩;obtain⟨oa,oc,k1,k2,k3,k4⟩:=hrs1.parts)
    go_ret3
    refine⟨hb.trans hb1,?_⟩;rw [HE.out];exact⟨oa,oc,j,rfl,SlS.ownB k3,hij,h2,HD.out,by have:=rh tx fs;have:=HTF.out;omega,tm HLO.out fg⟩
   ·have b47:((c.toNat:Int)==47)=false:= fR
    by_cases c36:c.toNat=36
    ·have b36:((c.toNat:Int)==36)=true:= gu
     cases hP:nS r with
     | none =>
      have HP:Hid (nS (l.drop ((j:Int)+1).toNat)=none):=ab g7;have HE:Hid (R=lE r (tx++[c]) fs):=ab (by rw [HF'.out,lu,zO c47,zL c36,hP]);clear HF' c47 c36 hP;go_wp2_with (go_at_call 68;refine(xA _ fg fg fg HP.out).mono ?_;rintro e w1 ⟨hb1,rfl⟩;have hrs0:=hrs.keep hb1;have hB1:w.heap.size≤w1.heap.size:=(by have:=hb1.size;omega);obtain⟨ta,tc,k1,k2,k3,k4⟩:=hrs0.texts)
      have k5:w.heap.size<w1.heap.size:=fg;have hB2:w.heap.size≤(w1.alloc (.cells #[.int .i64 0,.int .i64 0,.int .i64 0,.string ⟨#[]⟩,.string ⟨#[]⟩] 43)).heap.size:=by simp;omega
      have k1':(w1.alloc (.cells #[.int .i64 0,.int .i64 0,.int .i64 0,.string ⟨#[]⟩,.string ⟨#[]⟩] 43)).cell? ⟨w.heap.size+1,0,none⟩=some (.slice ta tx.length tc):=by rw [World.cell?_alloc_lt w1 _ _ k4];exact k1
      go_region_law (refine qG w.heap.size 5 (w:=(w1.alloc (.cells #[.int .i64 0,.int .i64 0,.int .i64 0,.string ⟨#[]⟩,.string ⟨#[]⟩] 43)).drew) rfl rfl _ _ 67 rfl Tryz.underlying67 hiu rfl fo rfl (k3.alloc (.cells #[.int .i64 0,.int .i64 0,.int .i64 0,.string ⟨#[]⟩,.string ⟨#[]⟩] 43)) rfl f9 rfl fz fg fo hB2 ?_;intro v1 w2 hown1 hg1 _ _;obtain⟨a1,c1,rfl,d1,d2,hrs1,hbl1⟩:=RS.text_app (w:=(w1.alloc (.cells #[.int .i64 0,.int .i64 0,.int .i64 0,.string ⟨#[]⟩,.string ⟨#[]⟩] 43)).drew) (hrs0.keep ((Below.refl _ _).alloc (zP _) _).drew) k1' hown1 hg1 hB2)
      all_goals
       go_wp2
       go_roundw
       case rel =>
        refine⟨j+1,tx++[c],fs,by omega,by omega,by go_num,hrs1,Below.trans (((hb.trans (hb1.mono hB)).alloc hB1 _).drew) hbl1,by simp;omega,by omega,ab it,HLO,ab ?_⟩;rw [Hr.out,←HE.out]
       case measure=>simp [intOf];omega
     | some p =>
      obtain⟨⟨fk,fn,fc,ft,fe⟩,r2⟩:=p;have HP:Hid (nS (l.drop ((j:Int)+1).toNat)=some (⟨fk,fn,fc,ft,fe⟩,r2)):=ab g7;have HE:Hid (R=lE r2 [] (lc tx fs++[⟨fk,fn,fc,ft,fe⟩])):=ab (by rw [HF'.out,lu,zO c47,zL c36,hP]);obtain⟨im,him⟩:=info_parts yG;have hfl:=rh tx fs;clear HF' c47 c36 hP;go_wp2_with (first
       | (go_at_call 68;refine(zA _ fg fg fg HP.out).mono ?_;rintro e w1 ⟨hb1,ht1,ht2,q,hq1,hq2,hq3,rfl⟩;have hrs0:=hrs.keep hb1;have hB1:w.heap.size≤w1.heap.size:=(by have:=hb1.size;omega);have HQ:=ab hq3;clear hq3)
       | (go_at_call 67;refine(tO w.heap.size _ _ tx fs w1 _ hrs0 ((Below.refl _ _).alloc (zP _) _) fr fg fg).mono ?_;rintro e w2 ⟨rfl,hrs2,hb2,hst⟩;have hbx:=hst w1.heap.size (zP _) fq;rw [heap_alloc_new] at hbx;have f0:=zT hbx 0;have f1:=zT hbx 1;have f2:=zT hbx 2;have f3:=zT hbx 3;have f4:=zT hbx 4;simp only [List.getElem?_toArray,List.getElem?_cons_zero,List.getElem?_cons_succ] at f0 f1 f2 f3 f4;obtain⟨oa,oc,k1,k2,k3,k4⟩:=hrs2.parts;have hB2:w.heap.size≤w2.heap.size:=(by have:=hb2.size;simp at this;omega);have HST:=ab hst;have HBX:=ab hbx;clear hst hbx)
       | (at_builtin;refine jU w.heap.size 43 rfl _ _ 26 rfl Tryz.underlying26 him rfl fo rfl k3 rfl f9 rfl fz fg fo hB2 ?_;intro v1 w3 hown1 hg1 _ _;obtain⟨a1,c1,rfl,d1,d2,hrs3,hbl3⟩:=RS.part_app (f:=⟨fk,fn,fc,ft,fe⟩) hrs2 k1 hown1 hg1 hB2))
      go_roundw
      case rel =>
       refine⟨q,[],lc tx fs++[⟨fk,fn,fc,ft,fe⟩],by omega,hq2,rfl,hrs3,?_,by simp,by have:=HTF.out;simp;omega,ab it,ab ?_,ab ?_⟩
       ·exact(((hb.trans (hb1.mono hB)).alloc hB1 _).trans hb2).trans hbl3
       ·intro f hf
        rcases Aq.1 hf with hf|hf
        ·exact tm HLO.out fg f hf
        ·simp at hf;subst hf;exact⟨ht1,ht2⟩
       ·rw [HQ.out,←HE.out]
      case measure=>simp [intOf];omega
    ·have b36:((c.toNat:Int)==36)=false:= fR
     by_cases c92:c.toNat=92
     ·have b92:((c.toNat:Int)==92)=true:= gu
      obtain⟨ta,tc,k1,k2,k3,k4⟩:=hrs.texts;by_cases hst:mG r four=true
      ·have HE:Hid (R=lE (r.drop 1) (tx++r.take 1) fs):=ab (by rw [HF'.out,lu,zO c47,zO c36,zL ⟨c92,hst⟩])
       cases r with
       | nil=>simp [mG] at hst
       | cons d r' =>
        obtain⟨m2,m3,mr⟩:=jv Hr.out;have m4:(j:Int)+1<l.length:=fg;have m5:0≤(j:Int)+1:=fg;have Hmr:=ab mr;have hst':mG (List.drop (j+1) l) [36,125,92,47]=true:=by rw [Hr.out];exact hst
        have HE':Hid (R=lE r' (tx++[d]) fs):=HE;clear HF' c47 c36 c92 hst HE mr;go_wp2_with (go_at_call 69;refine(nt _ _ _ _ fg fg fg fq).mono ?_;rintro e w1 ⟨rfl,rfl⟩)
        go_region_law (refine qG w.heap.size 5 (w:=wr.drew) rfl rfl _ _ 67 rfl Tryz.underlying67 hiu rfl fo rfl k3 rfl f9 rfl fz fg fo hB ?_;intro v1 w2 hown1 hg1 _ _;obtain⟨a1,c1,rfl,d1,d2,hrs1,hbl1⟩:=RS.text_app (w:=wr.drew) hrs k1 hown1 hg1 hB)
        all_goals
         go_wp2
         go_roundw
         case rel =>
          refine⟨j+2,tx++[d],fs,by omega,by omega,by go_num,hrs1,hb.drew.trans hbl1,by simp;omega,by omega,ab it,HLO,ab ?_⟩;rw [Hmr.out,←HE'.out]
         case measure=>simp [intOf];omega
      ·have HE:Hid (R=lE r (tx++[c]) fs):=ab (by rw [HF'.out,lu,zO c47,zO c36,zO (fun h=>hst h.2)])
       have hst':mG (List.drop (j+1) l) [36,125,92,47]=false:=by rw [Hr.out];simpa [four] using hst
       clear HF' c47 c36 c92 hst;go_wp2_with (go_at_call 69;refine(nt _ _ _ _ fg fg fg fq).mono ?_;rintro e w1 ⟨rfl,rfl⟩)
       exact bu
     ·have b92:((c.toNat:Int)==92)=false:= fR
      have HE:Hid (R=lE r (tx++[c]) fs):=ab (by rw [HF'.out,lu,zO c47,zO c36,zO (fun h=>c92 h.1)]);clear HF' c47 c36 c92;obtain⟨ta,tc,k1,k2,k3,k4⟩:=hrs.texts;go_wp2
      exact bu
open Go.RowKit
theorem tZ {P:Program} (w:World) (base:Nat) (t ty e:TypeId) (i:TypeInfo) (size:Nat) (ht:P.underlying t=some (.slice e)) (hi:P.info? e=some i)
  (v:Value) (n:Nat) (xs:List Value) (hown:w.ownsRow base e size v n xs) (c:Nat):(Builtin.append_ #[t,t] ty #[v,.slice none 0 c]).run P w=.ok v w:=by
 rcases hown.2 with⟨rfl,rfl⟩|⟨g,cap,cur,rfl,_,_,hnc,_⟩
 ·simp [Builtin.append_,run_underlying ht,sizeOf,typeInfo,hi,Builtin.lenOf,Builtin.firstCells]
 ·simp [Builtin.append_,run_underlying ht,sizeOf,typeInfo,hi,Builtin.lenOf,Builtin.firstCells,hnc,storeCells]
open Go.RowKit
def mj (l:Str) (i:Nat):Nat:=i+1+((l.drop (i+1)).takeWhile iU).length
theorem wM (c:Int) (w:World) :
  Calls Tryz.prog 44 #[.int .u8 c] w fun e w'=>e=.returned (.bool (decide (128≤c∧c≤191)))∧w=w':=by
 by_cases h:128≤c∧c≤191
 ·obtain⟨h1,h2⟩:=h
  have hR:decide (128≤c∧c≤191)=true:=by simp;omega
  rw [hR];clear hR;go_enter Tryz.func44,Tryz.ntmps44
  exact cM
 ·have hR:decide (128≤c∧c≤191)=false:=fS
  rw [hR];clear hR;go_enter Tryz.func44,Tryz.ntmps44
  go_wp2
  all_goals
   go_ret
   refine⟨i9 ?_,rfl⟩;simp<;>omega
theorem pq (c:UInt8) {b:Bool} (w:World) (h:iU c=b) :
  Calls Tryz.prog 44 #[.int .u8 c.toNat] w fun e w'=>e=.returned (.bool b)∧w=w':=by
 refine(wM (c.toNat:Int) w).mono ?_
 rintro e w' ⟨rfl,rfl⟩;refine⟨i9 ?_,rfl⟩;rw [←h,Bool.eq_iff_iff];simp [iU];omega
theorem ug (l:Str) (i:Nat) (w:World) (hi:i≤100000000) (hs:l.length≤100000000) :
  Calls Tryz.prog 41 #[.string ⟨l.toArray⟩,.int .i64 i] w fun e w'=>e=.returned (.int .i64 (mj l i))∧w=w':=by
 generalize hR:mj l i=R
 have HR:=ab hR;clear hR;have HR0:Hid (i+1+0+((l.drop (i+1+0)).takeWhile iU).length=R):=HR;clear HR;go_enter Tryz.func41,Tryz.ntmps41
 go_wp2
 go_loop [1] (fun q=>∃k:Nat,k≤l.length∧q=.int .i64 ((i+1+k:Nat):Int)∧Hid (i+1+k+((l.drop (i+1+k)).takeWhile iU).length=R)) (fun q=>l.length-(intOf q).toNat)
 case atStart=>exact⟨0,by omega,by go_num,HR0⟩
 case round =>
  obtain⟨k,hk,rfl,HF⟩:=hrel;clear HR0;cases hd:l.drop (i+1+k) with
  | nil =>
   have h2:=ki hd;have HE:Hid (i+1+k=R):=ab gG;clear hd HF;go_wp2
   go_ret
   exact⟨mU (by rw [←HE.out];omega),rfl⟩
  | cons c r =>
   obtain⟨h2,h3,hr⟩:=jv hd;have HE:Hid (i+1+k+((c::r).takeWhile iU).length=R):=ab (by rw [←HF.out,hd]);have Hr:=ab hr;clear hd HF hr;cases hc:iU c with
   | true =>
    go_wp2_with (go_at_call 44;refine(pq c _ hc).mono ?_;rintro e w1 ⟨rfl,rfl⟩)
    go_round
    case rel =>
     refine⟨k+1,by omega,by go_num,ab ?_⟩;rw [show i+1+(k+1)=i+1+k+1 from rfl,Hr.out,←HE.out,List.takeWhile_cons_of_pos hc];simp;omega
    case measure=>simp [intOf];omega
   | false =>
    go_wp2_with (go_at_call 44;refine(pq c _ hc).mono ?_;rintro e w1 ⟨rfl,rfl⟩)
    go_ret
    refine⟨mU ?_,rfl⟩;rw [←HE.out,List.takeWhile_cons_of_neg (by simp [hc])];simp
theorem om:∀r:Str,((r.takeWhile iU).length=r.length)↔r.all iU=true
 | []=>by simp
 | c::r=>by
  have ih:=om r;cases hc:iU c with
  | true=>rw [List.takeWhile_cons_of_pos hc];simp only [zW,List.all_cons,hc,Ag,←ih];omega
  | false=>rw [List.takeWhile_cons_of_neg (by simp [hc])];simp [hc]
theorem ma (l:Str) (w:World) (hs:l.length≤100000000) :
  Calls Tryz.prog 22 #[.string ⟨l.toArray⟩] w fun e w'=>e=.returned (.bool (jS l))∧w=w':=by
 cases l with
 | nil =>
  go_enter Tryz.func22,Tryz.ntmps22
  exact cM
 | cons c r =>
  have hE:mj (c::r) 0=1+(r.takeWhile iU).length:=by simp [mj]
  have hta:=om r;obtain⟨E,hE2⟩:∃E,mj (c::r) 0=E:=⟨_,rfl⟩;have HE:=ab hE;have HTA:=ab hta;clear hE hta;cases hc:iU c with
  | true =>
   have hP:jS (c::r)=false:=by simp [jS,hc]
   rw [hP];clear hP hE2;go_enter Tryz.func22,Tryz.ntmps22
   go_wp2_with (go_at_call 44;refine(pq c _ hc).mono ?_;rintro e w1 ⟨rfl,rfl⟩)
   go_ret
   exact⟨rfl,rfl⟩
  | false =>
   have hP:jS (c::r)=decide ((E:Int)=((c::r).length:Int)):=by
    rw [Bool.eq_iff_iff,zJ,←hE2,HE.out];simp only [jS,hc,Bool.not_false,Ag,←HTA.out,zW];omega
   have HP:=ab hP;have HE2:=ab hE2;clear hP hE2;rw [HP.out];go_enter Tryz.func22,Tryz.ntmps22
   go_wp2_with (first|(go_at_call 44;refine(pq c _ hc).mono ?_;rintro e w1 ⟨rfl,rfl⟩)|(go_at_call 41;refine(ug (c::r) 0 _ fg hs).mono ?_;rintro e w1 ⟨rfl,rfl⟩;rw [HE2.out]))
   go_ret
   refine⟨i9 ?_,rfl⟩;rw [Bool.eq_iff_iff];simp
theorem zn (f t:Str) (w:World) (hf:f.length≤100000000) (ht:t.length≤100000000) :
  Calls Tryz.prog 45 #[.agg #[.string ⟨f.toArray⟩,.string ⟨t.toArray⟩]] w fun e w'=>e=.returned (.bool (rowB (f,t)))∧Below w.heap.size w w':=by
 generalize hR:rowB (f,t)=R
 have HR:=ab hR;clear hR;cases h1:jS f with
 | false =>
  have HE:Hid (R=false):=ab (by rw [←HR.out];simp [rowB,h1]);exact cz
 | true =>
  cases h2:jS t with
  | false =>
   have HE:Hid (R=false):=ab (by rw [←HR.out];simp [rowB,h2]);exact cz
  | true =>
   have HE:Hid (R=leS f t):=ab (by rw [←HR.out];simp [rowB,h1,h2]);go_enter Tryz.func45,Tryz.ntmps45
   go_wp2_with (go_at_call 22;refine(ma _ _ fg).mono ?_;rintro e w1 ⟨rfl,rfl⟩)
   go_ret
   exact⟨i9 (by rw [HE.out]),(Below.refl _ _).alloc (zP _) _⟩
open Go.RowKit
structure ExtOf (w:World) where
 val:World
 ext:Below w.heap.size w val
instance (w:World):Nonempty (ExtOf w):=⟨⟨w,Below.refl _ _⟩⟩
theorem iS {P:Program} {id:Nat} {Q:Exit→Act→World→Prop} {a:Act} {w:World} {l:List Oper} (hm:P.follows .mixedOrders=true) (hB:Region.lexB .any l.toArray=true)
  (h:wpQuiet P l.toArray (fun w'=>∃x:ExtOf w,w'=x.val) (fun a'=>∀w',(∃x:ExtOf w,w'=x.val)→Q .normal a' w') l a):(Code.region id l.toArray true).wp P Q a w :=
 wp_region_quiet (C:=fun w'=>∃x:ExtOf w,w'=x.val) hm hB ⟨⟨w.drew,(Below.refl _ _).drew⟩,rfl⟩ fS
theorem jB {P:Program} {f:FuncId} {args:Array Value} {w:World} {x:ExtOf w} {v:Value} (h:Calls P f args x.val fun e w'=>e=.returned v∧Below x.val.heap.size x.val w') :
  Calls P f args x.val fun e w''=>e=.returned v∧∃y:ExtOf w,w''=y.val :=
 h.mono fun _ w' ⟨he,hb⟩=>⟨he,⟨w',x.ext.trans (hb.mono x.ext.size)⟩,rfl⟩
theorem se {P:Program} {f:FuncId} {args:Array Value} {w:World} {x:ExtOf w} {v:Value} (h:Calls P f args x.val fun e w'=>e=.returned v∧x.val=w') :
  Calls P f args x.val fun e w''=>e=.returned v∧∃y:ExtOf w,w''=y.val :=
 h.mono fun _ _ ⟨he,hb⟩=>⟨he,x,hb.symm⟩
theorem ExtOf.cell {w:World} {a:Addr} {u:Value} (h:w.cell? a=some u) (x:ExtOf w):x.val.cell? a=some u :=
 (x.ext.cell (World.block_lt_of_cell? w a h)).trans h
open Go.RowKit
theorem zv {f t:Str} {b:Bool} (w:World) (h:rowB (f,t)=b) (hf:f.length≤100000000) (ht:t.length≤100000000) :
  Calls Tryz.prog 45 #[.agg #[.string ⟨f.toArray⟩,.string ⟨t.toArray⟩]] w fun e w'=>e=.returned (.bool b)∧Below w.heap.size w w':=by
 subst h;exact zn f t w hf ht
def MayRel (rs:List (Str × Str)) (R:Bool) (w:World) (q:Value) (wr:World):Prop :=
 ∃(k:Nat) (p:Option Str),k≤rs.length∧q=.int .i64 k∧Below w.heap.size w wr∧Hid ((k=0∧p=none)∨∃j r,k=j+1∧rs[j]?=some r∧p=some r.2)∧Hid (mc p (rs.drop k)=R)
theorem uz (a:Option Addr) (n c:Nat) (rs:List (Str × Str)) (w:World) (h:Sl w w.heap.size a 2 n (iY rs)) (hn:n≤100000000) (hsz:∀r∈rs,r.1.length≤100000000∧r.2.length≤100000000) :
  Calls Tryz.prog 152 #[.slice a n c] w fun e w'=>e=.returned (.bool (mI rs))∧Below w.heap.size w w':=by
 obtain rfl:=h.row_len;generalize hR:mI rs=R
 have HR:=ab hR;clear hR;have HR0:Hid (mc none (rs.drop 0)=R):=HR;have HSl:=ab h;have HSz:=ab hsz;clear HR h hsz;go_enter Tryz.func152,Tryz.ntmps152
 go_wp2
 go_loopw [7] (fun q wr=>MayRel rs R w q wr) (fun q _=>rs.length-(intOf q).toNat)
 case atStart=>exact⟨0,none,by omega,rfl,Below.refl _ _,ab (.inl ⟨rfl,rfl⟩),HR0⟩
 case round =>
  obtain⟨k,p,hk,rfl,hb,HP,HF⟩:=hrel;clear HR0;have hB:=hb.size;cases hd:rs.drop k with
  | nil =>
   have h2:rs.length≤k:=fV;have HE:Hid (R=true):=ab gG;clear hd HF;go_wp2
   go_ret
   exact⟨i9 HE.out.symm,hb⟩
  | cons r0 r =>
   obtain⟨h2,h3,hr⟩:=js hd;have HF':Hid (mc p (r0::r)=R):=ab (by rw [←HF.out,hd]);have Hr:=ab hr;obtain⟨b,o,rfl,hbB,c0,c1⟩:=(HSl.out.keep hb).row h3;obtain⟨z1,z2⟩:=HSz.out r0 (Ar h3);have HE3:=ab h3;obtain⟨f,t⟩:=r0;replace z1:f.length≤100000000:=z1;replace z2:t.length≤100000000:=z2;clear hd HF hr h3;have e0:∀x:ExtOf (wr.alloc (.cells #[.string ⟨f.toArray⟩,.string ⟨t.toArray⟩] 58)),x.val.cell? ⟨wr.heap.size,0,none⟩=some (.string ⟨f.toArray⟩):=ExtOf.cell fq;have e1:∀x:ExtOf (wr.alloc (.cells #[.string ⟨f.toArray⟩,.string ⟨t.toArray⟩] 58)),x.val.cell? ⟨wr.heap.size,1,none⟩=some (.string ⟨t.toArray⟩):=ExtOf.cell fq;cases hB1:rowB (f,t) with
   | false =>
    have HB:=ab hB1;have HE:Hid (R=false):=ab (by rw [←HF'.out];simp only [mc];rw [HB.out];rfl);clear hB1;go_wp2
    refine iS fp fp ?_;repeat (go_big_quiet_step (((go_at_call 45;exact jB (zv _ HB.out fg fg)))))
    refine wpQuiet_nil ?_;rintro _ ⟨xq,rfl⟩;exact dB
   | true =>
    have HB:=ab hB1;clear hB1;rcases HP.out with⟨hk0,hp0⟩|⟨j,r',hkj,hj,hpj⟩
    ·have hk0':decide (0<k)=false:=by rw [decide_eq_false_iff_not];omega
     have HL:Hid (p=none):=ab hp0;clear hk0 hp0;go_wp2
     refine iS fp fp ?_;repeat (go_big_quiet_step (((go_at_call 45;exact jB (zv _ HB.out fg fg)))))
     refine wpQuiet_nil ?_;rintro _ ⟨xq,rfl⟩;go_wp2
     go_roundw
     case rel=>exact⟨k+1,some t,by omega,by go_num,(hb.alloc hB _).trans (xq.ext.mono fr),ab (.inr ⟨k,(f,t),rfl,HE3.out,rfl⟩),ab (by rw [Hr.out,←HF'.out];simp only [mc];rw [HB.out];simp [HL.out])⟩
     case measure=>simp [intOf];omega
    ·obtain⟨b',o',hab,_,d0,d1⟩:=(HSl.out.keep hb).row hj
     obtain⟨rfl,rfl⟩:b=b'∧o=o':=by simpa using hab
     obtain⟨f',t'⟩:=r';have HPJ:=ab hpj;subst hkj;clear hj hpj hab;have d2:∀x:ExtOf (wr.alloc (.cells #[.string ⟨f.toArray⟩,.string ⟨t.toArray⟩] 58)),x.val.cell? ⟨b,o+j*2+1,none⟩=some (.string ⟨t'.toArray⟩):=ExtOf.cell (by rw [World.cell?_alloc_lt _ _ _ fr];exact d1);have d1':(wr.alloc (.cells #[.string ⟨f.toArray⟩,.string ⟨t.toArray⟩] 58)).cell? ⟨b,o+j*2+1,none⟩=some (.string ⟨t'.toArray⟩):=by
      rw [World.cell?_alloc_lt _ _ _ fr];exact d1
     go_wp2
     refine iS fp fp ?_;repeat (go_big_quiet_step (((go_at_call 45;exact jB (zv _ HB.out fg fg)))))
     refine wpQuiet_nil ?_;rintro _ ⟨xq,rfl⟩;cases hL1:leS f t' with
     | true =>
      have HE:Hid (R=false):=ab (by rw [←HF'.out,HPJ.out];simp only [mc];rw [HB.out,hL1];rfl);exact dB
     | false =>
      have HL:=ab hL1;go_wp2
      go_roundw
      case rel=>exact⟨j+1+1,some t,by omega,by go_num,(hb.alloc hB _).trans (xq.ext.mono fr),ab (.inr ⟨j+1,(f,t),rfl,HE3.out,rfl⟩),ab (by rw [Hr.out,←HF'.out,HPJ.out];simp only [mc];rw [HB.out,HL.out];rfl)⟩
      case measure=>simp [intOf];omega
end Go.Proofs.YtbnkaecmgfolpaaGreat
