/- walk of fmts.part -/
import Derived.Test.YtdcnncgpomcaaaaGreatDoorSc11
import Derived.Test.YtdcnncgpomcaaaaGreatDoorSc4
import Derived.Lib.ItoaMem
set_option maxRecDepth 100000
set_option maxHeartbeats 4000000
namespace Go.Proofs.YtdcnncgpomcaaaaGreatDoor
open Go.RowKit
theorem tF {l r:Str} {i:Int} {n:Nat} (w:World) (h0:0≤i) (h1:i≤1000000) (hs:l.length≤1000000) (hN:nG (l.drop i.toNat)=some (n,r)) :
  Calls Tryz.prog 124 #[.string ⟨l.toArray⟩,.int .i64 i] w fun e w'=>w=w'∧n<10000∧∃j:Nat,i<j∧j≤l.length∧l.drop j=r∧e=.returned (.tuple #[.int .i64 n,.int .i64 j,.bool true]):=by
 exact dL
theorem o4 {l:Str} {i:Int} (w:World) (h0:0≤i) (h1:i≤1000000) (hs:l.length≤1000000) (hN:nG (l.drop i.toNat)=none) :
  Calls Tryz.prog 124 #[.string ⟨l.toArray⟩,.int .i64 i] w fun e w'=>w=w'∧e=.returned (.tuple #[.int .i64 0,.int .i64 i,.bool false]):=by
 exact dL
theorem AS {l r:Str} {i n:Nat} {f:Fm} (w:World) (h1:i≤900000) (hs:l.length≤900000) (hB:lU (l.drop i) n=some (f,r)) :
  Calls Tryz.prog 126 #[.string ⟨l.toArray⟩,.int .i64 i,.int .i64 n] w fun e w'=>Below w.heap.size w w'∧f.thn.length≤l.length∧f.els.length≤l.length∧∃j:Nat,i<j∧j≤l.length∧l.drop j=r∧e=.returned (.tuple #[.agg #[.int .i64 (f).kind,.int .i64 (f).n,.int .i64 (f).cse,.string ⟨((f).thn).toArray⟩,.string ⟨((f).els).toArray⟩],.int .i64 j,.bool true]):=by
 exact eh
theorem Bc {l:Str} {i n:Nat} (w:World) (h1:i≤900000) (hs:l.length≤900000) (hB:lU (l.drop i) n=none) :
  Calls Tryz.prog 126 #[.string ⟨l.toArray⟩,.int .i64 i,.int .i64 n] w fun e w'=>Below w.heap.size w w'∧e=.returned (.tuple #[.agg #[.int .i64 0,.int .i64 0,.int .i64 0,.string ⟨#[]⟩,.string ⟨#[]⟩],.int .i64 0,.bool false]):=by
 exact eh
theorem CM (l:Str) (i:Nat) (w:World) (h1:i≤800000) (hs:l.length≤800000) :
  Calls Tryz.prog 119 #[.string ⟨l.toArray⟩,.int .i64 i] w fun e w'=>Below w.heap.size w w'∧CN l i (ow (l.drop i)) e:=by
 generalize hR:ow (l.drop i)=R
 have HR:=ab hR;clear hR;cases hN:nG (l.drop i) with
 | some p =>
  obtain⟨n,r⟩:=p;have HN:Hid (nG (l.drop (i:Int).toNat)=some (n,r)):=ab (by rw [Int.toNat_natCast];exact hN);have HE:Hid (R=some (⟨1,n,0,[],[]⟩,r)):=ab (by rw [←HR.out];simp [ow,hN]);clear hN HR;go_enter Tryz.func119,Tryz.ntmps119
  go_wp2_with (go_at_call 124;refine(tF _ gj gj gj HN.out).mono ?_;rintro e w1 ⟨rfl,hn,j,hj1,hj2,hj3,rfl⟩;have HJ:=ab hj3;clear hj3)
  refine Ir (v:=.tuple #[.agg #[.int .i64 1,.int .i64 n,.int .i64 0,.string ⟨[].toArray⟩,.string ⟨[].toArray⟩],.int .i64 j,.bool true]) jH rfl ⟨?_,?_⟩
  ·(repeat (first|with_reducible exact Below.refl _ _|with_reducible assumption|(refine Below.setCell ?_ gQ _)|(refine Below.alloc ?_ gF _)|(refine Below.drew ?_)))
  ·rw [HE.out];exact⟨by simp,by simp,j,by omega,hj2,HJ.out,by simp⟩
 | none =>
  have HN:Hid (nG (l.drop (i:Int).toNat)=none):=ab (by rw [Int.toNat_natCast];exact hN);have HP:Hid (R=AR (l.drop i)):=ab (by
   rw [←HR.out];simp [ow,hN])
  clear hN HR;cases hd:l.drop i with
  | nil =>
   have h2:=lX hd;have HE:Hid (R=none):=ab (by rw [HP.out,hd];rfl);have e1:List.isPrefixOf [123] (List.drop i l)=false:=by rw [hd];rfl
   clear hd HP;exact fi
  | cons c r1 =>
   obtain⟨h2,h3,hr⟩:=kY hd;have Hr:=ab hr;clear hr h3;by_cases hc:c.toNat=123
   ·have HP1:Hid (R=match nG r1 with|none=>none|some p=>sX p.1 p.2):=ab (by rw [HP.out,hd];exact Hu hc)
    have e1:List.isPrefixOf [123] (List.drop i l)=true:=by rw [hd,pre1];simp;omega
    clear hc hd HP;cases hM:nG r1 with
    | none =>
     have HM:Hid (nG (l.drop ((i:Int)+1).toNat)=none):=ab jE;have HE:Hid (R=none):=ab (by rw [HP1.out,hM]);clear hM HP1;go_enter Tryz.func119,Tryz.ntmps119
     go_wp2_with (go_at_call 124;refine(o4 _ gj gj gj HN.out).mono ?_)
     rintro e w1 ⟨rfl,rfl⟩;go_wp2_with (first|(go_at_call 125;refine(mV _ _ _ _ gj gj gz).mono ?_;rintro e w1 ⟨rfl,rfl⟩)|(go_at_call 124;refine(o4 _ gj gj gj HM.out).mono ?_;rintro e w1 ⟨rfl,rfl⟩))
     exact aK
    | some p =>
     obtain⟨n,r2⟩:=p;have HM:Hid (nG (l.drop ((i:Int)+1).toNat)=some (n,r2)):=ab jE;have HP2:Hid (R=sX n r2):=ab (by rw [HP1.out,hM]);clear hM HP1;go_enter Tryz.func119,Tryz.ntmps119
     go_wp2_with (go_at_call 124;refine(o4 _ gj gj gj HN.out).mono ?_)
     rintro e w1 ⟨rfl,rfl⟩;go_wp2_with (first|(go_at_call 125;refine(mV _ _ _ _ gj gj gz).mono ?_;rintro e w1 ⟨rfl,rfl⟩)|(go_at_call 124;refine(tF _ gj gj gj HM.out).mono ?_))
     rintro e w1 ⟨rfl,hn,j,hj1,hj2,hj3,rfl⟩;cases r2 with
     | nil =>
      have HE:Hid (R=none):=HP2;have e2:List.isPrefixOf [125] (List.drop j l)=false:=by rw [hj3];rfl
      have e3:List.isPrefixOf [58] (List.drop j l)=false:=by rw [hj3];rfl
      clear hj3;exact fN
     | cons d r3 =>
      have HJ:=ab (kY hj3).2.2;have hjl:=(kY hj3).1;by_cases hd1:d.toNat=125
      ·have HE:Hid (R=some (⟨1,n,0,[],[]⟩,r3)):=ab (by rw [HP2.out];exact Hu hd1)
       have e2:List.isPrefixOf [125] (List.drop j l)=true:=by rw [hj3,pre1];simp;omega
       clear hj3 hd1;go_wp2_with (go_at_call 125;refine(mV _ _ _ _ gj gj gz).mono ?_;rintro e w1 ⟨rfl,rfl⟩)
       refine Ir (v:=.tuple #[.agg #[.int .i64 1,.int .i64 n,.int .i64 0,.string ⟨[].toArray⟩,.string ⟨[].toArray⟩],.int .i64 (j+1),.bool true]) jH rfl ⟨?_,?_⟩
       ·(repeat (first|with_reducible exact Below.refl _ _|with_reducible assumption|(refine Below.setCell ?_ gQ _)|(refine Below.alloc ?_ gF _)|(refine Below.drew ?_)))
       ·rw [HE.out];exact⟨by simp,by simp,j+1,by omega,by omega,HJ.out,by simp⟩
      ·have e2:List.isPrefixOf [125] (List.drop j l)=false:=by rw [hj3,pre1];simp;omega
       by_cases hd2:d.toNat=58
       ·have HP3:Hid (R=lU r3 n):=ab (by rw [HP2.out];exact(Hx hd1).trans (Hu hd2))
        have e3:List.isPrefixOf [58] (List.drop j l)=true:=by rw [hj3,pre1];simp;omega
        clear hj3 hd1 hd2;cases hB:lU r3 n with
        | none =>
         have HE:Hid (R=none):=ab (by rw [HP3.out,hB]);have HB:Hid (lU (l.drop (j+1)) n=none):=ab (by rw [HJ.out];exact hB);clear hB;have ej:((j:Int)+1)=((j+1:Nat):Int):=gj;have EJ:=ab ej;clear ej;go_wp2_with (first|(go_at_call 125;refine(mV _ _ _ _ gj gj gz).mono ?_;rintro e w1 ⟨rfl,rfl⟩)|(go_at_call 126;rw [EJ.out];refine(Bc _ gj gj HB.out).mono ?_;rintro e w1 ⟨hb1,rfl⟩;obtain⟨hc1,hf1⟩:=s8 hb1;have z0:w1.cell? ⟨w.heap.size,0,none⟩=some (.int .i64 0):= gp;have z1:w1.cell? ⟨w.heap.size,1,none⟩=some (.int .i64 0):= gp;have z2:w1.cell? ⟨w.heap.size,2,none⟩=some (.int .i64 0):= gp;have z3:w1.cell? ⟨w.heap.size,3,none⟩=some (.string ⟨#[]⟩):= gp;have z4:w1.cell? ⟨w.heap.size,4,none⟩=some (.string ⟨#[]⟩):= gp;have hbw:Below w.heap.size w w1:=((Below.refl w.heap.size w).alloc (Ia _) _).trans (hb1.mono gz)))
         refine Ir (v:=.tuple #[.agg #[.int .i64 0,.int .i64 0,.int .i64 0,.string ⟨#[]⟩,.string ⟨#[]⟩],.int .i64 0,.bool false]) jL rfl ⟨?_,by rw [HE.out];rfl⟩
         (repeat (first|with_reducible exact Below.refl _ _|with_reducible assumption|(refine Below.setCell ?_ gQ _)|(refine Below.alloc ?_ gF _)|(refine Below.drew ?_)))
        | some q =>
         obtain⟨⟨fk,fn,fc,ft,fe⟩,r4⟩:=q;have HE:Hid (R=some (⟨fk,fn,fc,ft,fe⟩,r4)):=ab (by rw [HP3.out,hB]);have HB:Hid (lU (l.drop (j+1)) n=some (⟨fk,fn,fc,ft,fe⟩,r4)):=ab (by rw [HJ.out];exact hB);clear hB;have ej:((j:Int)+1)=((j+1:Nat):Int):=gj;have EJ:=ab ej;clear ej;go_wp2_with (first|(go_at_call 125;refine(mV _ _ _ _ gj gj gz).mono ?_;rintro e w1 ⟨rfl,rfl⟩)|(go_at_call 126;rw [EJ.out];refine(AS _ gj gj HB.out).mono ?_;rintro e w1 ⟨hb1,ht1,ht2,k,hk1,hk2,hk3,rfl⟩;obtain⟨hc1,hf1⟩:=s8 hb1;have z0:w1.cell? ⟨w.heap.size,0,none⟩=some (.int .i64 0):= gp;have z1:w1.cell? ⟨w.heap.size,1,none⟩=some (.int .i64 0):= gp;have z2:w1.cell? ⟨w.heap.size,2,none⟩=some (.int .i64 0):= gp;have z3:w1.cell? ⟨w.heap.size,3,none⟩=some (.string ⟨#[]⟩):= gp;have z4:w1.cell? ⟨w.heap.size,4,none⟩=some (.string ⟨#[]⟩):= gp;have hbw:Below w.heap.size w w1:=((Below.refl w.heap.size w).alloc (Ia _) _).trans (hb1.mono gz);have HK3:=ab hk3;clear hk3))
         refine Ir (v:=.tuple #[.agg #[.int .i64 fk,.int .i64 fn,.int .i64 fc,.string ⟨ft.toArray⟩,.string ⟨fe.toArray⟩],.int .i64 k,.bool true]) jL rfl ⟨?_,?_⟩
         ·(repeat (first|with_reducible exact Below.refl _ _|with_reducible assumption|(refine Below.setCell ?_ gQ _)|(refine Below.alloc ?_ gF _)|(refine Below.drew ?_)))
         ·rw [HE.out];exact⟨ht1,ht2,k,by omega,hk2,HK3.out,by simp⟩
       ·have HE:Hid (R=none):=ab (by rw [HP2.out];exact(Hx hd1).trans (Hx hd2))
        have e3:List.isPrefixOf [58] (List.drop j l)=false:=by rw [hj3,pre1];simp;omega
        clear hj3 hd1 hd2;exact fN
   ·have HE:Hid (R=none):=ab (by rw [HP.out,hd];exact Hx hc)
    have e1:List.isPrefixOf [123] (List.drop i l)=false:=by rw [hd,pre1];simp;omega
    clear hc hd HP;exact fi
theorem m8 {w:World} {B:Nat} {e t:TypeId} {sz n:Nat} {v:Value} {xs:List Value} {k:Nat} {cs:Array Value} {m:Nat × Nat} (h:w.ownsRow B e sz v n xs) (hk:w.heap[k]?=some (.cells cs t m)) (hne:t≠e):v.ownBlock≠some k:=fun he=>by
 have:=(pG h he).2
 simp [xB,hk] at this;exact hne this
theorem rT {w:World} {B B':Nat} {e e':TypeId} {sz sz' n n':Nat} {v v':Value} {xs xs':List Value} (h:w.ownsRow B e sz v n xs) (h':w.ownsRow B' e' sz' v' n' xs') (hne:e≠e'):v.ownBlock=none∨v.ownBlock≠v'.ownBlock:=by
 cases hv:v.ownBlock with
 | none=>exact .inl rfl
 | some g =>
  refine .inr fun he=>?_
  have h1:=(pG h hv).2;have h2:=(pG h' he.symm).2;rw [h1] at h2;injection h2 with h2;exact hne h2
theorem rM {w:World} {B:Nat} {e:TypeId} {sz n:Nat} {v:Value} {xs:List Value} (h:w.ownsRow B e sz v n xs) {p:Addr} (hp:v.ownBlock≠some p.block) (u:Value):(w.setCell p u).ownsRow B e sz v n xs :=
 h.kept (row:=some p.block) ⟨rfl,rfl,rfl,by simp [World.setCell],fun k _ hk=>Below.heap_setCell _ _ _ _ (fun e=>hk (by rw [e]))⟩ (.inr hp)
theorem oP {w:World} {g:Nat} {v u:Value} {t:TypeId} (h:w.heap[g]?=some (.cells #[v] t (0,0))):(w.setCell ⟨g,0,none⟩ u).heap[g]?=some (.cells #[u] t (0,0)):=by
 simp [World.setCell,Array.getElem?_modify,h]
theorem qQ {w:World} {g:Nat} {p:Addr} {u:Value} {o:Obj} (h:w.heap[g]?=some o) (hp:p.block≠g):(w.setCell p u).heap[g]?=some o:=by
 rw [Below.heap_setCell _ _ _ _ (fun e=>hp e.symm)];exact h
theorem BW:(Tryz.prog.info? 95).map (fun i=>(i.zero,i.size,i.bytes))=some (some (.agg #[.int .i64 0,.int .i64 0,.int .i64 0,.string ⟨#[]⟩,.string ⟨#[]⟩]),5,56):=by kernel_rfl
def RS (B bt bo:Nat) (tx:Str) (fs:List Fm) (w:World):Prop :=
 ∃tv ov,w.heap[bt]?=some (.cells #[tv] 52 (0,0))∧w.heap[bo]?=some (.cells #[ov] 39 (0,0))∧B≤bt∧B≤bo∧w.ownsRow B 5 1 tv tx.length (lZ tx)∧w.ownsRow B 95 5 ov fs.length (l5 fs)
theorem uB (fs:List Fm) (f:Fm):l5 (fs++[f])=l5 fs++f.cells:=by simp [l5]
theorem rE {w w':World} {B:Nat} {e:TypeId} {sz n:Nat} {v:Value} {xs:List Value} (h:w.ownsRow B e sz v n xs) (hb:Below w.heap.size w w'):w'.ownsRow B e sz v n xs:=by
 refine⟨h.1,?_⟩;rcases h.2 with h5|⟨g',cap,cur,hv,hB,hg,r⟩
 ·exact .inl h5
 ·exact .inr ⟨g',cap,cur,hv,hB,(hb.block g' (ky hg)).trans hg,r⟩
theorem RS.keep {B bt bo:Nat} {tx:Str} {fs:List Fm} {w w':World} (h:RS B bt bo tx fs w) (hb:Below w.heap.size w w'):RS B bt bo tx fs w':=by
 obtain⟨tv,ov,h1,h2,h3,h4,h5,h6⟩:=h;exact⟨tv,ov,(hb.block _ (ky h1)).trans h1,(hb.block _ (ky h2)).trans h2,h3,h4,rE h5 hb,rE h6 hb⟩
theorem zM (B bt bo:Nat) (tx:Str) (fs:List Fm) (w0 w:World) (h:RS B bt bo tx fs w0) (hw:Below w0.heap.size w0 w) (hB:B≤w.heap.size) (htx:tx.length≤1000000) (hfs:fs.length≤1000000) :
  Calls Tryz.prog 118 #[.pointer (some ⟨bt,0,none⟩),.pointer (some ⟨bo,0,none⟩)] w fun e w'=>e=.returned (.tuple #[])∧RS B bt bo [] (mB tx fs) w'∧Below B w w'∧∀k,w0.heap.size≤k→k<w.heap.size→w'.heap[k]?=w.heap[k]?:=by
 obtain⟨tv,ov,h1,h2,hbt,hbo,ht,ho⟩:=h;have hlt1:=ky h1;have hlt2:=ky h2;have hrow:∀g,ov.ownBlock=some g→g<w0.heap.size:=fun g hg=>(ho.lt g hg).2
 replace h1:=(hw.block _ hlt1).trans h1;replace h2:=(hw.block _ hlt2).trans h2;replace ht:=rE ht hw;replace ho:=rE ho hw;have HROW:=ab hrow;clear hrow;obtain⟨ta,tc,rfl⟩:=kW ht;obtain⟨oa,oc,rfl⟩:=kW ho;have c1:w.cell? ⟨bt,0,none⟩=some (.slice ta tx.length tc):=by rw [Ic h1];rfl
 have c2:w.cell? ⟨bo,0,none⟩=some (.slice oa fs.length oc):=by rw [Ic h2];rfl
 have f1:w.frozen? ⟨bt,0,none⟩=false:=Lib.frozen_of_heap h1 0;have hne:bt≠bo:=fun e=>by subst e;rw [h1] at h2;simp at h2
 have H1:=ab h1;have H2:=ab h2;have HNE:=ab hne;clear h1 h2 hne;by_cases h0:tx=[]
 ·subst h0
  simp only [IE] at ht c1;go_enter Tryz.func118,Tryz.ntmps118
  go_wp2
  go_end0
  refine⟨rfl,⟨_,_,H1.out,H2.out,hbt,hbo,ht,ho⟩,Below.refl _ _,fun _ _ _=>rfl⟩
 ·have hl:0<tx.length:=List.length_pos_iff.2 h0
  have hcv:=nU (P:=Tryz.prog) (src:=52) (dst:=9) Tryz.underlying52 Tryz.underlying5 Tryz.underlying9 ht;obtain⟨iu,hiu⟩:=info_parts BW;have H0:=ab h0;clear h0;go_enter Tryz.func118,Tryz.ntmps118
  go_wp2_with (at_builtin;refine l7 B 95 rfl _ _ 39 rfl Tryz.underlying39 hiu rfl gv rfl ho rfl iz rfl gP gj gv hB ?_)
  intro v' w1 ho1 hg1 hb1 _;have g1:w1.heap[bt]?=some (.cells #[.slice ta tx.length tc] 52 (0,0)):=(hg1.block bt (ky H1.out) (fun e=>m8 ho H1.out gv e.symm)).trans H1.out;have g2:w1.heap[bo]?=some (.cells #[.slice oa fs.length oc] 39 (0,0)):=(hg1.block bo (ky H2.out) (fun e=>m8 ho H2.out gv e.symm)).trans H2.out;obtain⟨va,vc,rfl⟩:=kW ho1;have d1:w1.cell? ⟨bt,0,none⟩=some (.slice ta tx.length tc):=by rw [Ic g1];rfl
  have d2:w1.cell? ⟨bo,0,none⟩=some (.slice oa fs.length oc):=by rw [Ic g2];rfl
  have d3:w1.frozen? ⟨bt,0,none⟩=false:=Lib.frozen_of_heap g1 0;have d4:w1.frozen? ⟨bo,0,none⟩=false:=Lib.frozen_of_heap g2 0;have hR:RS B bt bo [] (mB tx fs) ((w1.setCell ⟨bo,0,none⟩ (.slice va (fs.length+1) vc)).setCell ⟨bt,0,none⟩ (.slice none 0 0)):=by
   have hz:mB tx fs=fs++[⟨0,0,0,tx,[]⟩]:=Hx H0.out;refine⟨.slice none 0 0,.slice va (fs.length+1) vc,oP (qQ g1 (fun e=>HNE.out e.symm)),qQ (oP g2) HNE.out,hbt,hbo,World.ownsRow_nil _ _ _ _,?_⟩;rw [hz,uB,Ig];exact rM (rM (by simpa [Fm.cells] using ho1) (m8 ho1 g2 gv) _) (m8 (rM ho1 (m8 ho1 g2 gv) (.slice va (fs.length+1) vc)) (qQ (p:=⟨bo,0,none⟩) (u:=.slice va (fs.length+1) vc) g1 (fun e=>HNE.out e.symm)) gv) _
  have hbl:Below B w ((w1.setCell ⟨bo,0,none⟩ (.slice va (fs.length+1) vc)).setCell ⟨bt,0,none⟩ (.slice none 0 0)):=(hb1.setCell (p:=⟨bo,0,none⟩) hbo _).setCell (p:=⟨bt,0,none⟩) hbt _;have hst:∀k,w0.heap.size≤k→k<w.heap.size→((w1.setCell ⟨bo,0,none⟩ (.slice va (fs.length+1) vc)).setCell ⟨bt,0,none⟩ (.slice none 0 0)).heap[k]?=w.heap[k]?:=fun k hk1 hk2=>by
   rw [Below.heap_setCell _ _ _ _ (by show k≠bt;omega),Below.heap_setCell _ _ _ _ (by show k≠bo;omega)];exact hg1.block k hk2 (fun e=>by have:=HROW.out k e.symm;omega)
  have HST:=ab hst;have HRR:=ab hR;have HBL:=ab hbl;have hbb:((bo==bt)=false):=by rw [Iu];exact fun e=>HNE.out e.symm
  have hne1:¬bo=bt:=fun e=>HNE.out e.symm
  have hne2:¬bt=bo:=HNE.out;clear hR hbl g1 g2 hst;go_wp2
  go_end0
  exact⟨rfl,HRR.out,HBL.out,HST.out⟩
theorem GF {l r:Str} {i:Int} {f:Fm} (w:World) (h0:0≤i) (h1:i≤800000) (hs:l.length≤800000) (hP:ow (l.drop i.toNat)=some (f,r)) :
  Calls Tryz.prog 119 #[.string ⟨l.toArray⟩,.int .i64 i] w fun e w'=>Below w.heap.size w w'∧f.thn.length≤l.length∧f.els.length≤l.length∧∃j:Nat,i<j∧j≤l.length∧l.drop j=r∧e=.returned (.tuple #[.agg #[.int .i64 (f).kind,.int .i64 (f).n,.int .i64 (f).cse,.string ⟨((f).thn).toArray⟩,.string ⟨((f).els).toArray⟩],.int .i64 j,.bool true]):=by
 obtain⟨i,rfl⟩:=Int.eq_ofNat_of_zero_le h0;refine(CM l i w gj hs).mono ?_
 rintro e w1 ⟨hb,hp⟩;rw [Int.toNat_natCast] at hP;rw [hP] at hp;obtain⟨a,b,j,c,d⟩:=hp;exact⟨hb,a,b,j,by omega,d⟩
theorem E7 {l:Str} {i:Int} (w:World) (h0:0≤i) (h1:i≤800000) (hs:l.length≤800000) (hP:ow (l.drop i.toNat)=none) :
  Calls Tryz.prog 119 #[.string ⟨l.toArray⟩,.int .i64 i] w fun e w'=>Below w.heap.size w w'∧e=.returned (.tuple #[.agg #[.int .i64 0,.int .i64 0,.int .i64 0,.string ⟨#[]⟩,.string ⟨#[]⟩],.int .i64 0,.bool false]):=by
 obtain⟨i,rfl⟩:=Int.eq_ofNat_of_zero_le h0;refine(CM l i w gj hs).mono ?_
 rintro e w1 ⟨hb,hp⟩;rw [Int.toNat_natCast] at hP;rw [hP] at hp;exact⟨hb,hp⟩
def lenOk (n:Nat) (fs:List Fm):Prop:=∀f∈fs,f.thn.length≤n∧f.els.length≤n
theorem SlS.ownB {w:World} {B0:Nat} {e:TypeId} {sz:Nat} {a:Option Addr} {n c:Nat} {xs:List Value} (h:w.ownsRow B0 e sz (.slice a n c) n xs):SlS w (fun b=>B0≤b) a sz n xs:=by
 refine⟨h.1,fun hn=>?_⟩;rcases h.2 with⟨hv,h0⟩|⟨g,cap,cur,hv,hb,hg,r⟩
 ·omega
 ·injection hv with ha _ _
  subst ha;refine⟨g,0,rfl,hb,ky hg,fun j u hu=>?_⟩;exact de
def zR (l:Str) (i B:Nat) (R:Option (List Fm × Str)) (e:Ending) (w':World):Prop :=
 match R with
 | none=>e=.returned (.tuple #[.slice none 0 0,.int .i64 0,.bool false])
 | some (fs,r)=>∃(a:Option Addr) (c j:Nat),e=.returned (.tuple #[.slice a fs.length c,.int .i64 j,.bool true])∧SlS w' (fun b=>B≤b) a 5 fs.length (l5 fs)∧i≤j∧j<l.length∧l.drop j=r∧fs.length≤l.length∧lenOk l.length fs
theorem RS.texts {B bt bo:Nat} {tx:Str} {fs:List Fm} {w:World} (h:RS B bt bo tx fs w) :
  ∃ta tc,w.cell? ⟨bt,0,none⟩=some (.slice ta tx.length tc)∧w.frozen? ⟨bt,0,none⟩=false∧w.ownsRow B 5 1 (.slice ta tx.length tc) tx.length (lZ tx)∧bt<w.heap.size:=by
 obtain⟨tv,ov,h1,h2,hbt,hbo,ht,ho⟩:=h;obtain⟨ta,tc,rfl⟩:=kW ht;exact⟨ta,tc,by rw [Ic h1];rfl,Lib.frozen_of_heap h1 0,ht,ky h1⟩
theorem RS.parts {B bt bo:Nat} {tx:Str} {fs:List Fm} {w:World} (h:RS B bt bo tx fs w) :
  ∃oa oc,w.cell? ⟨bo,0,none⟩=some (.slice oa fs.length oc)∧w.frozen? ⟨bo,0,none⟩=false∧w.ownsRow B 95 5 (.slice oa fs.length oc) fs.length (l5 fs)∧bo<w.heap.size:=by
 obtain⟨tv,ov,h1,h2,hbt,hbo,ht,ho⟩:=h;obtain⟨oa,oc,rfl⟩:=kW ho;exact⟨oa,oc,by rw [Ic h2];rfl,Lib.frozen_of_heap h2 0,ho,ky h2⟩
theorem RS.text_app {B bt bo:Nat} {tx:Str} {fs:List Fm} {w w1:World} {v v1:Value} {c:UInt8} (h:RS B bt bo tx fs w) (hv:w.cell? ⟨bt,0,none⟩=some v)
  (hown:w1.ownsRow B 5 1 v1 (tx.length+1) (lZ tx++[.int .u8 c.toNat])) (hg:w.grownBy w1 v.ownBlock) (hB:B≤w.heap.size) :
  ∃a c',v1=.slice a (tx.length+1) c'∧w1.cell? ⟨bt,0,none⟩=some v∧w1.frozen? ⟨bt,0,none⟩=false∧RS B bt bo (tx++[c]) fs (w1.setCell ⟨bt,0,none⟩ v1)∧Below B w (w1.setCell ⟨bt,0,none⟩ v1):=by
 obtain⟨tv,ov,h1,h2,hbt,hbo,ht,ho⟩:=h;have htv:tv=v:=by rw [Ic h1] at hv;simpa using hv
 subst htv;have hne:bt≠bo:=fun e=>by subst e;rw [h1] at h2;simp at h2
 have g1:w1.heap[bt]?=some (.cells #[tv] 52 (0,0)):=(hg.block bt (ky h1) (fun e=>m8 ht h1 gv e.symm)).trans h1;have g2:w1.heap[bo]?=some (.cells #[ov] 39 (0,0)):=(hg.block bo (ky h2) (fun e=>m8 ht h2 gv e.symm)).trans h2;have ho1:=ho.kept hg (rT ho ht gv);obtain⟨a,c',rfl⟩:=kW hown;refine⟨a,c',rfl,by rw [Ic g1];rfl,Lib.frozen_of_heap g1 0,⟨_,ov,oP g1,qQ g2 hne,hbt,hbo,?_,rM ho1 (m8 ho1 g1 gv) _⟩,?_⟩
 ·have:=rM hown (m8 hown g1 gv) (p:=⟨bt,0,none⟩) (.slice a (tx.length+1) c')
  simpa [lZ] using this
 ·exact((Below.refl B w).grown hg hB fun k hk=>(ht.lt k hk).1).setCell (p:=⟨bt,0,none⟩) hbt _
theorem RS.part_app {B bt bo:Nat} {tx:Str} {fs:List Fm} {w w1:World} {v v1:Value} {f:Fm} (h:RS B bt bo tx fs w) (hv:w.cell? ⟨bo,0,none⟩=some v)
  (hown:w1.ownsRow B 95 5 v1 (fs.length+1) (l5 fs++[.int .i64 f.kind,.int .i64 f.n,.int .i64 f.cse,.string ⟨(f.thn).toArray⟩,.string ⟨(f.els).toArray⟩])) (hg:w.grownBy w1 v.ownBlock) (hB:B≤w.heap.size) :
  ∃a c',v1=.slice a (fs.length+1) c'∧w1.cell? ⟨bo,0,none⟩=some v∧w1.frozen? ⟨bo,0,none⟩=false∧RS B bt bo tx (fs++[f]) (w1.setCell ⟨bo,0,none⟩ v1)∧Below B w (w1.setCell ⟨bo,0,none⟩ v1):=by
 obtain⟨tv,ov,h1,h2,hbt,hbo,ht,ho⟩:=h;have htv:ov=v:=by rw [Ic h2] at hv;simpa using hv
 subst htv;have hne:bo≠bt:=fun e=>by subst e;rw [h1] at h2;simp at h2
 have g1:w1.heap[bt]?=some (.cells #[tv] 52 (0,0)):=(hg.block bt (ky h1) (fun e=>m8 ho h1 gv e.symm)).trans h1;have g2:w1.heap[bo]?=some (.cells #[ov] 39 (0,0)):=(hg.block bo (ky h2) (fun e=>m8 ho h2 gv e.symm)).trans h2;have ht1:=ht.kept hg (rT ht ho gv);obtain⟨a,c',rfl⟩:=kW hown;refine⟨a,c',rfl,by rw [Ic g2];rfl,Lib.frozen_of_heap g2 0,⟨tv,_,qQ g1 hne,oP g2,hbt,hbo,rM ht1 (m8 ht1 g2 gv) _,?_⟩,?_⟩
 ·have:=rM hown (m8 hown g2 gv) (p:=⟨bo,0,none⟩) (.slice a (fs.length+1) c')
  rw [uB,Ig];exact this
 ·exact((Below.refl B w).grown hg hB fun k hk=>(ho.lt k hk).1).setCell (p:=⟨bo,0,none⟩) hbo _
theorem wF (tx:Str) (fs:List Fm):(mB tx fs).length≤tx.length+fs.length:=by
 unfold mB;split
 ·omega
 ·rename_i h;have:=List.length_pos_iff.2 h;simp;omega
theorem AM {n:Nat} {tx:Str} {fs:List Fm} (h:lenOk n fs) (ht:tx.length≤n):lenOk n (mB tx fs):=by
 unfold mB;split
 ·exact h
 ·intro f hf
  rcases IB.1 hf with hf|hf
  ·exact h f hf
  ·simp at hf;subst hf;exact⟨ht,by simp⟩
theorem RS.start (B:Nat) (w:World) (h:B≤w.heap.size):RS B (w.heap.size+1) w.heap.size [] [] ((w.alloc (.cells #[.slice none 0 0] 39)).alloc (.cells #[.slice none 0 0] 52)):=by
 refine⟨_,_,?_,?_,by omega,h,World.ownsRow_nil _ _ _ _,World.ownsRow_nil _ _ _ _⟩
 ·have:=heap_alloc_new (w.alloc (.cells #[.slice none 0 0] 39)) (.cells #[.slice none 0 0] 52)
  simpa using this
 ·rw [Below.heap_alloc _ _ _ gz];exact heap_alloc_new w _
def RdRel (l:Str) (i:Nat) (R:Option (List Fm × Str)) (w:World) (q:Value) (wr:World):Prop :=
 ∃(j:Nat) (tx:Str) (fs:List Fm),i≤j∧j≤l.length∧q=.int .i64 j∧RS w.heap.size (w.heap.size+1) w.heap.size tx fs wr∧Below w.heap.size w wr∧tx.length≤j∧fs.length≤j∧Hid (tx.length+fs.length≤j)∧Hid (lenOk l.length fs)∧Hid (nP (l.drop j) tx fs=R)
theorem FE (l:Str) (i:Nat) (w:World) (h1:i≤l.length) (hs:l.length≤700000) :
  Calls Tryz.prog 109 #[.string ⟨l.toArray⟩,.int .i64 i] w fun e w'=>Below w.heap.size w w'∧zR l i w.heap.size (nP (l.drop i) [] []) e w':=by
 generalize hR:nP (l.drop i) [] []=R
 have HR:=ab hR;clear hR;obtain⟨iu,hiu⟩:=info_parts qj;go_enter Tryz.func109,Tryz.ntmps109
 go_wp2
 go_loopw [1] (fun q wr=>RdRel l i R w q wr) (fun q _=>l.length-(intOf q).toNat)
 case atStart =>
  refine⟨i,[],[],by omega,by omega,rfl,?_,?_,by simp,by simp,ab gz,ab (fun f hf=>by simp at hf),HR⟩
  ·exact RS.start _ w (Ia _)
  ·(repeat (first|with_reducible exact Below.refl _ _|with_reducible assumption|(refine Below.setCell ?_ gQ _)|(refine Below.alloc ?_ gF _)|(refine Below.drew ?_)))
 case round =>
  obtain⟨j,tx,fs,hij,hjl,rfl,hrs,hb,htx,hfs,HTF,HLO,HF⟩:=hrel;clear HR;have hB:=hb.size;cases hd:l.drop j with
  | nil =>
   have h2:=lX hd;have HF':Hid (R=none):=ab ic;clear hd HF;go_wp2
   go_ret3
   exact⟨hb,by rw [HF'.out];rfl⟩
  | cons c r =>
   obtain⟨h2,h3,hr⟩:=kY hd;have HF':Hid (R=nP (c::r) tx fs):=ab (by rw [←hd];exact HF.out.symm);have Hr:=ab hr;have HD:=ab hd;clear hd HF hr;by_cases c47:c.toNat=47
   ·have HE:Hid (R=some (mB tx fs,c::r)):=ab (by rw [HF'.out,mL,Hu c47])
    have b47:((c.toNat:Int)==47)=true:= iU;clear HF' c47;go_wp2_with (go_at_call 118;refine(zM _ _ _ _ _ _ _ hrs (Below.refl _ _) hB gj gj).mono ?_;rintro e w1 ⟨rfl,hrs1,hb1,_⟩;obtain⟨oa,oc,k1,k2,k3,k4⟩:=hrs1.parts)
    go_ret3
    refine⟨hb.trans hb1,?_⟩;rw [HE.out];exact⟨oa,oc,j,rfl,SlS.ownB k3,hij,h2,HD.out,by have:=wF tx fs;have:=HTF.out;omega,AM HLO.out gj⟩
   ·have b47:((c.toNat:Int)==47)=false:= it
    by_cases c36:c.toNat=36
    ·have b36:((c.toNat:Int)==36)=true:= iU
     cases hP:ow r with
     | none =>
      have HP:Hid (ow (l.drop ((j:Int)+1).toNat)=none):=ab jF;have HE:Hid (R=nP r (tx++[c]) fs):=ab (by rw [HF'.out,mL,Hx c47,Hu c36,hP]);clear HF' c47 c36 hP;go_wp2_with (go_at_call 119;refine(E7 _ gj gj gj HP.out).mono ?_;rintro e w1 ⟨hb1,rfl⟩;have hrs0:=hrs.keep hb1;have hB1:w.heap.size≤w1.heap.size:=(by have:=hb1.size;omega);obtain⟨ta,tc,k1,k2,k3,k4⟩:=hrs0.texts)
      have k5:w.heap.size<w1.heap.size:=gj;have hB2:w.heap.size≤(w1.alloc (.cells #[.int .i64 0,.int .i64 0,.int .i64 0,.string ⟨#[]⟩,.string ⟨#[]⟩] 95)).heap.size:=by simp;omega
      have k1':(w1.alloc (.cells #[.int .i64 0,.int .i64 0,.int .i64 0,.string ⟨#[]⟩,.string ⟨#[]⟩] 95)).cell? ⟨w.heap.size+1,0,none⟩=some (.slice ta tx.length tc):=by rw [World.cell?_alloc_lt w1 _ _ k4];exact k1
      go_region_law (refine pm w.heap.size 5 (w:=(w1.alloc (.cells #[.int .i64 0,.int .i64 0,.int .i64 0,.string ⟨#[]⟩,.string ⟨#[]⟩] 95)).drew) rfl rfl _ _ 52 rfl Tryz.underlying52 hiu rfl gv rfl (k3.alloc (.cells #[.int .i64 0,.int .i64 0,.int .i64 0,.string ⟨#[]⟩,.string ⟨#[]⟩] 95)) rfl iz rfl gP gj gv hB2 ?_;intro v1 w2 hown1 hg1 _ _;obtain⟨a1,c1,rfl,d1,d2,hrs1,hbl1⟩:=RS.text_app (w:=(w1.alloc (.cells #[.int .i64 0,.int .i64 0,.int .i64 0,.string ⟨#[]⟩,.string ⟨#[]⟩] 95)).drew) (hrs0.keep ((Below.refl _ _).alloc (Ia _) _).drew) k1' hown1 hg1 hB2)
      all_goals
       go_wp2
       go_roundw
       case rel =>
        refine⟨j+1,tx++[c],fs,by omega,by omega,by go_num,hrs1,Below.trans (((hb.trans (hb1.mono hB)).alloc hB1 _).drew) hbl1,by simp;omega,by omega,ab jQ,HLO,ab ?_⟩;rw [Hr.out,←HE.out]
       case measure=>simp [intOf];omega
     | some p =>
      obtain⟨⟨fk,fn,fc,ft,fe⟩,r2⟩:=p;have HP:Hid (ow (l.drop ((j:Int)+1).toNat)=some (⟨fk,fn,fc,ft,fe⟩,r2)):=ab jF;have HE:Hid (R=nP r2 [] (mB tx fs++[⟨fk,fn,fc,ft,fe⟩])):=ab (by rw [HF'.out,mL,Hx c47,Hu c36,hP]);obtain⟨im,him⟩:=info_parts BW;have hfl:=wF tx fs;clear HF' c47 c36 hP;go_wp2_with (first
       | (go_at_call 119;refine(GF _ gj gj gj HP.out).mono ?_;rintro e w1 ⟨hb1,ht1,ht2,q,hq1,hq2,hq3,rfl⟩;have hrs0:=hrs.keep hb1;have hB1:w.heap.size≤w1.heap.size:=(by have:=hb1.size;omega);have HQ:=ab hq3;clear hq3)
       | (go_at_call 118;refine(zM w.heap.size _ _ tx fs w1 _ hrs0 ((Below.refl _ _).alloc (Ia _) _) gD gj gj).mono ?_;rintro e w2 ⟨rfl,hrs2,hb2,hst⟩;have hbx:=hst w1.heap.size (Ia _) gz;rw [heap_alloc_new] at hbx;have f0:=Ic hbx 0;have f1:=Ic hbx 1;have f2:=Ic hbx 2;have f3:=Ic hbx 3;have f4:=Ic hbx 4;simp only [List.getElem?_toArray,List.getElem?_cons_zero,List.getElem?_cons_succ] at f0 f1 f2 f3 f4;obtain⟨oa,oc,k1,k2,k3,k4⟩:=hrs2.parts;have hB2:w.heap.size≤w2.heap.size:=(by have:=hb2.size;simp at this;omega);have HST:=ab hst;have HBX:=ab hbx;clear hst hbx)
       | (at_builtin;refine l7 w.heap.size 95 rfl _ _ 39 rfl Tryz.underlying39 him rfl gv rfl k3 rfl iz rfl gP gj gv hB2 ?_;intro v1 w3 hown1 hg1 _ _;obtain⟨a1,c1,rfl,d1,d2,hrs3,hbl3⟩:=RS.part_app (f:=⟨fk,fn,fc,ft,fe⟩) hrs2 k1 hown1 hg1 hB2))
      go_roundw
      case rel =>
       refine⟨q,[],mB tx fs++[⟨fk,fn,fc,ft,fe⟩],by omega,hq2,rfl,hrs3,?_,by simp,by have:=HTF.out;simp;omega,ab jQ,ab ?_,ab ?_⟩
       ·exact(((hb.trans (hb1.mono hB)).alloc hB1 _).trans hb2).trans hbl3
       ·intro f hf
        rcases IB.1 hf with hf|hf
        ·exact AM HLO.out gj f hf
        ·simp at hf;subst hf;exact⟨ht1,ht2⟩
       ·rw [HQ.out,←HE.out]
      case measure=>simp [intOf];omega
    ·have b36:((c.toNat:Int)==36)=false:= it
     by_cases c92:c.toNat=92
     ·have b92:((c.toNat:Int)==92)=true:= iU
      obtain⟨ta,tc,k1,k2,k3,k4⟩:=hrs.texts;by_cases hst:qm r four=true
      ·have HE:Hid (R=nP (r.drop 1) (tx++r.take 1) fs):=ab (by rw [HF'.out,mL,Hx c47,Hx c36,Hu ⟨c92,hst⟩])
       cases r with
       | nil=>simp [qm] at hst
       | cons d r' =>
        obtain⟨m2,m3,mr⟩:=kY Hr.out;have m4:(j:Int)+1<l.length:=gj;have m5:0≤(j:Int)+1:=gj;have Hmr:=ab mr;have hst':qm (List.drop (j+1) l) [36,125,92,47]=true:=by rw [Hr.out];exact hst
        have HE':Hid (R=nP r' (tx++[d]) fs):=HE;clear HF' c47 c36 c92 hst HE mr;go_wp2_with (go_at_call 120;refine(rA _ _ _ _ gj gj gj gz).mono ?_;rintro e w1 ⟨rfl,rfl⟩)
        go_region_law (refine pm w.heap.size 5 (w:=wr.drew) rfl rfl _ _ 52 rfl Tryz.underlying52 hiu rfl gv rfl k3 rfl iz rfl gP gj gv hB ?_;intro v1 w2 hown1 hg1 _ _;obtain⟨a1,c1,rfl,d1,d2,hrs1,hbl1⟩:=RS.text_app (w:=wr.drew) hrs k1 hown1 hg1 hB)
        all_goals
         go_wp2
         go_roundw
         case rel =>
          refine⟨j+2,tx++[d],fs,by omega,by omega,by go_num,hrs1,hb.drew.trans hbl1,by simp;omega,by omega,ab jQ,HLO,ab ?_⟩;rw [Hmr.out,←HE'.out]
         case measure=>simp [intOf];omega
      ·have HE:Hid (R=nP r (tx++[c]) fs):=ab (by rw [HF'.out,mL,Hx c47,Hx c36,Hx (fun h=>hst h.2)])
       have hst':qm (List.drop (j+1) l) [36,125,92,47]=false:=by rw [Hr.out];simpa [four] using hst
       clear HF' c47 c36 c92 hst;go_wp2_with (go_at_call 120;refine(rA _ _ _ _ gj gj gj gz).mono ?_;rintro e w1 ⟨rfl,rfl⟩)
       exact bw
     ·have b92:((c.toNat:Int)==92)=false:= it
      have HE:Hid (R=nP r (tx++[c]) fs):=ab (by rw [HF'.out,mL,Hx c47,Hx c36,Hx (fun h=>c92 h.1)]);clear HF' c47 c36 c92;obtain⟨ta,tc,k1,k2,k3,k4⟩:=hrs.texts;go_wp2
      exact bw
def dec (n:Int):Str:=Lib.decDigits n.toNat
theorem rm {u:Nat} (h:u≤9999):1≤Lib.nDigits u∧Lib.nDigits u≤4:=by
 have h1:∀v,v<10→Lib.nDigits v=1:=fun v hv=>by rw [Lib.nDigits,dif_pos hv]
 have h2:∀v,¬v<10→Lib.nDigits v=Lib.nDigits (v / 10)+1:=fun v hv=>by rw [Lib.nDigits,dif_neg hv]
 by_cases a:u<10
 ·rw [h1 u a];omega
 ·rw [h2 u a]
  by_cases b:u / 10<10
  ·rw [h1 _ b];omega
  ·rw [h2 _ b]
   by_cases c:u / 10 / 10<10
   ·rw [h1 _ c];omega
   ·rw [h2 _ c,h1 _ gj];omega
theorem qL {n:Int} (h0:0≤n) (h:n≤9999):1≤(dec n).length∧(dec n).length≤4:=by
 unfold dec;rw [Lib.decDigits_length];exact rm gj
def quot (these:Str):Str→Str
 | []=>[]
 | c::r=>(if these.contains c=true then [92,c] else [c])++quot these r
theorem nj (these:Str):∀l:Str,(quot these l).length≤2*l.length
 | []=>by simp [quot]
 | c::r=>by
  have:=nj these r
  simp only [quot,Ig,H7];split<;>simp<;>omega
def ox (f:Fm):Str :=
 if f.kind=0 then quot four f.thn
 else if f.kind=1 then 36::123::(dec f.n++[125])
 else if f.kind=2 then 36::123::(dec f.n++58::47::(nh f.cse++[125]))
 else if f.kind=3 then 36::123::(dec f.n++58::43::(quot five f.thn++[125]))
 else if f.kind=4 then 36::123::(dec f.n++58::45::(quot five f.els++[125]))
 else 36::123::(dec f.n++58::63::(quot five f.thn++58::(quot five f.els++[125])))
def mt (fs:List Fm):Str:=fs.flatMap ox
theorem xi {v:Nat} (hv:v<10) (r:Str) {k m:Nat} (hk:k<4):mD (UInt8.ofNat (48+v)::r) k m=mD r (k+1) (10*m+v):=by
 have h:(UInt8.ofNat (48+v)).toNat=48+v:=by rw [UInt8.toNat_ofNat'];omega
 conv=>lhs;unfold mD
 rw [h,Hu gj,Hx gj];congr 2;omega
theorem An (u:Nat):∀(r:Str) (k m:Nat),k+Lib.nDigits u≤4→mD (Lib.decDigits u++r) k m=mD r (k+Lib.nDigits u) (m*10 ^ Lib.nDigits u+u):=by
 induction u using Nat.strongRecOn with
 | _ u ih =>
  intro r k m hk;by_cases a:u<10
  ·rw [Lib.decDigits,dif_pos a,Lib.nDigits,dif_pos a]
   rw [Lib.nDigits,dif_pos a] at hk;rw [IG,xi a r gj];congr 1;omega
  ·rw [Lib.decDigits,dif_neg a,Lib.nDigits,dif_neg a]
   rw [Lib.nDigits,dif_neg a] at hk;rw [II,ih (u / 10) gj _ k m gj,IG,xi gj r gj];congr 1
   rw [Nat.pow_succ,←Nat.mul_assoc,Nat.mul_add,IJ,show 10*(u / 10)+u % 10=u by omega,Nat.mul_comm]
theorem numR_dec {n:Int} (h0:0≤n) (h1:n≤9999) {d:UInt8} (hd:¬(48≤d.toNat∧d.toNat≤57)) (r:Str):nG (dec n++d::r)=some (n.toNat,d::r):=by
 obtain⟨h2,h3⟩:=rm (u:=n.toNat) gj;unfold nG dec;rw [An _ _ _ _ gj];unfold mD;rw [Hx hd,Hu gj];simp
theorem five_mem {c:UInt8}:five.contains c=true↔c.toNat=36∨c.toNat=125∨c.toNat=92∨c.toNat=47∨c.toNat=58:=by
 simp [five,←Ht]
theorem four_mem {c:UInt8}:four.contains c=true↔c.toNat=36∨c.toNat=125∨c.toNat=92∨c.toNat=47:=by
 simp [four,←Ht]
theorem pq {one:Int} (ho:one=125∨one=58) (d:UInt8) (hd:d.toNat=one.toNat):∀(t acc s:Str),ld one (quot five t++d::s) acc=some (acc++t,d::s)
 | [],acc,s=>by
  simp only [quot,Iz];cases s with
  | nil=>simp only [ld];rw [Hu hd];simp
  | cons x s=>simp only [ld];rw [Hu hd];simp
 | c::r,acc,s=>by
  have ih:=pq ho d hd r (acc++[c]) s;by_cases hc:five.contains c=true
  ·simp only [quot];rw [Hu hc]
   simp only [IA,Iz,ld];rw [Hx (by rcases ho with rfl|rfl<;>simp),Hu ⟨rfl,hc⟩,ih];simp
  ·have hn:=fun h=>hc (five_mem.2 h)
   simp only [quot];rw [Hx hc];simp only [IA,Iz];obtain⟨x,y,hxy⟩:∃x y,quot five r++d::s=x::y:=by
    cases h:quot five r++d::s with
    | nil=>simp at h
    | cons x y=>exact⟨x,y,rfl⟩
   rw [hxy] at ih ⊢;simp only [ld];rw [Hx (by intro h;apply hn;rcases ho with rfl|rfl<;>simp at h<;>omega),Hx (by intro h;apply hn;omega),ih];simp
theorem way_name {w:Int} (h:nh w≠[]):pW (nh w)=w∧w≠0∧∀c∈nh w,mo c=true:=by
 have hw:w=1∨w=2∨w=3∨w=4∨w=5:=by
  unfold nh at h;by_cases a:w=1
  ·exact .inl a
  by_cases b:w=2
  ·exact .inr (.inl b)
  by_cases c:w=3
  ·exact .inr (.inr (.inl c))
  by_cases d:w=4
  ·exact .inr (.inr (.inr (.inl d)))
  by_cases e:w=5
  ·exact .inr (.inr (.inr (.inr e)))
  rw [Hx a,Hx b,Hx c,Hx d,Hx e] at h;exact absurd rfl h
 rcases hw with rfl|rfl|rfl|rfl|rfl<;>decide +kernel
theorem C1 {l:Str} (h:∀c∈l,mo c=true) (r:Str):(l++125::r).takeWhile mo=l∧(l++125::r).dropWhile mo=125::r:=by
 induction l with
 | nil=>exact⟨rfl,rfl⟩
 | cons c l ih =>
  have hc:=h c (Ik ..);obtain⟨h1,h2⟩:=ih (fun d hd=>h d (Il _ hd));rw [IA,List.takeWhile_cons_of_pos hc,List.dropWhile_cons_of_pos hc,h1,h2];exact⟨rfl,rfl⟩
theorem E1 (f:Fm) (hm:mayF f=true) (hk:f.kind≠0) (s:Str):∃r,ox f++s=36::r∧ow r=some (f,s):=by
 obtain⟨kind,n,cse,thn,els⟩:=f;simp only at hk
 unfold mayF at hm;rw [Ie] at hm;obtain⟨hn,hm⟩:=hm;obtain⟨h0,h1⟩:0≤n∧n≤9999:=by simpa using hn
 have hnn:((n.toNat:Nat):Int)=n:=gj;have h123:∀r:Str,nG (123::r)=none:=fun r=>by unfold nG mD;rw [Hx gv,Hx gj]
 have hpart:∀(d:UInt8) (r:Str),¬(48≤d.toNat∧d.toNat≤57)→ow (123::(dec n++d::r))=sX n.toNat (d::r):=fun d r hd=>by
  unfold ow;rw [h123];simp only [AR];rw [Hu gv,numR_dec h0 h1 hd]
 simp only [Hx hk] at hm;by_cases k1:kind=1
 ·subst k1
  simp [my] at hm
  obtain⟨⟨rfl,rfl⟩,rfl⟩:=hm;refine⟨123::(dec n++125::s),by simp [ox],?_⟩;rw [hpart _ _ gv];simp [sX,hnn]
 by_cases k2:kind=2
 ·subst k2
  simp [my] at hm
  obtain⟨⟨rfl,rfl⟩,hc⟩:=hm;obtain⟨w1,w2,w3⟩:=way_name hc;obtain⟨s1,s2⟩:=C1 w3 s;refine⟨123::(dec n++58::47::(nh cse++125::s)),by simp [ox],?_⟩;rw [hpart _ _ gv];simp only [sX];rw [Hx gv,Hu gv];simp only [lU];rw [Hu gv,s1,s2,w1];simp [w2,hnn]
 by_cases k3:kind=3
 ·subst k3
  simp [my] at hm
  obtain⟨rfl,rfl⟩:=hm;refine⟨123::(dec n++58::43::(quot five thn++125::s)),by simp [ox],?_⟩;rw [hpart _ _ gv];simp only [sX];rw [Hx gv,Hu gv];simp only [lU];rw [Hx gv,Hu gv,pq (.inl rfl) 125 rfl];simp [hnn]
 by_cases k4:kind=4
 ·subst k4
  simp [my] at hm
  obtain⟨rfl,rfl⟩:=hm;refine⟨123::(dec n++58::45::(quot five els++125::s)),by simp [ox],?_⟩;rw [hpart _ _ gv];simp only [sX];rw [Hx gv,Hu gv];simp only [lU];rw [Hx gv,Hx gv,Hx gv,Hu gv,pq (.inl rfl) 125 rfl];simp [hnn]
 by_cases k5:kind=5
 ·subst k5
  simp [my] at hm
  subst hm;refine⟨123::(dec n++58::63::(quot five thn++58::(quot five els++125::s))),by simp [ox],?_⟩;rw [hpart _ _ gv];simp only [sX];rw [Hx gv,Hu gv];simp only [lU];rw [Hx gv,Hx gv,Hu gv,pq (.inr rfl) 58 rfl];simp only [Iz];rw [pq (.inl rfl) 125 rfl];simp [hnn]
 ·simp only [Hx k1,Hx k2,Hx k3,Hx k4,Hx k5] at hm;cases hm
theorem yX (s:Str) (fs:List Fm):∀(t tx:Str),nP (quot four t++s) tx fs=nP s (tx++t) fs
 | [],tx=>by simp [quot]
 | c::r,tx=>by
  have ih:=yX s fs r (tx++[c]);by_cases hc:four.contains c=true
  ·simp only [quot];rw [Hu hc]
   simp only [IA,Iz];rw [mL,Hx gv,Hx gv,Hu ⟨by decide,hc⟩];simp only [List.drop_one,List.tail_cons,List.take_one,List.head?_cons,Option.toList_some];rw [ih];simp
  ·have hn:=fun h=>hc (four_mem.2 h)
   simp only [quot];rw [Hx hc];simp only [IA,Iz];rw [mL,Hx (fun h=>hn gj),Hx (fun h=>hn gj),Hx (fun h=>hn gj),ih];simp
theorem vF (b:Str):∀(fs acc:List Fm) (pt:Bool) (tx:Str),mayL pt fs=true→(pt=false→tx=[])→nP (mt fs++47::b) tx acc=some (mB tx acc++fs,47::b)
 | [],acc,pt,tx,_,_=>by simp [mt,mL]
 | f::r,acc,pt,tx,hm,ht=>by
  simp only [mayL,Ie] at hm;obtain⟨⟨h1,h2⟩,h3⟩:=hm;have hs:mt (f::r)++47::b=ox f++(mt r++47::b):=by simp [mt]
  rw [hs];by_cases hk:f.kind=0
  ·have hpt:pt=false:=by simpa [hk] using h2
   have htx:=ht hpt;subst htx;obtain⟨kind,n,cse,thn,els⟩:=f;simp only at hk;subst hk
   unfold mayF at h1;rw [Ie] at h1;have h4:=h1.2;simp [my] at h4
   obtain⟨⟨⟨rfl,rfl⟩,rfl⟩,hthn⟩:=h4;have hp:ox ⟨0,0,0,thn,[]⟩=quot four thn:=by simp [ox]
   rw [hp,yX,Iz,vF b r acc true thn (by simpa using h3) gz];simp [mB,hthn]
  ·obtain⟨r',e1,e2⟩:=E1 f h1 hk (mt r++47::b)
   rw [e1,mL,Hx gv,Hu gv,e2];simp only [];rw [vF b r _ false [] (by simpa [hk] using h3) (fun _=>rfl)];simp [mB]
def Ha (fs:List Fm):Prop:=tO fs=true∧∀f,fs.getLast?=some f→f.kind≠0
theorem vQ:∀(fs:List Fm) (pt:Bool) (f:Fm),mayL pt fs=true→mayF f=true→(f.kind=0→(match fs.getLast? with|none=>pt=false|some g=>g.kind≠0))→mayL pt (fs++[f])=true
 | [],pt,f,_,hf,h=>by
  simp only [Iz,mayL,hf,Im,Ho];by_cases hk:f.kind=0
  ·have:=h hk;simp at this;simp [this]
  ·simp [hk]
 | g::r,pt,f,hm,hf,h=>by
  simp only [mayL,Ie] at hm;simp only [IA,mayL,Ie];refine⟨hm.1,vQ r _ f hm.2 hf (fun hk=>?_)⟩;have h1:=h hk;cases r with
  | nil=>simpa using h1
  | cons x r =>
   rw [List.getLast?_cons_cons] at h1;cases hl:(x::r).getLast? with
   | none=>simp at hl
   | some y=>rw [hl] at h1;exact h1
theorem FV:Ha []:=⟨rfl,by simp⟩
theorem vq {tx:Str} {fs:List Fm} (h:Ha fs):tO (mB tx fs)=true:=by
 unfold mB;split
 ·exact h.1
 ·rename_i ht
  refine vQ fs false _ h.1 (by simp [mayF,my,ht]) (fun _=>?_);cases hl:fs.getLast? with
  | none=>rfl
  | some g=>exact h.2 g hl
theorem DN {tx:Str} {fs:List Fm} {f:Fm} (h:Ha fs) (hf:mayF f=true) (hk:f.kind≠0):Ha (mB tx fs++[f]) :=
 ⟨vQ _ false f (vq h) hf (fun e=>absurd e hk),fun g hg=>by
  rw [List.getLast?_concat] at hg;injection hg with hg;subst hg;exact hk⟩
theorem CH:∀(r:Str) (k m:Nat) {n:Nat} {s:Str},mD r k m=some (n,s)→m<10 ^ k→k≤4→n≤9999
 | [],k,m,n,s,h,hm,hk=>by
  have h4:=H9 hm (Nat.pow_le_pow_right (show 10 > 0 by omega) hk);simp only [mD] at h;split at h
  ·injection h with h;injection h with h _;omega
  ·cases h
 | c::r,k,m,n,s,h,hm,hk=>by
  have h4:=H9 hm (Nat.pow_le_pow_right (show 10 > 0 by omega) hk);simp only [mD] at h;split at h
  ·split at h
   ·cases h
   ·exact CH r (k+1) _ h (by rw [Nat.pow_succ];omega) gj
  ·split at h
   ·injection h with h;injection h with h _;omega
   ·cases h
theorem yb {r:Str} {n:Nat} {s:Str} (h:nG r=some (n,s)):n≤9999:=CH r 0 0 h gj gj
theorem DX (s:Str) (h:pW s≠0):nh (pW s)≠[]:=by
 unfold pW at h ⊢
 (repeat' split)<;>first|decide +kernel|(exfalso;simp_all)
theorem Bp {r:Str} {n:Nat} (hn:n≤9999) {f:Fm} {s:Str} (h:lU r n=some (f,s)):mayF f=true∧f.kind≠0:=by
 have hn':((n:Nat):Int)≤9999:=gj;cases r with
 | nil=>cases h
 | cons c r =>
  simp only [lU] at h;split at h
  ·split at h
   ·cases h
   ·split at h
    ·cases h
    ·rename_i hw
     have h4:=DX _ hw;injection h with h;injection h with h _;subst h
     refine⟨?_,by simp⟩;simp [mayF,my,h4];omega
  ·split at h
   ·split at h
    ·exact bM
    ·cases h
   ·split at h
    ·split at h
     ·split at h
      ·exact bM
      ·cases h
     ·cases h
    ·split at h
     ·split at h
      ·exact bM
      ·cases h
     ·split at h
      ·exact bM
      ·cases h
theorem Ac {r:Str} {f:Fm} {s:Str} (h:ow r=some (f,s)):mayF f=true∧f.kind≠0:=by
 unfold ow at h;split at h
 ·rename_i p heq
  obtain⟨m,s'⟩:=p;have:=yb heq
  exact bM
 ·cases r with
  | nil=>cases h
  | cons c r =>
   simp only [AR] at h;split at h
   ·split at h
    ·cases h
    ·rename_i p heq
     obtain⟨m,s'⟩:=p;have h1:=yb heq;cases s' with
     | nil=>cases h
     | cons d r3 =>
      simp only [sX] at h;split at h
      ·exact bM
      ·split at h
       ·exact Bp h1 h
       ·cases h
   ·cases h
theorem qF:∀(k:Nat) (r tx:Str) (fs gs:List Fm) (s:Str),oO k r tx fs=some (gs,s)→Ha fs→tO gs=true∧∃b,s=47::b
 | 0,_,_,_,_,_,h,_=>by simp [oO] at h
 | _+1,[],_,_,_,_,h,_=>by simp [oO] at h
 | k+1,c::r,tx,fs,gs,s,h,ho=>by
  simp only [oO] at h;split at h
  ·rename_i hc
   injection h with h;injection h with h1 h2
   subst h1 h2;exact⟨vq ho,r,by rw [show c=47 from Ht.1 hc]⟩
  ·split at h
   ·split at h
    ·rename_i p heq
     obtain⟨h1,h2⟩:=Ac (f:=p.1) (s:=p.2) heq;exact qF k _ _ _ _ _ h (DN ho h1 h2)
    ·exact qF k _ _ _ _ _ h ho
   ·split at h
    ·exact qF k _ _ _ _ _ h ho
    ·exact qF k _ _ _ _ _ h ho
theorem EA {r:Str} {gs:List Fm} {s:Str} (h:nP r [] []=some (gs,s)):tO gs=true∧∃b,s=47::b:=qF _ _ _ _ _ _ h FV
theorem FI {th:Str} {c:UInt8} (h:th.contains c=true) (r:Str):nxtM th (92::c::r)=(c,r):=by
 simp only [nxtM];rw [Hu ⟨by decide,h⟩]
theorem Ag {th:Str} {c:UInt8} (h:c.toNat≠92) (r:Str):nxtM th (c::r)=(c,r):=by
 cases r with
 | nil=>rfl
 | cons d r=>simp only [nxtM];rw [Hx (fun e=>h e.1)]
theorem EZ (c:UInt8):three.contains c=true↔c.toNat=36∨c.toNat=125∨c.toNat=92:=by
 unfold three;simp only [List.contains_cons,List.contains_nil,Bool.or_false,H8,Hp];constructor
 ·rintro(h|h|h)<;>subst h<;>simp
 ·rintro(h|h|h)
  ·exact .inl (Ht.1 h)
  ·exact .inr (.inl (Ht.1 h))
  ·exact .inr (.inr (Ht.1 h))
theorem dol_no {c:UInt8} (h:c.toNat≠36) (r:Str):dolM lI c r=none:=by unfold dolM;rw [Hx h]
theorem wM (ins:Bool) (out:List Sn) (text:Str) {c:UInt8} {r:Str} (h1:¬(ins=true∧c.toNat=125)) (h2:dolM lI c r=none) :
  kP ins out text (c::r)=kP ins out (text++[(nxtM three (c::r)).1]) (nxtM three (c::r)).2:=by
 rw [lF,Hx h1,h2]
theorem ti (ins:Bool) (out:List Sn):∀(s text r:Str),kP ins out text (quot three s++r)=kP ins out (text++s) r
 | [],text,r=>by simp [quot]
 | c::s,text,r=>by
  cases hc:three.contains c with
  | true =>
   simp only [quot,hc,if_true,IA,Iz];rw [wM ins out text gz (dol_no gv _),FI hc];rw [ti ins out s,II];rfl
  | false =>
   have hn:¬(c.toNat=36∨c.toNat=125∨c.toNat=92):=fun h=>by rw [(EZ c).2 h] at hc;cases hc
   simp only [quot,hc,IF,if_false,IA,Iz];rw [wM ins out text gj (dol_no gj _),Ag gj];rw [ti ins out s,II];rfl
theorem Dx (ins:Bool) (out:List Sn) (text r:Str) {x:Sn} {r2:Str} (h:lI r=some (x,r2)):kP ins out text (36::r)=kP ins (lw out text++[x]) [] r2:=by
 have h2:dolM lI 36 r=some (x,r2):=by unfold dolM;rw [Hu gv,h]
 rw [lF,Hx gz,h2]
theorem AZ (out:List Sn) (text r:Str):kP true out text (125::r)=(lw out text,125::r):=by
 rw [lF,Hu ⟨rfl,by decide⟩]
theorem num_dec {n:Nat} (h:n≤9999) {r:Str} (hr:∀c t,r=c::t→¬(48≤c.toNat∧c.toNat≤57)):nG (Lib.decDigits n++r)=some (n,r):=by
 obtain⟨hp,hd⟩:=rm (u:=n) gj;unfold nG;rw [An n r 0 0 gj];cases r with
 | nil=>simp only [mD];rw [Hu gj];simp
 | cons c t=>simp only [mD];rw [Hx (hr c t rfl),Hu gj];simp
theorem CT {n:Nat} (h:n≤9999) {r:Str} (hr:∀c t,r=c::t→¬(48≤c.toNat∧c.toNat≤57)):ni (Lib.decDigits n++r)=some (mT n,r):=by
 unfold ni;rw [num_dec h hr]
theorem rR (r:Str):lI (123::r)=match ni r with|none=>none|some (x,r2)=>lc (kP true [] []) x r2:=by
 rw [oD];simp only [oq];rw [Hu gv];cases ni r<;>rfl
theorem DH {c:UInt8} (h:c.toNat≠123) (r:Str):lI (c::r)=ni (c::r):=by
 rw [oD];simp only [oq];rw [Hx h]
theorem GP:lI []=none:=rfl
theorem tA (x:Sn) (r:Str):lc (kP true [] []) x (125::r)=some (x,r):=by
 simp only [lc];rw [Hu gv]
theorem zK (x:Sn) {r r2:Str} {ks:List Sn} (h:kP true [] [] r=(ks,125::r2)):lc (kP true [] []) x (58::r)=some (x.give ks,r2):=by
 simp only [lc];rw [Hx gv,Hu gv,h]
abbrev digU8 (c:UInt8):Prop:=48≤c.toNat∧c.toNat≤57
theorem numR_no {r:Str} (hr:∀c t,r=c::t→¬digU8 c):nG r=none:=by
 unfold nG;cases r with
 | nil=>simp [mD]
 | cons c t=>unfold mD;rw [Hx (hr c t rfl),Hx gj]
theorem tw_name {s r:Str} (h:∀c∈s,mW c=true) (hr:∀c t,r=c::t→mW c=false):(s++r).takeWhile mW=s∧(s++r).dropWhile mW=r:=by
 induction s with
 | nil =>
  cases r with
  | nil=>exact⟨rfl,rfl⟩
  | cons c t=>have:=hr c t rfl;simp [this]
 | cons c s ih =>
  obtain⟨i1,i2⟩:=ih (fun c hc=>h c (Il _ hc));have hc:=h c (Ik ..);rw [IA,List.takeWhile_cons_of_pos hc,List.dropWhile_cons_of_pos hc,i1,i2];exact⟨rfl,rfl⟩
theorem Gy {c:UInt8} {s r:Str} (h:∀c'∈c::s,mW c'=true) (hc:¬digU8 c) (hr:∀c t,r=c::t→mW c=false):ni (c::s++r)=if od (c::s)=true then some (varS (c::s),r) else none:=by
 obtain⟨t1,t2⟩:=tw_name h hr;unfold ni;rw [numR_no (r:=c::s++r) (by rintro _ _ e;injection e with e _;subst e;exact hc)];simp only
 unfold sQ;rw [t1,t2]
theorem mR (c:UInt8) (r:Str) (o:List Str) (t:Str):optL (c::r) o t=if c.toNat=124 then(o++[t],c::r) else if c.toNat=44 then optL r (o++[t]) [] else optL (nxtM fiveS (c::r)).2 o (t++[(nxtM fiveS (c::r)).1]):=by
 cases r with
 | nil =>
  simp only [optL,nxtM]
 | cons d r =>
  simp only [optL,nxtM];split
  ·rfl
  ·split
   ·rfl
   ·split<;>rfl
theorem EE (c:UInt8):fiveS.contains c=true↔c.toNat=36∨c.toNat=125∨c.toNat=92∨c.toNat=44∨c.toNat=124:=by
 simp [fiveS,←Ht]
theorem sI:∀(s r:Str) (o:List Str) (t:Str),optL (quot fiveS s++r) o t=optL r o (t++s)
 | [],r,o,t=>by simp [quot]
 | c::s,r,o,t=>by
  cases hc:fiveS.contains c with
  | true =>
   simp only [quot,hc,if_true,IA,Iz];rw [mR,Hx gv,Hx gv,FI hc,sI s,II];rfl
  | false =>
   have hn:¬(c.toNat=36∨c.toNat=125∨c.toNat=92∨c.toNat=44∨c.toNat=124):=fun h=>by rw [(EE c).2 h] at hc;cases hc
   simp only [quot,hc,IF,if_false,IA,Iz];rw [mR,Hx gj,Hx gj,Ag gj,sI s,II];rfl
def oZ:List Str→Str
 | []=>[]
 | [a]=>quot fiveS a
 | a::b::l=>quot fiveS a++44::oZ (b::l)
theorem optL_end {r:Str} (hr:r=[]∨∃t,r=124::t) (o:List Str) (t:Str):optL r o t=(o++[t],r):=by
 rcases hr with rfl|⟨t',rfl⟩
 ·rfl
 ·rw [mR,Hu gv]
theorem zY:∀(l:List Str) (a r:Str) (o:List Str),(r=[]∨∃t,r=124::t)→optL (oZ (a::l)++r) o []=(o++a::l,r)
 | [],a,r,o,hr=>by
  simp only [oZ];rw [sI,Iz,optL_end hr]
 | b::l,a,r,o,hr=>by
  simp only [oZ];rw [II,sI,Iz,IA,mR,Hx gv,Hu gv,zY l b r _ hr,II];rfl
theorem opts_yes (x:Sn) (a:Str) (l:List Str) (r:Str):qM x (oZ (a::l)++124::125::r)=some (x.choose (a::l),r):=by
 unfold qM;rw [zY l a (124::125::r) [] (.inr ⟨_,rfl⟩)];simp
theorem BC {n:Nat} (h:n≤9999) (a:Str) (l:List Str) (r:Str):lI (123::(Lib.decDigits n++124::(oZ (a::l)++124::125::r)))=some ((mT n).choose (a::l),r):=by
 rw [rR,CT h (by rintro c t e;injection e with e _;subst e;decide)];simp only [lc];rw [Hx gv,Hx gv,Hu ⟨by decide,rfl⟩,opts_yes]
end Go.Proofs.YtdcnncgpomcaaaaGreatDoor
