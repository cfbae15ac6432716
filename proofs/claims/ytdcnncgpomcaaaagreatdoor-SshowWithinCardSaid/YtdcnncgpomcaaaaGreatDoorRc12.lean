/- walk of fmts.part -/
import Derived.Test.YtdcnncgpomcaaaaGreatDoorRc11
import Derived.Test.YtdcnncgpomcaaaaGreatDoorRc4
import Derived.Lib.ItoaMem
set_option maxRecDepth 100000
set_option maxHeartbeats 4000000
namespace Go.Proofs.YtdcnncgpomcaaaaGreatDoor
open Go.RowKit
theorem uv {l r:Str} {i:Int} {n:Nat} (w:World) (h0:0≤i) (h1:i≤1000000) (hs:l.length≤1000000) (hN:oC (l.drop i.toNat)=some (n,r)) :
  Calls Tryz.prog 124 #[.string ⟨l.toArray⟩,.int .i64 i] w fun e w'=>w=w'∧n<10000∧∃j:Nat,i<j∧j≤l.length∧l.drop j=r∧e=.returned (.tuple #[.int .i64 n,.int .i64 j,.bool true]):=by
 exact dU
theorem pQ {l:Str} {i:Int} (w:World) (h0:0≤i) (h1:i≤1000000) (hs:l.length≤1000000) (hN:oC (l.drop i.toNat)=none) :
  Calls Tryz.prog 124 #[.string ⟨l.toArray⟩,.int .i64 i] w fun e w'=>w=w'∧e=.returned (.tuple #[.int .i64 0,.int .i64 i,.bool false]):=by
 exact dU
theorem CR {l r:Str} {i n:Nat} {f:Fm} (w:World) (h1:i≤900000) (hs:l.length≤900000) (hB:mo (l.drop i) n=some (f,r)) :
  Calls Tryz.prog 126 #[.string ⟨l.toArray⟩,.int .i64 i,.int .i64 n] w fun e w'=>Below w.heap.size w w'∧f.thn.length≤l.length∧f.els.length≤l.length∧∃j:Nat,i<j∧j≤l.length∧l.drop j=r∧e=.returned (.tuple #[.agg #[.int .i64 (f).kind,.int .i64 (f).n,.int .i64 (f).cse,.string ⟨((f).thn).toArray⟩,.string ⟨((f).els).toArray⟩],.int .i64 j,.bool true]):=by
 exact ex
theorem B4 {l:Str} {i n:Nat} (w:World) (h1:i≤900000) (hs:l.length≤900000) (hB:mo (l.drop i) n=none) :
  Calls Tryz.prog 126 #[.string ⟨l.toArray⟩,.int .i64 i,.int .i64 n] w fun e w'=>Below w.heap.size w w'∧e=.returned (.tuple #[.agg #[.int .i64 0,.int .i64 0,.int .i64 0,.string ⟨#[]⟩,.string ⟨#[]⟩],.int .i64 0,.bool false]):=by
 exact ex
theorem Ed (l:Str) (i:Nat) (w:World) (h1:i≤800000) (hs:l.length≤800000) :
  Calls Tryz.prog 119 #[.string ⟨l.toArray⟩,.int .i64 i] w fun e w'=>Below w.heap.size w w'∧DP l i (o6 (l.drop i)) e:=by
 generalize hR:o6 (l.drop i)=R
 have HR:=ab hR;clear hR;cases hN:oC (l.drop i) with
 | some p =>
  obtain⟨n,r⟩:=p;have HN:Hid (oC (l.drop (i:Int).toNat)=some (n,r)):=ab (by rw [Int.toNat_natCast];exact hN);have HE:Hid (R=some (⟨1,n,0,[],[]⟩,r)):=ab (by rw [←HR.out];simp [o6,hN]);clear hN HR;go_enter Tryz.func119,Tryz.ntmps119
  go_wp2_with (go_at_call 124;refine(uv _ gN gN gN HN.out).mono ?_;rintro e w1 ⟨rfl,hn,j,hj1,hj2,hj3,rfl⟩;have HJ:=ab hj3;clear hj3)
  refine JM (v:=.tuple #[.agg #[.int .i64 1,.int .i64 n,.int .i64 0,.string ⟨[].toArray⟩,.string ⟨[].toArray⟩],.int .i64 j,.bool true]) jZ rfl ⟨?_,?_⟩
  ·(repeat (first|with_reducible exact Below.refl _ _|with_reducible assumption|(refine Below.setCell ?_ ij _)|(refine Below.alloc ?_ gX _)|(refine Below.drew ?_)))
  ·rw [HE.out];exact⟨by simp,by simp,j,by omega,hj2,HJ.out,by simp⟩
 | none =>
  have HN:Hid (oC (l.drop (i:Int).toNat)=none):=ab (by rw [Int.toNat_natCast];exact hN);have HP:Hid (R=Cq (l.drop i)):=ab (by
   rw [←HR.out];simp [o6,hN])
  clear hN HR;cases hd:l.drop i with
  | nil =>
   have h2:=ms hd;have HE:Hid (R=none):=ab (by rw [HP.out,hd];rfl);have e1:List.isPrefixOf [123] (List.drop i l)=false:=by rw [hd];rfl
   clear hd HP;exact fF
  | cons c r1 =>
   obtain⟨h2,h3,hr⟩:=lG hd;have Hr:=ab hr;clear hr h3;by_cases hc:c.toNat=123
   ·have HP1:Hid (R=match oC r1 with|none=>none|some p=>uf p.1 p.2):=ab (by rw [HP.out,hd];exact Jl hc)
    have e1:List.isPrefixOf [123] (List.drop i l)=true:=by rw [hd,pre1];simp;omega
    clear hc hd HP;cases hM:oC r1 with
    | none =>
     have HM:Hid (oC (l.drop ((i:Int)+1).toNat)=none):=ab jW;have HE:Hid (R=none):=ab (by rw [HP1.out,hM]);clear hM HP1;go_enter Tryz.func119,Tryz.ntmps119
     go_wp2_with (go_at_call 124;refine(pQ _ gN gN gN HN.out).mono ?_)
     rintro e w1 ⟨rfl,rfl⟩;go_wp2_with (first|(go_at_call 125;refine(nE _ _ _ _ gN gN gU).mono ?_;rintro e w1 ⟨rfl,rfl⟩)|(go_at_call 124;refine(pQ _ gN gN gN HM.out).mono ?_;rintro e w1 ⟨rfl,rfl⟩))
     exact aK
    | some p =>
     obtain⟨n,r2⟩:=p;have HM:Hid (oC (l.drop ((i:Int)+1).toNat)=some (n,r2)):=ab jW;have HP2:Hid (R=uf n r2):=ab (by rw [HP1.out,hM]);clear hM HP1;go_enter Tryz.func119,Tryz.ntmps119
     go_wp2_with (go_at_call 124;refine(pQ _ gN gN gN HN.out).mono ?_)
     rintro e w1 ⟨rfl,rfl⟩;go_wp2_with (first|(go_at_call 125;refine(nE _ _ _ _ gN gN gU).mono ?_;rintro e w1 ⟨rfl,rfl⟩)|(go_at_call 124;refine(uv _ gN gN gN HM.out).mono ?_))
     rintro e w1 ⟨rfl,hn,j,hj1,hj2,hj3,rfl⟩;cases r2 with
     | nil =>
      have HE:Hid (R=none):=HP2;have e2:List.isPrefixOf [125] (List.drop j l)=false:=by rw [hj3];rfl
      have e3:List.isPrefixOf [58] (List.drop j l)=false:=by rw [hj3];rfl
      clear hj3;exact gp
     | cons d r3 =>
      have HJ:=ab (lG hj3).2.2;have hjl:=(lG hj3).1;by_cases hd1:d.toNat=125
      ·have HE:Hid (R=some (⟨1,n,0,[],[]⟩,r3)):=ab (by rw [HP2.out];exact Jl hd1)
       have e2:List.isPrefixOf [125] (List.drop j l)=true:=by rw [hj3,pre1];simp;omega
       clear hj3 hd1;go_wp2_with (go_at_call 125;refine(nE _ _ _ _ gN gN gU).mono ?_;rintro e w1 ⟨rfl,rfl⟩)
       refine JM (v:=.tuple #[.agg #[.int .i64 1,.int .i64 n,.int .i64 0,.string ⟨[].toArray⟩,.string ⟨[].toArray⟩],.int .i64 (j+1),.bool true]) jZ rfl ⟨?_,?_⟩
       ·(repeat (first|with_reducible exact Below.refl _ _|with_reducible assumption|(refine Below.setCell ?_ ij _)|(refine Below.alloc ?_ gX _)|(refine Below.drew ?_)))
       ·rw [HE.out];exact⟨by simp,by simp,j+1,by omega,by omega,HJ.out,by simp⟩
      ·have e2:List.isPrefixOf [125] (List.drop j l)=false:=by rw [hj3,pre1];simp;omega
       by_cases hd2:d.toNat=58
       ·have HP3:Hid (R=mo r3 n):=ab (by rw [HP2.out];exact(Jo hd1).trans (Jl hd2))
        have e3:List.isPrefixOf [58] (List.drop j l)=true:=by rw [hj3,pre1];simp;omega
        clear hj3 hd1 hd2;cases hB:mo r3 n with
        | none =>
         have HE:Hid (R=none):=ab (by rw [HP3.out,hB]);have HB:Hid (mo (l.drop (j+1)) n=none):=ab (by rw [HJ.out];exact hB);clear hB;have ej:((j:Int)+1)=((j+1:Nat):Int):=gN;have EJ:=ab ej;clear ej;go_wp2_with (first|(go_at_call 125;refine(nE _ _ _ _ gN gN gU).mono ?_;rintro e w1 ⟨rfl,rfl⟩)|(go_at_call 126;rw [EJ.out];refine(B4 _ gN gN HB.out).mono ?_;rintro e w1 ⟨hb1,rfl⟩;obtain⟨hc1,hf1⟩:=ub hb1;have z0:w1.cell? ⟨w.heap.size,0,none⟩=some (.int .i64 0):= gO;have z1:w1.cell? ⟨w.heap.size,1,none⟩=some (.int .i64 0):= gO;have z2:w1.cell? ⟨w.heap.size,2,none⟩=some (.int .i64 0):= gO;have z3:w1.cell? ⟨w.heap.size,3,none⟩=some (.string ⟨#[]⟩):= gO;have z4:w1.cell? ⟨w.heap.size,4,none⟩=some (.string ⟨#[]⟩):= gO;have hbw:Below w.heap.size w w1:=((Below.refl w.heap.size w).alloc (Ju _) _).trans (hb1.mono gU)))
         refine JM (v:=.tuple #[.agg #[.int .i64 0,.int .i64 0,.int .i64 0,.string ⟨#[]⟩,.string ⟨#[]⟩],.int .i64 0,.bool false]) ke rfl ⟨?_,by rw [HE.out];rfl⟩
         (repeat (first|with_reducible exact Below.refl _ _|with_reducible assumption|(refine Below.setCell ?_ ij _)|(refine Below.alloc ?_ gX _)|(refine Below.drew ?_)))
        | some q =>
         obtain⟨⟨fk,fn,fc,ft,fe⟩,r4⟩:=q;have HE:Hid (R=some (⟨fk,fn,fc,ft,fe⟩,r4)):=ab (by rw [HP3.out,hB]);have HB:Hid (mo (l.drop (j+1)) n=some (⟨fk,fn,fc,ft,fe⟩,r4)):=ab (by rw [HJ.out];exact hB);clear hB;have ej:((j:Int)+1)=((j+1:Nat):Int):=gN;have EJ:=ab ej;clear ej;go_wp2_with (first|(go_at_call 125;refine(nE _ _ _ _ gN gN gU).mono ?_;rintro e w1 ⟨rfl,rfl⟩)|(go_at_call 126;rw [EJ.out];refine(CR _ gN gN HB.out).mono ?_;rintro e w1 ⟨hb1,ht1,ht2,k,hk1,hk2,hk3,rfl⟩;obtain⟨hc1,hf1⟩:=ub hb1;have z0:w1.cell? ⟨w.heap.size,0,none⟩=some (.int .i64 0):= gO;have z1:w1.cell? ⟨w.heap.size,1,none⟩=some (.int .i64 0):= gO;have z2:w1.cell? ⟨w.heap.size,2,none⟩=some (.int .i64 0):= gO;have z3:w1.cell? ⟨w.heap.size,3,none⟩=some (.string ⟨#[]⟩):= gO;have z4:w1.cell? ⟨w.heap.size,4,none⟩=some (.string ⟨#[]⟩):= gO;have hbw:Below w.heap.size w w1:=((Below.refl w.heap.size w).alloc (Ju _) _).trans (hb1.mono gU);have HK3:=ab hk3;clear hk3))
         refine JM (v:=.tuple #[.agg #[.int .i64 fk,.int .i64 fn,.int .i64 fc,.string ⟨ft.toArray⟩,.string ⟨fe.toArray⟩],.int .i64 k,.bool true]) ke rfl ⟨?_,?_⟩
         ·(repeat (first|with_reducible exact Below.refl _ _|with_reducible assumption|(refine Below.setCell ?_ ij _)|(refine Below.alloc ?_ gX _)|(refine Below.drew ?_)))
         ·rw [HE.out];exact⟨ht1,ht2,k,by omega,hk2,HK3.out,by simp⟩
       ·have HE:Hid (R=none):=ab (by rw [HP2.out];exact(Jo hd1).trans (Jo hd2))
        have e3:List.isPrefixOf [58] (List.drop j l)=false:=by rw [hj3,pre1];simp;omega
        clear hj3 hd1 hd2;exact gp
   ·have HE:Hid (R=none):=ab (by rw [HP.out,hd];exact Jo hc)
    have e1:List.isPrefixOf [123] (List.drop i l)=false:=by rw [hd,pre1];simp;omega
    clear hc hd HP;exact fF
theorem nL {w:World} {B:Nat} {e t:TypeId} {sz n:Nat} {v:Value} {xs:List Value} {k:Nat} {cs:Array Value} {m:Nat × Nat} (h:w.ownsRow B e sz v n xs) (hk:w.heap[k]?=some (.cells cs t m)) (hne:t≠e):v.ownBlock≠some k:=fun he=>by
 have:=(qq h he).2
 simp [yS,hk] at this;exact hne this
theorem sU {w:World} {B B':Nat} {e e':TypeId} {sz sz' n n':Nat} {v v':Value} {xs xs':List Value} (h:w.ownsRow B e sz v n xs) (h':w.ownsRow B' e' sz' v' n' xs') (hne:e≠e'):v.ownBlock=none∨v.ownBlock≠v'.ownBlock:=by
 cases hv:v.ownBlock with
 | none=>exact .inl rfl
 | some g =>
  refine .inr fun he=>?_
  have h1:=(qq h hv).2;have h2:=(qq h' he.symm).2;rw [h1] at h2;injection h2 with h2;exact hne h2
theorem sH {w:World} {B:Nat} {e:TypeId} {sz n:Nat} {v:Value} {xs:List Value} (h:w.ownsRow B e sz v n xs) {p:Addr} (hp:v.ownBlock≠some p.block) (u:Value):(w.setCell p u).ownsRow B e sz v n xs :=
 h.kept (row:=some p.block) ⟨rfl,rfl,rfl,by simp [World.setCell],fun k _ hk=>Below.heap_setCell _ _ _ _ (fun e=>hk (by rw [e]))⟩ (.inr hp)
theorem pC {w:World} {g:Nat} {v u:Value} {t:TypeId} (h:w.heap[g]?=some (.cells #[v] t (0,0))):(w.setCell ⟨g,0,none⟩ u).heap[g]?=some (.cells #[u] t (0,0)):=by
 simp [World.setCell,Array.getElem?_modify,h]
theorem rJ {w:World} {g:Nat} {p:Addr} {u:Value} {o:Obj} (h:w.heap[g]?=some o) (hp:p.block≠g):(w.setCell p u).heap[g]?=some o:=by
 rw [Below.heap_setCell _ _ _ _ (fun e=>hp e.symm)];exact h
theorem Cv:(Tryz.prog.info? 95).map (fun i=>(i.zero,i.size,i.bytes))=some (some (.agg #[.int .i64 0,.int .i64 0,.int .i64 0,.string ⟨#[]⟩,.string ⟨#[]⟩]),5,56):=by kernel_rfl
def RS (B bt bo:Nat) (tx:Str) (fs:List Fm) (w:World):Prop :=
 ∃tv ov,w.heap[bt]?=some (.cells #[tv] 52 (0,0))∧w.heap[bo]?=some (.cells #[ov] 39 (0,0))∧B≤bt∧B≤bo∧w.ownsRow B 5 1 tv tx.length (mt tx)∧w.ownsRow B 95 5 ov fs.length (mu fs)
theorem vQ (fs:List Fm) (f:Fm):mu (fs++[f])=mu fs++f.cells:=by simp [mu]
theorem rZ {w w':World} {B:Nat} {e:TypeId} {sz n:Nat} {v:Value} {xs:List Value} (h:w.ownsRow B e sz v n xs) (hb:Below w.heap.size w w'):w'.ownsRow B e sz v n xs:=by
 refine⟨h.1,?_⟩;rcases h.2 with h5|⟨g',cap,cur,hv,hB,hg,r⟩
 ·exact .inl h5
 ·exact .inr ⟨g',cap,cur,hv,hB,(hb.block g' (kT hg)).trans hg,r⟩
theorem RS.keep {B bt bo:Nat} {tx:Str} {fs:List Fm} {w w':World} (h:RS B bt bo tx fs w) (hb:Below w.heap.size w w'):RS B bt bo tx fs w':=by
 obtain⟨tv,ov,h1,h2,h3,h4,h5,h6⟩:=h;exact⟨tv,ov,(hb.block _ (kT h1)).trans h1,(hb.block _ (kT h2)).trans h2,h3,h4,rZ h5 hb,rZ h6 hb⟩
theorem A8 (B bt bo:Nat) (tx:Str) (fs:List Fm) (w0 w:World) (h:RS B bt bo tx fs w0) (hw:Below w0.heap.size w0 w) (hB:B≤w.heap.size) (htx:tx.length≤1000000) (hfs:fs.length≤1000000) :
  Calls Tryz.prog 118 #[.pointer (some ⟨bt,0,none⟩),.pointer (some ⟨bo,0,none⟩)] w fun e w'=>e=.returned (.tuple #[])∧RS B bt bo [] (m9 tx fs) w'∧Below B w w'∧∀k,w0.heap.size≤k→k<w.heap.size→w'.heap[k]?=w.heap[k]?:=by
 obtain⟨tv,ov,h1,h2,hbt,hbo,ht,ho⟩:=h;have hlt1:=kT h1;have hlt2:=kT h2;have hrow:∀g,ov.ownBlock=some g→g<w0.heap.size:=fun g hg=>(ho.lt g hg).2
 replace h1:=(hw.block _ hlt1).trans h1;replace h2:=(hw.block _ hlt2).trans h2;replace ht:=rZ ht hw;replace ho:=rZ ho hw;have HROW:=ab hrow;clear hrow;obtain⟨ta,tc,rfl⟩:=lD ht;obtain⟨oa,oc,rfl⟩:=lD ho;have c1:w.cell? ⟨bt,0,none⟩=some (.slice ta tx.length tc):=by rw [Jw h1];rfl
 have c2:w.cell? ⟨bo,0,none⟩=some (.slice oa fs.length oc):=by rw [Jw h2];rfl
 have f1:w.frozen? ⟨bt,0,none⟩=false:=Lib.frozen_of_heap h1 0;have hne:bt≠bo:=fun e=>by subst e;rw [h1] at h2;simp at h2
 have H1:=ab h1;have H2:=ab h2;have HNE:=ab hne;clear h1 h2 hne;by_cases h0:tx=[]
 ·subst h0
  simp only [J0] at ht c1;go_enter Tryz.func118,Tryz.ntmps118
  go_wp2
  go_end0
  refine⟨rfl,⟨_,_,H1.out,H2.out,hbt,hbo,ht,ho⟩,Below.refl _ _,fun _ _ _=>rfl⟩
 ·have hl:0<tx.length:=List.length_pos_iff.2 h0
  have hcv:=oN (P:=Tryz.prog) (src:=52) (dst:=9) Tryz.underlying52 Tryz.underlying5 Tryz.underlying9 ht;obtain⟨iu,hiu⟩:=info_parts Cv;have H0:=ab h0;clear h0;go_enter Tryz.func118,Tryz.ntmps118
  go_wp2_with (at_builtin;refine mA B 95 rfl _ _ 39 rfl Tryz.underlying39 hiu rfl gR rfl ho rfl iV rfl ii gN gR hB ?_)
  intro v' w1 ho1 hg1 hb1 _;have g1:w1.heap[bt]?=some (.cells #[.slice ta tx.length tc] 52 (0,0)):=(hg1.block bt (kT H1.out) (fun e=>nL ho H1.out gR e.symm)).trans H1.out;have g2:w1.heap[bo]?=some (.cells #[.slice oa fs.length oc] 39 (0,0)):=(hg1.block bo (kT H2.out) (fun e=>nL ho H2.out gR e.symm)).trans H2.out;obtain⟨va,vc,rfl⟩:=lD ho1;have d1:w1.cell? ⟨bt,0,none⟩=some (.slice ta tx.length tc):=by rw [Jw g1];rfl
  have d2:w1.cell? ⟨bo,0,none⟩=some (.slice oa fs.length oc):=by rw [Jw g2];rfl
  have d3:w1.frozen? ⟨bt,0,none⟩=false:=Lib.frozen_of_heap g1 0;have d4:w1.frozen? ⟨bo,0,none⟩=false:=Lib.frozen_of_heap g2 0;have hR:RS B bt bo [] (m9 tx fs) ((w1.setCell ⟨bo,0,none⟩ (.slice va (fs.length+1) vc)).setCell ⟨bt,0,none⟩ (.slice none 0 0)):=by
   have hz:m9 tx fs=fs++[⟨0,0,0,tx,[]⟩]:=Jo H0.out;refine⟨.slice none 0 0,.slice va (fs.length+1) vc,pC (rJ g1 (fun e=>HNE.out e.symm)),rJ (pC g2) HNE.out,hbt,hbo,World.ownsRow_nil _ _ _ _,?_⟩;rw [hz,vQ,JA];exact sH (sH (by simpa [Fm.cells] using ho1) (nL ho1 g2 gR) _) (nL (sH ho1 (nL ho1 g2 gR) (.slice va (fs.length+1) vc)) (rJ (p:=⟨bo,0,none⟩) (u:=.slice va (fs.length+1) vc) g1 (fun e=>HNE.out e.symm)) gR) _
  have hbl:Below B w ((w1.setCell ⟨bo,0,none⟩ (.slice va (fs.length+1) vc)).setCell ⟨bt,0,none⟩ (.slice none 0 0)):=(hb1.setCell (p:=⟨bo,0,none⟩) hbo _).setCell (p:=⟨bt,0,none⟩) hbt _;have hst:∀k,w0.heap.size≤k→k<w.heap.size→((w1.setCell ⟨bo,0,none⟩ (.slice va (fs.length+1) vc)).setCell ⟨bt,0,none⟩ (.slice none 0 0)).heap[k]?=w.heap[k]?:=fun k hk1 hk2=>by
   rw [Below.heap_setCell _ _ _ _ (by show k≠bt;omega),Below.heap_setCell _ _ _ _ (by show k≠bo;omega)];exact hg1.block k hk2 (fun e=>by have:=HROW.out k e.symm;omega)
  have HST:=ab hst;have HRR:=ab hR;have HBL:=ab hbl;have hbb:((bo==bt)=false):=by rw [JP];exact fun e=>HNE.out e.symm
  have hne1:¬bo=bt:=fun e=>HNE.out e.symm
  have hne2:¬bt=bo:=HNE.out;clear hR hbl g1 g2 hst;go_wp2
  go_end0
  exact⟨rfl,HRR.out,HBL.out,HST.out⟩
theorem H8 {l r:Str} {i:Int} {f:Fm} (w:World) (h0:0≤i) (h1:i≤800000) (hs:l.length≤800000) (hP:o6 (l.drop i.toNat)=some (f,r)) :
  Calls Tryz.prog 119 #[.string ⟨l.toArray⟩,.int .i64 i] w fun e w'=>Below w.heap.size w w'∧f.thn.length≤l.length∧f.els.length≤l.length∧∃j:Nat,i<j∧j≤l.length∧l.drop j=r∧e=.returned (.tuple #[.agg #[.int .i64 (f).kind,.int .i64 (f).n,.int .i64 (f).cse,.string ⟨((f).thn).toArray⟩,.string ⟨((f).els).toArray⟩],.int .i64 j,.bool true]):=by
 obtain⟨i,rfl⟩:=Int.eq_ofNat_of_zero_le h0;refine(Ed l i w gN hs).mono ?_
 rintro e w1 ⟨hb,hp⟩;rw [Int.toNat_natCast] at hP;rw [hP] at hp;obtain⟨a,b,j,c,d⟩:=hp;exact⟨hb,a,b,j,by omega,d⟩
theorem I2 {l:Str} {i:Int} (w:World) (h0:0≤i) (h1:i≤800000) (hs:l.length≤800000) (hP:o6 (l.drop i.toNat)=none) :
  Calls Tryz.prog 119 #[.string ⟨l.toArray⟩,.int .i64 i] w fun e w'=>Below w.heap.size w w'∧e=.returned (.tuple #[.agg #[.int .i64 0,.int .i64 0,.int .i64 0,.string ⟨#[]⟩,.string ⟨#[]⟩],.int .i64 0,.bool false]):=by
 obtain⟨i,rfl⟩:=Int.eq_ofNat_of_zero_le h0;refine(Ed l i w gN hs).mono ?_
 rintro e w1 ⟨hb,hp⟩;rw [Int.toNat_natCast] at hP;rw [hP] at hp;exact⟨hb,hp⟩
def lenOk (n:Nat) (fs:List Fm):Prop:=∀f∈fs,f.thn.length≤n∧f.els.length≤n
theorem SlS.ownB {w:World} {B0:Nat} {e:TypeId} {sz:Nat} {a:Option Addr} {n c:Nat} {xs:List Value} (h:w.ownsRow B0 e sz (.slice a n c) n xs):SlS w (fun b=>B0≤b) a sz n xs:=by
 refine⟨h.1,fun hn=>?_⟩;rcases h.2 with⟨hv,h0⟩|⟨g,cap,cur,hv,hb,hg,r⟩
 ·omega
 ·injection hv with ha _ _
  subst ha;refine⟨g,0,rfl,hb,kT hg,fun j u hu=>?_⟩;exact dk
def Bn (l:Str) (i B:Nat) (R:Option (List Fm × Str)) (e:Ending) (w':World):Prop :=
 match R with
 | none=>e=.returned (.tuple #[.slice none 0 0,.int .i64 0,.bool false])
 | some (fs,r)=>∃(a:Option Addr) (c j:Nat),e=.returned (.tuple #[.slice a fs.length c,.int .i64 j,.bool true])∧SlS w' (fun b=>B≤b) a 5 fs.length (mu fs)∧i≤j∧j<l.length∧l.drop j=r∧fs.length≤l.length∧lenOk l.length fs
theorem RS.texts {B bt bo:Nat} {tx:Str} {fs:List Fm} {w:World} (h:RS B bt bo tx fs w) :
  ∃ta tc,w.cell? ⟨bt,0,none⟩=some (.slice ta tx.length tc)∧w.frozen? ⟨bt,0,none⟩=false∧w.ownsRow B 5 1 (.slice ta tx.length tc) tx.length (mt tx)∧bt<w.heap.size:=by
 obtain⟨tv,ov,h1,h2,hbt,hbo,ht,ho⟩:=h;obtain⟨ta,tc,rfl⟩:=lD ht;exact⟨ta,tc,by rw [Jw h1];rfl,Lib.frozen_of_heap h1 0,ht,kT h1⟩
theorem RS.parts {B bt bo:Nat} {tx:Str} {fs:List Fm} {w:World} (h:RS B bt bo tx fs w) :
  ∃oa oc,w.cell? ⟨bo,0,none⟩=some (.slice oa fs.length oc)∧w.frozen? ⟨bo,0,none⟩=false∧w.ownsRow B 95 5 (.slice oa fs.length oc) fs.length (mu fs)∧bo<w.heap.size:=by
 obtain⟨tv,ov,h1,h2,hbt,hbo,ht,ho⟩:=h;obtain⟨oa,oc,rfl⟩:=lD ho;exact⟨oa,oc,by rw [Jw h2];rfl,Lib.frozen_of_heap h2 0,ho,kT h2⟩
theorem RS.text_app {B bt bo:Nat} {tx:Str} {fs:List Fm} {w w1:World} {v v1:Value} {c:UInt8} (h:RS B bt bo tx fs w) (hv:w.cell? ⟨bt,0,none⟩=some v)
  (hown:w1.ownsRow B 5 1 v1 (tx.length+1) (mt tx++[.int .u8 c.toNat])) (hg:w.grownBy w1 v.ownBlock) (hB:B≤w.heap.size) :
  ∃a c',v1=.slice a (tx.length+1) c'∧w1.cell? ⟨bt,0,none⟩=some v∧w1.frozen? ⟨bt,0,none⟩=false∧RS B bt bo (tx++[c]) fs (w1.setCell ⟨bt,0,none⟩ v1)∧Below B w (w1.setCell ⟨bt,0,none⟩ v1):=by
 obtain⟨tv,ov,h1,h2,hbt,hbo,ht,ho⟩:=h;have htv:tv=v:=by rw [Jw h1] at hv;simpa using hv
 subst htv;have hne:bt≠bo:=fun e=>by subst e;rw [h1] at h2;simp at h2
 have g1:w1.heap[bt]?=some (.cells #[tv] 52 (0,0)):=(hg.block bt (kT h1) (fun e=>nL ht h1 gR e.symm)).trans h1;have g2:w1.heap[bo]?=some (.cells #[ov] 39 (0,0)):=(hg.block bo (kT h2) (fun e=>nL ht h2 gR e.symm)).trans h2;have ho1:=ho.kept hg (sU ho ht gR);obtain⟨a,c',rfl⟩:=lD hown;refine⟨a,c',rfl,by rw [Jw g1];rfl,Lib.frozen_of_heap g1 0,⟨_,ov,pC g1,rJ g2 hne,hbt,hbo,?_,sH ho1 (nL ho1 g1 gR) _⟩,?_⟩
 ·have:=sH hown (nL hown g1 gR) (p:=⟨bt,0,none⟩) (.slice a (tx.length+1) c')
  simpa [mt] using this
 ·exact((Below.refl B w).grown hg hB fun k hk=>(ht.lt k hk).1).setCell (p:=⟨bt,0,none⟩) hbt _
theorem RS.part_app {B bt bo:Nat} {tx:Str} {fs:List Fm} {w w1:World} {v v1:Value} {f:Fm} (h:RS B bt bo tx fs w) (hv:w.cell? ⟨bo,0,none⟩=some v)
  (hown:w1.ownsRow B 95 5 v1 (fs.length+1) (mu fs++[.int .i64 f.kind,.int .i64 f.n,.int .i64 f.cse,.string ⟨(f.thn).toArray⟩,.string ⟨(f.els).toArray⟩])) (hg:w.grownBy w1 v.ownBlock) (hB:B≤w.heap.size) :
  ∃a c',v1=.slice a (fs.length+1) c'∧w1.cell? ⟨bo,0,none⟩=some v∧w1.frozen? ⟨bo,0,none⟩=false∧RS B bt bo tx (fs++[f]) (w1.setCell ⟨bo,0,none⟩ v1)∧Below B w (w1.setCell ⟨bo,0,none⟩ v1):=by
 obtain⟨tv,ov,h1,h2,hbt,hbo,ht,ho⟩:=h;have htv:ov=v:=by rw [Jw h2] at hv;simpa using hv
 subst htv;have hne:bo≠bt:=fun e=>by subst e;rw [h1] at h2;simp at h2
 have g1:w1.heap[bt]?=some (.cells #[tv] 52 (0,0)):=(hg.block bt (kT h1) (fun e=>nL ho h1 gR e.symm)).trans h1;have g2:w1.heap[bo]?=some (.cells #[ov] 39 (0,0)):=(hg.block bo (kT h2) (fun e=>nL ho h2 gR e.symm)).trans h2;have ht1:=ht.kept hg (sU ht ho gR);obtain⟨a,c',rfl⟩:=lD hown;refine⟨a,c',rfl,by rw [Jw g2];rfl,Lib.frozen_of_heap g2 0,⟨tv,_,rJ g1 hne,pC g2,hbt,hbo,sH ht1 (nL ht1 g2 gR) _,?_⟩,?_⟩
 ·have:=sH hown (nL hown g2 gR) (p:=⟨bo,0,none⟩) (.slice a (fs.length+1) c')
  rw [vQ,JA];exact this
 ·exact((Below.refl B w).grown hg hB fun k hk=>(ho.lt k hk).1).setCell (p:=⟨bo,0,none⟩) hbo _
theorem yp (tx:Str) (fs:List Fm):(m9 tx fs).length≤tx.length+fs.length:=by
 unfold m9;split
 ·omega
 ·rename_i h;have:=List.length_pos_iff.2 h;simp;omega
theorem An {n:Nat} {tx:Str} {fs:List Fm} (h:lenOk n fs) (ht:tx.length≤n):lenOk n (m9 tx fs):=by
 unfold m9;split
 ·exact h
 ·intro f hf
  rcases JX.1 hf with hf|hf
  ·exact h f hf
  ·simp at hf;subst hf;exact⟨ht,by simp⟩
theorem RS.start (B:Nat) (w:World) (h:B≤w.heap.size):RS B (w.heap.size+1) w.heap.size [] [] ((w.alloc (.cells #[.slice none 0 0] 39)).alloc (.cells #[.slice none 0 0] 52)):=by
 refine⟨_,_,?_,?_,by omega,h,World.ownsRow_nil _ _ _ _,World.ownsRow_nil _ _ _ _⟩
 ·have:=heap_alloc_new (w.alloc (.cells #[.slice none 0 0] 39)) (.cells #[.slice none 0 0] 52)
  simpa using this
 ·rw [Below.heap_alloc _ _ _ gU];exact heap_alloc_new w _
def RdRel (l:Str) (i:Nat) (R:Option (List Fm × Str)) (w:World) (q:Value) (wr:World):Prop :=
 ∃(j:Nat) (tx:Str) (fs:List Fm),i≤j∧j≤l.length∧q=.int .i64 j∧RS w.heap.size (w.heap.size+1) w.heap.size tx fs wr∧Below w.heap.size w wr∧tx.length≤j∧fs.length≤j∧Hid (tx.length+fs.length≤j)∧Hid (lenOk l.length fs)∧Hid (oB (l.drop j) tx fs=R)
theorem Hx (l:Str) (i:Nat) (w:World) (h1:i≤l.length) (hs:l.length≤700000) :
  Calls Tryz.prog 109 #[.string ⟨l.toArray⟩,.int .i64 i] w fun e w'=>Below w.heap.size w w'∧Bn l i w.heap.size (oB (l.drop i) [] []) e w':=by
 generalize hR:oB (l.drop i) [] []=R
 have HR:=ab hR;clear hR;obtain⟨iu,hiu⟩:=info_parts qP;go_enter Tryz.func109,Tryz.ntmps109
 go_wp2
 go_loopw [1] (fun q wr=>RdRel l i R w q wr) (fun q _=>l.length-(intOf q).toNat)
 case atStart =>
  refine⟨i,[],[],by omega,by omega,rfl,?_,?_,by simp,by simp,ab gU,ab (fun f hf=>by simp at hf),HR⟩
  ·exact RS.start _ w (Ju _)
  ·(repeat (first|with_reducible exact Below.refl _ _|with_reducible assumption|(refine Below.setCell ?_ ij _)|(refine Below.alloc ?_ gX _)|(refine Below.drew ?_)))
 case round =>
  obtain⟨j,tx,fs,hij,hjl,rfl,hrs,hb,htx,hfs,HTF,HLO,HF⟩:=hrel;clear HR;have hB:=hb.size;cases hd:l.drop j with
  | nil =>
   have h2:=ms hd;have HF':Hid (R=none):=ab iE;clear hd HF;go_wp2
   go_ret3
   exact⟨hb,by rw [HF'.out];rfl⟩
  | cons c r =>
   obtain⟨h2,h3,hr⟩:=lG hd;have HF':Hid (R=oB (c::r) tx fs):=ab (by rw [←hd];exact HF.out.symm);have Hr:=ab hr;have HD:=ab hd;clear hd HF hr;by_cases c47:c.toNat=47
   ·have HE:Hid (R=some (m9 tx fs,c::r)):=ab (by rw [HF'.out,ns,Jl c47])
    have b47:((c.toNat:Int)==47)=true:= jj;clear HF' c47;go_wp2_with (go_at_call 118;refine(A8 _ _ _ _ _ _ _ hrs (Below.refl _ _) hB gN gN).mono ?_;rintro e w1 ⟨rfl,hrs1,hb1,_⟩;obtain⟨oa,oc,k1,k2,k3,k4⟩:=hrs1.parts)
    go_ret3
    refine⟨hb.trans hb1,?_⟩;rw [HE.out];exact⟨oa,oc,j,rfl,SlS.ownB k3,hij,h2,HD.out,by have:=yp tx fs;have:=HTF.out;omega,An HLO.out gN⟩
   ·have b47:((c.toNat:Int)==47)=false:= iP
    by_cases c36:c.toNat=36
    ·have b36:((c.toNat:Int)==36)=true:= jj
     cases hP:o6 r with
     | none =>
      have HP:Hid (o6 (l.drop ((j:Int)+1).toNat)=none):=ab jX;have HE:Hid (R=oB r (tx++[c]) fs):=ab (by rw [HF'.out,ns,Jo c47,Jl c36,hP]);clear HF' c47 c36 hP;go_wp2_with (go_at_call 119;refine(I2 _ gN gN gN HP.out).mono ?_;rintro e w1 ⟨hb1,rfl⟩;have hrs0:=hrs.keep hb1;have hB1:w.heap.size≤w1.heap.size:=(by have:=hb1.size;omega);obtain⟨ta,tc,k1,k2,k3,k4⟩:=hrs0.texts)
      have k5:w.heap.size<w1.heap.size:=gN;have hB2:w.heap.size≤(w1.alloc (.cells #[.int .i64 0,.int .i64 0,.int .i64 0,.string ⟨#[]⟩,.string ⟨#[]⟩] 95)).heap.size:=by simp;omega
      have k1':(w1.alloc (.cells #[.int .i64 0,.int .i64 0,.int .i64 0,.string ⟨#[]⟩,.string ⟨#[]⟩] 95)).cell? ⟨w.heap.size+1,0,none⟩=some (.slice ta tx.length tc):=by rw [World.cell?_alloc_lt w1 _ _ k4];exact k1
      go_region_law (refine qw w.heap.size 5 (w:=(w1.alloc (.cells #[.int .i64 0,.int .i64 0,.int .i64 0,.string ⟨#[]⟩,.string ⟨#[]⟩] 95)).drew) rfl rfl _ _ 52 rfl Tryz.underlying52 hiu rfl gR rfl (k3.alloc (.cells #[.int .i64 0,.int .i64 0,.int .i64 0,.string ⟨#[]⟩,.string ⟨#[]⟩] 95)) rfl iV rfl ii gN gR hB2 ?_;intro v1 w2 hown1 hg1 _ _;obtain⟨a1,c1,rfl,d1,d2,hrs1,hbl1⟩:=RS.text_app (w:=(w1.alloc (.cells #[.int .i64 0,.int .i64 0,.int .i64 0,.string ⟨#[]⟩,.string ⟨#[]⟩] 95)).drew) (hrs0.keep ((Below.refl _ _).alloc (Ju _) _).drew) k1' hown1 hg1 hB2)
      all_goals
       go_wp2
       go_roundw
       case rel =>
        refine⟨j+1,tx++[c],fs,by omega,by omega,by go_num,hrs1,Below.trans (((hb.trans (hb1.mono hB)).alloc hB1 _).drew) hbl1,by simp;omega,by omega,ab km,HLO,ab ?_⟩;rw [Hr.out,←HE.out]
       case measure=>simp [intOf];omega
     | some p =>
      obtain⟨⟨fk,fn,fc,ft,fe⟩,r2⟩:=p;have HP:Hid (o6 (l.drop ((j:Int)+1).toNat)=some (⟨fk,fn,fc,ft,fe⟩,r2)):=ab jX;have HE:Hid (R=oB r2 [] (m9 tx fs++[⟨fk,fn,fc,ft,fe⟩])):=ab (by rw [HF'.out,ns,Jo c47,Jl c36,hP]);obtain⟨im,him⟩:=info_parts Cv;have hfl:=yp tx fs;clear HF' c47 c36 hP;go_wp2_with (first
       | (go_at_call 119;refine(H8 _ gN gN gN HP.out).mono ?_;rintro e w1 ⟨hb1,ht1,ht2,q,hq1,hq2,hq3,rfl⟩;have hrs0:=hrs.keep hb1;have hB1:w.heap.size≤w1.heap.size:=(by have:=hb1.size;omega);have HQ:=ab hq3;clear hq3)
       | (go_at_call 118;refine(A8 w.heap.size _ _ tx fs w1 _ hrs0 ((Below.refl _ _).alloc (Ju _) _) gV gN gN).mono ?_;rintro e w2 ⟨rfl,hrs2,hb2,hst⟩;have hbx:=hst w1.heap.size (Ju _) gU;rw [heap_alloc_new] at hbx;have f0:=Jw hbx 0;have f1:=Jw hbx 1;have f2:=Jw hbx 2;have f3:=Jw hbx 3;have f4:=Jw hbx 4;simp only [List.getElem?_toArray,List.getElem?_cons_zero,List.getElem?_cons_succ] at f0 f1 f2 f3 f4;obtain⟨oa,oc,k1,k2,k3,k4⟩:=hrs2.parts;have hB2:w.heap.size≤w2.heap.size:=(by have:=hb2.size;simp at this;omega);have HST:=ab hst;have HBX:=ab hbx;clear hst hbx)
       | (at_builtin;refine mA w.heap.size 95 rfl _ _ 39 rfl Tryz.underlying39 him rfl gR rfl k3 rfl iV rfl ii gN gR hB2 ?_;intro v1 w3 hown1 hg1 _ _;obtain⟨a1,c1,rfl,d1,d2,hrs3,hbl3⟩:=RS.part_app (f:=⟨fk,fn,fc,ft,fe⟩) hrs2 k1 hown1 hg1 hB2))
      go_roundw
      case rel =>
       refine⟨q,[],m9 tx fs++[⟨fk,fn,fc,ft,fe⟩],by omega,hq2,rfl,hrs3,?_,by simp,by have:=HTF.out;simp;omega,ab km,ab ?_,ab ?_⟩
       ·exact(((hb.trans (hb1.mono hB)).alloc hB1 _).trans hb2).trans hbl3
       ·intro f hf
        rcases JX.1 hf with hf|hf
        ·exact An HLO.out gN f hf
        ·simp at hf;subst hf;exact⟨ht1,ht2⟩
       ·rw [HQ.out,←HE.out]
      case measure=>simp [intOf];omega
    ·have b36:((c.toNat:Int)==36)=false:= iP
     by_cases c92:c.toNat=92
     ·have b92:((c.toNat:Int)==92)=true:= jj
      obtain⟨ta,tc,k1,k2,k3,k4⟩:=hrs.texts;by_cases hst:qX r four=true
      ·have HE:Hid (R=oB (r.drop 1) (tx++r.take 1) fs):=ab (by rw [HF'.out,ns,Jo c47,Jo c36,Jl ⟨c92,hst⟩])
       cases r with
       | nil=>simp [qX] at hst
       | cons d r' =>
        obtain⟨m2,m3,mr⟩:=lG Hr.out;have m4:(j:Int)+1<l.length:=gN;have m5:0≤(j:Int)+1:=gN;have Hmr:=ab mr;have hst':qX (List.drop (j+1) l) [36,125,92,47]=true:=by rw [Hr.out];exact hst
        have HE':Hid (R=oB r' (tx++[d]) fs):=HE;clear HF' c47 c36 c92 hst HE mr;go_wp2_with (go_at_call 120;refine(sc _ _ _ _ gN gN gN gU).mono ?_;rintro e w1 ⟨rfl,rfl⟩)
        go_region_law (refine qw w.heap.size 5 (w:=wr.drew) rfl rfl _ _ 52 rfl Tryz.underlying52 hiu rfl gR rfl k3 rfl iV rfl ii gN gR hB ?_;intro v1 w2 hown1 hg1 _ _;obtain⟨a1,c1,rfl,d1,d2,hrs1,hbl1⟩:=RS.text_app (w:=wr.drew) hrs k1 hown1 hg1 hB)
        all_goals
         go_wp2
         go_roundw
         case rel =>
          refine⟨j+2,tx++[d],fs,by omega,by omega,by go_num,hrs1,hb.drew.trans hbl1,by simp;omega,by omega,ab km,HLO,ab ?_⟩;rw [Hmr.out,←HE'.out]
         case measure=>simp [intOf];omega
      ·have HE:Hid (R=oB r (tx++[c]) fs):=ab (by rw [HF'.out,ns,Jo c47,Jo c36,Jo (fun h=>hst h.2)])
       have hst':qX (List.drop (j+1) l) [36,125,92,47]=false:=by rw [Hr.out];simpa [four] using hst
       clear HF' c47 c36 c92 hst;go_wp2_with (go_at_call 120;refine(sc _ _ _ _ gN gN gN gU).mono ?_;rintro e w1 ⟨rfl,rfl⟩)
       exact bA
     ·have b92:((c.toNat:Int)==92)=false:= iP
      have HE:Hid (R=oB r (tx++[c]) fs):=ab (by rw [HF'.out,ns,Jo c47,Jo c36,Jo (fun h=>c92 h.1)]);clear HF' c47 c36 c92;obtain⟨ta,tc,k1,k2,k3,k4⟩:=hrs.texts;go_wp2
      exact bA
def dec (n:Int):Str:=Lib.decDigits n.toNat
theorem rX {u:Nat} (h:u≤9999):1≤Lib.nDigits u∧Lib.nDigits u≤4:=by
 have h1:∀v,v<10→Lib.nDigits v=1:=fun v hv=>by rw [Lib.nDigits,dif_pos hv]
 have h2:∀v,¬v<10→Lib.nDigits v=Lib.nDigits (v / 10)+1:=fun v hv=>by rw [Lib.nDigits,dif_neg hv]
 by_cases a:u<10
 ·rw [h1 u a];omega
 ·rw [h2 u a]
  by_cases b:u / 10<10
  ·rw [h1 _ b];omega
  ·rw [h2 _ b]
   by_cases c:u / 10 / 10<10
   ·rw [h1 _ c];omega
   ·rw [h2 _ c,h1 _ gN];omega
theorem rm {n:Int} (h0:0≤n) (h:n≤9999):1≤(dec n).length∧(dec n).length≤4:=by
 unfold dec;rw [Lib.decDigits_length];exact rX gN
def quot (these:Str):Str→Str
 | []=>[]
 | c::r=>(if these.contains c=true then [92,c] else [c])++quot these r
theorem nV (these:Str):∀l:Str,(quot these l).length≤2*l.length
 | []=>by simp [quot]
 | c::r=>by
  have:=nV these r
  simp only [quot,JA,Jr];split<;>simp<;>omega
def o4 (f:Fm):Str :=
 if f.kind=0 then quot four f.thn
 else if f.kind=1 then 36::123::(dec f.n++[125])
 else if f.kind=2 then 36::123::(dec f.n++58::47::(nO f.cse++[125]))
 else if f.kind=3 then 36::123::(dec f.n++58::43::(quot five f.thn++[125]))
 else if f.kind=4 then 36::123::(dec f.n++58::45::(quot five f.els++[125]))
 else 36::123::(dec f.n++58::63::(quot five f.thn++58::(quot five f.els++[125])))
def mN (fs:List Fm):Str:=fs.flatMap o4
theorem yg {v:Nat} (hv:v<10) (r:Str) {k m:Nat} (hk:k<4):nf (UInt8.ofNat (48+v)::r) k m=nf r (k+1) (10*m+v):=by
 have h:(UInt8.ofNat (48+v)).toNat=48+v:=by rw [UInt8.toNat_ofNat'];omega
 conv=>lhs;unfold nf
 rw [h,Jl gN,Jo gN];congr 2;omega
theorem Bc (u:Nat):∀(r:Str) (k m:Nat),k+Lib.nDigits u≤4→nf (Lib.decDigits u++r) k m=nf r (k+Lib.nDigits u) (m*10 ^ Lib.nDigits u+u):=by
 induction u using Nat.strongRecOn with
 | _ u ih =>
  intro r k m hk;by_cases a:u<10
  ·rw [Lib.decDigits,dif_pos a,Lib.nDigits,dif_pos a]
   rw [Lib.nDigits,dif_pos a] at hk;rw [J2,yg a r gN];congr 1;omega
  ·rw [Lib.decDigits,dif_neg a,Lib.nDigits,dif_neg a]
   rw [Lib.nDigits,dif_neg a] at hk;rw [J3,ih (u / 10) gN _ k m gN,J2,yg gN r gN];congr 1
   rw [Nat.pow_succ,←Nat.mul_assoc,Nat.mul_add,J4,show 10*(u / 10)+u % 10=u by omega,Nat.mul_comm]
theorem numR_dec {n:Int} (h0:0≤n) (h1:n≤9999) {d:UInt8} (hd:¬(48≤d.toNat∧d.toNat≤57)) (r:Str):oC (dec n++d::r)=some (n.toNat,d::r):=by
 obtain⟨h2,h3⟩:=rX (u:=n.toNat) gN;unfold oC dec;rw [Bc _ _ _ _ gN];unfold nf;rw [Jo hd,Jl gN];simp
theorem five_mem {c:UInt8}:five.contains c=true↔c.toNat=36∨c.toNat=125∨c.toNat=92∨c.toNat=47∨c.toNat=58:=by
 simp [five,←Jk]
theorem four_mem {c:UInt8}:four.contains c=true↔c.toNat=36∨c.toNat=125∨c.toNat=92∨c.toNat=47:=by
 simp [four,←Jk]
theorem qn {one:Int} (ho:one=125∨one=58) (d:UInt8) (hd:d.toNat=one.toNat):∀(t acc s:Str),lH one (quot five t++d::s) acc=some (acc++t,d::s)
 | [],acc,s=>by
  simp only [quot,JV];cases s with
  | nil=>simp only [lH];rw [Jl hd];simp
  | cons x s=>simp only [lH];rw [Jl hd];simp
 | c::r,acc,s=>by
  have ih:=qn ho d hd r (acc++[c]) s;by_cases hc:five.contains c=true
  ·simp only [quot];rw [Jl hc]
   simp only [JW,JV,lH];rw [Jo (by rcases ho with rfl|rfl<;>simp),Jl ⟨rfl,hc⟩,ih];simp
  ·have hn:=fun h=>hc (five_mem.2 h)
   simp only [quot];rw [Jo hc];simp only [JW,JV];obtain⟨x,y,hxy⟩:∃x y,quot five r++d::s=x::y:=by
    cases h:quot five r++d::s with
    | nil=>simp at h
    | cons x y=>exact⟨x,y,rfl⟩
   rw [hxy] at ih ⊢;simp only [lH];rw [Jo (by intro h;apply hn;rcases ho with rfl|rfl<;>simp at h<;>omega),Jo (by intro h;apply hn;omega),ih];simp
theorem way_name {w:Int} (h:nO w≠[]):qQ (nO w)=w∧w≠0∧∀c∈nO w,mV c=true:=by
 have hw:w=1∨w=2∨w=3∨w=4∨w=5:=by
  unfold nO at h;by_cases a:w=1
  ·exact .inl a
  by_cases b:w=2
  ·exact .inr (.inl b)
  by_cases c:w=3
  ·exact .inr (.inr (.inl c))
  by_cases d:w=4
  ·exact .inr (.inr (.inr (.inl d)))
  by_cases e:w=5
  ·exact .inr (.inr (.inr (.inr e)))
  rw [Jo a,Jo b,Jo c,Jo d,Jo e] at h;exact absurd rfl h
 rcases hw with rfl|rfl|rfl|rfl|rfl<;>decide +kernel
theorem De {l:Str} (h:∀c∈l,mV c=true) (r:Str):(l++125::r).takeWhile mV=l∧(l++125::r).dropWhile mV=125::r:=by
 induction l with
 | nil=>exact⟨rfl,rfl⟩
 | cons c l ih =>
  have hc:=h c (JE ..);obtain⟨h1,h2⟩:=ih (fun d hd=>h d (JF _ hd));rw [JW,List.takeWhile_cons_of_pos hc,List.dropWhile_cons_of_pos hc,h1,h2];exact⟨rfl,rfl⟩
theorem G2 (f:Fm) (hm:mayF f=true) (hk:f.kind≠0) (s:Str):∃r,o4 f++s=36::r∧o6 r=some (f,s):=by
 obtain⟨kind,n,cse,thn,els⟩:=f;simp only at hk
 unfold mayF at hm;rw [Jy] at hm;obtain⟨hn,hm⟩:=hm;obtain⟨h0,h1⟩:0≤n∧n≤9999:=by simpa using hn
 have hnn:((n.toNat:Nat):Int)=n:=gN;have h123:∀r:Str,oC (123::r)=none:=fun r=>by unfold oC nf;rw [Jo gR,Jo gN]
 have hpart:∀(d:UInt8) (r:Str),¬(48≤d.toNat∧d.toNat≤57)→o6 (123::(dec n++d::r))=uf n.toNat (d::r):=fun d r hd=>by
  unfold o6;rw [h123];simp only [Cq];rw [Jl gR,numR_dec h0 h1 hd]
 simp only [Jo hk] at hm;by_cases k1:kind=1
 ·subst k1
  simp [m7] at hm
  obtain⟨⟨rfl,rfl⟩,rfl⟩:=hm;refine⟨123::(dec n++125::s),by simp [o4],?_⟩;rw [hpart _ _ gR];simp [uf,hnn]
 by_cases k2:kind=2
 ·subst k2
  simp [m7] at hm
  obtain⟨⟨rfl,rfl⟩,hc⟩:=hm;obtain⟨w1,w2,w3⟩:=way_name hc;obtain⟨s1,s2⟩:=De w3 s;refine⟨123::(dec n++58::47::(nO cse++125::s)),by simp [o4],?_⟩;rw [hpart _ _ gR];simp only [uf];rw [Jo gR,Jl gR];simp only [mo];rw [Jl gR,s1,s2,w1];simp [w2,hnn]
 by_cases k3:kind=3
 ·subst k3
  simp [m7] at hm
  obtain⟨rfl,rfl⟩:=hm;refine⟨123::(dec n++58::43::(quot five thn++125::s)),by simp [o4],?_⟩;rw [hpart _ _ gR];simp only [uf];rw [Jo gR,Jl gR];simp only [mo];rw [Jo gR,Jl gR,qn (.inl rfl) 125 rfl];simp [hnn]
 by_cases k4:kind=4
 ·subst k4
  simp [m7] at hm
  obtain⟨rfl,rfl⟩:=hm;refine⟨123::(dec n++58::45::(quot five els++125::s)),by simp [o4],?_⟩;rw [hpart _ _ gR];simp only [uf];rw [Jo gR,Jl gR];simp only [mo];rw [Jo gR,Jo gR,Jo gR,Jl gR,qn (.inl rfl) 125 rfl];simp [hnn]
 by_cases k5:kind=5
 ·subst k5
  simp [m7] at hm
  subst hm;refine⟨123::(dec n++58::63::(quot five thn++58::(quot five els++125::s))),by simp [o4],?_⟩;rw [hpart _ _ gR];simp only [uf];rw [Jo gR,Jl gR];simp only [mo];rw [Jo gR,Jo gR,Jl gR,qn (.inr rfl) 58 rfl];simp only [JV];rw [qn (.inl rfl) 125 rfl];simp [hnn]
 ·simp only [Jo k1,Jo k2,Jo k3,Jo k4,Jo k5] at hm;cases hm
theorem BH (s:Str) (fs:List Fm):∀(t tx:Str),oB (quot four t++s) tx fs=oB s (tx++t) fs
 | [],tx=>by simp [quot]
 | c::r,tx=>by
  have ih:=BH s fs r (tx++[c]);by_cases hc:four.contains c=true
  ·simp only [quot];rw [Jl hc]
   simp only [JW,JV];rw [ns,Jo gR,Jo gR,Jl ⟨by decide,hc⟩];simp only [List.drop_one,List.tail_cons,List.take_one,List.head?_cons,Option.toList_some];rw [ih];simp
  ·have hn:=fun h=>hc (four_mem.2 h)
   simp only [quot];rw [Jo hc];simp only [JW,JV];rw [ns,Jo (fun h=>hn gN),Jo (fun h=>hn gN),Jo (fun h=>hn gN),ih];simp
theorem tz (b:Str):∀(fs acc:List Fm) (pt:Bool) (tx:Str),mayL pt fs=true→(pt=false→tx=[])→oB (mN fs++47::b) tx acc=some (m9 tx acc++fs,47::b)
 | [],acc,pt,tx,_,_=>by simp [mN,ns]
 | f::r,acc,pt,tx,hm,ht=>by
  simp only [mayL,Jy] at hm;obtain⟨⟨h1,h2⟩,h3⟩:=hm;have hs:mN (f::r)++47::b=o4 f++(mN r++47::b):=by simp [mN]
  rw [hs];by_cases hk:f.kind=0
  ·have hpt:pt=false:=by simpa [hk] using h2
   have htx:=ht hpt;subst htx;obtain⟨kind,n,cse,thn,els⟩:=f;simp only at hk;subst hk
   unfold mayF at h1;rw [Jy] at h1;have h4:=h1.2;simp [m7] at h4
   obtain⟨⟨⟨rfl,rfl⟩,rfl⟩,hthn⟩:=h4;have hp:o4 ⟨0,0,0,thn,[]⟩=quot four thn:=by simp [o4]
   rw [hp,BH,JV,tz b r acc true thn (by simpa using h3) gU];simp [m9,hthn]
  ·obtain⟨r',e1,e2⟩:=G2 f h1 hk (mN r++47::b)
   rw [e1,ns,Jo gR,Jl gR,e2];simp only [];rw [tz b r _ false [] (by simpa [hk] using h3) (fun _=>rfl)];simp [m9]
def Jg (fs:List Fm):Prop:=uN fs=true∧∀f,fs.getLast?=some f→f.kind≠0
theorem vB:∀(fs:List Fm) (pt:Bool) (f:Fm),mayL pt fs=true→mayF f=true→(f.kind=0→(match fs.getLast? with|none=>pt=false|some g=>g.kind≠0))→mayL pt (fs++[f])=true
 | [],pt,f,_,hf,h=>by
  simp only [JV,mayL,hf,JG,Jh];by_cases hk:f.kind=0
  ·have:=h hk;simp at this;simp [this]
  ·simp [hk]
 | g::r,pt,f,hm,hf,h=>by
  simp only [mayL,Jy] at hm;simp only [JW,mayL,Jy];refine⟨hm.1,vB r _ f hm.2 hf (fun hk=>?_)⟩;have h1:=h hk;cases r with
  | nil=>simpa using h1
  | cons x r =>
   rw [List.getLast?_cons_cons] at h1;cases hl:(x::r).getLast? with
   | none=>simp at hl
   | some y=>rw [hl] at h1;exact h1
theorem F3:Jg []:=⟨rfl,by simp⟩
theorem wg {tx:Str} {fs:List Fm} (h:Jg fs):uN (m9 tx fs)=true:=by
 unfold m9;split
 ·exact h.1
 ·rename_i ht
  refine vB fs false _ h.1 (by simp [mayF,m7,ht]) (fun _=>?_);cases hl:fs.getLast? with
  | none=>rfl
  | some g=>exact h.2 g hl
theorem EW {tx:Str} {fs:List Fm} {f:Fm} (h:Jg fs) (hf:mayF f=true) (hk:f.kind≠0):Jg (m9 tx fs++[f]) :=
 ⟨vB _ false f (wg h) hf (fun e=>absurd e hk),fun g hg=>by
  rw [List.getLast?_concat] at hg;injection hg with hg;subst hg;exact hk⟩
theorem DE:∀(r:Str) (k m:Nat) {n:Nat} {s:Str},nf r k m=some (n,s)→m<10 ^ k→k≤4→n≤9999
 | [],k,m,n,s,h,hm,hk=>by
  have h4:=Jt hm (Nat.pow_le_pow_right (show 10 > 0 by omega) hk);simp only [nf] at h;split at h
  ·injection h with h;injection h with h _;omega
  ·cases h
 | c::r,k,m,n,s,h,hm,hk=>by
  have h4:=Jt hm (Nat.pow_le_pow_right (show 10 > 0 by omega) hk);simp only [nf] at h;split at h
  ·split at h
   ·cases h
   ·exact DE r (k+1) _ h (by rw [Nat.pow_succ];omega) gN
  ·split at h
   ·injection h with h;injection h with h _;omega
   ·cases h
theorem yQ {r:Str} {n:Nat} {s:Str} (h:oC r=some (n,s)):n≤9999:=DE r 0 0 h gN gN
theorem FL (s:Str) (h:qQ s≠0):nO (qQ s)≠[]:=by
 unfold qQ at h ⊢
 (repeat' split)<;>first|decide +kernel|(exfalso;simp_all)
theorem Cb {r:Str} {n:Nat} (hn:n≤9999) {f:Fm} {s:Str} (h:mo r n=some (f,s)):mayF f=true∧f.kind≠0:=by
 have hn':((n:Nat):Int)≤9999:=gN;cases r with
 | nil=>cases h
 | cons c r =>
  simp only [mo] at h;split at h
  ·split at h
   ·cases h
   ·split at h
    ·cases h
    ·rename_i hw
     have h4:=FL _ hw;injection h with h;injection h with h _;subst h
     refine⟨?_,by simp⟩;simp [mayF,m7,h4];omega
  ·split at h
   ·split at h
    ·exact bP
    ·cases h
   ·split at h
    ·split at h
     ·split at h
      ·exact bP
      ·cases h
     ·cases h
    ·split at h
     ·split at h
      ·exact bP
      ·cases h
     ·split at h
      ·exact bP
      ·cases h
theorem BR {r:Str} {f:Fm} {s:Str} (h:o6 r=some (f,s)):mayF f=true∧f.kind≠0:=by
 unfold o6 at h;split at h
 ·rename_i p heq
  obtain⟨m,s'⟩:=p;have:=yQ heq
  exact bP
 ·cases r with
  | nil=>cases h
  | cons c r =>
   simp only [Cq] at h;split at h
   ·split at h
    ·cases h
    ·rename_i p heq
     obtain⟨m,s'⟩:=p;have h1:=yQ heq;cases s' with
     | nil=>cases h
     | cons d r3 =>
      simp only [uf] at h;split at h
      ·exact bP
      ·split at h
       ·exact Cb h1 h
       ·cases h
   ·cases h
theorem rH:∀(k:Nat) (r tx:Str) (fs gs:List Fm) (s:Str),pE k r tx fs=some (gs,s)→Jg fs→uN gs=true∧∃b,s=47::b
 | 0,_,_,_,_,_,h,_=>by simp [pE] at h
 | _+1,[],_,_,_,_,h,_=>by simp [pE] at h
 | k+1,c::r,tx,fs,gs,s,h,ho=>by
  simp only [pE] at h;split at h
  ·rename_i hc
   injection h with h;injection h with h1 h2
   subst h1 h2;exact⟨wg ho,r,by rw [show c=47 from Jk.1 hc]⟩
  ·split at h
   ·split at h
    ·rename_i p heq
     obtain⟨h1,h2⟩:=BR (f:=p.1) (s:=p.2) heq;exact rH k _ _ _ _ _ h (EW ho h1 h2)
    ·exact rH k _ _ _ _ _ h ho
   ·split at h
    ·exact rH k _ _ _ _ _ h ho
    ·exact rH k _ _ _ _ _ h ho
theorem Ja {r:Str} {gs:List Fm} {s:Str} (h:oB r [] []=some (gs,s)):uN gs=true∧∃b,s=47::b:=rH _ _ _ _ _ _ h F3
theorem Da {th:Str} {c:UInt8} (h:th.contains c=true) (r:Str):nxtM th (92::c::r)=(c,r):=by
 simp only [nxtM];rw [Jl ⟨by decide,h⟩]
theorem vV {th:Str} {c:UInt8} (h:c.toNat≠92) (r:Str):nxtM th (c::r)=(c,r):=by
 cases r with
 | nil=>rfl
 | cons d r=>simp only [nxtM];rw [Jo (fun e=>h e.1)]
theorem AD (c:UInt8):three.contains c=true↔c.toNat=36∨c.toNat=125∨c.toNat=92:=by
 unfold three;simp only [List.contains_cons,List.contains_nil,Bool.or_false,Js,Ji];constructor
 ·rintro(h|h|h)<;>subst h<;>simp
 ·rintro(h|h|h)
  ·exact .inl (Jk.1 h)
  ·exact .inr (.inl (Jk.1 h))
  ·exact .inr (.inr (Jk.1 h))
theorem num_dec {n:Nat} (h:n≤9999) {r:Str} (hr:∀c t,r=c::t→¬(48≤c.toNat∧c.toNat≤57)):oC (Lib.decDigits n++r)=some (n,r):=by
 obtain⟨hp,hd⟩:=rX (u:=n) gN;unfold oC;rw [Bc n r 0 0 gN];cases r with
 | nil=>simp only [nf];rw [Jl gN];simp
 | cons c t=>simp only [nf];rw [Jo (hr c t rfl),Jl gN];simp
theorem yR {n:Nat} (h:n≤9999) {r:Str} (hr:∀c t,r=c::t→¬(48≤c.toNat∧c.toNat≤57)):nD (Lib.decDigits n++r)=some (no n,r):=by
 unfold nD;rw [num_dec h hr]
theorem sG (r:Str):l7 (123::r)=match nD r with|none=>none|some (x,r2)=>lE (lu true [] []) x r2:=by
 rw [oL];simp only [oO];rw [Jl gR];cases nD r<;>rfl
theorem FF {c:UInt8} (h:c.toNat≠123) (r:Str):l7 (c::r)=nD (c::r):=by
 rw [oL];simp only [oO];rw [Jo h]
theorem G6:l7 []=none:=rfl
theorem uA (x:Sn) (r:Str):lE (lu true [] []) x (125::r)=some (x,r):=by
 simp only [lE];rw [Jl gR]
abbrev digU8 (c:UInt8):Prop:=48≤c.toNat∧c.toNat≤57
theorem numR_no {r:Str} (hr:∀c t,r=c::t→¬digU8 c):oC r=none:=by
 unfold oC;cases r with
 | nil=>simp [nf]
 | cons c t=>unfold nf;rw [Jo (hr c t rfl),Jo gN]
theorem tw_name {s r:Str} (h:∀c∈s,ny c=true) (hr:∀c t,r=c::t→ny c=false):(s++r).takeWhile ny=s∧(s++r).dropWhile ny=r:=by
 induction s with
 | nil =>
  cases r with
  | nil=>exact⟨rfl,rfl⟩
  | cons c t=>have:=hr c t rfl;simp [this]
 | cons c s ih =>
  obtain⟨i1,i2⟩:=ih (fun c hc=>h c (JF _ hc));have hc:=h c (JE ..);rw [JW,List.takeWhile_cons_of_pos hc,List.dropWhile_cons_of_pos hc,i1,i2];exact⟨rfl,rfl⟩
theorem GY {c:UInt8} {s r:Str} (h:∀c'∈c::s,ny c'=true) (hc:¬digU8 c) (hr:∀c t,r=c::t→ny c=false):nD (c::s++r)=if oR (c::s)=true then some (varS (c::s),r) else none:=by
 obtain⟨t1,t2⟩:=tw_name h hr;unfold nD;rw [numR_no (r:=c::s++r) (by rintro _ _ e;injection e with e _;subst e;exact hc)];simp only
 unfold tS;rw [t1,t2]
theorem nG (c:UInt8) (r:Str) (o:List Str) (t:Str):optL (c::r) o t=if c.toNat=124 then(o++[t],c::r) else if c.toNat=44 then optL r (o++[t]) [] else optL (nxtM fiveS (c::r)).2 o (t++[(nxtM fiveS (c::r)).1]):=by
 cases r with
 | nil =>
  simp only [optL,nxtM]
 | cons d r =>
  simp only [optL,nxtM];split
  ·rfl
  ·split
   ·rfl
   ·split<;>rfl
theorem GH (c:UInt8):fiveS.contains c=true↔c.toNat=36∨c.toNat=125∨c.toNat=92∨c.toNat=44∨c.toNat=124:=by
 simp [fiveS,←Jk]
theorem tA:∀(s r:Str) (o:List Str) (t:Str),optL (quot fiveS s++r) o t=optL r o (t++s)
 | [],r,o,t=>by simp [quot]
 | c::s,r,o,t=>by
  cases hc:fiveS.contains c with
  | true =>
   simp only [quot,hc,if_true,JW,JV];rw [nG,Jo gR,Jo gR,Da hc,tA s,J3];rfl
  | false =>
   have hn:¬(c.toNat=36∨c.toNat=125∨c.toNat=92∨c.toNat=44∨c.toNat=124):=fun h=>by rw [(GH c).2 h] at hc;cases hc
   simp only [quot,hc,J1,if_false,JW,JV];rw [nG,Jo gN,Jo gN,vV gN,tA s,J3];rfl
def pb:List Str→Str
 | []=>[]
 | [a]=>quot fiveS a
 | a::b::l=>quot fiveS a++44::pb (b::l)
theorem optL_end {r:Str} (hr:r=[]∨∃t,r=124::t) (o:List Str) (t:Str):optL r o t=(o++[t],r):=by
 rcases hr with rfl|⟨t',rfl⟩
 ·rfl
 ·rw [nG,Jl gR]
theorem AX:∀(l:List Str) (a r:Str) (o:List Str),(r=[]∨∃t,r=124::t)→optL (pb (a::l)++r) o []=(o++a::l,r)
 | [],a,r,o,hr=>by
  simp only [pb];rw [tA,JV,optL_end hr]
 | b::l,a,r,o,hr=>by
  simp only [pb];rw [J3,tA,JV,JW,nG,Jo gR,Jl gR,AX l b r _ hr,J3];rfl
theorem DW (x:Sn) (a:Str) (l:List Str) (r:Str):re x (pb (a::l)++124::125::r)=some (x.choose (a::l),r):=by
 unfold re;rw [AX l a (124::125::r) [] (.inr ⟨_,rfl⟩)];simp
end Go.Proofs.YtdcnncgpomcaaaaGreatDoor
