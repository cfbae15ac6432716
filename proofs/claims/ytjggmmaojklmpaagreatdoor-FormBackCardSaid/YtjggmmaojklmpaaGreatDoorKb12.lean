/- walk of fmts.part -/
import Derived.Test.YtjggmmaojklmpaaGreatDoorKb6
set_option maxRecDepth 100000
set_option maxHeartbeats 4000000
namespace Go.Proofs.YtjggmmaojklmpaaGreatDoor
open Go.RowKit
theorem qD {l r:Str} {i:Int} {n:Nat} (w:World) (h0:0≤i) (h1:i≤1000000) (hs:l.length≤1000000) (hN:n6 (l.drop i.toNat)=some (n,r)) :
  Calls Tryz.prog 79 #[.string ⟨l.toArray⟩,.int .i64 i] w fun e w'=>w=w'∧n<10000∧∃j:Nat,i<j∧j≤l.length∧l.drop j=r∧e=.returned (.tuple #[.int .i64 n,.int .i64 j,.bool true]):=by
 exact dQ
theorem mV {l:Str} {i:Int} (w:World) (h0:0≤i) (h1:i≤1000000) (hs:l.length≤1000000) (hN:n6 (l.drop i.toNat)=none) :
  Calls Tryz.prog 79 #[.string ⟨l.toArray⟩,.int .i64 i] w fun e w'=>w=w'∧e=.returned (.tuple #[.int .i64 0,.int .i64 i,.bool false]):=by
 exact dQ
theorem xG {l r:Str} {i n:Nat} {f:Fm} (w:World) (h1:i≤900000) (hs:l.length≤900000) (hB:lc (l.drop i) n=some (f,r)) :
  Calls Tryz.prog 81 #[.string ⟨l.toArray⟩,.int .i64 i,.int .i64 n] w fun e w'=>Below w.heap.size w w'∧f.thn.length≤l.length∧f.els.length≤l.length∧∃j:Nat,i<j∧j≤l.length∧l.drop j=r∧e=.returned (.tuple #[.agg #[.int .i64 (f).kind,.int .i64 (f).n,.int .i64 (f).cse,.string ⟨((f).thn).toArray⟩,.string ⟨((f).els).toArray⟩],.int .i64 j,.bool true]):=by
 exact em
theorem x9 {l:Str} {i n:Nat} (w:World) (h1:i≤900000) (hs:l.length≤900000) (hB:lc (l.drop i) n=none) :
  Calls Tryz.prog 81 #[.string ⟨l.toArray⟩,.int .i64 i,.int .i64 n] w fun e w'=>Below w.heap.size w w'∧e=.returned (.tuple #[.agg #[.int .i64 0,.int .i64 0,.int .i64 0,.string ⟨#[]⟩,.string ⟨#[]⟩],.int .i64 0,.bool false]):=by
 exact em
theorem zA (l:Str) (i:Nat) (w:World) (h1:i≤800000) (hs:l.length≤800000) :
  Calls Tryz.prog 55 #[.string ⟨l.toArray⟩,.int .i64 i] w fun e w'=>Below w.heap.size w w'∧yt l i (nZ (l.drop i)) e:=by
 generalize hR:nZ (l.drop i)=R
 have HR:=ab hR;clear hR;cases hN:n6 (l.drop i) with
 | some p =>
  obtain⟨n,r⟩:=p;have HN:Hid (n6 (l.drop (i:Int).toNat)=some (n,r)):=ab (by rw [Int.toNat_natCast];exact hN);have HE:Hid (R=some (⟨1,n,0,[],[]⟩,r)):=ab (by rw [←HR.out];simp [nZ,hN]);clear hN HR;go_enter Tryz.func55,Tryz.ntmps55
  go_wp2_with (go_at_call 79;refine(qD _ fR fR fR HN.out).mono ?_;rintro e w1 ⟨rfl,hn,j,hj1,hj2,hj3,rfl⟩;have HJ:=ab hj3;clear hj3)
  refine DX (v:=.tuple #[.agg #[.int .i64 1,.int .i64 n,.int .i64 0,.string ⟨[].toArray⟩,.string ⟨[].toArray⟩],.int .i64 j,.bool true]) iX rfl ⟨?_,?_⟩
  ·(repeat (first|with_reducible exact Below.refl _ _|with_reducible assumption|(refine Below.setCell ?_ gj _)|(refine Below.alloc ?_ fZ _)|(refine Below.drew ?_)))
  ·rw [HE.out];exact⟨by simp,by simp,j,by omega,hj2,HJ.out,by simp⟩
 | none =>
  have HN:Hid (n6 (l.drop (i:Int).toNat)=none):=ab (by rw [Int.toNat_natCast];exact hN);have HP:Hid (R=partB (l.drop i)):=ab (by
   rw [←HR.out];simp [nZ,hN])
  clear hN HR;cases hd:l.drop i with
  | nil =>
   have h2:=kN hd;have HE:Hid (R=none):=ab (by rw [HP.out,hd];rfl);have e1:List.isPrefixOf [123] (List.drop i l)=false:=by rw [hd];rfl
   clear hd HP;exact eS
  | cons c r1 =>
   obtain⟨h2,h3,hr⟩:=kh hd;have Hr:=ab hr;clear hr h3;by_cases hc:c.toNat=123
   ·have HP1:Hid (R=match n6 r1 with|none=>none|some p=>sX p.1 p.2):=ab (by rw [HP.out,hd];exact Dr hc)
    have e1:List.isPrefixOf [123] (List.drop i l)=true:=by rw [hd,pre1];simp;omega
    clear hc hd HP;cases hM:n6 r1 with
    | none =>
     have HM:Hid (n6 (l.drop ((i:Int)+1).toNat)=none):=ab iT;have HE:Hid (R=none):=ab (by rw [HP1.out,hM]);clear hM HP1;go_enter Tryz.func55,Tryz.ntmps55
     go_wp2_with (go_at_call 79;refine(mV _ fR fR fR HN.out).mono ?_)
     rintro e w1 ⟨rfl,rfl⟩;go_wp2_with (first|(go_at_call 80;refine(lw _ _ _ _ fR fR fX).mono ?_;rintro e w1 ⟨rfl,rfl⟩)|(go_at_call 79;refine(mV _ fR fR fR HM.out).mono ?_;rintro e w1 ⟨rfl,rfl⟩))
     exact aM
    | some p =>
     obtain⟨n,r2⟩:=p;have HM:Hid (n6 (l.drop ((i:Int)+1).toNat)=some (n,r2)):=ab iT;have HP2:Hid (R=sX n r2):=ab (by rw [HP1.out,hM]);clear hM HP1;go_enter Tryz.func55,Tryz.ntmps55
     go_wp2_with (go_at_call 79;refine(mV _ fR fR fR HN.out).mono ?_)
     rintro e w1 ⟨rfl,rfl⟩;go_wp2_with (first|(go_at_call 80;refine(lw _ _ _ _ fR fR fX).mono ?_;rintro e w1 ⟨rfl,rfl⟩)|(go_at_call 79;refine(qD _ fR fR fR HM.out).mono ?_))
     rintro e w1 ⟨rfl,hn,j,hj1,hj2,hj3,rfl⟩;cases r2 with
     | nil =>
      have HE:Hid (R=none):=HP2;have e2:List.isPrefixOf [125] (List.drop j l)=false:=by rw [hj3];rfl
      have e3:List.isPrefixOf [58] (List.drop j l)=false:=by rw [hj3];rfl
      clear hj3;exact fz
     | cons d r3 =>
      have HJ:=ab (kh hj3).2.2;have hjl:=(kh hj3).1;by_cases hd1:d.toNat=125
      ·have HE:Hid (R=some (⟨1,n,0,[],[]⟩,r3)):=ab (by rw [HP2.out];exact Dr hd1)
       have e2:List.isPrefixOf [125] (List.drop j l)=true:=by rw [hj3,pre1];simp;omega
       clear hj3 hd1;go_wp2_with (go_at_call 80;refine(lw _ _ _ _ fR fR fX).mono ?_;rintro e w1 ⟨rfl,rfl⟩)
       refine DX (v:=.tuple #[.agg #[.int .i64 1,.int .i64 n,.int .i64 0,.string ⟨[].toArray⟩,.string ⟨[].toArray⟩],.int .i64 (j+1),.bool true]) iX rfl ⟨?_,?_⟩
       ·(repeat (first|with_reducible exact Below.refl _ _|with_reducible assumption|(refine Below.setCell ?_ gj _)|(refine Below.alloc ?_ fZ _)|(refine Below.drew ?_)))
       ·rw [HE.out];exact⟨by simp,by simp,j+1,by omega,by omega,HJ.out,by simp⟩
      ·have e2:List.isPrefixOf [125] (List.drop j l)=false:=by rw [hj3,pre1];simp;omega
       by_cases hd2:d.toNat=58
       ·have HP3:Hid (R=lc r3 n):=ab (by rw [HP2.out];exact(Du hd1).trans (Dr hd2))
        have e3:List.isPrefixOf [58] (List.drop j l)=true:=by rw [hj3,pre1];simp;omega
        clear hj3 hd1 hd2;cases hB:lc r3 n with
        | none =>
         have HE:Hid (R=none):=ab (by rw [HP3.out,hB]);have HB:Hid (lc (l.drop (j+1)) n=none):=ab (by rw [HJ.out];exact hB);clear hB;have ej:((j:Int)+1)=((j+1:Nat):Int):=fR;have EJ:=ab ej;clear ej;go_wp2_with (first|(go_at_call 80;refine(lw _ _ _ _ fR fR fX).mono ?_;rintro e w1 ⟨rfl,rfl⟩)|(go_at_call 81;rw [EJ.out];refine(x9 _ fR fR HB.out).mono ?_;rintro e w1 ⟨hb1,rfl⟩;obtain⟨hc1,hf1⟩:=qh hb1;have z0:w1.cell? ⟨w.heap.size,0,none⟩=some (.int .i64 0):= fT;have z1:w1.cell? ⟨w.heap.size,1,none⟩=some (.int .i64 0):= fT;have z2:w1.cell? ⟨w.heap.size,2,none⟩=some (.int .i64 0):= fT;have z3:w1.cell? ⟨w.heap.size,3,none⟩=some (.string ⟨#[]⟩):= fT;have z4:w1.cell? ⟨w.heap.size,4,none⟩=some (.string ⟨#[]⟩):= fT;have hbw:Below w.heap.size w w1:=((Below.refl w.heap.size w).alloc (Dv _) _).trans (hb1.mono fX)))
         refine DX (v:=.tuple #[.agg #[.int .i64 0,.int .i64 0,.int .i64 0,.string ⟨#[]⟩,.string ⟨#[]⟩],.int .i64 0,.bool false]) jb rfl ⟨?_,by rw [HE.out];rfl⟩
         (repeat (first|with_reducible exact Below.refl _ _|with_reducible assumption|(refine Below.setCell ?_ gj _)|(refine Below.alloc ?_ fZ _)|(refine Below.drew ?_)))
        | some q =>
         obtain⟨⟨fk,fn,fc,ft,fe⟩,r4⟩:=q;have HE:Hid (R=some (⟨fk,fn,fc,ft,fe⟩,r4)):=ab (by rw [HP3.out,hB]);have HB:Hid (lc (l.drop (j+1)) n=some (⟨fk,fn,fc,ft,fe⟩,r4)):=ab (by rw [HJ.out];exact hB);clear hB;have ej:((j:Int)+1)=((j+1:Nat):Int):=fR;have EJ:=ab ej;clear ej;go_wp2_with (first|(go_at_call 80;refine(lw _ _ _ _ fR fR fX).mono ?_;rintro e w1 ⟨rfl,rfl⟩)|(go_at_call 81;rw [EJ.out];refine(xG _ fR fR HB.out).mono ?_;rintro e w1 ⟨hb1,ht1,ht2,k,hk1,hk2,hk3,rfl⟩;obtain⟨hc1,hf1⟩:=qh hb1;have z0:w1.cell? ⟨w.heap.size,0,none⟩=some (.int .i64 0):= fT;have z1:w1.cell? ⟨w.heap.size,1,none⟩=some (.int .i64 0):= fT;have z2:w1.cell? ⟨w.heap.size,2,none⟩=some (.int .i64 0):= fT;have z3:w1.cell? ⟨w.heap.size,3,none⟩=some (.string ⟨#[]⟩):= fT;have z4:w1.cell? ⟨w.heap.size,4,none⟩=some (.string ⟨#[]⟩):= fT;have hbw:Below w.heap.size w w1:=((Below.refl w.heap.size w).alloc (Dv _) _).trans (hb1.mono fX);have HK3:=ab hk3;clear hk3))
         refine DX (v:=.tuple #[.agg #[.int .i64 fk,.int .i64 fn,.int .i64 fc,.string ⟨ft.toArray⟩,.string ⟨fe.toArray⟩],.int .i64 k,.bool true]) jb rfl ⟨?_,?_⟩
         ·(repeat (first|with_reducible exact Below.refl _ _|with_reducible assumption|(refine Below.setCell ?_ gj _)|(refine Below.alloc ?_ fZ _)|(refine Below.drew ?_)))
         ·rw [HE.out];exact⟨ht1,ht2,k,by omega,hk2,HK3.out,by simp⟩
       ·have HE:Hid (R=none):=ab (by rw [HP2.out];exact(Du hd1).trans (Du hd2))
        have e3:List.isPrefixOf [58] (List.drop j l)=false:=by rw [hj3,pre1];simp;omega
        clear hj3 hd1 hd2;exact fz
   ·have HE:Hid (R=none):=ab (by rw [HP.out,hd];exact Du hc)
    have e1:List.isPrefixOf [123] (List.drop i l)=false:=by rw [hd,pre1];simp;omega
    clear hc hd HP;exact eS
theorem lm {w:World} {B:Nat} {e t:TypeId} {sz n:Nat} {v:Value} {xs:List Value} {k:Nat} {cs:Array Value} {m:Nat × Nat} (h:w.ownsRow B e sz v n xs) (hk:w.heap[k]?=some (.cells cs t m)) (hne:t≠e):v.ownBlock≠some k:=fun he=>by
 have:=(nk h he).2
 simp [vm,hk] at this;exact hne this
theorem ui {w:World} {B B':Nat} {e e':TypeId} {sz sz' n n':Nat} {v v':Value} {xs xs':List Value} (h:w.ownsRow B e sz v n xs) (h':w.ownsRow B' e' sz' v' n' xs') (hne:e≠e'):v.ownBlock=none∨v.ownBlock≠v'.ownBlock:=by
 cases hv:v.ownBlock with
 | none=>exact .inl rfl
 | some g =>
  refine .inr fun he=>?_
  have h1:=(nk h hv).2;have h2:=(nk h' he.symm).2;rw [h1] at h2;injection h2 with h2;exact hne h2
theorem pl {w:World} {B:Nat} {e:TypeId} {sz n:Nat} {v:Value} {xs:List Value} (h:w.ownsRow B e sz v n xs) {p:Addr} (hp:v.ownBlock≠some p.block) (u:Value):(w.setCell p u).ownsRow B e sz v n xs :=
 h.kept (row:=some p.block) ⟨rfl,rfl,rfl,by simp [World.setCell],fun k _ hk=>Below.heap_setCell _ _ _ _ (fun e=>hk (by rw [e]))⟩ (.inr hp)
theorem pK {w:World} {g:Nat} {v u:Value} {t:TypeId} (h:w.heap[g]?=some (.cells #[v] t (0,0))):(w.setCell ⟨g,0,none⟩ u).heap[g]?=some (.cells #[u] t (0,0)):=by
 simp [World.setCell,Array.getElem?_modify,h]
theorem oq {w:World} {g:Nat} {p:Addr} {u:Value} {o:Obj} (h:w.heap[g]?=some o) (hp:p.block≠g):(w.setCell p u).heap[g]?=some o:=by
 rw [Below.heap_setCell _ _ _ _ (fun e=>hp e.symm)];exact h
theorem Ck:(Tryz.prog.info? 60).map (fun i=>(i.zero,i.size,i.bytes))=some (some (.agg #[.int .i64 0,.int .i64 0,.int .i64 0,.string ⟨#[]⟩,.string ⟨#[]⟩]),5,56):=by kernel_rfl
def RS (B bt bo:Nat) (tx:Str) (fs:List Fm) (w:World):Prop :=
 ∃tv ov,w.heap[bt]?=some (.cells #[tv] 48 (0,0))∧w.heap[bo]?=some (.cells #[ov] 26 (0,0))∧B≤bt∧B≤bo∧w.ownsRow B 5 1 tv tx.length (kx tx)∧w.ownsRow B 60 5 ov fs.length (kT fs)
theorem rS (fs:List Fm) (f:Fm):kT (fs++[f])=kT fs++f.cells:=by simp [kT]
theorem lY {w w':World} {B:Nat} {e:TypeId} {sz n:Nat} {v:Value} {xs:List Value} (h:w.ownsRow B e sz v n xs) (hb:Below w.heap.size w w'):w'.ownsRow B e sz v n xs:=by
 refine⟨h.1,?_⟩;rcases h.2 with h5|⟨g',cap,cur,hv,hB,hg,r⟩
 ·exact .inl h5
 ·exact .inr ⟨g',cap,cur,hv,hB,(hb.block g' (jA hg)).trans hg,r⟩
theorem RS.keep {B bt bo:Nat} {tx:Str} {fs:List Fm} {w w':World} (h:RS B bt bo tx fs w) (hb:Below w.heap.size w w'):RS B bt bo tx fs w':=by
 obtain⟨tv,ov,h1,h2,h3,h4,h5,h6⟩:=h;exact⟨tv,ov,(hb.block _ (jA h1)).trans h1,(hb.block _ (jA h2)).trans h2,h3,h4,lY h5 hb,lY h6 hb⟩
theorem vY (B bt bo:Nat) (tx:Str) (fs:List Fm) (w0 w:World) (h:RS B bt bo tx fs w0) (hw:Below w0.heap.size w0 w) (hB:B≤w.heap.size) (htx:tx.length≤1000000) (hfs:fs.length≤1000000) :
  Calls Tryz.prog 54 #[.pointer (some ⟨bt,0,none⟩),.pointer (some ⟨bo,0,none⟩)] w fun e w'=>e=.returned (.tuple #[])∧RS B bt bo [] (l7 tx fs) w'∧Below B w w'∧∀k,w0.heap.size≤k→k<w.heap.size→w'.heap[k]?=w.heap[k]?:=by
 obtain⟨tv,ov,h1,h2,hbt,hbo,ht,ho⟩:=h;have hlt1:=jA h1;have hlt2:=jA h2;have hrow:∀g,ov.ownBlock=some g→g<w0.heap.size:=fun g hg=>(ho.lt g hg).2
 replace h1:=(hw.block _ hlt1).trans h1;replace h2:=(hw.block _ hlt2).trans h2;replace ht:=lY ht hw;replace ho:=lY ho hw;have HROW:=ab hrow;clear hrow;obtain⟨ta,tc,rfl⟩:=jX ht;obtain⟨oa,oc,rfl⟩:=jX ho;have c1:w.cell? ⟨bt,0,none⟩=some (.slice ta tx.length tc):=by rw [DB h1];rfl
 have c2:w.cell? ⟨bo,0,none⟩=some (.slice oa fs.length oc):=by rw [DB h2];rfl
 have f1:w.frozen? ⟨bt,0,none⟩=false:=Lib.frozen_of_heap h1 0;have hne:bt≠bo:=fun e=>by subst e;rw [h1] at h2;simp at h2
 have H1:=ab h1;have H2:=ab h2;have HNE:=ab hne;clear h1 h2 hne;by_cases h0:tx=[]
 ·subst h0
  simp only [DP] at ht c1;go_enter Tryz.func54,Tryz.ntmps54
  go_wp2
  go_end0
  refine⟨rfl,⟨_,_,H1.out,H2.out,hbt,hbo,ht,ho⟩,Below.refl _ _,fun _ _ _=>rfl⟩
 ·have hl:0<tx.length:=List.length_pos_iff.2 h0
  have hcv:=oH (P:=Tryz.prog) (src:=48) (dst:=9) Tryz.underlying48 Tryz.underlying5 Tryz.underlying9 ht;obtain⟨iu,hiu⟩:=info_parts Ck;have H0:=ab h0;clear h0;go_enter Tryz.func54,Tryz.ntmps54
  go_wp2_with (at_builtin;refine kv B 60 rfl _ _ 26 rfl Tryz.underlying26 hiu rfl fU rfl ho rfl gQ rfl gd fR fU hB ?_)
  intro v' w1 ho1 hg1 hb1 _;have g1:w1.heap[bt]?=some (.cells #[.slice ta tx.length tc] 48 (0,0)):=(hg1.block bt (jA H1.out) (fun e=>lm ho H1.out fU e.symm)).trans H1.out;have g2:w1.heap[bo]?=some (.cells #[.slice oa fs.length oc] 26 (0,0)):=(hg1.block bo (jA H2.out) (fun e=>lm ho H2.out fU e.symm)).trans H2.out;obtain⟨va,vc,rfl⟩:=jX ho1;have d1:w1.cell? ⟨bt,0,none⟩=some (.slice ta tx.length tc):=by rw [DB g1];rfl
  have d2:w1.cell? ⟨bo,0,none⟩=some (.slice oa fs.length oc):=by rw [DB g2];rfl
  have d3:w1.frozen? ⟨bt,0,none⟩=false:=Lib.frozen_of_heap g1 0;have d4:w1.frozen? ⟨bo,0,none⟩=false:=Lib.frozen_of_heap g2 0;have hR:RS B bt bo [] (l7 tx fs) ((w1.setCell ⟨bo,0,none⟩ (.slice va (fs.length+1) vc)).setCell ⟨bt,0,none⟩ (.slice none 0 0)):=by
   have hz:l7 tx fs=fs++[⟨0,0,0,tx,[]⟩]:=Du H0.out;refine⟨.slice none 0 0,.slice va (fs.length+1) vc,pK (oq g1 (fun e=>HNE.out e.symm)),oq (pK g2) HNE.out,hbt,hbo,World.ownsRow_nil _ _ _ _,?_⟩;rw [hz,rS,DE];exact pl (pl (by simpa [Fm.cells] using ho1) (lm ho1 g2 fU) _) (lm (pl ho1 (lm ho1 g2 fU) (.slice va (fs.length+1) vc)) (oq (p:=⟨bo,0,none⟩) (u:=.slice va (fs.length+1) vc) g1 (fun e=>HNE.out e.symm)) fU) _
  have hbl:Below B w ((w1.setCell ⟨bo,0,none⟩ (.slice va (fs.length+1) vc)).setCell ⟨bt,0,none⟩ (.slice none 0 0)):=(hb1.setCell (p:=⟨bo,0,none⟩) hbo _).setCell (p:=⟨bt,0,none⟩) hbt _;have hst:∀k,w0.heap.size≤k→k<w.heap.size→((w1.setCell ⟨bo,0,none⟩ (.slice va (fs.length+1) vc)).setCell ⟨bt,0,none⟩ (.slice none 0 0)).heap[k]?=w.heap[k]?:=fun k hk1 hk2=>by
   rw [Below.heap_setCell _ _ _ _ (by show k≠bt;omega),Below.heap_setCell _ _ _ _ (by show k≠bo;omega)];exact hg1.block k hk2 (fun e=>by have:=HROW.out k e.symm;omega)
  have HST:=ab hst;have HRR:=ab hR;have HBL:=ab hbl;have hbb:((bo==bt)=false):=by rw [DV];exact fun e=>HNE.out e.symm
  have hne1:¬bo=bt:=fun e=>HNE.out e.symm
  have hne2:¬bt=bo:=HNE.out;clear hR hbl g1 g2 hst;go_wp2
  go_end0
  exact⟨rfl,HRR.out,HBL.out,HST.out⟩
theorem Dk {l r:Str} {i:Int} {f:Fm} (w:World) (h0:0≤i) (h1:i≤800000) (hs:l.length≤800000) (hP:nZ (l.drop i.toNat)=some (f,r)) :
  Calls Tryz.prog 55 #[.string ⟨l.toArray⟩,.int .i64 i] w fun e w'=>Below w.heap.size w w'∧f.thn.length≤l.length∧f.els.length≤l.length∧∃j:Nat,i<j∧j≤l.length∧l.drop j=r∧e=.returned (.tuple #[.agg #[.int .i64 (f).kind,.int .i64 (f).n,.int .i64 (f).cse,.string ⟨((f).thn).toArray⟩,.string ⟨((f).els).toArray⟩],.int .i64 j,.bool true]):=by
 obtain⟨i,rfl⟩:=Int.eq_ofNat_of_zero_le h0;refine(zA l i w fR hs).mono ?_
 rintro e w1 ⟨hb,hp⟩;rw [Int.toNat_natCast] at hP;rw [hP] at hp;obtain⟨a,b,j,c,d⟩:=hp;exact⟨hb,a,b,j,by omega,d⟩
theorem Bw {l:Str} {i:Int} (w:World) (h0:0≤i) (h1:i≤800000) (hs:l.length≤800000) (hP:nZ (l.drop i.toNat)=none) :
  Calls Tryz.prog 55 #[.string ⟨l.toArray⟩,.int .i64 i] w fun e w'=>Below w.heap.size w w'∧e=.returned (.tuple #[.agg #[.int .i64 0,.int .i64 0,.int .i64 0,.string ⟨#[]⟩,.string ⟨#[]⟩],.int .i64 0,.bool false]):=by
 obtain⟨i,rfl⟩:=Int.eq_ofNat_of_zero_le h0;refine(zA l i w fR hs).mono ?_
 rintro e w1 ⟨hb,hp⟩;rw [Int.toNat_natCast] at hP;rw [hP] at hp;exact⟨hb,hp⟩
def lenOk (n:Nat) (fs:List Fm):Prop:=∀f∈fs,f.thn.length≤n∧f.els.length≤n
theorem SlS.ownB {w:World} {B0:Nat} {e:TypeId} {sz:Nat} {a:Option Addr} {n c:Nat} {xs:List Value} (h:w.ownsRow B0 e sz (.slice a n c) n xs):SlS w (fun b=>B0≤b) a sz n xs:=by
 refine⟨h.1,fun hn=>?_⟩;rcases h.2 with⟨hv,h0⟩|⟨g,cap,cur,hv,hb,hg,r⟩
 ·omega
 ·injection hv with ha _ _
  subst ha;refine⟨g,0,rfl,hb,jA hg,fun j u hu=>?_⟩;exact dx
def vP (l:Str) (i B:Nat) (R:Option (List Fm × Str)) (e:Ending) (w':World):Prop :=
 match R with
 | none=>e=.returned (.tuple #[.slice none 0 0,.int .i64 0,.bool false])
 | some (fs,r)=>∃(a:Option Addr) (c j:Nat),e=.returned (.tuple #[.slice a fs.length c,.int .i64 j,.bool true])∧SlS w' (fun b=>B≤b) a 5 fs.length (kT fs)∧i≤j∧j<l.length∧l.drop j=r∧fs.length≤l.length∧lenOk l.length fs
theorem RS.texts {B bt bo:Nat} {tx:Str} {fs:List Fm} {w:World} (h:RS B bt bo tx fs w) :
  ∃ta tc,w.cell? ⟨bt,0,none⟩=some (.slice ta tx.length tc)∧w.frozen? ⟨bt,0,none⟩=false∧w.ownsRow B 5 1 (.slice ta tx.length tc) tx.length (kx tx)∧bt<w.heap.size:=by
 obtain⟨tv,ov,h1,h2,hbt,hbo,ht,ho⟩:=h;obtain⟨ta,tc,rfl⟩:=jX ht;exact⟨ta,tc,by rw [DB h1];rfl,Lib.frozen_of_heap h1 0,ht,jA h1⟩
theorem RS.parts {B bt bo:Nat} {tx:Str} {fs:List Fm} {w:World} (h:RS B bt bo tx fs w) :
  ∃oa oc,w.cell? ⟨bo,0,none⟩=some (.slice oa fs.length oc)∧w.frozen? ⟨bo,0,none⟩=false∧w.ownsRow B 60 5 (.slice oa fs.length oc) fs.length (kT fs)∧bo<w.heap.size:=by
 obtain⟨tv,ov,h1,h2,hbt,hbo,ht,ho⟩:=h;obtain⟨oa,oc,rfl⟩:=jX ho;exact⟨oa,oc,by rw [DB h2];rfl,Lib.frozen_of_heap h2 0,ho,jA h2⟩
theorem RS.text_app {B bt bo:Nat} {tx:Str} {fs:List Fm} {w w1:World} {v v1:Value} {c:UInt8} (h:RS B bt bo tx fs w) (hv:w.cell? ⟨bt,0,none⟩=some v)
  (hown:w1.ownsRow B 5 1 v1 (tx.length+1) (kx tx++[.int .u8 c.toNat])) (hg:w.grownBy w1 v.ownBlock) (hB:B≤w.heap.size) :
  ∃a c',v1=.slice a (tx.length+1) c'∧w1.cell? ⟨bt,0,none⟩=some v∧w1.frozen? ⟨bt,0,none⟩=false∧RS B bt bo (tx++[c]) fs (w1.setCell ⟨bt,0,none⟩ v1)∧Below B w (w1.setCell ⟨bt,0,none⟩ v1):=by
 obtain⟨tv,ov,h1,h2,hbt,hbo,ht,ho⟩:=h;have htv:tv=v:=by rw [DB h1] at hv;simpa using hv
 subst htv;have hne:bt≠bo:=fun e=>by subst e;rw [h1] at h2;simp at h2
 have g1:w1.heap[bt]?=some (.cells #[tv] 48 (0,0)):=(hg.block bt (jA h1) (fun e=>lm ht h1 fU e.symm)).trans h1;have g2:w1.heap[bo]?=some (.cells #[ov] 26 (0,0)):=(hg.block bo (jA h2) (fun e=>lm ht h2 fU e.symm)).trans h2;have ho1:=ho.kept hg (ui ho ht fU);obtain⟨a,c',rfl⟩:=jX hown;refine⟨a,c',rfl,by rw [DB g1];rfl,Lib.frozen_of_heap g1 0,⟨_,ov,pK g1,oq g2 hne,hbt,hbo,?_,pl ho1 (lm ho1 g1 fU) _⟩,?_⟩
 ·have:=pl hown (lm hown g1 fU) (p:=⟨bt,0,none⟩) (.slice a (tx.length+1) c')
  simpa [kx] using this
 ·exact((Below.refl B w).grown hg hB fun k hk=>(ht.lt k hk).1).setCell (p:=⟨bt,0,none⟩) hbt _
theorem RS.part_app {B bt bo:Nat} {tx:Str} {fs:List Fm} {w w1:World} {v v1:Value} {f:Fm} (h:RS B bt bo tx fs w) (hv:w.cell? ⟨bo,0,none⟩=some v)
  (hown:w1.ownsRow B 60 5 v1 (fs.length+1) (kT fs++[.int .i64 f.kind,.int .i64 f.n,.int .i64 f.cse,.string ⟨(f.thn).toArray⟩,.string ⟨(f.els).toArray⟩])) (hg:w.grownBy w1 v.ownBlock) (hB:B≤w.heap.size) :
  ∃a c',v1=.slice a (fs.length+1) c'∧w1.cell? ⟨bo,0,none⟩=some v∧w1.frozen? ⟨bo,0,none⟩=false∧RS B bt bo tx (fs++[f]) (w1.setCell ⟨bo,0,none⟩ v1)∧Below B w (w1.setCell ⟨bo,0,none⟩ v1):=by
 obtain⟨tv,ov,h1,h2,hbt,hbo,ht,ho⟩:=h;have htv:ov=v:=by rw [DB h2] at hv;simpa using hv
 subst htv;have hne:bo≠bt:=fun e=>by subst e;rw [h1] at h2;simp at h2
 have g1:w1.heap[bt]?=some (.cells #[tv] 48 (0,0)):=(hg.block bt (jA h1) (fun e=>lm ho h1 fU e.symm)).trans h1;have g2:w1.heap[bo]?=some (.cells #[ov] 26 (0,0)):=(hg.block bo (jA h2) (fun e=>lm ho h2 fU e.symm)).trans h2;have ht1:=ht.kept hg (ui ht ho fU);obtain⟨a,c',rfl⟩:=jX hown;refine⟨a,c',rfl,by rw [DB g2];rfl,Lib.frozen_of_heap g2 0,⟨tv,_,oq g1 hne,pK g2,hbt,hbo,pl ht1 (lm ht1 g2 fU) _,?_⟩,?_⟩
 ·have:=pl hown (lm hown g2 fU) (p:=⟨bo,0,none⟩) (.slice a (fs.length+1) c')
  rw [rS,DE];exact this
 ·exact((Below.refl B w).grown hg hB fun k hk=>(ho.lt k hk).1).setCell (p:=⟨bo,0,none⟩) hbo _
theorem tJ (tx:Str) (fs:List Fm):(l7 tx fs).length≤tx.length+fs.length:=by
 unfold l7;split
 ·omega
 ·rename_i h;have:=List.length_pos_iff.2 h;simp;omega
theorem vN {n:Nat} {tx:Str} {fs:List Fm} (h:lenOk n fs) (ht:tx.length≤n):lenOk n (l7 tx fs):=by
 unfold l7;split
 ·exact h
 ·intro f hf
  rcases DZ.1 hf with hf|hf
  ·exact h f hf
  ·simp at hf;subst hf;exact⟨ht,by simp⟩
theorem RS.start (B:Nat) (w:World) (h:B≤w.heap.size):RS B (w.heap.size+1) w.heap.size [] [] ((w.alloc (.cells #[.slice none 0 0] 26)).alloc (.cells #[.slice none 0 0] 48)):=by
 refine⟨_,_,?_,?_,by omega,h,World.ownsRow_nil _ _ _ _,World.ownsRow_nil _ _ _ _⟩
 ·have:=heap_alloc_new (w.alloc (.cells #[.slice none 0 0] 26)) (.cells #[.slice none 0 0] 48)
  simpa using this
 ·rw [Below.heap_alloc _ _ _ fX];exact heap_alloc_new w _
def RdRel (l:Str) (i:Nat) (R:Option (List Fm × Str)) (w:World) (q:Value) (wr:World):Prop :=
 ∃(j:Nat) (tx:Str) (fs:List Fm),i≤j∧j≤l.length∧q=.int .i64 j∧RS w.heap.size (w.heap.size+1) w.heap.size tx fs wr∧Below w.heap.size w wr∧tx.length≤j∧fs.length≤j∧Hid (tx.length+fs.length≤j)∧Hid (lenOk l.length fs)∧Hid (mu (l.drop j) tx fs=R)
theorem BR (l:Str) (i:Nat) (w:World) (h1:i≤l.length) (hs:l.length≤700000) :
  Calls Tryz.prog 27 #[.string ⟨l.toArray⟩,.int .i64 i] w fun e w'=>Below w.heap.size w w'∧vP l i w.heap.size (mu (l.drop i) [] []) e w':=by
 generalize hR:mu (l.drop i) [] []=R
 have HR:=ab hR;clear hR;obtain⟨iu,hiu⟩:=info_parts qC;go_enter Tryz.func27,Tryz.ntmps27
 go_wp2
 go_loopw [1] (fun q wr=>RdRel l i R w q wr) (fun q _=>l.length-(intOf q).toNat)
 case atStart =>
  refine⟨i,[],[],by omega,by omega,rfl,?_,?_,by simp,by simp,ab fX,ab (fun f hf=>by simp at hf),HR⟩
  ·exact RS.start _ w (Dv _)
  ·(repeat (first|with_reducible exact Below.refl _ _|with_reducible assumption|(refine Below.setCell ?_ gj _)|(refine Below.alloc ?_ fZ _)|(refine Below.drew ?_)))
 case round =>
  obtain⟨j,tx,fs,hij,hjl,rfl,hrs,hb,htx,hfs,HTF,HLO,HF⟩:=hrel;clear HR;have hB:=hb.size;cases hd:l.drop j with
  | nil =>
   have h2:=kN hd;have HF':Hid (R=none):=ab gC;clear hd HF;go_wp2
   go_ret3
   exact⟨hb,by rw [HF'.out];rfl⟩
  | cons c r =>
   obtain⟨h2,h3,hr⟩:=kh hd;have HF':Hid (R=mu (c::r) tx fs):=ab (by rw [←hd];exact HF.out.symm);have Hr:=ab hr;have HD:=ab hd;clear hd HF hr;by_cases c47:c.toNat=47
   ·have HE:Hid (R=some (l7 tx fs,c::r)):=ab (by rw [HF'.out,lh,Dr c47])
    have b47:((c.toNat:Int)==47)=true:= ii;clear HF' c47;go_wp2_with (go_at_call 54;refine(vY _ _ _ _ _ _ _ hrs (Below.refl _ _) hB fR fR).mono ?_;rintro e w1 ⟨rfl,hrs1,hb1,_⟩;obtain⟨oa,oc,k1,k2,k3,k4⟩:=hrs1.parts)
    go_ret3
    refine⟨hb.trans hb1,?_⟩;rw [HE.out];exact⟨oa,oc,j,rfl,SlS.ownB k3,hij,h2,HD.out,by have:=tJ tx fs;have:=HTF.out;omega,vN HLO.out fR⟩
   ·have b47:((c.toNat:Int)==47)=false:= gI
    by_cases c36:c.toNat=36
    ·have b36:((c.toNat:Int)==36)=true:= ii
     cases hP:nZ r with
     | none =>
      have HP:Hid (nZ (l.drop ((j:Int)+1).toNat)=none):=ab iU;have HE:Hid (R=mu r (tx++[c]) fs):=ab (by rw [HF'.out,lh,Du c47,Dr c36,hP]);clear HF' c47 c36 hP;go_wp2_with (go_at_call 55;refine(Bw _ fR fR fR HP.out).mono ?_;rintro e w1 ⟨hb1,rfl⟩;have hrs0:=hrs.keep hb1;have hB1:w.heap.size≤w1.heap.size:=(by have:=hb1.size;omega);obtain⟨ta,tc,k1,k2,k3,k4⟩:=hrs0.texts)
      have k5:w.heap.size<w1.heap.size:=fR;have hB2:w.heap.size≤(w1.alloc (.cells #[.int .i64 0,.int .i64 0,.int .i64 0,.string ⟨#[]⟩,.string ⟨#[]⟩] 60)).heap.size:=by simp;omega
      have k1':(w1.alloc (.cells #[.int .i64 0,.int .i64 0,.int .i64 0,.string ⟨#[]⟩,.string ⟨#[]⟩] 60)).cell? ⟨w.heap.size+1,0,none⟩=some (.slice ta tx.length tc):=by rw [World.cell?_alloc_lt w1 _ _ k4];exact k1
      go_region_law (refine ry w.heap.size 5 (w:=(w1.alloc (.cells #[.int .i64 0,.int .i64 0,.int .i64 0,.string ⟨#[]⟩,.string ⟨#[]⟩] 60)).drew) rfl rfl _ _ 48 rfl Tryz.underlying48 hiu rfl fU rfl (k3.alloc (.cells #[.int .i64 0,.int .i64 0,.int .i64 0,.string ⟨#[]⟩,.string ⟨#[]⟩] 60)) rfl gQ rfl gd fR fU hB2 ?_;intro v1 w2 hown1 hg1 _ _;obtain⟨a1,c1,rfl,d1,d2,hrs1,hbl1⟩:=RS.text_app (w:=(w1.alloc (.cells #[.int .i64 0,.int .i64 0,.int .i64 0,.string ⟨#[]⟩,.string ⟨#[]⟩] 60)).drew) (hrs0.keep ((Below.refl _ _).alloc (Dv _) _).drew) k1' hown1 hg1 hB2)
      all_goals
       go_wp2
       go_roundw
       case rel =>
        refine⟨j+1,tx++[c],fs,by omega,by omega,by go_num,hrs1,Below.trans (((hb.trans (hb1.mono hB)).alloc hB1 _).drew) hbl1,by simp;omega,by omega,ab je,HLO,ab ?_⟩;rw [Hr.out,←HE.out]
       case measure=>simp [intOf];omega
     | some p =>
      obtain⟨⟨fk,fn,fc,ft,fe⟩,r2⟩:=p;have HP:Hid (nZ (l.drop ((j:Int)+1).toNat)=some (⟨fk,fn,fc,ft,fe⟩,r2)):=ab iU;have HE:Hid (R=mu r2 [] (l7 tx fs++[⟨fk,fn,fc,ft,fe⟩])):=ab (by rw [HF'.out,lh,Du c47,Dr c36,hP]);obtain⟨im,him⟩:=info_parts Ck;have hfl:=tJ tx fs;clear HF' c47 c36 hP;go_wp2_with (first
       | (go_at_call 55;refine(Dk _ fR fR fR HP.out).mono ?_;rintro e w1 ⟨hb1,ht1,ht2,q,hq1,hq2,hq3,rfl⟩;have hrs0:=hrs.keep hb1;have hB1:w.heap.size≤w1.heap.size:=(by have:=hb1.size;omega);have HQ:=ab hq3;clear hq3)
       | (go_at_call 54;refine(vY w.heap.size _ _ tx fs w1 _ hrs0 ((Below.refl _ _).alloc (Dv _) _) fY fR fR).mono ?_;rintro e w2 ⟨rfl,hrs2,hb2,hst⟩;have hbx:=hst w1.heap.size (Dv _) fX;rw [heap_alloc_new] at hbx;have f0:=DB hbx 0;have f1:=DB hbx 1;have f2:=DB hbx 2;have f3:=DB hbx 3;have f4:=DB hbx 4;simp only [List.getElem?_toArray,List.getElem?_cons_zero,List.getElem?_cons_succ] at f0 f1 f2 f3 f4;obtain⟨oa,oc,k1,k2,k3,k4⟩:=hrs2.parts;have hB2:w.heap.size≤w2.heap.size:=(by have:=hb2.size;simp at this;omega);have HST:=ab hst;have HBX:=ab hbx;clear hst hbx)
       | (at_builtin;refine kv w.heap.size 60 rfl _ _ 26 rfl Tryz.underlying26 him rfl fU rfl k3 rfl gQ rfl gd fR fU hB2 ?_;intro v1 w3 hown1 hg1 _ _;obtain⟨a1,c1,rfl,d1,d2,hrs3,hbl3⟩:=RS.part_app (f:=⟨fk,fn,fc,ft,fe⟩) hrs2 k1 hown1 hg1 hB2))
      go_roundw
      case rel =>
       refine⟨q,[],l7 tx fs++[⟨fk,fn,fc,ft,fe⟩],by omega,hq2,rfl,hrs3,?_,by simp,by have:=HTF.out;simp;omega,ab je,ab ?_,ab ?_⟩
       ·exact(((hb.trans (hb1.mono hB)).alloc hB1 _).trans hb2).trans hbl3
       ·intro f hf
        rcases DZ.1 hf with hf|hf
        ·exact vN HLO.out fR f hf
        ·simp at hf;subst hf;exact⟨ht1,ht2⟩
       ·rw [HQ.out,←HE.out]
      case measure=>simp [intOf];omega
    ·have b36:((c.toNat:Int)==36)=false:= gI
     by_cases c92:c.toNat=92
     ·have b92:((c.toNat:Int)==92)=true:= ii
      obtain⟨ta,tc,k1,k2,k3,k4⟩:=hrs.texts;by_cases hst:nW r four=true
      ·have HE:Hid (R=mu (r.drop 1) (tx++r.take 1) fs):=ab (by rw [HF'.out,lh,Du c47,Du c36,Dr ⟨c92,hst⟩])
       cases r with
       | nil=>simp [nW] at hst
       | cons d r' =>
        obtain⟨m2,m3,mr⟩:=kh Hr.out;have m4:(j:Int)+1<l.length:=fR;have m5:0≤(j:Int)+1:=fR;have Hmr:=ab mr;have hst':nW (List.drop (j+1) l) [36,125,92,47]=true:=by rw [Hr.out];exact hst
        have HE':Hid (R=mu r' (tx++[d]) fs):=HE;clear HF' c47 c36 c92 hst HE mr;go_wp2_with (go_at_call 56;refine(oQ _ _ _ _ fR fR fR fX).mono ?_;rintro e w1 ⟨rfl,rfl⟩)
        go_region_law (refine ry w.heap.size 5 (w:=wr.drew) rfl rfl _ _ 48 rfl Tryz.underlying48 hiu rfl fU rfl k3 rfl gQ rfl gd fR fU hB ?_;intro v1 w2 hown1 hg1 _ _;obtain⟨a1,c1,rfl,d1,d2,hrs1,hbl1⟩:=RS.text_app (w:=wr.drew) hrs k1 hown1 hg1 hB)
        all_goals
         go_wp2
         go_roundw
         case rel =>
          refine⟨j+2,tx++[d],fs,by omega,by omega,by go_num,hrs1,hb.drew.trans hbl1,by simp;omega,by omega,ab je,HLO,ab ?_⟩;rw [Hmr.out,←HE'.out]
         case measure=>simp [intOf];omega
      ·have HE:Hid (R=mu r (tx++[c]) fs):=ab (by rw [HF'.out,lh,Du c47,Du c36,Du (fun h=>hst h.2)])
       have hst':nW (List.drop (j+1) l) [36,125,92,47]=false:=by rw [Hr.out];simpa [four] using hst
       clear HF' c47 c36 c92 hst;go_wp2_with (go_at_call 56;refine(oQ _ _ _ _ fR fR fR fX).mono ?_;rintro e w1 ⟨rfl,rfl⟩)
       exact bD
     ·have b92:((c.toNat:Int)==92)=false:= gI
      have HE:Hid (R=mu r (tx++[c]) fs):=ab (by rw [HF'.out,lh,Du c47,Du c36,Du (fun h=>c92 h.1)]);clear HF' c47 c36 c92;obtain⟨ta,tc,k1,k2,k3,k4⟩:=hrs.texts;go_wp2
      exact bD
def TfV (w:World) (S:Nat→Prop) (cc:List Value) (f:Tf):Prop :=
 ∃(rc:List Value) (fa:Option Addr) (fc:Nat),RxV w S rc f.rx∧SlS w S fa 5 f.fs.length (kT f.fs)∧cc=rc++[.slice fa f.fs.length fc,.bool f.fold,.bool f.all]
theorem TfV.keep {w w':World} {S:Nat→Prop} (hk:Kept S w w') {c:List Value} {f:Tf} (h:TfV w S c f):TfV w' S c f:=by
 obtain⟨rc,fa,fc,h1,h2,h3⟩:=h;exact⟨rc,fa,fc,h1.keep hk,h2.keep hk,h3⟩
theorem TfV.mono {w:World} {S S':Nat→Prop} (hS:∀b,S b→b<w.heap.size→S' b) {c:List Value} {f:Tf} (h:TfV w S c f):TfV w S' c f:=by
 obtain⟨rc,fa,fc,h1,h2,h3⟩:=h;exact⟨rc,fa,fc,h1.mono hS,h2.mono hS,h3⟩
theorem TfV.len {w:World} {S:Nat→Prop} {c:List Value} {f:Tf} (h:TfV w S c f):c.length=11:=by
 obtain⟨rc,fa,fc,h1,h2,rfl⟩:=h;rw [DE,h1.len];rfl
structure TfCells (fc:List Value) (f:Tf) (w:World) (S:Nat→Prop) (rk:Int) (rch:Str) (rng:Bool) (rrs:List Row) (rlo rhi:Int) (rlz:Bool) (rks:List Rx) (ra:Option Addr) (rcp:Nat) (rka:Option Addr) (rkc:Nat) (fa:Option Addr) (fcp:Nat):Prop where
 eq:fc=[.int .i64 rk,.string ⟨rch.toArray⟩,.bool rng,.slice ra rrs.length rcp,.int .i64 rlo,.int .i64 rhi,.bool rlz,.slice rka rks.length rkc,.slice fa f.fs.length fcp,.bool f.fold,.bool f.all]
 rx:f.rx=.mk rk rch rng rrs rlo rhi rlz rks
 rv:RxV w S (rxc rk rch rng ra rrs.length rcp rlo rhi rlz rka rks.length rkc) (.mk rk rch rng rrs rlo rhi rlz rks)
 fv:SlS w S fa 5 f.fs.length (kT f.fs)
theorem TfV.open_ {w:World} {S:Nat→Prop} {fc:List Value} {f:Tf} (h:TfV w S fc f):∃rk rch rng rrs rlo rhi rlz rks ra rcp rka rkc fa fcp,TfCells fc f w S rk rch rng rrs rlo rhi rlz rks ra rcp rka rkc fa fcp:=by
 obtain⟨rc,fa,fcp,h1,h2,rfl⟩:=h;obtain⟨rx,fs,fd,al⟩:=f;obtain⟨rk,rch,rng,rrs,rlo,rhi,rlz,rks⟩:=rx;have h0:=h1;obtain⟨ra,rcp,rka,rkc,rfl,_,_⟩:=h1.open_;exact⟨rk,rch,rng,rrs,rlo,rhi,rlz,rks,ra,rcp,rka,rkc,fa,fcp,rfl,rfl,h0,h2⟩
end Go.Proofs.YtjggmmaojklmpaaGreatDoor
