/- walks of fmts: braced -/
import Derived.Test.YtjggmmaojklmpaaGreatDoorKb3
import Derived.Lib.LazyBuf
set_option maxRecDepth 100000
set_option maxHeartbeats 4000000
namespace Go.Proofs.YtjggmmaojklmpaaGreatDoor
open Go.RowKit
theorem zC (r:Str):Lib.indexByte r 125=match r.dropWhile lg with|[]=>-1|_::_=>((r.takeWhile lg).length:Int):=by
 induction r with
 | nil=>rfl
 | cons b r ih =>
  by_cases h:b.toNat=125
  ·have hb:b=125:=Dq.1 h
   subst hb;rfl
  ·have hb:(b==125)=false:=by rw [DV];intro e;exact h (by rw [e];rfl)
   have hd:lg b=true:=by simpa [lg] using h
   rw [List.dropWhile_cons_of_pos hd,List.takeWhile_cons_of_pos hd];simp only [Lib.indexByte,hb,ih];cases r.dropWhile lg with
   | nil=>rfl
   | cons x y =>
    have h1:((((r.takeWhile lg).length:Int))==-1)=false:=by rw [DV];omega
    simp only [h1,DW,if_false,Dx];omega
theorem Way_eq {s:Str} {v:Int} (w:World) (h:oY s=v) :
  Calls Tryz.prog 102 #[.string ⟨s.toArray⟩] w fun e w'=>e=.returned (.int .i64 v)∧Below w.heap.size w w':=by
 subst h;exact Way_any s w
theorem oT {l t r:Str} {i one:Int} (w:World) (h0:0≤i) (h1:i≤1000000) (hs:l.length≤1000000) (ho:0≤one) (hU:j7 one (l.drop i.toNat) []=some (t,r)) :
  Calls Tryz.prog 103 #[.string ⟨l.toArray⟩,.int .i64 i,.int .u8 one] w fun e w'=>Below w.heap.size w w'∧t.length≤l.length∧∃j:Nat,i≤j∧j<l.length∧l.drop j=r∧e=.returned (.tuple #[.string ⟨t.toArray⟩,.int .i64 j,.bool true]):=by
 refine(vj l i one w h0 h1 hs ho).mono ?_
 rintro e w1 ⟨hb,hp⟩;rw [hU] at hp;obtain⟨h2,j,h3,h4,h5,h6⟩:=hp;exact⟨hb,h2,j,by omega,h4,h5,h6⟩
theorem nE {l:Str} {i one:Int} (w:World) (h0:0≤i) (h1:i≤1000000) (hs:l.length≤1000000) (ho:0≤one) (hU:j7 one (l.drop i.toNat) []=none) :
  Calls Tryz.prog 103 #[.string ⟨l.toArray⟩,.int .i64 i,.int .u8 one] w fun e w'=>Below w.heap.size w w'∧e=.returned (.tuple #[.string ⟨[].toArray⟩,.int .i64 0,.bool false]):=by
 refine(vj l i one w h0 h1 hs ho).mono ?_
 rintro e w1 ⟨hb,hp⟩;rw [hU] at hp;exact⟨hb,hp⟩
def yt (l:Str) (i:Nat) (R:Option (Fm × Str)) (e:Ending):Prop :=
 match R with
 | none=>e=.returned (.tuple #[.agg #[.int .i64 0,.int .i64 0,.int .i64 0,.string ⟨#[]⟩,.string ⟨#[]⟩],.int .i64 0,.bool false])
 | some (f,r)=>f.thn.length≤l.length∧f.els.length≤l.length∧∃j:Nat,i<j∧j≤l.length∧l.drop j=r∧e=.returned (.tuple #[.agg #[.int .i64 (f).kind,.int .i64 (f).n,.int .i64 (f).cse,.string ⟨((f).thn).toArray⟩,.string ⟨((f).els).toArray⟩],.int .i64 j,.bool true])
theorem Aw (l:Str) (i n:Nat) (w:World) (h1:i≤900000) (hs:l.length≤900000) :
  Calls Tryz.prog 81 #[.string ⟨l.toArray⟩,.int .i64 i,.int .i64 n] w fun e w'=>Below w.heap.size w w'∧yt l i (lc (l.drop i) n) e:=by
 generalize hR:lc (l.drop i) n=R
 have HR:=ab hR;clear hR;cases hd:l.drop i with
 | nil =>
  have h2:=kN hd;have hU:j7 125 (l.drop (i:Int).toNat) []=none:=by rw [Int.toNat_natCast,hd];rfl
  have HE:Hid (R=none):=ab (by rw [←HR.out,hd];rfl);have hh:∀p:Str,p.isPrefixOf (l.drop (i:Int).toNat)=p.isPrefixOf []:=fun p=>by rw [Int.toNat_natCast,hd]
  have HU:=ab hU;have HH:=ab hh;have e1:List.isPrefixOf [47] (List.drop i l)=false:=by rw [hd];rfl
  have e2:List.isPrefixOf [43] (List.drop i l)=false:=by rw [hd];rfl
  have e3:List.isPrefixOf [63] (List.drop i l)=false:=by rw [hd];rfl
  have e4:List.isPrefixOf [45] (List.drop i l)=false:=by rw [hd];rfl
  clear hd hU hh;go_enter Tryz.func81,Tryz.ntmps81
  go_wp2_with (first
   | (go_at_call 80;refine(lw _ _ _ _ fR fR fX).mono ?_;rintro e w1 ⟨rfl,rfl⟩)
   | (go_at_call 103;refine(nE _ fR fR fR fR HU.out).mono ?_;rintro e w1 ⟨hb1,rfl⟩;obtain⟨hc1,hf1⟩:=qh hb1;have z0:w1.cell? ⟨w.heap.size,0,none⟩=some (.int .i64 0):= fT;have z1:w1.cell? ⟨w.heap.size,1,none⟩=some (.int .i64 0):= fT;have z2:w1.cell? ⟨w.heap.size,2,none⟩=some (.int .i64 0):= fT;have z3:w1.cell? ⟨w.heap.size,3,none⟩=some (.string ⟨#[]⟩):= fT;have z4:w1.cell? ⟨w.heap.size,4,none⟩=some (.string ⟨#[]⟩):= fT;have hbw:Below w.heap.size w w1:=((((Below.refl w.heap.size w).alloc (Dv _) _).alloc fX _).trans (hb1.mono fY))))
  refine DX (v:=.tuple #[.agg #[.int .i64 0,.int .i64 0,.int .i64 0,.string ⟨#[]⟩,.string ⟨#[]⟩],.int .i64 0,.bool false]) gF rfl ⟨?_,by rw [HE.out];rfl⟩
  (repeat (first|with_reducible exact Below.refl _ _|with_reducible assumption|(refine Below.setCell ?_ gj _)|(refine Below.alloc ?_ fZ _)|(refine Below.drew ?_)))
 | cons c r =>
  obtain⟨h2,h3,hr⟩:=kh hd;have Hr:=ab hr;have HD:=ab hd;clear hr h3;by_cases c43:c.toNat=43
  ·have e1:List.isPrefixOf [47] (List.drop i l)=false:=by rw [hd,pre1];simp;try omega
   have e2:List.isPrefixOf [43] (List.drop i l)=true:=by rw [hd,pre1];simp;try omega
   have e3:List.isPrefixOf [63] (List.drop i l)=false:=by rw [hd,pre1];simp;try omega
   have e4:List.isPrefixOf [45] (List.drop i l)=false:=by rw [hd,pre1];simp;try omega
   have HE:Hid (R=match j7 125 r [] with|some (t,_::r2)=>some (⟨3,n,0,t,[]⟩,r2)|_=>none):=ab (by
    rw [←HR.out,hd];simp only [lc];rw [Du fR,Dr c43];rfl)
   clear hd c43;cases hU:j7 125 r [] with
   | none =>
    have HU:Hid (j7 125 (l.drop ((i:Int)+1).toNat) []=none):=ab gD;have HE':Hid (R=none):=ab jn;clear hU HE;go_enter Tryz.func81,Tryz.ntmps81
    go_wp2_with (first|(go_at_call 80;refine(lw _ _ _ _ fR fR fX).mono ?_;rintro e w1 ⟨rfl,rfl⟩)|(go_at_call 103;refine(nE _ fR fR fR fR HU.out).mono ?_;rintro e w1 ⟨hb1,rfl⟩;obtain⟨hc1,hf1⟩:=qh hb1;have z0:w1.cell? ⟨w.heap.size,0,none⟩=some (.int .i64 0):= fT;have z1:w1.cell? ⟨w.heap.size,1,none⟩=some (.int .i64 0):= fT;have z2:w1.cell? ⟨w.heap.size,2,none⟩=some (.int .i64 0):= fT;have z3:w1.cell? ⟨w.heap.size,3,none⟩=some (.string ⟨#[]⟩):= fT;have z4:w1.cell? ⟨w.heap.size,4,none⟩=some (.string ⟨#[]⟩):= fT;have y0:w1.cell? ⟨w.heap.size+1,0,none⟩=some (.int .i64 3):= fT;have y1:w1.cell? ⟨w.heap.size+1,1,none⟩=some (.int .i64 ↑n):= fT;have y2:w1.cell? ⟨w.heap.size+1,2,none⟩=some (.int .i64 0):= fT;have y3:w1.cell? ⟨w.heap.size+1,3,none⟩=some (.string ⟨#[]⟩):= fT;have y4:w1.cell? ⟨w.heap.size+1,4,none⟩=some (.string ⟨#[]⟩):= fT;have hbw:Below w.heap.size w w1:=((((Below.refl w.heap.size w).alloc (Dv _) _).alloc fX _).trans (hb1.mono fY))))
    exact eJ
   | some p =>
    obtain⟨t,s⟩:=p;obtain⟨d,r2,rfl,_⟩:=lI _ _ _ hU;have HU:Hid (j7 125 (l.drop ((i:Int)+1).toNat) []=some (t,d::r2)):=ab gD;have HE':Hid (R=some (⟨3,n,0,t,[]⟩,r2)):=ab jn;clear hU HE;go_enter Tryz.func81,Tryz.ntmps81
    go_wp2_with (first|(go_at_call 80;refine(lw _ _ _ _ fR fR fX).mono ?_;rintro e w1 ⟨rfl,rfl⟩)|(go_at_call 103;refine(oT _ fR fR fR fR HU.out).mono ?_;rintro e w1 ⟨hb1,hlt,j,hj1,hj2,hj3,rfl⟩;obtain⟨hc1,hf1⟩:=qh hb1;have z0:w1.cell? ⟨w.heap.size,0,none⟩=some (.int .i64 0):= fT;have z1:w1.cell? ⟨w.heap.size,1,none⟩=some (.int .i64 0):= fT;have z2:w1.cell? ⟨w.heap.size,2,none⟩=some (.int .i64 0):= fT;have z3:w1.cell? ⟨w.heap.size,3,none⟩=some (.string ⟨#[]⟩):= fT;have z4:w1.cell? ⟨w.heap.size,4,none⟩=some (.string ⟨#[]⟩):= fT;have y0:w1.cell? ⟨w.heap.size+1,0,none⟩=some (.int .i64 3):= fT;have y1:w1.cell? ⟨w.heap.size+1,1,none⟩=some (.int .i64 ↑n):= fT;have y2:w1.cell? ⟨w.heap.size+1,2,none⟩=some (.int .i64 0):= fT;have y3:w1.cell? ⟨w.heap.size+1,3,none⟩=some (.string ⟨#[]⟩):= fT;have y4:w1.cell? ⟨w.heap.size+1,4,none⟩=some (.string ⟨#[]⟩):= fT;have hbw:Below w.heap.size w w1:=((((Below.refl w.heap.size w).alloc (Dv _) _).alloc fX _).trans (hb1.mono fY));have HJ3:=ab hj3;clear hj3))
    refine DX (v:=.tuple #[.agg #[.int .i64 3,.int .i64 n,.int .i64 0,.string ⟨t.toArray⟩,.string ⟨[].toArray⟩],.int .i64 (j+1),.bool true]) gF rfl ⟨?_,?_⟩
    ·(repeat (first|with_reducible exact Below.refl _ _|with_reducible assumption|(refine Below.setCell ?_ gj _)|(refine Below.alloc ?_ fZ _)|(refine Below.drew ?_)))
    ·rw [HE'.out]
     exact fD
  by_cases c45:c.toNat=45
  ·have e1:List.isPrefixOf [47] (List.drop i l)=false:=by rw [hd,pre1];simp;try omega
   have e2:List.isPrefixOf [43] (List.drop i l)=false:=by rw [hd,pre1];simp;try omega
   have e3:List.isPrefixOf [63] (List.drop i l)=false:=by rw [hd,pre1];simp;try omega
   have e4:List.isPrefixOf [45] (List.drop i l)=true:=by rw [hd,pre1];simp;try omega
   have HE:Hid (R=match j7 125 r [] with|some (t,_::r2)=>some (⟨4,n,0,[],t⟩,r2)|_=>none):=ab (by
    rw [←HR.out,hd];simp only [lc];rw [Du fR,Du fR,Du fR,Dr c45];rfl)
   clear hd c43 c45;cases hU:j7 125 r [] with
   | none =>
    have HU:Hid (j7 125 (l.drop ((i:Int)+1).toNat) []=none):=ab gD;exact aF
   | some p =>
    obtain⟨t,s⟩:=p;obtain⟨d,r2,rfl,_⟩:=lI _ _ _ hU;have HU:Hid (j7 125 (l.drop ((i:Int)+1).toNat) []=some (t,d::r2)):=ab gD;exact aE
  by_cases c63:c.toNat=63
  ·have e1:List.isPrefixOf [47] (List.drop i l)=false:=by rw [hd,pre1];simp;try omega
   have e2:List.isPrefixOf [43] (List.drop i l)=false:=by rw [hd,pre1];simp;try omega
   have e3:List.isPrefixOf [63] (List.drop i l)=true:=by rw [hd,pre1];simp;try omega
   have e4:List.isPrefixOf [45] (List.drop i l)=false:=by rw [hd,pre1];simp;try omega
   have HE:Hid (R=match j7 58 r [] with|some (t,_::r2)=>(match j7 125 r2 [] with|some (u,_::r3)=>some (⟨5,n,0,t,u⟩,r3)|_=>none)|_=>none):=ab (by
    rw [←HR.out,hd];simp only [lc];rw [Du fR,Du fR,Dr c63];rfl)
   clear hd c43 c45 c63;cases hU:j7 58 r [] with
   | none =>
    have HU:Hid (j7 58 (l.drop ((i:Int)+1).toNat) []=none):=ab gD;have HE':Hid (R=none):=ab jn;clear hU HE;go_enter Tryz.func81,Tryz.ntmps81
    go_wp2_with (first|(go_at_call 80;refine(lw _ _ _ _ fR fR fX).mono ?_;rintro e w1 ⟨rfl,rfl⟩)|(go_at_call 103;refine(nE _ fR fR fR fR HU.out).mono ?_;rintro e w1 ⟨hb1,rfl⟩;obtain⟨hc1,hf1⟩:=qh hb1;have z0:w1.cell? ⟨w.heap.size,0,none⟩=some (.int .i64 0):= fT;have z1:w1.cell? ⟨w.heap.size,1,none⟩=some (.int .i64 0):= fT;have z2:w1.cell? ⟨w.heap.size,2,none⟩=some (.int .i64 0):= fT;have z3:w1.cell? ⟨w.heap.size,3,none⟩=some (.string ⟨#[]⟩):= fT;have z4:w1.cell? ⟨w.heap.size,4,none⟩=some (.string ⟨#[]⟩):= fT;have y0:w1.cell? ⟨w.heap.size+1,0,none⟩=some (.int .i64 5):= fT;have y1:w1.cell? ⟨w.heap.size+1,1,none⟩=some (.int .i64 ↑n):= fT;have y2:w1.cell? ⟨w.heap.size+1,2,none⟩=some (.int .i64 0):= fT;have y3:w1.cell? ⟨w.heap.size+1,3,none⟩=some (.string ⟨#[]⟩):= fT;have y4:w1.cell? ⟨w.heap.size+1,4,none⟩=some (.string ⟨#[]⟩):= fT;have hbw:Below w.heap.size w w1:=((((Below.refl w.heap.size w).alloc (Dv _) _).alloc fX _).trans (hb1.mono fY))))
    exact eJ
   | some p =>
    obtain⟨t,s⟩:=p;obtain⟨d,r2,rfl,_⟩:=lI _ _ _ hU;have HU:Hid (j7 58 (l.drop ((i:Int)+1).toNat) []=some (t,d::r2)):=ab gD;have HE1:Hid (R=match j7 125 r2 [] with|some (u,_::r3)=>some (⟨5,n,0,t,u⟩,r3)|_=>none):=ab jn;clear hU HE;go_enter Tryz.func81,Tryz.ntmps81
    go_wp2_with (first|(go_at_call 80;refine(lw _ _ _ _ fR fR fX).mono ?_;rintro e w1 ⟨rfl,rfl⟩)|(go_at_call 103;refine(oT _ fR fR fR fR HU.out).mono ?_))
    rintro e w1 ⟨hb1,hlt,j,hj1,hj2,hj3,rfl⟩;obtain⟨hc1,hf1⟩:=qh hb1;have z0:w1.cell? ⟨w.heap.size,0,none⟩=some (.int .i64 0):= fT;have z1:w1.cell? ⟨w.heap.size,1,none⟩=some (.int .i64 0):= fT;have z2:w1.cell? ⟨w.heap.size,2,none⟩=some (.int .i64 0):= fT;have z3:w1.cell? ⟨w.heap.size,3,none⟩=some (.string ⟨#[]⟩):= fT;have z4:w1.cell? ⟨w.heap.size,4,none⟩=some (.string ⟨#[]⟩):= fT;have y0:w1.cell? ⟨w.heap.size+1,0,none⟩=some (.int .i64 5):= fT;have y1:w1.cell? ⟨w.heap.size+1,1,none⟩=some (.int .i64 ↑n):= fT;have y2:w1.cell? ⟨w.heap.size+1,2,none⟩=some (.int .i64 0):= fT;have y3:w1.cell? ⟨w.heap.size+1,3,none⟩=some (.string ⟨#[]⟩):= fT;have y4:w1.cell? ⟨w.heap.size+1,4,none⟩=some (.string ⟨#[]⟩):= fT;have hbw:Below w.heap.size w w1:=((((Below.refl w.heap.size w).alloc (Dv _) _).alloc fX _).trans (hb1.mono fY));have HJ:=ab (kh hj3).2.2;clear hj3;have hz:w.heap.size+1<w1.heap.size:=by have:=hb1.size;simp at this;omega
    cases hV:j7 125 r2 [] with
    | none =>
     have HV:Hid (j7 125 (l.drop ((j:Int)+1).toNat) []=none):=ab iS;have HE':Hid (R=none):=ab (by rw [HE1.out,hV]);clear hV HE1;go_wp2_with (go_at_call 103;refine(nE _ fR fR fR fR HV.out).mono ?_;rintro e w2 ⟨hb2,rfl⟩;obtain⟨hc2,hf2⟩:=qh hb2;have fz2:∀j,w2.frozen? ⟨w.heap.size,j,none⟩=false:=(fun j=>by rw [hf2 _ _ f9];simp [go_sem,hf1]);have fy2:∀j,w2.frozen? ⟨w.heap.size+1,j,none⟩=false:=(fun j=>by rw [hf2 _ _ f9];simp [go_sem,hf1]);have x0:w2.cell? ⟨w.heap.size,0,none⟩=some (.int .i64 0):= iD;have x1:w2.cell? ⟨w.heap.size,1,none⟩=some (.int .i64 0):= iE;have x2:w2.cell? ⟨w.heap.size,2,none⟩=some (.int .i64 0):= iF;have x3:w2.cell? ⟨w.heap.size,3,none⟩=some (.string ⟨#[]⟩):= iG;have x4:w2.cell? ⟨w.heap.size,4,none⟩=some (.string ⟨#[]⟩):= iH;have v0:w2.cell? ⟨w.heap.size+1,0,none⟩=some (.int .i64 5):= iI;have v1:w2.cell? ⟨w.heap.size+1,1,none⟩=some (.int .i64 ↑n):= iJ;have v2:w2.cell? ⟨w.heap.size+1,2,none⟩=some (.int .i64 0):= iK;have v3:w2.cell? ⟨w.heap.size+1,3,none⟩=some (.string ⟨t.toArray⟩):= iL;have v4:w2.cell? ⟨w.heap.size+1,4,none⟩=some (.string ⟨#[]⟩):= iN;have hbw2:Below w.heap.size w w2:=(hbw.setCell (p:=⟨w.heap.size+1,3,none⟩) fX _).trans (hb2.mono f9))
     refine DX (v:=.tuple #[.agg #[.int .i64 0,.int .i64 0,.int .i64 0,.string ⟨#[]⟩,.string ⟨#[]⟩],.int .i64 0,.bool false]) ja rfl ⟨?_,by rw [HE'.out];rfl⟩
     (repeat (first|with_reducible exact Below.refl _ _|with_reducible assumption|(refine Below.setCell ?_ gj _)|(refine Below.alloc ?_ fZ _)|(refine Below.drew ?_)))
    | some p =>
     obtain⟨u,s⟩:=p;obtain⟨d',r3,rfl,_⟩:=lI _ _ _ hV;have HV:Hid (j7 125 (l.drop ((j:Int)+1).toNat) []=some (u,d'::r3)):=ab iS;have HE':Hid (R=some (⟨5,n,0,t,u⟩,r3)):=ab (by rw [HE1.out,hV]);clear hV HE1;go_wp2_with (go_at_call 103;refine(oT _ fR fR fR fR HV.out).mono ?_;rintro e w2 ⟨hb2,hlt2,j2,hk1,hk2,hk3,rfl⟩;obtain⟨hc2,hf2⟩:=qh hb2;have fz2:∀j,w2.frozen? ⟨w.heap.size,j,none⟩=false:=(fun j=>by rw [hf2 _ _ f9];simp [go_sem,hf1]);have fy2:∀j,w2.frozen? ⟨w.heap.size+1,j,none⟩=false:=(fun j=>by rw [hf2 _ _ f9];simp [go_sem,hf1]);have x0:w2.cell? ⟨w.heap.size,0,none⟩=some (.int .i64 0):= iD;have x1:w2.cell? ⟨w.heap.size,1,none⟩=some (.int .i64 0):= iE;have x2:w2.cell? ⟨w.heap.size,2,none⟩=some (.int .i64 0):= iF;have x3:w2.cell? ⟨w.heap.size,3,none⟩=some (.string ⟨#[]⟩):= iG;have x4:w2.cell? ⟨w.heap.size,4,none⟩=some (.string ⟨#[]⟩):= iH;have v0:w2.cell? ⟨w.heap.size+1,0,none⟩=some (.int .i64 5):= iI;have v1:w2.cell? ⟨w.heap.size+1,1,none⟩=some (.int .i64 ↑n):= iJ;have v2:w2.cell? ⟨w.heap.size+1,2,none⟩=some (.int .i64 0):= iK;have v3:w2.cell? ⟨w.heap.size+1,3,none⟩=some (.string ⟨t.toArray⟩):= iL;have v4:w2.cell? ⟨w.heap.size+1,4,none⟩=some (.string ⟨#[]⟩):= iN;have hbw2:Below w.heap.size w w2:=(hbw.setCell (p:=⟨w.heap.size+1,3,none⟩) fX _).trans (hb2.mono f9);have HK3:=ab hk3;clear hk3)
     refine DX (v:=.tuple #[.agg #[.int .i64 5,.int .i64 n,.int .i64 0,.string ⟨t.toArray⟩,.string ⟨u.toArray⟩],.int .i64 (j2+1),.bool true]) ja rfl ⟨?_,?_⟩
     ·(repeat (first|with_reducible exact Below.refl _ _|with_reducible assumption|(refine Below.setCell ?_ gj _)|(refine Below.alloc ?_ fZ _)|(refine Below.drew ?_)))
     ·rw [HE'.out]
      refine⟨by simp;try omega,by simp;try omega,j2+1,by omega,by omega,(kh HK3.out).2.2,by simp⟩
  by_cases c47:c.toNat=47
  ·have e1:List.isPrefixOf [47] (List.drop i l)=true:=by rw [hd,pre1];simp;try omega
   have e2:List.isPrefixOf [43] (List.drop i l)=false:=by rw [hd,pre1];simp;try omega
   have e3:List.isPrefixOf [63] (List.drop i l)=false:=by rw [hd,pre1];simp;try omega
   have e4:List.isPrefixOf [45] (List.drop i l)=false:=by rw [hd,pre1];simp;try omega
   have HE:Hid (R=match r.dropWhile lg with
    | []=>none
    | _::r2=>if oY (r.takeWhile lg)=0 then none else some (⟨2,n,oY (r.takeWhile lg),[],[]⟩,r2)):=ab (by
    rw [←HR.out,hd];simp only [lc];rw [Dr c47];rfl)
   have hx:Lib.indexByte (List.drop i l) (125:Int).toNat.toUInt8=match r.dropWhile lg with|[]=>-1|_::_=>((r.takeWhile lg).length:Int)+1:=by
    rw [hd];have e125:(125:Int).toNat.toUInt8=125:=rfl;have hb:(c==125)=false:=by rw [DV];intro e;rw [e] at c47;simp at c47
    rw [e125];simp only [Lib.indexByte,hb];rw [zC];cases r.dropWhile lg with
    | nil=>rfl
    | cons x y =>
     have h1:((((r.takeWhile lg).length:Int))==-1)=false:=by rw [DV];omega
     simp only [h1,DW,if_false]
   clear hd c43 c45 c63 c47;have hspan:=DR (p:=lg) (l:=r);generalize r.takeWhile lg=tk at *
   generalize r.dropWhile lg=dw at *
   have HX:=ab hx;have HSP:=ab hspan;clear hx hspan;cases dw with
   | nil =>
    have HX':Hid (Lib.indexByte (List.drop i l) (125:Int).toNat.toUInt8=-1):=HX;have HE':Hid (R=none):=HE;clear HX HE;go_enter Tryz.func81,Tryz.ntmps81
    go_wp2_with (first|(go_at_call 80;refine(lw _ _ _ _ fR fR fX).mono ?_;rintro e w1 ⟨rfl,rfl⟩)|(go_at_call 28;refine(kB _ HX'.out).mono ?_;rintro e w1 ⟨rfl,rfl⟩))
    refine DX (v:=.tuple #[.agg #[.int .i64 0,.int .i64 0,.int .i64 0,.string ⟨#[]⟩,.string ⟨#[]⟩],.int .i64 0,.bool false]) (by simp [results,Tryz.results81,go_sem]) rfl ⟨?_,by rw [HE'.out];rfl⟩
    (repeat (first|with_reducible exact Below.refl _ _|with_reducible assumption|(refine Below.setCell ?_ gj _)|(refine Below.alloc ?_ fZ _)|(refine Below.drew ?_)))
   | cons d r2 =>
    have HX':Hid (Lib.indexByte (List.drop i l) (125:Int).toNat.toUInt8=(tk.length:Int)+1):=HX;have HE':Hid (R=if oY tk=0 then none else some (⟨2,n,oY tk,[],[]⟩,r2)):=HE;have hlen:i+1+tk.length<l.length:=by
     have h1:=DQ List.length HSP.out;have h2:=DQ List.length Hr.out;simp at h1 h2;omega
    have hK:∀k,k=tk.length→List.take k (List.drop (i+1) l)=tk:=fun k hk=>by
     rw [Hr.out,←HSP.out,hk,List.take_left]
    have HK:=ab hK;clear HX HE hK;go_enter Tryz.func81,Tryz.ntmps81
    have hW:oY (List.take (i+(tk.length+1)-(i+1)) (List.drop (i+1) l))=oY tk:=by rw [HK.out _ fR]
    generalize hv:oY tk=v at *
    have HW:=ab hW;have HV:=ab hv;clear hW hv;by_cases h0:v=0
    ·subst h0
     have HE2:Hid (R=none):=ab (by rw [HE'.out,Dr rfl]);clear HE';have HE':=HE2;go_wp2_with (first|(go_at_call 80;refine(lw _ _ _ _ fR fR fX).mono ?_;rintro e w1 ⟨rfl,rfl⟩)|(go_at_call 28;refine(kB _ HX'.out).mono ?_;rintro e w1 ⟨rfl,rfl⟩)|(go_at_call 102;refine(Way_eq _ HW.out).mono ?_;rintro e w1 ⟨rfl,hb1⟩;obtain⟨hc1,hf1⟩:=qh hb1;have z0:w1.cell? ⟨w.heap.size,0,none⟩=some (.int .i64 0):= fT;have z1:w1.cell? ⟨w.heap.size,1,none⟩=some (.int .i64 0):= fT;have z2:w1.cell? ⟨w.heap.size,2,none⟩=some (.int .i64 0):= fT;have z3:w1.cell? ⟨w.heap.size,3,none⟩=some (.string ⟨#[]⟩):= fT;have z4:w1.cell? ⟨w.heap.size,4,none⟩=some (.string ⟨#[]⟩):= fT;have y0:w1.cell? ⟨w.heap.size+1,0,none⟩=some (.int .i64 4):= fT;have y1:w1.cell? ⟨w.heap.size+1,1,none⟩=some (.int .i64 ↑n):= fT;have y2:w1.cell? ⟨w.heap.size+1,2,none⟩=some (.int .i64 0):= fT;have y3:w1.cell? ⟨w.heap.size+1,3,none⟩=some (.string ⟨#[]⟩):= fT;have y4:w1.cell? ⟨w.heap.size+1,4,none⟩=some (.string ⟨#[]⟩):= fT;have hbw:Below w.heap.size w w1:=((((Below.refl w.heap.size w).alloc (Dv _) _).alloc fX _).trans (hb1.mono fY))))
     exact eJ
    ·have HE2:Hid (R=some (⟨2,n,v,[],[]⟩,r2)):=ab (by rw [HE'.out,Du h0])
     have e0:(v==0)=false:=by simpa using h0
     clear HE' h0;go_wp2_with (first|(go_at_call 80;refine(lw _ _ _ _ fR fR fX).mono ?_;rintro e w1 ⟨rfl,rfl⟩)|(go_at_call 28;refine(kB _ HX'.out).mono ?_;rintro e w1 ⟨rfl,rfl⟩)|(go_at_call 102;refine(Way_eq _ HW.out).mono ?_;rintro e w1 ⟨rfl,hb1⟩;obtain⟨hc1,hf1⟩:=qh hb1;have z0:w1.cell? ⟨w.heap.size,0,none⟩=some (.int .i64 0):= fT;have z1:w1.cell? ⟨w.heap.size,1,none⟩=some (.int .i64 0):= fT;have z2:w1.cell? ⟨w.heap.size,2,none⟩=some (.int .i64 0):= fT;have z3:w1.cell? ⟨w.heap.size,3,none⟩=some (.string ⟨#[]⟩):= fT;have z4:w1.cell? ⟨w.heap.size,4,none⟩=some (.string ⟨#[]⟩):= fT;have y0:w1.cell? ⟨w.heap.size+1,0,none⟩=some (.int .i64 4):= fT;have y1:w1.cell? ⟨w.heap.size+1,1,none⟩=some (.int .i64 ↑n):= fT;have y2:w1.cell? ⟨w.heap.size+1,2,none⟩=some (.int .i64 0):= fT;have y3:w1.cell? ⟨w.heap.size+1,3,none⟩=some (.string ⟨#[]⟩):= fT;have y4:w1.cell? ⟨w.heap.size+1,4,none⟩=some (.string ⟨#[]⟩):= fT;have hbw:Below w.heap.size w w1:=((((Below.refl w.heap.size w).alloc (Dv _) _).alloc fX _).trans (hb1.mono fY))))
     refine DX (v:=.tuple #[.agg #[.int .i64 2,.int .i64 n,.int .i64 v,.string ⟨[].toArray⟩,.string ⟨[].toArray⟩],.int .i64 (i+(tk.length+1)+1),.bool true]) gF rfl ⟨?_,?_⟩
     ·(repeat (first|with_reducible exact Below.refl _ _|with_reducible assumption|(refine Below.setCell ?_ gj _)|(refine Below.alloc ?_ fZ _)|(refine Below.drew ?_)))
     ·rw [HE2.out]
      refine⟨by simp,by simp,i+(tk.length+1)+1,by omega,by omega,?_,by simp⟩;rw [show i+(tk.length+1)+1=i+1+(tk.length+1) by omega,←List.drop_drop,Hr.out,←HSP.out,List.drop_append];simp
  ·have e1:List.isPrefixOf [47] (List.drop i l)=false:=by rw [hd,pre1];simp;try omega
   have e2:List.isPrefixOf [43] (List.drop i l)=false:=by rw [hd,pre1];simp;try omega
   have e3:List.isPrefixOf [63] (List.drop i l)=false:=by rw [hd,pre1];simp;try omega
   have e4:List.isPrefixOf [45] (List.drop i l)=false:=by rw [hd,pre1];simp;try omega
   have HE:Hid (R=match j7 125 (c::r) [] with|some (t,_::r2)=>some (⟨4,n,0,[],t⟩,r2)|_=>none):=ab (by
    rw [←HR.out,hd];simp only [lc];rw [Du c47,Du c43,Du c63,Du c45];rfl)
   clear hd c43 c45 c63 c47;cases hU:j7 125 (c::r) [] with
   | none =>
    have HU:Hid (j7 125 (l.drop ((i:Int)).toNat) []=none):=ab (by rw [Int.toNat_natCast,HD.out];exact hU);exact aF
   | some p =>
    obtain⟨t,s⟩:=p;obtain⟨d,r2,rfl,_⟩:=lI _ _ _ hU;have HU:Hid (j7 125 (l.drop ((i:Int)).toNat) []=some (t,d::r2)):=ab (by rw [Int.toNat_natCast,HD.out];exact hU);exact aE
def nY (ps:List Str) (n:Int):Str:=ps.getD n.toNat []
def mv (ps:List Str) (f:Fm):Str :=
 if f.kind=0 then f.thn
 else if f.kind=1 then nY ps f.n
 else if f.kind=2 then(turn (nY ps f.n) f.cse).1
 else if f.kind=4 then(if nY ps f.n=[] then f.els else nY ps f.n)
 else(if nY ps f.n=[] then f.els else f.thn)
def qF (fs:List Fm) (ps:List Str):Str:=if oW fs=true then fs.flatMap (mv ps) else []
theorem pR:∀(pt:Bool) (fs:List Fm),mayL pt fs=true→∀f∈fs,mayF f=true
 | _,[],_,f,hf=>by simp at hf
 | pt,g::r,h,f,hf=>by
  simp only [mayL,Dy] at h;rcases DF.1 hf with rfl|hf
  ·exact h.1.1
  ·exact pR _ r h.2 f hf
theorem yi {f:Fm} (h:mayF f=true):0≤f.n∧f.n≤9999:=by
 unfold mayF at h;rw [Dy] at h;simpa using h.1
theorem sk {f:Fm} (h:mayF f=true):f.kind=0∨f.kind=1∨f.kind=2∨f.kind=3∨f.kind=4∨f.kind=5:=by
 unfold mayF at h;rw [Dy] at h;have h2:=h.2;by_cases h0:f.kind=0
 ·exact .inl h0
 by_cases h1:f.kind=1
 ·exact .inr (.inl h1)
 by_cases h3:f.kind=2
 ·exact .inr (.inr (.inl h3))
 by_cases h4:f.kind=3
 ·exact .inr (.inr (.inr (.inl h4)))
 by_cases h5:f.kind=4
 ·exact .inr (.inr (.inr (.inr (.inl h5))))
 by_cases h6:f.kind=5
 ·exact .inr (.inr (.inr (.inr (.inr h6))))
 rw [Du h0,Du h1,Du h3,Du h4,Du h5,Du h6] at h2;cases h2
theorem A8 {ps:List Str} {m:Nat} (h:∀p∈ps,p.length≤m) (n:Int):(nY ps n).length≤m:=by
 unfold nY;rw [List.getD_eq_getElem?_getD];cases hg:ps[n.toNat]? with
 | none=>simp
 | some p=>exact h p (DL hg)
theorem wc {ps:List Str} {m:Nat} {f:Fm} (h:∀p∈ps,p.length≤m) (h1:f.thn.length≤m) (h2:f.els.length≤m):(mv ps f).length≤m:=by
 have h3:=A8 h f.n;have h4:=pj (nY ps f.n) f.cse;unfold mv;(repeat' split)<;>omega
theorem yf {P:Program} (w:World) (base:Nat) (t ty e:TypeId) (i:TypeInfo) (size:Nat) (ht:P.underlying t=some (.slice e)) (hi:P.info? e=some i)
  (v:Value) (n:Nat) (xs:List Value) (hown:w.ownsRow base e size v n xs) (c:Nat):(Builtin.append_ #[t,t] ty #[v,.slice none 0 c]).run P w=.ok v w:=by
 rcases hown.2 with⟨rfl,rfl⟩|⟨g,cap,cur,rfl,_,_,hnc,_⟩
 ·simp [Builtin.append_,run_underlying ht,sizeOf,typeInfo,hi,Builtin.lenOf,Builtin.firstCells]
 ·simp [Builtin.append_,run_underlying ht,sizeOf,typeInfo,hi,Builtin.lenOf,Builtin.firstCells,hnc,storeCells]
def uO (w:World) (v v':Value):Prop:=v'.ownBlock=v.ownBlock∨∀k,v'.ownBlock=some k→w.heap.size≤k
theorem wd {P:Program} {w:World} {base:Nat} {t ty e:TypeId} {i:TypeInfo} {z:Value} {size bytes:Nat} (ht:P.underlying t=some (.slice e)) (hi:P.info? e=some i) (hz:i.zero=some z)
  (hsize:i.size=size) (hby:i.bytes=bytes) (hzs:z.cells.size=size) (hsz:0<size)
  {v:Value} {n:Nat} {xs:List Value} (hown:w.ownsRow base e size v n xs)
  {a:Addr} {m c:Nat} {news:List Value} (hl:news.length=m*size) (hnews:∀j u,news[j]?=some u→w.cell? (a.add j)=some u) (h1:∀u∈news,u.oneCell'=true)
  (h63:n+m≤maxLen) (hbytes:(n+m)*bytes≤140737488355328) {v':Value} {w':World}
  (hr:(Builtin.append_ #[t,t] ty #[v,.slice (some a) m c]).run P w=.ok v' w'):uO w v v':=by
 rcases hown.2 with⟨rfl,rfl⟩|⟨g,cap,cur,rfl,hbg,hg,hnc,hcm,hcs,htake⟩
 ·obtain⟨v2,w2,h2,h3,_,_⟩:=run_append_own (P:=P) w w.heap.size t ty e i z size bytes ht hi hz hsize hby hzs hsz _ 0 [] (World.ownsRow_nil w _ e size) a m c news hl hnews h1 h63 hbytes (Dv _)
  rw [h2] at hr;injection hr with hr _
  subst hr;exact .inr fun k hk=>(h3.lt k hk).1
 ·subst hsize
  subst hby;by_cases hroom:n+m≤cap
  ·have hfit:n*i.size+news.length≤cur.size:=by rw [hl,hcs,←Nat.add_mul];exact Nat.mul_le_mul_right _ hroom
   have h2:=run_append_room (P:=P) w t ty e i ht hi g n cap cur hg a m c news hl hnews h1 hroom hfit;rw [h2] at hr;injection hr with hr _
   subst hr;exact .inl rfl
  ·have hsmall:n+m≤9223372036854775807:=by simp only [maxLen] at h63;omega
   have holds:∀j u,xs[j]?=some u→w.cell? ((⟨g,0,none⟩:Addr).add j)=some u:=hown.cells (g:=g) rfl;have h2:=run_append_grow (P:=P) w t ty e i z ht hi hz ⟨g,0,none⟩ n cap xs hown.1 holds a m c news hl hnews fR fR (growslice_fits fR hbytes);rw [h2] at hr;injection hr with hr _
   subst hr;exact .inr fun k hk=>by simp [Value.ownBlock] at hk;omega
theorem CY {P:Program} {w:World} {o:Oper} {a:Act} {K:Act→World→Prop} {Q:Exit→Act→World→Prop} (base:Nat) (e:TypeId) (s x:Operand) (t:TypeId)
  (ho:o.op=.call { callee:=.builtin .append,args:=#[s,x],argTypes:=#[t,t] })
  {i:TypeInfo} {z:Value} {size bytes:Nat} (ht:P.underlying t=some (.slice e)) (hinf:P.info? e=some i∧i.zero=some z∧i.size=size∧i.bytes=bytes)
  (hzs:z.cells.size=size) (hsz:0<size)
  {v:Value} {n:Nat} {xs:List Value} (hs:a.eval s=v) (hown:w.ownsRow base e size v n xs)
  {B:Nat} {A:Option Addr} {m c:Nat} {news:List Value} (hx:a.eval x=.slice A m c) (hr:Sl w B A size m news) (h1:∀u∈news,u.oneCell'=true)
  (hn:n≤10000000) (hm:m≤10000000) (hb:bytes≤1000) (hB:base≤w.heap.size)
  (h:∀v' w',w'.ownsRow base e size v' (n+m) (xs++news)→w.grownBy w' v.ownBlock→Below base w w'→uO w v v'→K (a.put o.dst v') w') :
  o.wp P a w K Q:=by
 obtain⟨hi,hz0,hz1,hz2⟩:=hinf;have key:∃v' w',(Builtin.append_ #[t,t] o.type #[v,.slice A m c]).run P w=.ok v' w'∧w'.ownsRow base e size v' (n+m) (xs++news)∧w.grownBy w' v.ownBlock∧uO w v v':=by
  have h63:n+m≤maxLen:=by simp only [maxLen];omega
  have hby:(n+m)*bytes≤140737488355328:=by
   have:(n+m)*bytes≤(10000000+10000000)*1000:=Nat.mul_le_mul fR hb
   omega
  rcases A with _|ad
  ·have hm0:m=0:=by
    rcases Nat.eq_zero_or_pos m with h0|h0
    ·exact h0
    ·obtain⟨b,o,h,_⟩:=hr.2 h0;cases h
   subst hm0;have hn0:news=[]:=Ds (by simpa using hr.1);subst hn0;exact⟨v,w,yf w base t o.type e i size ht hi v n xs hown c,by simpa using hown,⟨rfl,rfl,rfl,Dv _,fun _ _ _=>rfl⟩,.inl rfl⟩
  ·have hnews:∀j u,news[j]?=some u→w.cell? (ad.add j)=some u:=by
    intro j u hu;rcases Nat.eq_zero_or_pos m with h0|h0
    ·subst h0
     have hn0:news=[]:=Ds (by simpa using hr.1);subst hn0;simp at hu
    ·obtain⟨b,o',hab,_,hc⟩:=hr.2 h0
     injection hab with hab;subst hab
     have hadd:(⟨b,o',none⟩:Addr).add j=⟨b,o'+j,none⟩:=by unfold Addr.add;split<;>simp_all
     rw [hadd];exact hc j u hu
   obtain⟨v',w',hrun,h2,h3,_⟩:=run_append_own (P:=P) w base t o.type e i z size bytes ht hi hz0 hz1 hz2 hzs hsz v n xs hown ad m c news hr.1 hnews h1 h63 hby hB;exact⟨v',w',hrun,h2,h3,wd ht hi hz0 hz1 hz2 hzs hsz hown hr.1 hnews h1 h63 hby hrun⟩
 obtain⟨v',w',hrun,h2,h3,h4⟩:=key;unfold Oper.wp execOp;simp only [ho,resolve,invoke,builtin,Sem.run_bind,Sem.run_pure,Result.andThen_ok,List.map_toArray,List.map_cons,List.map_nil,hs,hx,hrun];exact h v' w' h2 h3 ((Below.refl base w).grown h3 hB fun k hk=>(hown.lt k hk).1) h4
theorem kf {P:Program} {w:World} {ops:Array Oper} {rest:List Oper} {o:Oper} {a:Act} {Q:Exit→Act→World→Prop} (base:Nat) (e:TypeId) (hgd:o.guard=none) (s x:Operand) (t:TypeId)
  (ho:o.op=.call { callee:=.builtin .append,args:=#[s,x],argTypes:=#[t,t] })
  {i:TypeInfo} {z:Value} {size bytes:Nat} (ht:P.underlying t=some (.slice e)) (hinf:P.info? e=some i∧i.zero=some z∧i.size=size∧i.bytes=bytes)
  (hzs:z.cells.size=size) (hsz:0<size)
  {v:Value} {n:Nat} {xs:List Value} (hs:a.eval s=v) (hown:w.ownsRow base e size v n xs)
  {B:Nat} {A:Option Addr} {m c:Nat} {news:List Value} (hx:a.eval x=.slice A m c) (hr:Sl w B A size m news) (h1:∀u∈news,u.oneCell'=true)
  (hn:n≤10000000) (hm:m≤10000000) (hb:bytes≤1000) (hB:base≤w.heap.size)
  (h:∀v' w',w'.ownsRow base e size v' (n+m) (xs++news)→w.grownBy w' v.ownBlock→Below base w w'→uO w v v'→wpList P ops Q rest (a.put o.dst v') w') :
  wpList P ops Q (o::rest) a w :=
 wpList_plain hgd fun _ hK=>CY base e s x t ho ht hinf hzs hsz hs hown hx hr h1 hn hm hb hB fun v' w' a1 a2 a3 a4=>hK _ _ (h v' w' a1 a2 a3 a4)
theorem xf:(Tryz.prog.info? 25).map (fun i=>(i.zero,i.size,i.bytes))=some (some (.agg #[.int .i64 0,.string ⟨#[]⟩,.bool false,.slice none 0 0,.int .i64 0,.int .i64 0,.bool false,.slice none 0 0]),8,104):=by kernel_rfl
theorem me:(Tryz.prog.info? 62).map (fun i=>(i.zero,i.size,i.bytes))=some (some (.agg #[.string ⟨#[]⟩,.string ⟨#[]⟩]),2,32):=by kernel_rfl
theorem lN (rs:List (Str × Str)):∀u∈jN rs,u.oneCell'=true:=by
 intro u hu;simp only [jN,List.mem_flatMap] at hu;obtain⟨r,_,hr⟩:=hu;simp only [DF,DY,or_false] at hr;rcases hr with rfl|rfl<;>rfl
theorem RxV.one {w:World} {S:Nat→Prop} {c:List Value} {x:Rx} (h:RxV w S c x):∀u∈c,u.oneCell'=true:=by
 cases h
 intro u hu;simp only [rxc,DF,DY,or_false] at hu;rcases hu with rfl|rfl|rfl|rfl|rfl|rfl|rfl|rfl<;>rfl
theorem RxVs.one {w:World} {S:Nat→Prop}:∀{css:List (List Value)} {xs:List Rx},RxVs w S css xs→∀u∈css.flatten,u.oneCell'=true
 | _,_,.nil,u,hu=>by simp at hu
 | _,_,.cons h1 h2,u,hu=>by
  rw [List.flatten_cons,DZ] at hu;rcases hu with hu|hu
  ·exact h1.one u hu
  ·exact h2.one u hu
def OwnX (w:World) (B:Nat) (v:Value) (xs:List Rx):Prop :=
 ∃css,w.ownsRow B 25 8 v xs.length css.flatten∧RxVs w (fun b=>B≤b∧v.ownBlock≠some b) css xs
theorem OwnX.nil (w:World) (B:Nat):OwnX w B (.slice none 0 0) []:=⟨[],World.ownsRow_nil _ _ _ _,.nil⟩
theorem jP {w w':World} {B:Nat} {e:TypeId} {sz:Nat} {v:Value} {n:Nat} {xs:List Value} (h:w.ownsRow B e sz v n xs) (hb:Below w.heap.size w w'):w'.ownsRow B e sz v n xs:=by
 refine⟨h.1,?_⟩;rcases h.2 with h0|⟨g,cap,cur,rfl,h1,h2,h3⟩
 ·exact .inl h0
 ·exact .inr ⟨g,cap,cur,rfl,h1,(hb.block g (jA h2)).trans h2,h3⟩
theorem OwnX.later {w w':World} {B:Nat} {v:Value} {xs:List Rx} (h:OwnX w B v xs) (hb:Below w.heap.size w w'):OwnX w' B v xs:=by
 obtain⟨css,h1,h2⟩:=h;exact⟨css,jP h1 hb,h2.later hb⟩
theorem nl {w:World} {B:Nat} {e:TypeId} {sz:Nat} {v:Value} {n:Nat} {xs:List Value} (h:w.ownsRow B e sz v n xs) {a:Addr} (ha:a.block<B) (u:Value):(w.setCell a u).ownsRow B e sz v n xs :=
 ownsRow_setCell_below h ha u
theorem Kept.setLow {w:World} {S:Nat→Prop} {a:Addr} (u:Value) (hS:∀b,S b→b≠a.block):Kept S w (w.setCell a u) :=
 ⟨by simp [World.setCell],fun b hb _=>heap_setCell_other w a b u (hS b hb)⟩
theorem OwnX.setLow {w:World} {B:Nat} {v:Value} {xs:List Rx} (h:OwnX w B v xs) {a:Addr} (ha:a.block<B) (u:Value):OwnX (w.setCell a u) B v xs:=by
 obtain⟨css,h1,h2⟩:=h;exact⟨css,nl h1 ha u,h2.keep (Kept.setLow u fun b hb=>by have:=hb.1;omega)⟩
theorem OwnX.app {w w':World} {B:Nat} {v v':Value} {xs ys:List Rx} {css ds:List (List Value)} {m:Nat} (hr1:RxVs w (fun b=>B≤b∧v.ownBlock≠some b) css xs)
  (hr2:RxVs w (fun b=>B≤b∧v.ownBlock≠some b) ds ys) (hm:m=ys.length)
  (ho:w'.ownsRow B 25 8 v' (xs.length+m) (css.flatten++ds.flatten)) (hg:w.grownBy w' v.ownBlock) (hmv:uO w v v'):OwnX w' B v' (xs++ys):=by
 subst hm;refine⟨css++ds,by rw [List.flatten_append,DE];exact ho,?_⟩;have hS:∀b,(B≤b∧v.ownBlock≠some b)→b<w.heap.size→((B≤b∧v.ownBlock≠some b)∧b<w.heap.size):=fun b h1 h2=>⟨h1,h2⟩
 have hk:Kept (fun b=>(B≤b∧v.ownBlock≠some b)∧b<w.heap.size) w w':=⟨hg.size,fun b hb hlt=>hg.block b hlt (fun e=>hb.1.2 e.symm)⟩;refine(((hr1.append hr2).mono hS).keep hk).mono fun b hb _=>⟨hb.1.1,fun e=>?_⟩
 exact dO
theorem OwnX.sl {w:World} {B:Nat} {a:Option Addr} {n c:Nat} {xs:List Rx} (h:OwnX w B (.slice a n c) xs):n=xs.length∧RxSl w (fun b=>B≤b) a xs.length xs:=by
 obtain⟨css,h1,h2⟩:=h;have hn:n=xs.length:=by
  rcases h1.2 with⟨h,h0⟩|⟨g,cap,cur,h,_⟩
  ·injection h with _ h _;omega
  ·injection h with _ h _
 subst hn;refine⟨rfl,css,⟨(Sl.of_own h1).1,fun hn=>?_⟩,h2.mono fun b hb _=>hb.1⟩;obtain⟨b,o,e,hlt,hc⟩:=(Sl.of_own h1).2 hn;subst e;exact⟨b,o,rfl,(h1.lt b rfl).1,hlt,hc⟩
theorem bel2 {W w0 w1:World} (h:Below W.heap.size W w0) (h1:Below w0.heap.size w0 w1):Below W.heap.size W w1:=h.trans (h1.mono h.size)
theorem jD {w:World} {g:Nat} {k:Int} {c:Str} {ng:Bool} {ra:Option Addr} {rn rc:Nat} {lo hi:Int} {lz:Bool} {ka:Option Addr} {kn kc:Nat}
  (h:w.heap[g]?=some (.cells #[.int .i64 k,.string ⟨c.toArray⟩,.bool ng,.slice ra rn rc,.int .i64 lo,.int .i64 hi,.bool lz,.slice ka kn kc] 25 (0,0))) :
  w.cell? ⟨g,0,none⟩=some (.int .i64 k)∧w.cell? ⟨g,1,none⟩=some (.string ⟨c.toArray⟩)∧w.cell? ⟨g,2,none⟩=some (.bool ng)∧w.cell? ⟨g,3,none⟩=some (.slice ra rn rc) ∧
  w.cell? ⟨g,4,none⟩=some (.int .i64 lo)∧w.cell? ⟨g,5,none⟩=some (.int .i64 hi)∧w.cell? ⟨g,6,none⟩=some (.bool lz)∧w.cell? ⟨g,7,none⟩=some (.slice ka kn kc) ∧
  ∀i,i<8→w.frozen? ⟨g,i,none⟩=false:=by
 refine⟨?_,?_,?_,?_,?_,?_,?_,?_,?_⟩
 ·exact dr
 ·exact dr
 ·exact dr
 ·exact dr
 ·exact dr
 ·exact dr
 ·exact dr
 ·exact dr
 ·intro i hi;simp only [World.frozen?,h];simp
theorem uM {w:World} {B:Nat} {e:TypeId} {sz:Nat} {a:Option Addr} {n c:Nat} {xs:List Value} (h:w.ownsRow B e sz (.slice a n c) n xs):SlS w (fun b=>B≤b) a sz n xs:=by
 refine⟨(Sl.of_own h).1,fun hn=>?_⟩;obtain⟨b,o,e,hlt,hc⟩:=(Sl.of_own h).2 hn;subst e;exact⟨b,o,rfl,(h.lt b rfl).1,hlt,hc⟩
theorem Ac (a:Option Addr) (n c:Nat) (rs:List (Str × Str)) (w:World) (h:Sl w w.heap.size a 2 n (jN rs)) (hn:n≤1000000) :
  Calls Tryz.prog 141 #[.slice a n c] w fun e w'=>∃a' c',e=.returned (.slice a' n c')∧SlS w' (fun b=>w.heap.size≤b) a' 2 n (jN rs)∧Below w.heap.size w w':=by
 obtain rfl:=h.row_len;obtain⟨ir,hir⟩:=info_parts me;cases a with
 | none =>
  have h0:rs=[]:=by
   rcases Nat.eq_zero_or_pos rs.length with h0|h0
   ·exact Ds h0
   ·obtain⟨b,o,e,_⟩:=h.2 h0;cases e
  subst h0;have hq:(binOp .eql 22 (.slice none 0 c) (.slice none 0 0)).run Tryz.prog w=.ok (.bool true) w:=Go.run_eql_slice_nil w _ _ none 0 c Tryz.underlying22;go_enter Tryz.func141,Tryz.ntmps141
  go_wp2
  go_ret
  exact⟨none,0,rfl,SlS.none_ _ _ _ _,Below.refl _ _⟩
 | some ad =>
  have HS:=ab (h.alloc_self (.cells #[] 62));have hq:(binOp .eql 22 (.slice (some ad) rs.length c) (.slice none 0 0)).run Tryz.prog w=.ok (.bool false) w:=Go.run_eql_slice_nil w _ _ (some ad) _ c Tryz.underlying22;clear h;go_enter Tryz.func141,Tryz.ntmps141
  go_wp2_with (at_builtin;refine kf w.heap.size 62 rfl _ _ 22 rfl Tryz.underlying22 hir rfl fU rfl (World.ownsRow_made w #[] 0 (Dv _) (by simp [maxLen]) rfl) rfl HS.out (lN rs) fR fR fU fX ?_)
  exact cY
def ClRel (ks:List Rx) (w:World) (v q:Value) (wr:World):Prop :=
 ∃i:Nat,i≤ks.length∧q=.int .i64 i∧Below w.heap.size w wr∧OwnX wr w.heap.size v (ks.take i)
theorem uY (S:Nat→Prop):∀(N:Nat) (x:Rx),x.parts≤N→x.small→∀(cc:List Value) (w:World),RxV w S cc x →
  Calls Tryz.prog 119 #[.agg cc.toArray] w fun e w'=>∃cc',e=.returned (.agg cc'.toArray)∧RxV w' (fun b=>w.heap.size≤b) cc' x∧Below w.heap.size w w'
 | 0,x,h,_,_,_,_=>by have:=Rx.parts_pos x;omega
 | N+1,.mk k c ng rs lo hi lz ks,h,hsm,cc,w,hv=>by
  obtain⟨ra,rc,ka,kc,rfl,hrs,hx⟩:=hv.open_;obtain⟨⟨s1,s2,s3,s4⟩,hsmL⟩:=hsm;simp only [Rx.parts] at h;have ih:∀y∈ks,∀(cc:List Value) (w:World),RxV w S cc y→Calls Tryz.prog 119 #[.agg cc.toArray] w fun e w'=>∃cc',e=.returned (.agg cc'.toArray)∧RxV w' (fun b=>w.heap.size≤b) cc' y∧Below w.heap.size w w' :=
   fun y hy=>uY S N y gS (kV hsmL hy)
  have IH:=ab ih;obtain⟨ix,hix⟩:=info_parts xf;obtain⟨w0,hw0⟩:∃w0,w0=(w.alloc (.cells #[.int .i64 k,.string ⟨c.toArray⟩,.bool ng,.slice ra rs.length rc,.int .i64 lo,.int .i64 hi,.bool lz,.slice ka ks.length kc] 25)).alloc (.cells #[.int .i64 0,.string ⟨#[]⟩,.bool false,.slice none 0 0,.int .i64 0,.int .i64 0,.bool false,.slice none 0 0] 25):=⟨_,rfl⟩;have hb0:Below w.heap.size w w0:=by rw [hw0];exact((Below.refl _ _).alloc (Dv _) _).alloc fX _
  have hz0:w0.heap.size=w.heap.size+2:=by rw [hw0];simp
  have hbx0:w0.heap[w.heap.size]?=some (.cells #[.int .i64 k,.string ⟨c.toArray⟩,.bool ng,.slice ra rs.length rc,.int .i64 lo,.int .i64 hi,.bool lz,.slice ka ks.length kc] 25 (0,0)):=by
   rw [hw0,Below.heap_alloc _ _ _ fX];exact heap_alloc_new w _
  have hby0:w0.heap[w.heap.size+1]?=some (.cells #[.int .i64 0,.string ⟨#[]⟩,.bool false,.slice none 0 0,.int .i64 0,.int .i64 0,.bool false,.slice none 0 0] 25 (0,0)):=by
   rw [hw0];have:=heap_alloc_new (w.alloc (.cells #[.int .i64 k,.string ⟨c.toArray⟩,.bool ng,.slice ra rs.length rc,.int .i64 lo,.int .i64 hi,.bool lz,.slice ka ks.length kc] 25)) (.cells #[.int .i64 0,.string ⟨#[]⟩,.bool false,.slice none 0 0,.int .i64 0,.int .i64 0,.bool false,.slice none 0 0] 25)
   simpa using this
  have HX:=ab hx;have HRS:=ab (hrs.keep (Kept.all hb0)).sl;have HBX0:=ab hbx0;have HBY0:=ab hby0;have HW0:=ab hw0;rw [hw0] at HRS;clear hx hv hrs ih hsmL hbx0 hby0 hw0;unfold rxc;go_enter Tryz.func119,Tryz.ntmps119
  go_wp2_with (go_at_call 141;refine(Ac _ _ _ rs _ HRS.out s2).mono ?_)
  rintro e w1 ⟨ra',rc',rfl,hrs1,hb1⟩;rw [←HW0.out] at hb1 hrs1;have hbx1:=(hb1.block _ (jA HBX0.out)).trans HBX0.out;have hby1:=(hb1.block _ (jA HBY0.out)).trans HBY0.out;obtain⟨w2,hw2⟩:∃w2,w2=w1.setCell ⟨w.heap.size,3,none⟩ (.slice ra' rs.length rc'):=⟨_,rfl⟩;have HW2:=ab hw2;obtain⟨e0,e1,e2,e3,e4,e5,e6,e7,e8⟩:=jD hbx1;go_wp2
  rw [←hw2];have hbw1:=bel2 hb0 hb1;have hz1:=hb1.size;have hbw2:Below w.heap.size w w2:=by rw [hw2];exact hbw1.setCell (Dv _) _
  have HBX2:Hid (w2.heap[w.heap.size]?=some (.cells #[.int .i64 k,.string ⟨c.toArray⟩,.bool ng,.slice ra' rs.length rc',.int .i64 lo,.int .i64 hi,.bool lz,.slice ka ks.length kc] 25 (0,0))):=ab (by
   rw [hw2,heap_setCell_same w1 _ _ _ _ _ hbx1];rfl)
  have HBY2:Hid (w2.heap[w.heap.size+1]?=some (.cells #[.int .i64 0,.string ⟨#[]⟩,.bool false,.slice none 0 0,.int .i64 0,.int .i64 0,.bool false,.slice none 0 0] 25 (0,0))):=ab (by
   rw [hw2,heap_setCell_other w1 _ _ _ fX];exact hby1)
  have HRS2:Hid (SlS w2 (fun b=>w.heap.size+2≤b) ra' 2 rs.length (jN rs)):=ab (by
   rw [hw2];rw [hz0] at hrs1;exact hrs1.keep (Kept.setLow _ fun b hb=>by have:w.heap.size+2≤b:=hb;simp;omega))
  have HX2:=ab (HX.out.later hbw2);have hz2:w.heap.size+2≤w2.heap.size:=by rw [hw2];simp [World.setCell];omega
  clear hb1 hbx1 hby1 hrs1 e0 e1 e2 e3 e4 e5 e6 e7 e8 hw2;go_loopw [3,13] (fun v q wr=>ClRel ks w2 v q wr) (fun _ q _=>ks.length-(intOf q).toNat)
  case atStart=>exact eE
  case round =>
   obtain⟨i,hik,rfl,hb,hox⟩:=hrel;have hB:=hb.size;have hbb:=hbw2.trans (hb.mono fR);cases hd:ks.drop i with
   | nil =>
    have h2:ks.length≤i:=gm;have hbxr:=(hb.block _ (jA HBX2.out)).trans HBX2.out;have hbyr:=(hb.block _ (jA HBY2.out)).trans HBY2.out;obtain⟨e0,e1,e2,e3,e4,e5,e6,e7,e8⟩:=jD hbxr;obtain⟨f0,f1,f2,f3,f4,f5,f6,f7,f8⟩:=jD (c:=[]) hbyr;rw [List.take_of_length_le h2] at hox;obtain⟨css,hown,hrv⟩:=hox;obtain⟨va,vc,rfl⟩:=jX hown;have hxs:=OwnX.sl ⟨css,hown,hrv⟩;clear hd hown hrv hbxr hbyr;go_wp2
    have HRr:SlS wr (fun b=>w.heap.size+2≤b) ra' 2 rs.length (jN rs):=HRS2.out.keep (Kept.all hb);have hxr:RxSl wr (fun b=>w.heap.size+2≤b) va ks.length ks:=hxs.2.mono fun b hb _=>by have:w2.heap.size≤b:=hb;show w.heap.size+2≤b;omega
    refine DX (v:=.agg #[.int .i64 k,.string ⟨c.toArray⟩,.bool ng,.slice ra' rs.length rc',.int .i64 lo,.int .i64 hi,.bool lz,.slice va ks.length vc]) (by simp [results,Tryz.results119,go_sem,f0,f1,f2,f3,f4,f5,f6,f7]) rfl ?_;refine⟨rxc k c ng ra' rs.length rc' lo hi lz va ks.length vc,?_,RxV.mono (S:=fun b=>w.heap.size+2≤b) (fun b hb _=>by have:w.heap.size+2≤b:=hb;show w.heap.size≤b;omega) (RxV.close ?_ ?_),?_⟩
    ·rfl
    ·iterate 9 (refine SlS.keep ?_ (Kept.setLow _ (fun b hb=>by have:w.heap.size+2≤b:=hb;simp;omega)))
     exact HRr
    ·iterate 9 (refine RxSl.keep ?_ (Kept.setLow _ (fun b hb=>by have:w.heap.size+2≤b:=hb;simp;omega)))
     exact hxr
    ·iterate 9 (refine Below.setCell ?_ fX _)
     exact hbb
   | cons y r =>
    obtain⟨h2,h3,hr⟩:=jO hd;have hym:=DL h3;have HYM:=ab (IH.out y hym);have HTK:Hid (ks.take (i+1)=ks.take i++[y]):=ab (by rw [List.take_add_one,h3];rfl);obtain⟨yk,yc,yn,yr,yl,yh,yz,ys⟩:=y;obtain⟨b,o,ya,yrc,yka,ykc,rfl,hS,hbB,_,_,hyv,c0,c1,c2,c3,c4,c5,c6,c7⟩:=(HX2.out.later hb).cells h3;have HYV:=ab (hyv.later ((Below.refl wr.heap.size wr).alloc (Dv _) (.cells (rxc yk yc yn ya yr.length yrc yl yh yz yka ys.length ykc).toArray 25)));unfold rxc at HYV;obtain⟨css,hown,hrv⟩:=hox;have hli:(ks.take i).length=i:=by rw [DT];omega
    rw [hli] at hown;have HLI:=ab hli;clear hli;obtain⟨va,vc,rfl⟩:=jX hown;have hlt:=hown.lt;have hbr:∀ob:Obj,Below wr.heap.size wr (wr.alloc ob):=fun ob=>(Below.refl _ _).alloc (Dv _) _
    clear hd hr h3 hyv hym;go_wp2_with (go_at_call 119;refine(HYM.out _ _ HYV.out).mono ?_)
    rintro e w3 ⟨cc',rfl,hcv,hb3⟩;obtain⟨za,zc,zka,zkc,rfl,hzr,hzx⟩:=hcv.open_;have hb3':Below wr.heap.size wr w3:=(hbr _).trans (hb3.mono fX);have hz3:=hb3'.size;have ho3:=jP (jP hown hb3') ((Below.refl w3.heap.size w3).alloc (Dv _) (.cells (rxc yk yc yn za yr.length zc yl yh yz zka ys.length zkc).toArray 25));have hsl:=Sl.lit (n:=1) (sz:=8) (heap_alloc_new w3 (.cells (rxc yk yc yn za yr.length zc yl yh yz zka ys.length zkc).toArray 25)) rfl;have hrv3:=(hrv.later hb3').later ((Below.refl w3.heap.size w3).alloc (Dv _) (.cells (rxc yk yc yn za yr.length zc yl yh yz zka ys.length zkc).toArray 25));have hcv3:=hcv.later ((Below.refl w3.heap.size w3).alloc (Dv _) (.cells (rxc yk yc yn za yr.length zc yl yh yz zka ys.length zkc).toArray 25));have hone:=hcv.one;unfold rxc at ho3 hsl hrv3 hcv3 hone;have HO3:=ab ho3;have HSL:=ab hsl;have HRV3:=ab hrv3;have HCV3:=ab hcv3;have HONE:=ab hone;clear ho3 hsl hrv3 hcv3 hone hown hrv hcv hzr hzx hb3;unfold rxc;go_wp2_with (at_builtin;refine kf w2.heap.size 25 rfl _ _ 23 rfl Tryz.underlying23 hix rfl fU rfl HO3.out rfl HSL.out HONE.out fR fR fU fY ?_)
    intro v1 w4 ho1 hg1 hb4 hmv;have hox4:OwnX w4 w2.heap.size v1 (ks.take (i+1)):=by
     rw [HTK.out];refine OwnX.app (ds:=[_]) (m:=1) HRV3.out (.cons (HCV3.out.mono fun b hb _=>?_) .nil) rfl ?_ hg1 hmv
     ·have hb':wr.heap.size+1≤b:=by simpa using hb
      exact⟨by omega,fun e=>by have:=(hlt b e).2;omega⟩
     ·rw [HLI.out];simpa using ho1
    have hb4':Below w2.heap.size w2 w4:=(bel2 hb (hb3'.trans ((Below.refl w3.heap.size w3).alloc (Dv _) (.cells #[.int .i64 yk,.string ⟨yc.toArray⟩,.bool yn,.slice za yr.length zc,.int .i64 yl,.int .i64 yh,.bool yz,.slice zka ys.length zkc] 25) |>.mono hz3))).trans hb4;exact cH
end Go.Proofs.YtjggmmaojklmpaaGreatDoor
