/- walk of fmts.until -/
import Derived.Test.YtjggmmaojklmpaaGreatLb26
set_option maxRecDepth 100000
set_option maxHeartbeats 4000000
namespace Go.Proofs.YtjggmmaojklmpaaGreat
open Go.RowKit
def B5 (l:Str) (i:Nat) (R:Option (Str × Str)) (e:Ending):Prop :=
 match R with
 | none=>e=.returned (.tuple #[.string ⟨[].toArray⟩,.int .i64 0,.bool false])
 | some (t,r)=>t.length≤l.length∧∃j:Nat,i≤j∧j<l.length∧l.drop j=r∧e=.returned (.tuple #[.string ⟨t.toArray⟩,.int .i64 j,.bool true])
theorem vj (l:Str) (i one:Int) (w:World) (h0:0≤i) (h1:i≤1000000) (hs:l.length≤1000000) (ho:0≤one) :
  Calls Tryz.prog 117 #[.string ⟨l.toArray⟩,.int .i64 i,.int .u8 one] w fun e w'=>Below w.heap.size w w'∧B5 l i.toNat (kt one (l.drop i.toNat) []) e:=by
 obtain⟨i,rfl⟩:=Int.eq_ofNat_of_zero_le h0;rw [Int.toNat_natCast];generalize hR:kt one (l.drop i) []=R
 have HR:=ab hR;clear hR;obtain⟨iu,hiu⟩:=info_parts qi;go_enter Tryz.func117,Tryz.ntmps117
 go_wp2
 go_loopw [1,9] (fun q t wr=>∃(j:Nat) (tx:Str),i≤j∧j≤2000000∧q=.int .i64 j∧wr.ownsRow w.heap.size 5 1 t tx.length (kR tx)∧Below w.heap.size w wr∧tx.length≤l.length∧tx.length+i≤j∧Hid (kt one (l.drop j) tx=R)) (fun q _ _=>l.length-(intOf q).toNat)
 case atStart=>exact⟨i,[],by omega,by omega,rfl,World.ownsRow_nil _ _ _ _,Below.refl _ _,by simp,by simp,HR⟩
 case round =>
  obtain⟨j,tx,hij,hj,rfl,hown,hb,htx,htj,HF⟩:=hrel;clear HR;have hB:=hb.size;have hcv:=qS (P:=Tryz.prog) (src:=46) (dst:=9) Tryz.underlying46 Tryz.underlying5 Tryz.underlying9 hown;cases hd:l.drop j with
  | nil =>
   have h2:=ll hd;have HF':Hid (kt one [] tx=R):=ab ij;clear hd HF;go_wp2
   go_ret3
   refine⟨hb,?_⟩;rw [←HF'.out];rfl
  | cons c r =>
   obtain⟨h2,h3,hr⟩:=ky hd;have HF':Hid (kt one (c::r) tx=R):=ab ij;have Hr:=ab hr;clear HF hr;by_cases hc:c.toNat=one.toNat
   ·have HD:=ab hd;clear hd
    have hbc:((c.toNat:Int)==one)=true:=by rw [Ci];omega
    have Hc:=ab hc;clear hc;go_wp2
    go_ret3
    refine⟨hb,?_⟩;rw [←HF'.out];have:kt one (c::r) tx=some (tx,c::r):=by cases r<;>simp [kt,Hc.out]
    rw [this];exact⟨by omega,j,by omega,h2,HD.out,by simp⟩
   ·have hbc:((c.toNat:Int)==one)=false:=by rw [CM];omega
    have Hc:=ab hc;clear hc hd;by_cases hA:c.toNat=92∧n8 r five=true
    ·obtain⟨hA1,hA2⟩:=hA
     cases r with
     | nil=>simp [n8] at hA2
     | cons d r' =>
      obtain⟨k2,k3,kr⟩:=ky Hr.out;have Hkr:=ab kr;clear kr;have HS:Hid (kt one (c::d::r') tx=kt one r' (tx++[d])):=ab (by
       conv=>lhs;unfold kt
       rw [Co Hc.out,Cl ⟨hA1,hA2⟩])
      have hst:n8 (List.drop (j+1) l) [36,125,92,47,58]=true:=by rw [Hr.out];exact hA2
      have hA1':((c.toNat:Int)==92)=true:=by simp [hA1]
      clear hA1 hA2;go_wp2_with (first
       | (go_at_call 49;refine(oU _ _ _ _ gu gu gu gF).mono ?_;rintro e w1 ⟨rfl,rfl⟩)
       | (at_builtin;refine kz w.heap.size 5 rfl _ _ 46 rfl Tryz.underlying46 hiu rfl gD rfl hown rfl gZ rfl gG gu gD hB ?_;intro v1 w1 hown1 hg1 hb1 hne1))
      clear hst hA1';go_roundw
      case rel =>
       refine⟨j+2,tx++[d],by omega,by omega,by go_num,?_,hb.trans hb1,by simp;omega,by simp;omega,?_⟩
       ·simpa [kR] using hown1
       ·exact ab (by rw [Hkr.out,←HS.out];exact HF'.out)
      case measure=>simp [intOf];omega
    ·have HS:Hid (kt one (c::r) tx=kt one r (tx++[c])):=ab (by
      cases r with
      | nil=>simp [kt,Hc.out]
      | cons d r' =>
       conv=>lhs;unfold kt
       rw [Co Hc.out];exact Co hA)
     by_cases h92:c.toNat=92
     ·have hst:n8 (List.drop (j+1) l) [36,125,92,47,58]=false:=by rw [Hr.out];simpa [h92,five] using hA
      have hA1':((c.toNat:Int)==92)=true:= iD;clear hA h92;go_wp2_with (first
       | (go_at_call 49;refine(oU _ _ _ _ gu gu gu gF).mono ?_;rintro e w1 ⟨rfl,rfl⟩)
       | (at_builtin;refine kz w.heap.size 5 rfl _ _ 46 rfl Tryz.underlying46 hiu rfl gD rfl hown rfl gZ rfl gG gu gD hB ?_;intro v1 w1 hown1 hg1 hb1 hne1))
      clear hst hA1';exact cE
     ·have hA1':((c.toNat:Int)==92)=false:= ii
      clear hA h92;go_wp2_with (at_builtin;refine kz w.heap.size 5 rfl _ _ 46 rfl Tryz.underlying46 hiu rfl gD rfl hown rfl gZ rfl gG gu gD hB ?_;intro v1 w1 hown1 hg1 hb1 hne1)
      clear hA1';exact cE
theorem yy (r:Str):Lib.indexByte r 125=match r.dropWhile lR with|[]=>-1|_::_=>((r.takeWhile lR).length:Int):=by
 induction r with
 | nil=>rfl
 | cons b r ih =>
  by_cases h:b.toNat=125
  ·have hb:b=125:=Ck.1 h
   subst hb;rfl
  ·have hb:(b==125)=false:=by rw [CM];intro e;exact h (by rw [e];rfl)
   have hd:lR b=true:=by simpa [lR] using h
   rw [List.dropWhile_cons_of_pos hd,List.takeWhile_cons_of_pos hd];simp only [Lib.indexByte,hb,ih];cases r.dropWhile lR with
   | nil=>rfl
   | cons x y =>
    have h1:((((r.takeWhile lR).length:Int))==-1)=false:=by rw [CM];omega
    simp only [h1,C1,if_false,Cr];omega
theorem Way_eq {s:Str} {v:Int} (w:World) (h:pz s=v) :
  Calls Tryz.prog 116 #[.string ⟨s.toArray⟩] w fun e w'=>e=.returned (.int .i64 v)∧Below w.heap.size w w':=by
 subst h;exact Way_any s w
theorem oY {l t r:Str} {i one:Int} (w:World) (h0:0≤i) (h1:i≤1000000) (hs:l.length≤1000000) (ho:0≤one) (hU:kt one (l.drop i.toNat) []=some (t,r)) :
  Calls Tryz.prog 117 #[.string ⟨l.toArray⟩,.int .i64 i,.int .u8 one] w fun e w'=>Below w.heap.size w w'∧t.length≤l.length∧∃j:Nat,i≤j∧j<l.length∧l.drop j=r∧e=.returned (.tuple #[.string ⟨t.toArray⟩,.int .i64 j,.bool true]):=by
 refine(vj l i one w h0 h1 hs ho).mono ?_
 rintro e w1 ⟨hb,hp⟩;rw [hU] at hp;obtain⟨h2,j,h3,h4,h5,h6⟩:=hp;exact⟨hb,h2,j,by omega,h4,h5,h6⟩
theorem nA {l:Str} {i one:Int} (w:World) (h0:0≤i) (h1:i≤1000000) (hs:l.length≤1000000) (ho:0≤one) (hU:kt one (l.drop i.toNat) []=none) :
  Calls Tryz.prog 117 #[.string ⟨l.toArray⟩,.int .i64 i,.int .u8 one] w fun e w'=>Below w.heap.size w w'∧e=.returned (.tuple #[.string ⟨[].toArray⟩,.int .i64 0,.bool false]):=by
 refine(vj l i one w h0 h1 hs ho).mono ?_
 rintro e w1 ⟨hb,hp⟩;rw [hU] at hp;exact⟨hb,hp⟩
def xX (l:Str) (i:Nat) (R:Option (Fm × Str)) (e:Ending):Prop :=
 match R with
 | none=>e=.returned (.tuple #[.agg #[.int .i64 0,.int .i64 0,.int .i64 0,.string ⟨#[]⟩,.string ⟨#[]⟩],.int .i64 0,.bool false])
 | some (f,r)=>f.thn.length≤l.length∧f.els.length≤l.length∧∃j:Nat,i<j∧j≤l.length∧l.drop j=r∧e=.returned (.tuple #[.agg #[.int .i64 (f).kind,.int .i64 (f).n,.int .i64 (f).cse,.string ⟨((f).thn).toArray⟩,.string ⟨((f).els).toArray⟩],.int .i64 j,.bool true])
theorem zF (l:Str) (i n:Nat) (w:World) (h1:i≤900000) (hs:l.length≤900000) :
  Calls Tryz.prog 80 #[.string ⟨l.toArray⟩,.int .i64 i,.int .i64 n] w fun e w'=>Below w.heap.size w w'∧xX l i (lO (l.drop i) n) e:=by
 generalize hR:lO (l.drop i) n=R
 have HR:=ab hR;clear hR;cases hd:l.drop i with
 | nil =>
  have h2:=ll hd;have hU:kt 125 (l.drop (i:Int).toNat) []=none:=by rw [Int.toNat_natCast,hd];rfl
  have HE:Hid (R=none):=ab (by rw [←HR.out,hd];rfl);have hh:∀p:Str,p.isPrefixOf (l.drop (i:Int).toNat)=p.isPrefixOf []:=fun p=>by rw [Int.toNat_natCast,hd]
  have HU:=ab hU;have HH:=ab hh;have e1:List.isPrefixOf [47] (List.drop i l)=false:=by rw [hd];rfl
  have e2:List.isPrefixOf [43] (List.drop i l)=false:=by rw [hd];rfl
  have e3:List.isPrefixOf [63] (List.drop i l)=false:=by rw [hd];rfl
  have e4:List.isPrefixOf [45] (List.drop i l)=false:=by rw [hd];rfl
  clear hd hU hh;go_enter Tryz.func80,Tryz.ntmps80
  go_wp2_with (first
   | (go_at_call 79;refine(lI _ _ _ _ gu gu gF).mono ?_;rintro e w1 ⟨rfl,rfl⟩)
   | (go_at_call 117;refine(nA _ gu gu gu gu HU.out).mono ?_;rintro e w1 ⟨hb1,rfl⟩;obtain⟨hc1,hf1⟩:=qy hb1;have z0:w1.cell? ⟨w.heap.size,0,none⟩=some (.int .i64 0):= gv;have z1:w1.cell? ⟨w.heap.size,1,none⟩=some (.int .i64 0):= gv;have z2:w1.cell? ⟨w.heap.size,2,none⟩=some (.int .i64 0):= gv;have z3:w1.cell? ⟨w.heap.size,3,none⟩=some (.string ⟨#[]⟩):= gv;have z4:w1.cell? ⟨w.heap.size,4,none⟩=some (.string ⟨#[]⟩):= gv;have hbw:Below w.heap.size w w1:=((((Below.refl w.heap.size w).alloc (Cp _) _).alloc gF _).trans (hb1.mono gH))))
  refine CJ (v:=.tuple #[.agg #[.int .i64 0,.int .i64 0,.int .i64 0,.string ⟨#[]⟩,.string ⟨#[]⟩],.int .i64 0,.bool false]) gW rfl ⟨?_,by rw [HE.out];rfl⟩
  (repeat (first|with_reducible exact Below.refl _ _|with_reducible assumption|(refine Below.setCell ?_ gO _)|(refine Below.alloc ?_ gJ _)|(refine Below.drew ?_)))
 | cons c r =>
  obtain⟨h2,h3,hr⟩:=ky hd;have Hr:=ab hr;have HD:=ab hd;clear hr h3;by_cases c43:c.toNat=43
  ·have e1:List.isPrefixOf [47] (List.drop i l)=false:=by rw [hd,pre1];simp;try omega
   have e2:List.isPrefixOf [43] (List.drop i l)=true:=by rw [hd,pre1];simp;try omega
   have e3:List.isPrefixOf [63] (List.drop i l)=false:=by rw [hd,pre1];simp;try omega
   have e4:List.isPrefixOf [45] (List.drop i l)=false:=by rw [hd,pre1];simp;try omega
   have HE:Hid (R=match kt 125 r [] with|some (t,_::r2)=>some (⟨3,n,0,t,[]⟩,r2)|_=>none):=ab (by
    rw [←HR.out,hd];simp only [lO];rw [Co gu,Cl c43];rfl)
   clear hd c43;cases hU:kt 125 r [] with
   | none =>
    have HU:Hid (kt 125 (l.drop ((i:Int)+1).toNat) []=none):=ab gV;have HE':Hid (R=none):=ab jC;clear hU HE;go_enter Tryz.func80,Tryz.ntmps80
    go_wp2_with (first|(go_at_call 79;refine(lI _ _ _ _ gu gu gF).mono ?_;rintro e w1 ⟨rfl,rfl⟩)|(go_at_call 117;refine(nA _ gu gu gu gu HU.out).mono ?_;rintro e w1 ⟨hb1,rfl⟩;obtain⟨hc1,hf1⟩:=qy hb1;have z0:w1.cell? ⟨w.heap.size,0,none⟩=some (.int .i64 0):= gv;have z1:w1.cell? ⟨w.heap.size,1,none⟩=some (.int .i64 0):= gv;have z2:w1.cell? ⟨w.heap.size,2,none⟩=some (.int .i64 0):= gv;have z3:w1.cell? ⟨w.heap.size,3,none⟩=some (.string ⟨#[]⟩):= gv;have z4:w1.cell? ⟨w.heap.size,4,none⟩=some (.string ⟨#[]⟩):= gv;have y0:w1.cell? ⟨w.heap.size+1,0,none⟩=some (.int .i64 3):= gv;have y1:w1.cell? ⟨w.heap.size+1,1,none⟩=some (.int .i64 ↑n):= gv;have y2:w1.cell? ⟨w.heap.size+1,2,none⟩=some (.int .i64 0):= gv;have y3:w1.cell? ⟨w.heap.size+1,3,none⟩=some (.string ⟨#[]⟩):= gv;have y4:w1.cell? ⟨w.heap.size+1,4,none⟩=some (.string ⟨#[]⟩):= gv;have hbw:Below w.heap.size w w1:=((((Below.refl w.heap.size w).alloc (Cp _) _).alloc gF _).trans (hb1.mono gH))))
    exact eP
   | some p =>
    obtain⟨t,s⟩:=p;obtain⟨d,r2,rfl,_⟩:=lS _ _ _ hU;have HU:Hid (kt 125 (l.drop ((i:Int)+1).toNat) []=some (t,d::r2)):=ab gV;have HE':Hid (R=some (⟨3,n,0,t,[]⟩,r2)):=ab jC;clear hU HE;go_enter Tryz.func80,Tryz.ntmps80
    go_wp2_with (first|(go_at_call 79;refine(lI _ _ _ _ gu gu gF).mono ?_;rintro e w1 ⟨rfl,rfl⟩)|(go_at_call 117;refine(oY _ gu gu gu gu HU.out).mono ?_;rintro e w1 ⟨hb1,hlt,j,hj1,hj2,hj3,rfl⟩;obtain⟨hc1,hf1⟩:=qy hb1;have z0:w1.cell? ⟨w.heap.size,0,none⟩=some (.int .i64 0):= gv;have z1:w1.cell? ⟨w.heap.size,1,none⟩=some (.int .i64 0):= gv;have z2:w1.cell? ⟨w.heap.size,2,none⟩=some (.int .i64 0):= gv;have z3:w1.cell? ⟨w.heap.size,3,none⟩=some (.string ⟨#[]⟩):= gv;have z4:w1.cell? ⟨w.heap.size,4,none⟩=some (.string ⟨#[]⟩):= gv;have y0:w1.cell? ⟨w.heap.size+1,0,none⟩=some (.int .i64 3):= gv;have y1:w1.cell? ⟨w.heap.size+1,1,none⟩=some (.int .i64 ↑n):= gv;have y2:w1.cell? ⟨w.heap.size+1,2,none⟩=some (.int .i64 0):= gv;have y3:w1.cell? ⟨w.heap.size+1,3,none⟩=some (.string ⟨#[]⟩):= gv;have y4:w1.cell? ⟨w.heap.size+1,4,none⟩=some (.string ⟨#[]⟩):= gv;have hbw:Below w.heap.size w w1:=((((Below.refl w.heap.size w).alloc (Cp _) _).alloc gF _).trans (hb1.mono gH));have HJ3:=ab hj3;clear hj3))
    refine CJ (v:=.tuple #[.agg #[.int .i64 3,.int .i64 n,.int .i64 0,.string ⟨t.toArray⟩,.string ⟨[].toArray⟩],.int .i64 (j+1),.bool true]) gW rfl ⟨?_,?_⟩
    ·(repeat (first|with_reducible exact Below.refl _ _|with_reducible assumption|(refine Below.setCell ?_ gO _)|(refine Below.alloc ?_ gJ _)|(refine Below.drew ?_)))
    ·rw [HE'.out]
     exact fV
  by_cases c45:c.toNat=45
  ·have e1:List.isPrefixOf [47] (List.drop i l)=false:=by rw [hd,pre1];simp;try omega
   have e2:List.isPrefixOf [43] (List.drop i l)=false:=by rw [hd,pre1];simp;try omega
   have e3:List.isPrefixOf [63] (List.drop i l)=false:=by rw [hd,pre1];simp;try omega
   have e4:List.isPrefixOf [45] (List.drop i l)=true:=by rw [hd,pre1];simp;try omega
   have HE:Hid (R=match kt 125 r [] with|some (t,_::r2)=>some (⟨4,n,0,[],t⟩,r2)|_=>none):=ab (by
    rw [←HR.out,hd];simp only [lO];rw [Co gu,Co gu,Co gu,Cl c45];rfl)
   clear hd c43 c45;cases hU:kt 125 r [] with
   | none =>
    have HU:Hid (kt 125 (l.drop ((i:Int)+1).toNat) []=none):=ab gV;exact aD
   | some p =>
    obtain⟨t,s⟩:=p;obtain⟨d,r2,rfl,_⟩:=lS _ _ _ hU;have HU:Hid (kt 125 (l.drop ((i:Int)+1).toNat) []=some (t,d::r2)):=ab gV;exact aA
  by_cases c63:c.toNat=63
  ·have e1:List.isPrefixOf [47] (List.drop i l)=false:=by rw [hd,pre1];simp;try omega
   have e2:List.isPrefixOf [43] (List.drop i l)=false:=by rw [hd,pre1];simp;try omega
   have e3:List.isPrefixOf [63] (List.drop i l)=true:=by rw [hd,pre1];simp;try omega
   have e4:List.isPrefixOf [45] (List.drop i l)=false:=by rw [hd,pre1];simp;try omega
   have HE:Hid (R=match kt 58 r [] with|some (t,_::r2)=>(match kt 125 r2 [] with|some (u,_::r3)=>some (⟨5,n,0,t,u⟩,r3)|_=>none)|_=>none):=ab (by
    rw [←HR.out,hd];simp only [lO];rw [Co gu,Co gu,Cl c63];rfl)
   clear hd c43 c45 c63;cases hU:kt 58 r [] with
   | none =>
    have HU:Hid (kt 58 (l.drop ((i:Int)+1).toNat) []=none):=ab gV;have HE':Hid (R=none):=ab jC;clear hU HE;go_enter Tryz.func80,Tryz.ntmps80
    go_wp2_with (first|(go_at_call 79;refine(lI _ _ _ _ gu gu gF).mono ?_;rintro e w1 ⟨rfl,rfl⟩)|(go_at_call 117;refine(nA _ gu gu gu gu HU.out).mono ?_;rintro e w1 ⟨hb1,rfl⟩;obtain⟨hc1,hf1⟩:=qy hb1;have z0:w1.cell? ⟨w.heap.size,0,none⟩=some (.int .i64 0):= gv;have z1:w1.cell? ⟨w.heap.size,1,none⟩=some (.int .i64 0):= gv;have z2:w1.cell? ⟨w.heap.size,2,none⟩=some (.int .i64 0):= gv;have z3:w1.cell? ⟨w.heap.size,3,none⟩=some (.string ⟨#[]⟩):= gv;have z4:w1.cell? ⟨w.heap.size,4,none⟩=some (.string ⟨#[]⟩):= gv;have y0:w1.cell? ⟨w.heap.size+1,0,none⟩=some (.int .i64 5):= gv;have y1:w1.cell? ⟨w.heap.size+1,1,none⟩=some (.int .i64 ↑n):= gv;have y2:w1.cell? ⟨w.heap.size+1,2,none⟩=some (.int .i64 0):= gv;have y3:w1.cell? ⟨w.heap.size+1,3,none⟩=some (.string ⟨#[]⟩):= gv;have y4:w1.cell? ⟨w.heap.size+1,4,none⟩=some (.string ⟨#[]⟩):= gv;have hbw:Below w.heap.size w w1:=((((Below.refl w.heap.size w).alloc (Cp _) _).alloc gF _).trans (hb1.mono gH))))
    exact eP
   | some p =>
    obtain⟨t,s⟩:=p;obtain⟨d,r2,rfl,_⟩:=lS _ _ _ hU;have HU:Hid (kt 58 (l.drop ((i:Int)+1).toNat) []=some (t,d::r2)):=ab gV;have HE1:Hid (R=match kt 125 r2 [] with|some (u,_::r3)=>some (⟨5,n,0,t,u⟩,r3)|_=>none):=ab jC;clear hU HE;go_enter Tryz.func80,Tryz.ntmps80
    go_wp2_with (first|(go_at_call 79;refine(lI _ _ _ _ gu gu gF).mono ?_;rintro e w1 ⟨rfl,rfl⟩)|(go_at_call 117;refine(oY _ gu gu gu gu HU.out).mono ?_))
    rintro e w1 ⟨hb1,hlt,j,hj1,hj2,hj3,rfl⟩;obtain⟨hc1,hf1⟩:=qy hb1;have z0:w1.cell? ⟨w.heap.size,0,none⟩=some (.int .i64 0):= gv;have z1:w1.cell? ⟨w.heap.size,1,none⟩=some (.int .i64 0):= gv;have z2:w1.cell? ⟨w.heap.size,2,none⟩=some (.int .i64 0):= gv;have z3:w1.cell? ⟨w.heap.size,3,none⟩=some (.string ⟨#[]⟩):= gv;have z4:w1.cell? ⟨w.heap.size,4,none⟩=some (.string ⟨#[]⟩):= gv;have y0:w1.cell? ⟨w.heap.size+1,0,none⟩=some (.int .i64 5):= gv;have y1:w1.cell? ⟨w.heap.size+1,1,none⟩=some (.int .i64 ↑n):= gv;have y2:w1.cell? ⟨w.heap.size+1,2,none⟩=some (.int .i64 0):= gv;have y3:w1.cell? ⟨w.heap.size+1,3,none⟩=some (.string ⟨#[]⟩):= gv;have y4:w1.cell? ⟨w.heap.size+1,4,none⟩=some (.string ⟨#[]⟩):= gv;have hbw:Below w.heap.size w w1:=((((Below.refl w.heap.size w).alloc (Cp _) _).alloc gF _).trans (hb1.mono gH));have HJ:=ab (ky hj3).2.2;clear hj3;have hz:w.heap.size+1<w1.heap.size:=by have:=hb1.size;simp at this;omega
    cases hV:kt 125 r2 [] with
    | none =>
     have HV:Hid (kt 125 (l.drop ((j:Int)+1).toNat) []=none):=ab jg;have HE':Hid (R=none):=ab (by rw [HE1.out,hV]);clear hV HE1;go_wp2_with (go_at_call 117;refine(nA _ gu gu gu gu HV.out).mono ?_;rintro e w2 ⟨hb2,rfl⟩;obtain⟨hc2,hf2⟩:=qy hb2;have fz2:∀j,w2.frozen? ⟨w.heap.size,j,none⟩=false:=(fun j=>by rw [hf2 _ _ gK];simp [go_sem,hf1]);have fy2:∀j,w2.frozen? ⟨w.heap.size+1,j,none⟩=false:=(fun j=>by rw [hf2 _ _ gK];simp [go_sem,hf1]);have x0:w2.cell? ⟨w.heap.size,0,none⟩=some (.int .i64 0):= iW;have x1:w2.cell? ⟨w.heap.size,1,none⟩=some (.int .i64 0):= iX;have x2:w2.cell? ⟨w.heap.size,2,none⟩=some (.int .i64 0):= iY;have x3:w2.cell? ⟨w.heap.size,3,none⟩=some (.string ⟨#[]⟩):= iZ;have x4:w2.cell? ⟨w.heap.size,4,none⟩=some (.string ⟨#[]⟩):= i0;have v0:w2.cell? ⟨w.heap.size+1,0,none⟩=some (.int .i64 5):= i6;have v1:w2.cell? ⟨w.heap.size+1,1,none⟩=some (.int .i64 ↑n):= i7;have v2:w2.cell? ⟨w.heap.size+1,2,none⟩=some (.int .i64 0):= i9;have v3:w2.cell? ⟨w.heap.size+1,3,none⟩=some (.string ⟨t.toArray⟩):= ja;have v4:w2.cell? ⟨w.heap.size+1,4,none⟩=some (.string ⟨#[]⟩):= jb;have hbw2:Below w.heap.size w w2:=(hbw.setCell (p:=⟨w.heap.size+1,3,none⟩) gF _).trans (hb2.mono gK))
     refine CJ (v:=.tuple #[.agg #[.int .i64 0,.int .i64 0,.int .i64 0,.string ⟨#[]⟩,.string ⟨#[]⟩],.int .i64 0,.bool false]) jo rfl ⟨?_,by rw [HE'.out];rfl⟩
     (repeat (first|with_reducible exact Below.refl _ _|with_reducible assumption|(refine Below.setCell ?_ gO _)|(refine Below.alloc ?_ gJ _)|(refine Below.drew ?_)))
    | some p =>
     obtain⟨u,s⟩:=p;obtain⟨d',r3,rfl,_⟩:=lS _ _ _ hV;have HV:Hid (kt 125 (l.drop ((j:Int)+1).toNat) []=some (u,d'::r3)):=ab jg;have HE':Hid (R=some (⟨5,n,0,t,u⟩,r3)):=ab (by rw [HE1.out,hV]);clear hV HE1;go_wp2_with (go_at_call 117;refine(oY _ gu gu gu gu HV.out).mono ?_;rintro e w2 ⟨hb2,hlt2,j2,hk1,hk2,hk3,rfl⟩;obtain⟨hc2,hf2⟩:=qy hb2;have fz2:∀j,w2.frozen? ⟨w.heap.size,j,none⟩=false:=(fun j=>by rw [hf2 _ _ gK];simp [go_sem,hf1]);have fy2:∀j,w2.frozen? ⟨w.heap.size+1,j,none⟩=false:=(fun j=>by rw [hf2 _ _ gK];simp [go_sem,hf1]);have x0:w2.cell? ⟨w.heap.size,0,none⟩=some (.int .i64 0):= iW;have x1:w2.cell? ⟨w.heap.size,1,none⟩=some (.int .i64 0):= iX;have x2:w2.cell? ⟨w.heap.size,2,none⟩=some (.int .i64 0):= iY;have x3:w2.cell? ⟨w.heap.size,3,none⟩=some (.string ⟨#[]⟩):= iZ;have x4:w2.cell? ⟨w.heap.size,4,none⟩=some (.string ⟨#[]⟩):= i0;have v0:w2.cell? ⟨w.heap.size+1,0,none⟩=some (.int .i64 5):= i6;have v1:w2.cell? ⟨w.heap.size+1,1,none⟩=some (.int .i64 ↑n):= i7;have v2:w2.cell? ⟨w.heap.size+1,2,none⟩=some (.int .i64 0):= i9;have v3:w2.cell? ⟨w.heap.size+1,3,none⟩=some (.string ⟨t.toArray⟩):= ja;have v4:w2.cell? ⟨w.heap.size+1,4,none⟩=some (.string ⟨#[]⟩):= jb;have hbw2:Below w.heap.size w w2:=(hbw.setCell (p:=⟨w.heap.size+1,3,none⟩) gF _).trans (hb2.mono gK);have HK3:=ab hk3;clear hk3)
     refine CJ (v:=.tuple #[.agg #[.int .i64 5,.int .i64 n,.int .i64 0,.string ⟨t.toArray⟩,.string ⟨u.toArray⟩],.int .i64 (j2+1),.bool true]) jo rfl ⟨?_,?_⟩
     ·(repeat (first|with_reducible exact Below.refl _ _|with_reducible assumption|(refine Below.setCell ?_ gO _)|(refine Below.alloc ?_ gJ _)|(refine Below.drew ?_)))
     ·rw [HE'.out]
      refine⟨by simp;try omega,by simp;try omega,j2+1,by omega,by omega,(ky HK3.out).2.2,by simp⟩
  by_cases c47:c.toNat=47
  ·have e1:List.isPrefixOf [47] (List.drop i l)=true:=by rw [hd,pre1];simp;try omega
   have e2:List.isPrefixOf [43] (List.drop i l)=false:=by rw [hd,pre1];simp;try omega
   have e3:List.isPrefixOf [63] (List.drop i l)=false:=by rw [hd,pre1];simp;try omega
   have e4:List.isPrefixOf [45] (List.drop i l)=false:=by rw [hd,pre1];simp;try omega
   have HE:Hid (R=match r.dropWhile lR with
    | []=>none
    | _::r2=>if pz (r.takeWhile lR)=0 then none else some (⟨2,n,pz (r.takeWhile lR),[],[]⟩,r2)):=ab (by
    rw [←HR.out,hd];simp only [lO];rw [Cl c47];rfl)
   have hx:Lib.indexByte (List.drop i l) (125:Int).toNat.toUInt8=match r.dropWhile lR with|[]=>-1|_::_=>((r.takeWhile lR).length:Int)+1:=by
    rw [hd];have e125:(125:Int).toNat.toUInt8=125:=rfl;have hb:(c==125)=false:=by rw [CM];intro e;rw [e] at c47;simp at c47
    rw [e125];simp only [Lib.indexByte,hb];rw [yy];cases r.dropWhile lR with
    | nil=>rfl
    | cons x y =>
     have h1:((((r.takeWhile lR).length:Int))==-1)=false:=by rw [CM];omega
     simp only [h1,C1,if_false]
   clear hd c43 c45 c63 c47;have hspan:=CQ (p:=lR) (l:=r);generalize r.takeWhile lR=tk at *
   generalize r.dropWhile lR=dw at *
   have HX:=ab hx;have HSP:=ab hspan;clear hx hspan;cases dw with
   | nil =>
    have HX':Hid (Lib.indexByte (List.drop i l) (125:Int).toNat.toUInt8=-1):=HX;have HE':Hid (R=none):=HE;clear HX HE;go_enter Tryz.func80,Tryz.ntmps80
    go_wp2_with (first|(go_at_call 79;refine(lI _ _ _ _ gu gu gF).mono ?_;rintro e w1 ⟨rfl,rfl⟩)|(go_at_call 25;refine(lv _ HX'.out).mono ?_;rintro e w1 ⟨rfl,rfl⟩))
    refine CJ (v:=.tuple #[.agg #[.int .i64 0,.int .i64 0,.int .i64 0,.string ⟨#[]⟩,.string ⟨#[]⟩],.int .i64 0,.bool false]) (by simp [results,Tryz.results80,go_sem]) rfl ⟨?_,by rw [HE'.out];rfl⟩
    (repeat (first|with_reducible exact Below.refl _ _|with_reducible assumption|(refine Below.setCell ?_ gO _)|(refine Below.alloc ?_ gJ _)|(refine Below.drew ?_)))
   | cons d r2 =>
    have HX':Hid (Lib.indexByte (List.drop i l) (125:Int).toNat.toUInt8=(tk.length:Int)+1):=HX;have HE':Hid (R=if pz tk=0 then none else some (⟨2,n,pz tk,[],[]⟩,r2)):=HE;have hlen:i+1+tk.length<l.length:=by
     have h1:=CR List.length HSP.out;have h2:=CR List.length Hr.out;simp at h1 h2;omega
    have hK:∀k,k=tk.length→List.take k (List.drop (i+1) l)=tk:=fun k hk=>by
     rw [Hr.out,←HSP.out,hk,List.take_left]
    have HK:=ab hK;clear HX HE hK;go_enter Tryz.func80,Tryz.ntmps80
    have hW:pz (List.take (i+(tk.length+1)-(i+1)) (List.drop (i+1) l))=pz tk:=by rw [HK.out _ gu]
    generalize hv:pz tk=v at *
    have HW:=ab hW;have HV:=ab hv;clear hW hv;by_cases h0:v=0
    ·subst h0
     have HE2:Hid (R=none):=ab (by rw [HE'.out,Cl rfl]);clear HE';have HE':=HE2;go_wp2_with (first|(go_at_call 79;refine(lI _ _ _ _ gu gu gF).mono ?_;rintro e w1 ⟨rfl,rfl⟩)|(go_at_call 25;refine(lv _ HX'.out).mono ?_;rintro e w1 ⟨rfl,rfl⟩)|(go_at_call 116;refine(Way_eq _ HW.out).mono ?_;rintro e w1 ⟨rfl,hb1⟩;obtain⟨hc1,hf1⟩:=qy hb1;have z0:w1.cell? ⟨w.heap.size,0,none⟩=some (.int .i64 0):= gv;have z1:w1.cell? ⟨w.heap.size,1,none⟩=some (.int .i64 0):= gv;have z2:w1.cell? ⟨w.heap.size,2,none⟩=some (.int .i64 0):= gv;have z3:w1.cell? ⟨w.heap.size,3,none⟩=some (.string ⟨#[]⟩):= gv;have z4:w1.cell? ⟨w.heap.size,4,none⟩=some (.string ⟨#[]⟩):= gv;have y0:w1.cell? ⟨w.heap.size+1,0,none⟩=some (.int .i64 4):= gv;have y1:w1.cell? ⟨w.heap.size+1,1,none⟩=some (.int .i64 ↑n):= gv;have y2:w1.cell? ⟨w.heap.size+1,2,none⟩=some (.int .i64 0):= gv;have y3:w1.cell? ⟨w.heap.size+1,3,none⟩=some (.string ⟨#[]⟩):= gv;have y4:w1.cell? ⟨w.heap.size+1,4,none⟩=some (.string ⟨#[]⟩):= gv;have hbw:Below w.heap.size w w1:=((((Below.refl w.heap.size w).alloc (Cp _) _).alloc gF _).trans (hb1.mono gH))))
     exact eP
    ·have HE2:Hid (R=some (⟨2,n,v,[],[]⟩,r2)):=ab (by rw [HE'.out,Co h0])
     have e0:(v==0)=false:=by simpa using h0
     clear HE' h0;go_wp2_with (first|(go_at_call 79;refine(lI _ _ _ _ gu gu gF).mono ?_;rintro e w1 ⟨rfl,rfl⟩)|(go_at_call 25;refine(lv _ HX'.out).mono ?_;rintro e w1 ⟨rfl,rfl⟩)|(go_at_call 116;refine(Way_eq _ HW.out).mono ?_;rintro e w1 ⟨rfl,hb1⟩;obtain⟨hc1,hf1⟩:=qy hb1;have z0:w1.cell? ⟨w.heap.size,0,none⟩=some (.int .i64 0):= gv;have z1:w1.cell? ⟨w.heap.size,1,none⟩=some (.int .i64 0):= gv;have z2:w1.cell? ⟨w.heap.size,2,none⟩=some (.int .i64 0):= gv;have z3:w1.cell? ⟨w.heap.size,3,none⟩=some (.string ⟨#[]⟩):= gv;have z4:w1.cell? ⟨w.heap.size,4,none⟩=some (.string ⟨#[]⟩):= gv;have y0:w1.cell? ⟨w.heap.size+1,0,none⟩=some (.int .i64 4):= gv;have y1:w1.cell? ⟨w.heap.size+1,1,none⟩=some (.int .i64 ↑n):= gv;have y2:w1.cell? ⟨w.heap.size+1,2,none⟩=some (.int .i64 0):= gv;have y3:w1.cell? ⟨w.heap.size+1,3,none⟩=some (.string ⟨#[]⟩):= gv;have y4:w1.cell? ⟨w.heap.size+1,4,none⟩=some (.string ⟨#[]⟩):= gv;have hbw:Below w.heap.size w w1:=((((Below.refl w.heap.size w).alloc (Cp _) _).alloc gF _).trans (hb1.mono gH))))
     refine CJ (v:=.tuple #[.agg #[.int .i64 2,.int .i64 n,.int .i64 v,.string ⟨[].toArray⟩,.string ⟨[].toArray⟩],.int .i64 (i+(tk.length+1)+1),.bool true]) gW rfl ⟨?_,?_⟩
     ·(repeat (first|with_reducible exact Below.refl _ _|with_reducible assumption|(refine Below.setCell ?_ gO _)|(refine Below.alloc ?_ gJ _)|(refine Below.drew ?_)))
     ·rw [HE2.out]
      refine⟨by simp,by simp,i+(tk.length+1)+1,by omega,by omega,?_,by simp⟩;rw [show i+(tk.length+1)+1=i+1+(tk.length+1) by omega,←List.drop_drop,Hr.out,←HSP.out,List.drop_append];simp
  ·have e1:List.isPrefixOf [47] (List.drop i l)=false:=by rw [hd,pre1];simp;try omega
   have e2:List.isPrefixOf [43] (List.drop i l)=false:=by rw [hd,pre1];simp;try omega
   have e3:List.isPrefixOf [63] (List.drop i l)=false:=by rw [hd,pre1];simp;try omega
   have e4:List.isPrefixOf [45] (List.drop i l)=false:=by rw [hd,pre1];simp;try omega
   have HE:Hid (R=match kt 125 (c::r) [] with|some (t,_::r2)=>some (⟨4,n,0,[],t⟩,r2)|_=>none):=ab (by
    rw [←HR.out,hd];simp only [lO];rw [Co c47,Co c43,Co c63,Co c45];rfl)
   clear hd c43 c45 c63 c47;cases hU:kt 125 (c::r) [] with
   | none =>
    have HU:Hid (kt 125 (l.drop ((i:Int)).toNat) []=none):=ab (by rw [Int.toNat_natCast,HD.out];exact hU);exact aD
   | some p =>
    obtain⟨t,s⟩:=p;obtain⟨d,r2,rfl,_⟩:=lS _ _ _ hU;have HU:Hid (kt 125 (l.drop ((i:Int)).toNat) []=some (t,d::r2)):=ab (by rw [Int.toNat_natCast,HD.out];exact hU);exact aA
theorem qF {l r:Str} {i:Int} {n:Nat} (w:World) (h0:0≤i) (h1:i≤1000000) (hs:l.length≤1000000) (hN:pQ (l.drop i.toNat)=some (n,r)) :
  Calls Tryz.prog 78 #[.string ⟨l.toArray⟩,.int .i64 i] w fun e w'=>w=w'∧n<10000∧∃j:Nat,i<j∧j≤l.length∧l.drop j=r∧e=.returned (.tuple #[.int .i64 n,.int .i64 j,.bool true]):=by
 exact dM
theorem mW {l:Str} {i:Int} (w:World) (h0:0≤i) (h1:i≤1000000) (hs:l.length≤1000000) (hN:pQ (l.drop i.toNat)=none) :
  Calls Tryz.prog 78 #[.string ⟨l.toArray⟩,.int .i64 i] w fun e w'=>w=w'∧e=.returned (.tuple #[.int .i64 0,.int .i64 i,.bool false]):=by
 exact dM
theorem xi {l r:Str} {i n:Nat} {f:Fm} (w:World) (h1:i≤900000) (hs:l.length≤900000) (hB:lO (l.drop i) n=some (f,r)) :
  Calls Tryz.prog 80 #[.string ⟨l.toArray⟩,.int .i64 i,.int .i64 n] w fun e w'=>Below w.heap.size w w'∧f.thn.length≤l.length∧f.els.length≤l.length∧∃j:Nat,i<j∧j≤l.length∧l.drop j=r∧e=.returned (.tuple #[.agg #[.int .i64 (f).kind,.int .i64 (f).n,.int .i64 (f).cse,.string ⟨((f).thn).toArray⟩,.string ⟨((f).els).toArray⟩],.int .i64 j,.bool true]):=by
 exact el
theorem wU {l:Str} {i n:Nat} (w:World) (h1:i≤900000) (hs:l.length≤900000) (hB:lO (l.drop i) n=none) :
  Calls Tryz.prog 80 #[.string ⟨l.toArray⟩,.int .i64 i,.int .i64 n] w fun e w'=>Below w.heap.size w w'∧e=.returned (.tuple #[.agg #[.int .i64 0,.int .i64 0,.int .i64 0,.string ⟨#[]⟩,.string ⟨#[]⟩],.int .i64 0,.bool false]):=by
 exact el
theorem yx (l:Str) (i:Nat) (w:World) (h1:i≤800000) (hs:l.length≤800000) :
  Calls Tryz.prog 48 #[.string ⟨l.toArray⟩,.int .i64 i] w fun e w'=>Below w.heap.size w w'∧xX l i (pj (l.drop i)) e:=by
 generalize hR:pj (l.drop i)=R
 have HR:=ab hR;clear hR;cases hN:pQ (l.drop i) with
 | some p =>
  obtain⟨n,r⟩:=p;have HN:Hid (pQ (l.drop (i:Int).toNat)=some (n,r)):=ab (by rw [Int.toNat_natCast];exact hN);have HE:Hid (R=some (⟨1,n,0,[],[]⟩,r)):=ab (by rw [←HR.out];simp [pj,hN]);clear hN HR;go_enter Tryz.func48,Tryz.ntmps48
  go_wp2_with (go_at_call 78;refine(qF _ gu gu gu HN.out).mono ?_;rintro e w1 ⟨rfl,hn,j,hj1,hj2,hj3,rfl⟩;have HJ:=ab hj3;clear hj3)
  refine CJ (v:=.tuple #[.agg #[.int .i64 1,.int .i64 n,.int .i64 0,.string ⟨[].toArray⟩,.string ⟨[].toArray⟩],.int .i64 j,.bool true]) jm rfl ⟨?_,?_⟩
  ·(repeat (first|with_reducible exact Below.refl _ _|with_reducible assumption|(refine Below.setCell ?_ gO _)|(refine Below.alloc ?_ gJ _)|(refine Below.drew ?_)))
  ·rw [HE.out];exact⟨by simp,by simp,j,by omega,hj2,HJ.out,by simp⟩
 | none =>
  have HN:Hid (pQ (l.drop (i:Int).toNat)=none):=ab (by rw [Int.toNat_natCast];exact hN);have HP:Hid (R=partB (l.drop i)):=ab (by
   rw [←HR.out];simp [pj,hN])
  clear hN HR;cases hd:l.drop i with
  | nil =>
   have h2:=ll hd;have HE:Hid (R=none):=ab (by rw [HP.out,hd];rfl);have e1:List.isPrefixOf [123] (List.drop i l)=false:=by rw [hd];rfl
   clear hd HP;exact fp
  | cons c r1 =>
   obtain⟨h2,h3,hr⟩:=ky hd;have Hr:=ab hr;clear hr h3;by_cases hc:c.toNat=123
   ·have HP1:Hid (R=match pQ r1 with|none=>none|some p=>partC p.1 p.2):=ab (by rw [HP.out,hd];exact Cl hc)
    have e1:List.isPrefixOf [123] (List.drop i l)=true:=by rw [hd,pre1];simp;omega
    clear hc hd HP;cases hM:pQ r1 with
    | none =>
     have HM:Hid (pQ (l.drop ((i:Int)+1).toNat)=none):=ab jh;have HE:Hid (R=none):=ab (by rw [HP1.out,hM]);clear hM HP1;go_enter Tryz.func48,Tryz.ntmps48
     go_wp2_with (go_at_call 78;refine(mW _ gu gu gu HN.out).mono ?_)
     rintro e w1 ⟨rfl,rfl⟩;go_wp2_with (first|(go_at_call 79;refine(lI _ _ _ _ gu gu gF).mono ?_;rintro e w1 ⟨rfl,rfl⟩)|(go_at_call 78;refine(mW _ gu gu gu HM.out).mono ?_;rintro e w1 ⟨rfl,rfl⟩))
     exact aK
    | some p =>
     obtain⟨n,r2⟩:=p;have HM:Hid (pQ (l.drop ((i:Int)+1).toNat)=some (n,r2)):=ab jh;have HP2:Hid (R=partC n r2):=ab (by rw [HP1.out,hM]);clear hM HP1;go_enter Tryz.func48,Tryz.ntmps48
     go_wp2_with (go_at_call 78;refine(mW _ gu gu gu HN.out).mono ?_)
     rintro e w1 ⟨rfl,rfl⟩;go_wp2_with (first|(go_at_call 79;refine(lI _ _ _ _ gu gu gF).mono ?_;rintro e w1 ⟨rfl,rfl⟩)|(go_at_call 78;refine(qF _ gu gu gu HM.out).mono ?_))
     rintro e w1 ⟨rfl,hn,j,hj1,hj2,hj3,rfl⟩;cases r2 with
     | nil =>
      have HE:Hid (R=none):=HP2;have e2:List.isPrefixOf [125] (List.drop j l)=false:=by rw [hj3];rfl
      have e3:List.isPrefixOf [58] (List.drop j l)=false:=by rw [hj3];rfl
      clear hj3;exact fM
     | cons d r3 =>
      have HJ:=ab (ky hj3).2.2;have hjl:=(ky hj3).1;by_cases hd1:d.toNat=125
      ·have HE:Hid (R=some (⟨1,n,0,[],[]⟩,r3)):=ab (by rw [HP2.out];exact Cl hd1)
       have e2:List.isPrefixOf [125] (List.drop j l)=true:=by rw [hj3,pre1];simp;omega
       clear hj3 hd1;go_wp2_with (go_at_call 79;refine(lI _ _ _ _ gu gu gF).mono ?_;rintro e w1 ⟨rfl,rfl⟩)
       refine CJ (v:=.tuple #[.agg #[.int .i64 1,.int .i64 n,.int .i64 0,.string ⟨[].toArray⟩,.string ⟨[].toArray⟩],.int .i64 (j+1),.bool true]) jm rfl ⟨?_,?_⟩
       ·(repeat (first|with_reducible exact Below.refl _ _|with_reducible assumption|(refine Below.setCell ?_ gO _)|(refine Below.alloc ?_ gJ _)|(refine Below.drew ?_)))
       ·rw [HE.out];exact⟨by simp,by simp,j+1,by omega,by omega,HJ.out,by simp⟩
      ·have e2:List.isPrefixOf [125] (List.drop j l)=false:=by rw [hj3,pre1];simp;omega
       by_cases hd2:d.toNat=58
       ·have HP3:Hid (R=lO r3 n):=ab (by rw [HP2.out];exact(Co hd1).trans (Cl hd2))
        have e3:List.isPrefixOf [58] (List.drop j l)=true:=by rw [hj3,pre1];simp;omega
        clear hj3 hd1 hd2;cases hB:lO r3 n with
        | none =>
         have HE:Hid (R=none):=ab (by rw [HP3.out,hB]);have HB:Hid (lO (l.drop (j+1)) n=none):=ab (by rw [HJ.out];exact hB);clear hB;have ej:((j:Int)+1)=((j+1:Nat):Int):=gu;have EJ:=ab ej;clear ej;go_wp2_with (first|(go_at_call 79;refine(lI _ _ _ _ gu gu gF).mono ?_;rintro e w1 ⟨rfl,rfl⟩)|(go_at_call 80;rw [EJ.out];refine(wU _ gu gu HB.out).mono ?_;rintro e w1 ⟨hb1,rfl⟩;obtain⟨hc1,hf1⟩:=qy hb1;have z0:w1.cell? ⟨w.heap.size,0,none⟩=some (.int .i64 0):= gv;have z1:w1.cell? ⟨w.heap.size,1,none⟩=some (.int .i64 0):= gv;have z2:w1.cell? ⟨w.heap.size,2,none⟩=some (.int .i64 0):= gv;have z3:w1.cell? ⟨w.heap.size,3,none⟩=some (.string ⟨#[]⟩):= gv;have z4:w1.cell? ⟨w.heap.size,4,none⟩=some (.string ⟨#[]⟩):= gv;have hbw:Below w.heap.size w w1:=((Below.refl w.heap.size w).alloc (Cp _) _).trans (hb1.mono gF)))
         refine CJ (v:=.tuple #[.agg #[.int .i64 0,.int .i64 0,.int .i64 0,.string ⟨#[]⟩,.string ⟨#[]⟩],.int .i64 0,.bool false]) jp rfl ⟨?_,by rw [HE.out];rfl⟩
         (repeat (first|with_reducible exact Below.refl _ _|with_reducible assumption|(refine Below.setCell ?_ gO _)|(refine Below.alloc ?_ gJ _)|(refine Below.drew ?_)))
        | some q =>
         obtain⟨⟨fk,fn,fc,ft,fe⟩,r4⟩:=q;have HE:Hid (R=some (⟨fk,fn,fc,ft,fe⟩,r4)):=ab (by rw [HP3.out,hB]);have HB:Hid (lO (l.drop (j+1)) n=some (⟨fk,fn,fc,ft,fe⟩,r4)):=ab (by rw [HJ.out];exact hB);clear hB;have ej:((j:Int)+1)=((j+1:Nat):Int):=gu;have EJ:=ab ej;clear ej;go_wp2_with (first|(go_at_call 79;refine(lI _ _ _ _ gu gu gF).mono ?_;rintro e w1 ⟨rfl,rfl⟩)|(go_at_call 80;rw [EJ.out];refine(xi _ gu gu HB.out).mono ?_;rintro e w1 ⟨hb1,ht1,ht2,k,hk1,hk2,hk3,rfl⟩;obtain⟨hc1,hf1⟩:=qy hb1;have z0:w1.cell? ⟨w.heap.size,0,none⟩=some (.int .i64 0):= gv;have z1:w1.cell? ⟨w.heap.size,1,none⟩=some (.int .i64 0):= gv;have z2:w1.cell? ⟨w.heap.size,2,none⟩=some (.int .i64 0):= gv;have z3:w1.cell? ⟨w.heap.size,3,none⟩=some (.string ⟨#[]⟩):= gv;have z4:w1.cell? ⟨w.heap.size,4,none⟩=some (.string ⟨#[]⟩):= gv;have hbw:Below w.heap.size w w1:=((Below.refl w.heap.size w).alloc (Cp _) _).trans (hb1.mono gF);have HK3:=ab hk3;clear hk3))
         refine CJ (v:=.tuple #[.agg #[.int .i64 fk,.int .i64 fn,.int .i64 fc,.string ⟨ft.toArray⟩,.string ⟨fe.toArray⟩],.int .i64 k,.bool true]) jp rfl ⟨?_,?_⟩
         ·(repeat (first|with_reducible exact Below.refl _ _|with_reducible assumption|(refine Below.setCell ?_ gO _)|(refine Below.alloc ?_ gJ _)|(refine Below.drew ?_)))
         ·rw [HE.out];exact⟨ht1,ht2,k,by omega,hk2,HK3.out,by simp⟩
       ·have HE:Hid (R=none):=ab (by rw [HP2.out];exact(Co hd1).trans (Co hd2))
        have e3:List.isPrefixOf [58] (List.drop j l)=false:=by rw [hj3,pre1];simp;omega
        clear hj3 hd1 hd2;exact fM
   ·have HE:Hid (R=none):=ab (by rw [HP.out,hd];exact Co hc)
    have e1:List.isPrefixOf [123] (List.drop i l)=false:=by rw [hd,pre1];simp;omega
    clear hc hd HP;exact fp
theorem lB {w:World} {B:Nat} {e t:TypeId} {sz n:Nat} {v:Value} {xs:List Value} {k:Nat} {cs:Array Value} {m:Nat × Nat} (h:w.ownsRow B e sz v n xs) (hk:w.heap[k]?=some (.cells cs t m)) (hne:t≠e):v.ownBlock≠some k:=fun he=>by
 have:=(ni h he).2
 simp [wd,hk] at this;exact hne this
theorem tl {w:World} {B B':Nat} {e e':TypeId} {sz sz' n n':Nat} {v v':Value} {xs xs':List Value} (h:w.ownsRow B e sz v n xs) (h':w.ownsRow B' e' sz' v' n' xs') (hne:e≠e'):v.ownBlock=none∨v.ownBlock≠v'.ownBlock:=by
 cases hv:v.ownBlock with
 | none=>exact .inl rfl
 | some g =>
  refine .inr fun he=>?_
  have h1:=(ni h hv).2;have h2:=(ni h' he.symm).2;rw [h1] at h2;injection h2 with h2;exact hne h2
theorem pi {w:World} {B:Nat} {e:TypeId} {sz n:Nat} {v:Value} {xs:List Value} (h:w.ownsRow B e sz v n xs) {p:Addr} (hp:v.ownBlock≠some p.block) (u:Value):(w.setCell p u).ownsRow B e sz v n xs :=
 h.kept (row:=some p.block) ⟨rfl,rfl,rfl,by simp [World.setCell],fun k _ hk=>Below.heap_setCell _ _ _ _ (fun e=>hk (by rw [e]))⟩ (.inr hp)
theorem pB {w:World} {g:Nat} {v u:Value} {t:TypeId} (h:w.heap[g]?=some (.cells #[v] t (0,0))):(w.setCell ⟨g,0,none⟩ u).heap[g]?=some (.cells #[u] t (0,0)):=by
 simp [World.setCell,Array.getElem?_modify,h]
theorem ou {w:World} {g:Nat} {p:Addr} {u:Value} {o:Obj} (h:w.heap[g]?=some o) (hp:p.block≠g):(w.setCell p u).heap[g]?=some o:=by
 rw [Below.heap_setCell _ _ _ _ (fun e=>hp e.symm)];exact h
theorem Bs:(Tryz.prog.info? 55).map (fun i=>(i.zero,i.size,i.bytes))=some (some (.agg #[.int .i64 0,.int .i64 0,.int .i64 0,.string ⟨#[]⟩,.string ⟨#[]⟩]),5,56):=by kernel_rfl
def RS (B bt bo:Nat) (tx:Str) (fs:List Fm) (w:World):Prop :=
 ∃tv ov,w.heap[bt]?=some (.cells #[tv] 46 (0,0))∧w.heap[bo]?=some (.cells #[ov] 26 (0,0))∧B≤bt∧B≤bo∧w.ownsRow B 5 1 tv tx.length (kR tx)∧w.ownsRow B 55 5 ov fs.length (lA fs)
theorem rz (fs:List Fm) (f:Fm):lA (fs++[f])=lA fs++f.cells:=by simp [lA]
theorem l9 {w w':World} {B:Nat} {e:TypeId} {sz n:Nat} {v:Value} {xs:List Value} (h:w.ownsRow B e sz v n xs) (hb:Below w.heap.size w w'):w'.ownsRow B e sz v n xs:=by
 refine⟨h.1,?_⟩;rcases h.2 with h5|⟨g',cap,cur,hv,hB,hg,r⟩
 ·exact .inl h5
 ·exact .inr ⟨g',cap,cur,hv,hB,(hb.block g' (jO hg)).trans hg,r⟩
theorem RS.keep {B bt bo:Nat} {tx:Str} {fs:List Fm} {w w':World} (h:RS B bt bo tx fs w) (hb:Below w.heap.size w w'):RS B bt bo tx fs w':=by
 obtain⟨tv,ov,h1,h2,h3,h4,h5,h6⟩:=h;exact⟨tv,ov,(hb.block _ (jO h1)).trans h1,(hb.block _ (jO h2)).trans h2,h3,h4,l9 h5 hb,l9 h6 hb⟩
theorem vP (B bt bo:Nat) (tx:Str) (fs:List Fm) (w0 w:World) (h:RS B bt bo tx fs w0) (hw:Below w0.heap.size w0 w) (hB:B≤w.heap.size) (htx:tx.length≤1000000) (hfs:fs.length≤1000000) :
  Calls Tryz.prog 47 #[.pointer (some ⟨bt,0,none⟩),.pointer (some ⟨bo,0,none⟩)] w fun e w'=>e=.returned (.tuple #[])∧RS B bt bo [] (na tx fs) w'∧Below B w w'∧∀k,w0.heap.size≤k→k<w.heap.size→w'.heap[k]?=w.heap[k]?:=by
 obtain⟨tv,ov,h1,h2,hbt,hbo,ht,ho⟩:=h;have hlt1:=jO h1;have hlt2:=jO h2;have hrow:∀g,ov.ownBlock=some g→g<w0.heap.size:=fun g hg=>(ho.lt g hg).2
 replace h1:=(hw.block _ hlt1).trans h1;replace h2:=(hw.block _ hlt2).trans h2;replace ht:=l9 ht hw;replace ho:=l9 ho hw;have HROW:=ab hrow;clear hrow;obtain⟨ta,tc,rfl⟩:=j7 ht;obtain⟨oa,oc,rfl⟩:=j7 ho;have c1:w.cell? ⟨bt,0,none⟩=some (.slice ta tx.length tc):=by rw [Cv h1];rfl
 have c2:w.cell? ⟨bo,0,none⟩=some (.slice oa fs.length oc):=by rw [Cv h2];rfl
 have f1:w.frozen? ⟨bt,0,none⟩=false:=Lib.frozen_of_heap h1 0;have hne:bt≠bo:=fun e=>by subst e;rw [h1] at h2;simp at h2
 have H1:=ab h1;have H2:=ab h2;have HNE:=ab hne;clear h1 h2 hne;by_cases h0:tx=[]
 ·subst h0
  simp only [CW] at ht c1;go_enter Tryz.func47,Tryz.ntmps47
  go_wp2
  go_end0
  refine⟨rfl,⟨_,_,H1.out,H2.out,hbt,hbo,ht,ho⟩,Below.refl _ _,fun _ _ _=>rfl⟩
 ·have hl:0<tx.length:=List.length_pos_iff.2 h0
  have hcv:=qS (P:=Tryz.prog) (src:=46) (dst:=9) Tryz.underlying46 Tryz.underlying5 Tryz.underlying9 ht;obtain⟨iu,hiu⟩:=info_parts Bs;have H0:=ab h0;clear h0;go_enter Tryz.func47,Tryz.ntmps47
  go_wp2_with (at_builtin;refine kz B 55 rfl _ _ 26 rfl Tryz.underlying26 hiu rfl gD rfl ho rfl gZ rfl gG gu gD hB ?_)
  intro v' w1 ho1 hg1 hb1 _;have g1:w1.heap[bt]?=some (.cells #[.slice ta tx.length tc] 46 (0,0)):=(hg1.block bt (jO H1.out) (fun e=>lB ho H1.out gD e.symm)).trans H1.out;have g2:w1.heap[bo]?=some (.cells #[.slice oa fs.length oc] 26 (0,0)):=(hg1.block bo (jO H2.out) (fun e=>lB ho H2.out gD e.symm)).trans H2.out;obtain⟨va,vc,rfl⟩:=j7 ho1;have d1:w1.cell? ⟨bt,0,none⟩=some (.slice ta tx.length tc):=by rw [Cv g1];rfl
  have d2:w1.cell? ⟨bo,0,none⟩=some (.slice oa fs.length oc):=by rw [Cv g2];rfl
  have d3:w1.frozen? ⟨bt,0,none⟩=false:=Lib.frozen_of_heap g1 0;have d4:w1.frozen? ⟨bo,0,none⟩=false:=Lib.frozen_of_heap g2 0;have hR:RS B bt bo [] (na tx fs) ((w1.setCell ⟨bo,0,none⟩ (.slice va (fs.length+1) vc)).setCell ⟨bt,0,none⟩ (.slice none 0 0)):=by
   have hz:na tx fs=fs++[⟨0,0,0,tx,[]⟩]:=Co H0.out;refine⟨.slice none 0 0,.slice va (fs.length+1) vc,pB (ou g1 (fun e=>HNE.out e.symm)),ou (pB g2) HNE.out,hbt,hbo,World.ownsRow_nil _ _ _ _,?_⟩;rw [hz,rz,Cy];exact pi (pi (by simpa [Fm.cells] using ho1) (lB ho1 g2 gD) _) (lB (pi ho1 (lB ho1 g2 gD) (.slice va (fs.length+1) vc)) (ou (p:=⟨bo,0,none⟩) (u:=.slice va (fs.length+1) vc) g1 (fun e=>HNE.out e.symm)) gD) _
  have hbl:Below B w ((w1.setCell ⟨bo,0,none⟩ (.slice va (fs.length+1) vc)).setCell ⟨bt,0,none⟩ (.slice none 0 0)):=(hb1.setCell (p:=⟨bo,0,none⟩) hbo _).setCell (p:=⟨bt,0,none⟩) hbt _;have hst:∀k,w0.heap.size≤k→k<w.heap.size→((w1.setCell ⟨bo,0,none⟩ (.slice va (fs.length+1) vc)).setCell ⟨bt,0,none⟩ (.slice none 0 0)).heap[k]?=w.heap[k]?:=fun k hk1 hk2=>by
   rw [Below.heap_setCell _ _ _ _ (by show k≠bt;omega),Below.heap_setCell _ _ _ _ (by show k≠bo;omega)];exact hg1.block k hk2 (fun e=>by have:=HROW.out k e.symm;omega)
  have HST:=ab hst;have HRR:=ab hR;have HBL:=ab hbl;have hbb:((bo==bt)=false):=by rw [CM];exact fun e=>HNE.out e.symm
  have hne1:¬bo=bt:=fun e=>HNE.out e.symm
  have hne2:¬bt=bo:=HNE.out;clear hR hbl g1 g2 hst;go_wp2
  go_end0
  exact⟨rfl,HRR.out,HBL.out,HST.out⟩
end Go.Proofs.YtjggmmaojklmpaaGreat
