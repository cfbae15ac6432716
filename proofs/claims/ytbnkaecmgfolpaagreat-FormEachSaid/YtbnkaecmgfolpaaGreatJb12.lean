/- walks of rxread: plain, number · walks of rxread: bounds -/
import Derived.Test.YtbnkaecmgfolpaaGreatJb11
set_option maxRecDepth 100000
set_option maxHeartbeats 4000000
namespace Go.Proofs.YtbnkaecmgfolpaaGreat
open Go.RowKit
def wP (c:Str) (w:World) (e:Ending) (w':World):Prop:=w=w'∧match jx c with
 | some t=>e=.returned (.tuple #[.string ⟨t.toArray⟩,.bool true])
 | none=>∃t:Str,e=.returned (.tuple #[.string ⟨t.toArray⟩,.bool false])
theorem qm (c:Str) (w:World) (hs:c.length≤100000000) :
  Calls Tryz.prog 172 #[.string ⟨c.toArray⟩] w fun e w'=>wP c w e w':=by
 by_cases h0:c=[]
 ·subst h0
  go_enter Tryz.func172,Tryz.ntmps172
  go_wp2
  go_ret2
  exact⟨rfl,[],rfl⟩
 have g0:List.isEmpty c=false:=by cases c<;>simp at h0 ⊢
 by_cases h110:c=[110]
 ·subst h110
  exact bK
 have g110:(c==[110])=false:=xH.2 h110;by_cases h114:c=[114]
 ·subst h114
  exact bK
 have g114:(c==[114])=false:=xH.2 h114;by_cases h116:c=[116]
 ·subst h116
  exact bK
 have g116:(c==[116])=false:=xH.2 h116;by_cases h102:c=[102]
 ·subst h102
  exact bK
 have g102:(c==[102])=false:=xH.2 h102;by_cases h118:c=[118]
 ·subst h118
  exact bK
 have g118:(c==[118])=false:=xH.2 h118;have hM:jx c=if c=[95]∨lO c=false then some c else none:=by
  unfold jx;rw [wX h0,wX h110,wX h114,wX h116,wX h102,wX h118]
 have HW:=ab (nr c w hs);by_cases h95:c=[95]
 ·subst h95
  clear HW hM;exact bK
 have g95:(c==[95])=false:=xH.2 h95;cases hw:lO c with
 | true =>
  rw [wX (by rw [hw];simp [h95])] at hM;rw [hw] at HW;have HM:=ab hM;clear hM hw h0 h110 h114 h116 h102 h118 h95;go_enter Tryz.func172,Tryz.ntmps172
  go_wp2_with (go_at_call 195;refine HW.out.mono ?_;rintro e w1 ⟨rfl,rfl⟩)
  go_ret2
  exact⟨rfl,by rw [HM.out];exact⟨c,rfl⟩⟩
 | false =>
  rw [wU (.inr hw)] at hM;rw [hw] at HW;have HM:=ab hM;clear hM hw h0 h110 h114 h116 h102 h118 h95;go_enter Tryz.func172,Tryz.ntmps172
  go_wp2_with (go_at_call 195;refine HW.out.mono ?_;rintro e w1 ⟨rfl,rfl⟩)
  go_ret2
  exact⟨rfl,by rw [HM.out];rfl⟩
def NumPost (g d:Nat) (w:World) (R:Option (Nat × List Str)) (e:Ending) (w':World):Prop:=w.grownBy w' (some g)∧match R with
 | some (n,r)=>e=.returned (.tuple #[.int .i64 n,.bool true])∧n≤255∧Rd w' g r d
 | none=>(∃v:Int,e=.returned (.tuple #[.int .i64 v,.bool false]))∧∃r,Rd w' g r d
def NumRel (g d:Nat) (w:World) (R:Option (Nat × List Str)) (vn vk vc:Value) (wr:World):Prop :=
 ∃(n k:Nat) (r:List Str),vn=.int .i64 n∧vk=.int .i64 k∧vc=.string ⟨(hdS r).toArray⟩∧Rd wr g r d∧w.grownBy wr (some g)∧k≤3∧n≤999∧Hid (k=0∧n=0∨k=1∧n≤9∨k=2∧n≤99∨k=3)∧Hid (numL k n r=R)
theorem iB (c:Str) (r:List Str):hdS (c::r)=c:=rfl
theorem oU {g d:Nat} {r:List Str} (w:World) (h:Rd w g r d) :
  Calls Tryz.prog 173 #[.pointer (some ⟨g,0,none⟩)] w fun e w'=>NumPost g d w (numL 0 0 r) e w':=by
 obtain⟨R,hR⟩:∃R,numL 0 0 r=R:=⟨_,rfl⟩;rw [hR];have HR:=ab hR;have HRD:=ab h;clear hR h;go_enter Tryz.func173,Tryz.ntmps173
 go_wp2_with (go_at_call 43;refine(iq _ HRD.out).mono ?_)
 rintro e w1 ⟨rfl,hst⟩;have HRD1:=ab (hst.rd HRD.out);have hg1:=hst.grown (some g);clear hst HRD;go_wp2
 go_loopw [4,5,6] (fun vn vk vc wr=>NumRel g d w R vn vk vc wr) (fun _ vk _ _=>4-(intOf vk).toNat)
 case atStart=>exact⟨0,0,r,rfl,rfl,rfl,HRD1.out,hg1,by omega,by omega,ab (.inl ⟨rfl,rfl⟩),HR⟩
 case round =>
  clear HR HRD1 hg1;obtain⟨n,k,r,rfl,rfl,rfl,hrd,hg,hk,hn,HB,HF⟩:=hrel;have HRD:=ab hrd;cases r with
  | nil =>
   have HF2:Hid ((if 0<k∧n≤255 then some (n,[]) else none)=R):=HF;clear HF hrd;generalize hr:([]:List Str)=r at *
   have hh:hdS r=[]:=by rw [←hr];rfl
   rw [hh];clear hr hh;exact aD
  | cons c r' =>
   have hp:=hrd.pos;obtain⟨i,hi,c1,hf,hr1⟩:=hrd.step;have HR1:=ab hr1;clear hrd hr1;rw [iB];match c,hp with
   | [b],_ =>
    by_cases hb1:48≤b.toNat
    ·by_cases hb2:b.toNat≤57
     ·have hdg:digS [b]=some (b.toNat-48):=by simp only [digS,wU (And.intro hb1 hb2)]
      by_cases hk3:k=3
      ·have HF2:Hid (none=R):=ab (by rw [←HF.out,numL,hdg];simp [hk3])
       clear HF hdg;go_wp2
       go_ret2
       exact⟨hg,by rw [←HF2.out];exact⟨⟨_,rfl⟩,_,HRD.out⟩⟩
      ·have HF2:Hid (numL (k+1) (10*n+(b.toNat-48)) r'=R):=ab (by rw [←HF.out,numL,hdg];simp [hk3])
       have hn99:n≤99:=by have:=HB.out;omega
       have HB2:Hid (k+1=0∧10*n+(b.toNat-48)=0∨k+1=1∧10*n+(b.toNat-48)≤9∨k+1=2∧10*n+(b.toNat-48)≤99∨k+1=3):=ab (by have:=HB.out;omega);clear HF hdg;have hg2:w.grownBy (wr.setCell ⟨g,1,none⟩ (.int .i64 ((i:Int)+1))) (some g):=gT hg _ _;go_wp2_with (go_at_call 43;refine(iq _ HR1.out).mono ?_)
       rintro e w3 ⟨rfl,hst⟩;have hrd3:=hst.rd HR1.out;have hg3:=gG hg2 (hst.grown _);clear hst;go_wp2
       go_roundw
       case rel=>exact⟨10*n+(b.toNat-48),k+1,r',xM (Value.int .i64) eu,by go_num,rfl,hrd3,hg3,by omega,by omega,HB2,HF2⟩
       case measure=>simp [intOf];omega
     ·have HF2:Hid ((if 0<k∧n≤255 then some (n,[b]::r') else none)=R):=ab (by
       rw [←HF.out];simp only [numL,digS,wX (show ¬(48≤b.toNat∧b.toNat≤57) from fun q=>hb2 q.2)])
      clear HF;generalize hr:[b]::r'=r at *
      exact aD
    ·have HF2:Hid ((if 0<k∧n≤255 then some (n,[b]::r') else none)=R):=ab (by
      rw [←HF.out];simp only [numL,digS,wX (show ¬(48≤b.toNat∧b.toNat≤57) from fun q=>hb1 q.1)])
     clear HF;generalize hr:[b]::r'=r at *
     exact aD
   | [],hp=>exact absurd rfl hp.1
   | b::b2::t,hp =>
    have hlt:=hp.2;have HF2:Hid ((if 0<k∧n≤255 then some (n,(b::b2::t)::r') else none)=R):=ab (by
     rw [←HF.out];simp only [numL,digS])
    have hne:((t.length:Int)+1+1==1)=false:=by rw [xH];omega
    clear HF;generalize hr:(b::b2::t)::r'=r at *
    exact aD
theorem jd {c:Str} {r r1:List Str} (h:io c r=some r1):r=c::r1:=by
 cases r with
 | nil=>cases h
 | cons x r =>
  simp only [io] at h;by_cases hx:x=c
  ·rw [wU hx] at h;injection h with h;rw [hx,h]
  ·rw [wX hx] at h;cases h
theorem it {T:TypeId} {x:List Value} {g:Nat} {r r1:List Str} {c:Str} (w:World) (h:RdT T x w g r) (hc:io c r=some r1) :
  Calls Tryz.prog 149 #[.pointer (some ⟨g,0,none⟩),.string ⟨c.toArray⟩] w fun e w'=>e=.returned (.bool true)∧RdT T x w' g r1∧w.grownBy w' (some g):=by
 have e:=jd hc;subst e;exact take_yes c w h
theorem g8 {T:TypeId} {x:List Value} {g:Nat} {r:List Str} {c:Str} (w:World) (h:RdT T x w g r) (hc:io c r=none) (hc0:c≠[]) :
  Calls Tryz.prog 149 #[.pointer (some ⟨g,0,none⟩),.string ⟨c.toArray⟩] w fun e w'=>e=.returned (.bool false)∧RdT T x w' g r∧w.grownBy w' (some g) :=
 (take_no c w h hc hc0).mono fun _ _ ⟨h1,h2⟩=>⟨h1,h2.rd h,h2.grown _⟩
theorem kH {g d:Nat} {r r1:List Str} {n:Nat} (w:World) (h:Rd w g r d) (hn:numL 0 0 r=some (n,r1)) :
  Calls Tryz.prog 173 #[.pointer (some ⟨g,0,none⟩)] w fun e w'=>e=.returned (.tuple #[.int .i64 n,.bool true])∧Rd w' g r1 d∧w.grownBy w' (some g):=by
 refine(oU w h).mono ?_
 rintro e w' ⟨h1,h2⟩;rw [hn] at h2;exact⟨h2.1,h2.2.2,h1⟩
def NumNo (w:World) (g d:Nat) (e:Ending) (w':World):Prop:=∃v:Int,e=.returned (.tuple #[.int .i64 v,.bool false])∧w.grownBy w' (some g)∧∃r,Rd w' g r d
theorem nM {g d:Nat} {r:List Str} (w:World) (h:Rd w g r d) (hn:numL 0 0 r=none) :
  Calls Tryz.prog 173 #[.pointer (some ⟨g,0,none⟩)] w fun e w'=>NumNo w g d e w':=by
 refine(oU w h).mono ?_
 rintro e w' ⟨h1,h2⟩;rw [hn] at h2;obtain⟨⟨v,h2⟩,h3⟩:=h2;exact⟨v,h2,h1,h3⟩
theorem rq:∀(r:List Str) (k n:Nat) {m:Nat} {r1:List Str},numL k n r=some (m,r1)→m≤255
 | [],k,n,m,r1,h=>by
  unfold numL at h;split at h
  ·rename_i q;injection h with h;injection h with h _;omega
  ·cases h
 | c::r,k,n,m,r1,h=>by
  unfold numL at h;split at h
  ·split at h
   ·cases h
   ·exact rq r _ _ h
  ·split at h
   ·rename_i q;injection h with h;injection h with h _;omega
   ·cases h
def BdPost (g d:Nat) (w:World) (R:Option (Int × Int × List Str)) (e:Ending) (w':World):Prop:=w.grownBy w' (some g)∧match R with
 | some (lo,hi,r)=>e=.returned (.tuple #[.int .i64 lo,.int .i64 hi,.bool true])∧Rd w' g r d
 | none=>(∃a b:Int,e=.returned (.tuple #[.int .i64 a,.int .i64 b,.bool false]))∧∃r,Rd w' g r d
theorem oS {g d:Nat} {r:List Str} (w:World) (h:Rd w g r d) :
  Calls Tryz.prog 148 #[.pointer (some ⟨g,0,none⟩)] w fun e w'=>BdPost g d w (kA r) e w':=by
 obtain⟨R,hR⟩:∃R,kA r=R:=⟨_,rfl⟩;rw [hR];have HRD:=ab h;unfold kA at hR;clear h;cases h1:numL 0 0 r with
 | none =>
  rw [h1] at hR;have HR:=ab hR;have HC:=ab (nM _ HRD.out h1);clear hR h1;go_enter Tryz.func148,Tryz.ntmps148
  go_wp2_with (go_at_call 173;refine HC.out.mono ?_)
  rintro e w1 hq1;obtain⟨v,rfl,hg1,r9,hrd9⟩:=hq1;have HRD9:=ab hrd9;clear hrd9;go_wp2
  go_ret3
  exact⟨hg1,by rw [←HR.out];exact⟨⟨_,_,rfl⟩,_,HRD9.out⟩⟩
 | some y =>
  obtain⟨lo,r1⟩:=y;have hlo:=rq _ _ _ h1;simp only [h1] at hR;have HC:=ab (kH _ HRD.out h1);clear h1;cases h2:io [125] r1 with
  | some r2 =>
   simp only [h2] at hR;have HR:=ab hR;have H2:=ab h2;clear hR h2;go_enter Tryz.func148,Tryz.ntmps148
   go_wp2_with (go_at_call 173;refine(HC.out).mono ?_)
   rintro e w1 ⟨rfl,hrd1,hg1⟩;have HRD1:=ab hrd1;clear hrd1;go_wp2_with (go_at_call 149;refine(it _ HRD1.out H2.out).mono ?_)
   rintro e w2 ⟨rfl,hrd2,hq2⟩;have HRD2:=ab hrd2;have hg2:=gG hg1 hq2;clear hrd2 hq2;go_wp2
   go_ret3
   exact⟨hg2,by rw [←HR.out];exact⟨rfl,HRD2.out⟩⟩
  | none =>
   simp only [h2] at hR;have H2:=ab h2;clear h2;cases h3:io [44] r1 with
   | none =>
    simp only [h3] at hR;have HR:=ab hR;have H3:=ab h3;clear hR h3;go_enter Tryz.func148,Tryz.ntmps148
    go_wp2_with (go_at_call 173;refine(HC.out).mono ?_)
    rintro e w1 ⟨rfl,hrd1,hg1⟩;have HRD1:=ab hrd1;clear hrd1;go_wp2_with (go_at_call 149;refine(g8 _ HRD1.out H2.out eB).mono ?_)
    rintro e w2 ⟨rfl,hrd2,hq2⟩;have HRD2:=ab hrd2;have hg2:=gG hg1 hq2;clear hrd2 hq2;go_wp2_with (go_at_call 149;refine(g8 _ HRD2.out H3.out eB).mono ?_)
    rintro e w3 ⟨rfl,hrd3,hq3⟩;have HRD3:=ab hrd3;have hg3:=gG hg2 hq3;clear hrd3 hq3;go_wp2
    go_ret3
    exact⟨hg3,by rw [←HR.out];exact⟨⟨_,_,rfl⟩,_,HRD3.out⟩⟩
   | some r2 =>
    simp only [h3] at hR;have H3:=ab h3;clear h3;cases h4:io [125] r2 with
    | some r3 =>
     simp only [h4] at hR;have HR:=ab hR;have H4:=ab h4;clear hR h4;go_enter Tryz.func148,Tryz.ntmps148
     go_wp2_with (go_at_call 173;refine(HC.out).mono ?_)
     rintro e w1 ⟨rfl,hrd1,hg1⟩;have HRD1:=ab hrd1;clear hrd1;go_wp2_with (go_at_call 149;refine(g8 _ HRD1.out H2.out eB).mono ?_)
     rintro e w2 ⟨rfl,hrd2,hq2⟩;have HRD2:=ab hrd2;have hg2:=gG hg1 hq2;clear hrd2 hq2;go_wp2_with (go_at_call 149;refine(it _ HRD2.out H3.out).mono ?_)
     rintro e w3 ⟨rfl,hrd3,hq3⟩;have HRD3:=ab hrd3;have hg3:=gG hg2 hq3;clear hrd3 hq3;go_wp2_with (go_at_call 149;refine(it _ HRD3.out H4.out).mono ?_)
     rintro e w4 ⟨rfl,hrd4,hq4⟩;have HRD4:=ab hrd4;have hg4:=gG hg3 hq4;clear hrd4 hq4;go_wp2
     go_ret3
     exact⟨hg4,by rw [←HR.out];exact⟨rfl,HRD4.out⟩⟩
    | none =>
     simp only [h4] at hR;have H4:=ab h4;clear h4;cases h5:numL 0 0 r2 with
     | none =>
      simp only [h5] at hR;have HR:=ab hR;have H5:=ab h5;clear hR h5;go_enter Tryz.func148,Tryz.ntmps148
      go_wp2_with (go_at_call 173;refine(HC.out).mono ?_)
      rintro e w1 ⟨rfl,hrd1,hg1⟩;have HRD1:=ab hrd1;clear hrd1;go_wp2_with (go_at_call 149;refine(g8 _ HRD1.out H2.out eB).mono ?_)
      rintro e w2 ⟨rfl,hrd2,hq2⟩;have HRD2:=ab hrd2;have hg2:=gG hg1 hq2;clear hrd2 hq2;go_wp2_with (go_at_call 149;refine(it _ HRD2.out H3.out).mono ?_)
      rintro e w3 ⟨rfl,hrd3,hq3⟩;have HRD3:=ab hrd3;have hg3:=gG hg2 hq3;clear hrd3 hq3;go_wp2_with (go_at_call 149;refine(g8 _ HRD3.out H4.out eB).mono ?_)
      rintro e w4 ⟨rfl,hrd4,hq4⟩;have HRD4:=ab hrd4;have hg4:=gG hg3 hq4;clear hrd4 hq4;go_wp2_with (go_at_call 173;refine(nM _ HRD4.out H5.out).mono ?_)
      rintro e w5 hn5;obtain⟨v,rfl,hq5,r9,hrd9⟩:=hn5;have HRD9:=ab hrd9;clear hrd9;have hg5:=gG hg4 hq5;go_wp2
      go_ret3
      exact⟨hg5,by rw [←HR.out];exact⟨⟨_,_,rfl⟩,_,HRD9.out⟩⟩
     | some y =>
      obtain⟨hi,r3⟩:=y;have hhi:=rq _ _ _ h5;simp only [h5] at hR;have H5:=ab h5;clear h5;by_cases hle:lo≤hi
      ·rw [wU eu] at hR
       have hle':decide ((lo:Int)≤(hi:Int))=true:=by simp;omega
       cases h6:io [125] r3 with
       | none =>
        simp only [h6] at hR;have HR:=ab hR;have H6:=ab h6;clear hR h6;go_enter Tryz.func148,Tryz.ntmps148
        go_wp2_with (go_at_call 173;refine(HC.out).mono ?_)
        rintro e w1 ⟨rfl,hrd1,hg1⟩;have HRD1:=ab hrd1;clear hrd1;go_wp2_with (go_at_call 149;refine(g8 _ HRD1.out H2.out eB).mono ?_)
        rintro e w2 ⟨rfl,hrd2,hq2⟩;have HRD2:=ab hrd2;have hg2:=gG hg1 hq2;clear hrd2 hq2;go_wp2_with (go_at_call 149;refine(it _ HRD2.out H3.out).mono ?_)
        rintro e w3 ⟨rfl,hrd3,hq3⟩;have HRD3:=ab hrd3;have hg3:=gG hg2 hq3;clear hrd3 hq3;go_wp2_with (go_at_call 149;refine(g8 _ HRD3.out H4.out eB).mono ?_)
        rintro e w4 ⟨rfl,hrd4,hq4⟩;have HRD4:=ab hrd4;have hg4:=gG hg3 hq4;clear hrd4 hq4;go_wp2_with (go_at_call 173;refine(kH _ HRD4.out H5.out).mono ?_)
        rintro e w5 ⟨rfl,hrd5,hq5⟩;have HRD5:=ab hrd5;have hg5:=gG hg4 hq5;clear hrd5 hq5;go_wp2_with (go_at_call 149;refine(g8 _ HRD5.out H6.out eB).mono ?_)
        rintro e w6 ⟨rfl,hrd6,hq6⟩;have HRD6:=ab hrd6;have hg6:=gG hg5 hq6;clear hrd6 hq6;go_wp2
        go_ret3
        exact⟨hg6,by rw [←HR.out];exact⟨⟨_,_,rfl⟩,_,HRD6.out⟩⟩
       | some r4 =>
        simp only [h6] at hR;have HR:=ab hR;have H6:=ab h6;clear hR h6;go_enter Tryz.func148,Tryz.ntmps148
        go_wp2_with (go_at_call 173;refine(HC.out).mono ?_)
        rintro e w1 ⟨rfl,hrd1,hg1⟩;have HRD1:=ab hrd1;clear hrd1;go_wp2_with (go_at_call 149;refine(g8 _ HRD1.out H2.out eB).mono ?_)
        rintro e w2 ⟨rfl,hrd2,hq2⟩;have HRD2:=ab hrd2;have hg2:=gG hg1 hq2;clear hrd2 hq2;go_wp2_with (go_at_call 149;refine(it _ HRD2.out H3.out).mono ?_)
        rintro e w3 ⟨rfl,hrd3,hq3⟩;have HRD3:=ab hrd3;have hg3:=gG hg2 hq3;clear hrd3 hq3;go_wp2_with (go_at_call 149;refine(g8 _ HRD3.out H4.out eB).mono ?_)
        rintro e w4 ⟨rfl,hrd4,hq4⟩;have HRD4:=ab hrd4;have hg4:=gG hg3 hq4;clear hrd4 hq4;go_wp2_with (go_at_call 173;refine(kH _ HRD4.out H5.out).mono ?_)
        rintro e w5 ⟨rfl,hrd5,hq5⟩;have HRD5:=ab hrd5;have hg5:=gG hg4 hq5;clear hrd5 hq5;go_wp2_with (go_at_call 149;refine(it _ HRD5.out H6.out).mono ?_)
        rintro e w6 ⟨rfl,hrd6,hq6⟩;have HRD6:=ab hrd6;have hg6:=gG hg5 hq6;clear hrd6 hq6;go_wp2
        go_ret3
        exact⟨hg6,by rw [←HR.out];exact⟨rfl,HRD6.out⟩⟩
      ·rw [wX eu] at hR
       have hle':decide ((lo:Int)≤(hi:Int))=false:=by simp;omega
       have HR:=ab hR;clear hR;go_enter Tryz.func148,Tryz.ntmps148
       go_wp2_with (go_at_call 173;refine(HC.out).mono ?_)
       rintro e w1 ⟨rfl,hrd1,hg1⟩;have HRD1:=ab hrd1;clear hrd1;go_wp2_with (go_at_call 149;refine(g8 _ HRD1.out H2.out eB).mono ?_)
       rintro e w2 ⟨rfl,hrd2,hq2⟩;have HRD2:=ab hrd2;have hg2:=gG hg1 hq2;clear hrd2 hq2;go_wp2_with (go_at_call 149;refine(it _ HRD2.out H3.out).mono ?_)
       rintro e w3 ⟨rfl,hrd3,hq3⟩;have HRD3:=ab hrd3;have hg3:=gG hg2 hq3;clear hrd3 hq3;go_wp2_with (go_at_call 149;refine(g8 _ HRD3.out H4.out eB).mono ?_)
       rintro e w4 ⟨rfl,hrd4,hq4⟩;have HRD4:=ab hrd4;have hg4:=gG hg3 hq4;clear hrd4 hq4;go_wp2_with (go_at_call 173;refine(kH _ HRD4.out H5.out).mono ?_)
       rintro e w5 ⟨rfl,hrd5,hq5⟩;have HRD5:=ab hrd5;have hg5:=gG hg4 hq5;clear hrd5 hq5;go_wp2
       go_ret3
       exact⟨hg5,by rw [←HR.out];exact⟨⟨_,_,rfl⟩,_,HRD5.out⟩⟩
def rxv0:Value:=.agg #[.int .i64 0,.string ⟨#[]⟩,.bool false,.slice none 0 0,.int .i64 0,.int .i64 0,.bool false,.slice none 0 0]
def RdE (w:World) (g d:Nat):Prop:=∃r,Rd w g r d
def kN (g d B:Nat) (w:World) (res:Res) (e:Ending) (w':World):Prop:=w.grownBy w' (some g)∧match res with
 | .error q=>e=.returned (.tuple #[rxv0,.int .i64 q])∧RdE w' g d
 | .ok (x,r)=>∃cc:List Value,e=.returned (.tuple #[.agg cc.toArray,.int .i64 0])∧RxV w' (fun b=>B≤b) cc x∧Rd w' g r d
theorem Kept.grown {S:Nat→Prop} {g:Nat} {w w':World} (h:w.grownBy w' (some g)) (hS:∀b,S b→b≠g):Kept S w w' :=
 ⟨h.size,fun b hb hlt=>h.block b hlt (by first|exact hS b hb|exact fun e=>hS b hb (by injection e)|exact fun e=>hS b hb (by injection e with e;exact e.symm))⟩
theorem gJ {w0 w1:World} {g b:Nat} {o:Obj} (h:w0.heap[b]?=some o) (hg:w0.grownBy w1 (some g)) (hne:b≠g):w1.heap[b]?=some o :=
 (hg.block b (gI h) (by first|exact hne|exact fun e=>hne (by injection e)|exact fun e=>hne (by injection e with e;exact e.symm))).trans h
theorem RdT.setHi {T:TypeId} {x:List Value} {w:World} {g:Nat} {r:List Str} (h:RdT T x w g r) {a:Addr} (ha:g<a.block) (u:Value):RdT T x (w.setCell a u) g r:=by
 obtain⟨A,c,l,i,h1,h2,h3⟩:=h;exact⟨A,c,l,i,(heap_setCell_other w a g u (Nat.ne_of_lt ha)).trans h1,h2.keep (Kept.setLow u fun b hb=>by omega),h3⟩
theorem RdT.grownHi {T:TypeId} {x:List Value} {w w':World} {g:Nat} {r:List Str} (h:RdT T x w g r) {row:Option Nat} (hg:w.grownBy w' row) (hr:∀k,row=some k→g<k):RdT T x w' g r:=by
 have hb:∀b,b≤g→b<w.heap.size→w'.heap[b]?=w.heap[b]?:=fun b hb hlt=>hg.block b hlt (by
  first
  | (intro e;have:=hr b e;omega)
  | (intro e;have:=hr b e.symm;omega))
 obtain⟨A,c,l,i,h1,h2,h3⟩:=h;exact⟨A,c,l,i,(hb g (wY _) (gI h1)).trans h1,h2.keep ⟨hg.size,fun b h hlt=>hb b (Nat.le_of_lt h) hlt⟩,h3⟩
theorem gH {w w':World} (hb:Below w.heap.size w w') (row:Option Nat):w.grownBy w' row:=⟨hb.os,hb.tape,hb.output,hb.size,fun k hk _=>hb.block k hk⟩
theorem RdE.setHi {w:World} {g d:Nat} (h:RdE w g d) {a:Addr} (ha:g<a.block) (u:Value):RdE (w.setCell a u) g d:=by
 obtain⟨r,h⟩:=h;exact⟨r,h.setHi ha u⟩
theorem alloc4 (w:World) (a b c d:Array Value) (t:TypeId) {w0:World} (h:w0=(((w.alloc (.cells a t)).alloc (.cells b t)).alloc (.cells c t)).alloc (.cells d t)) :
  Below w.heap.size w w0∧w0.heap.size=w.heap.size+4∧w0.heap[w.heap.size]?=some (.cells a t (0,0))∧w0.heap[w.heap.size+1]?=some (.cells b t (0,0))∧w0.heap[w.heap.size+2]?=some (.cells c t (0,0))∧w0.heap[w.heap.size+3]?=some (.cells d t (0,0)):=by
 subst h;refine⟨((((Below.refl _ _).alloc (wY _) _).alloc eB _).alloc ey _).alloc ey _,by simp,?_,?_,?_,?_⟩
 ·rw [Below.heap_alloc _ _ _ ey,Below.heap_alloc _ _ _ ey,Below.heap_alloc _ _ _ eB];exact heap_alloc_new w _
 ·rw [Below.heap_alloc _ _ _ ey,Below.heap_alloc _ _ _ eB]
  have:=heap_alloc_new (w.alloc (.cells a t)) (.cells b t);simpa using this
 ·rw [Below.heap_alloc _ _ _ eB]
  have:=heap_alloc_new ((w.alloc (.cells a t)).alloc (.cells b t)) (.cells c t);simpa using this
 ·have:=heap_alloc_new (((w.alloc (.cells a t)).alloc (.cells b t)).alloc (.cells c t)) (.cells d t);simpa using this
theorem RxSl.one {w:World} {S:Nat→Prop} {b:Nat} {cc:List Value} {x:Rx} {t:TypeId} (h:RxV w S cc x) (hb:w.heap[b]?=some (.cells cc.toArray t (0,0))) (hS:S b):RxSl w S (some ⟨b,0,none⟩) 1 [x]:=by
 refine⟨[cc],⟨by simp [h.len],fun _=>⟨b,0,rfl,hS,gI hb,fun j u hu=>?_⟩⟩,.cons h .nil⟩;rw [xe hb];simpa using hu
def boxO (k:Int) (c:Str) (ng:Bool) (ra:Option Addr) (rn rc:Nat) (lo hi:Int) (lz:Bool) (ka:Option Addr) (kn kc:Nat):Obj:=.cells (rxc k c ng ra rn rc lo hi lz ka kn kc).toArray 25 (0,0)
theorem gO {w w':World} {row:Option Nat} {a:Addr} (h:w.grownBy w' row) (ha:w.heap.size≤a.block) (u:Value):w.grownBy (w'.setCell a u) row :=
 ⟨h.os,h.tape,h.output,by simp [World.setCell];exact h.size,fun k hk hne=>(heap_setCell_other w' a k u eu).trans (h.block k hk hne)⟩
theorem ns {w:World} {b:Nat} {a0 a1 a2 a3 a4 a5 a6 a7:Value} {t:TypeId} (h:w.heap[b]?=some (.cells #[a0,a1,a2,a3,a4,a5,a6,a7] t (0,0))) (u:Value):(w.setCell ⟨b,5,none⟩ u).heap[b]?=some (.cells #[a0,a1,a2,a3,a4,u,a6,a7] t (0,0)):=by
 rw [heap_setCell_same w _ _ _ _ _ h];rfl
theorem sH {w:World} {b:Nat} {a0 a1 a2 a3 a4 a5 a6 a7:Value} {t:TypeId} (h:w.heap[b]?=some (.cells #[a0,a1,a2,a3,a4,a5,a6,a7] t (0,0))) (u:Value):(w.setCell ⟨b,4,none⟩ u).heap[b]?=some (.cells #[a0,a1,a2,a3,u,a5,a6,a7] t (0,0)):=by
 rw [heap_setCell_same w _ _ _ _ _ h];rfl
theorem g7 {w:World} {b:Nat} {o:Obj} (h:w.heap[b]?=some o) {a:Addr} (ha:a.block≠b) (u:Value):(w.setCell a u).heap[b]?=some o:=(heap_setCell_other w a b u (fun e=>ha e.symm)).trans h
theorem oL {g d B:Nat} {r:List Str} {cc:List Value} {x:Rx} (w:World) (h:Rd w g r d) (hx:RxV w (fun b=>B≤b) cc x) (hB:B≤w.heap.size) (hgB:g<B) :
  Calls Tryz.prog 112 #[.pointer (some ⟨g,0,none⟩),.agg cc.toArray] w fun e w'=>kN g d B w (jG x r) e w':=by
 obtain⟨R,hR⟩:∃R,jG x r=R:=⟨_,rfl⟩;rw [hR];obtain⟨k,c,ng,rs,lo,hi,lz,ks⟩:=x;obtain⟨ra,rc,ka,kc,rfl,hrs,hks⟩:=hx.open_;obtain⟨w0,hw0⟩:∃w0,w0=(((w.alloc (.cells (rxc k c ng ra rs.length rc lo hi lz ka ks.length kc).toArray 25)).alloc (.cells #[.int .i64 0,.string ⟨#[]⟩,.bool false,.slice none 0 0,.int .i64 0,.int .i64 0,.bool false,.slice none 0 0] 25)).alloc (.cells (rxc k c ng ra rs.length rc lo hi lz ka ks.length kc).toArray 25)).alloc (.cells #[.int .i64 7,.string ⟨#[]⟩,.bool false,.slice none 0 0,.int .i64 0,.int .i64 0,.bool false,.slice (some ⟨w.heap.size+1+1,0,none⟩) 1 1] 25):=⟨_,rfl⟩;obtain⟨hb0,hz0,hbx0,hby0,hbs0,hbr0⟩:=alloc4 w _ _ _ _ _ hw0;have hxs:RxV w0 (fun b=>B≤b∧b≠w.heap.size+1∧b≠w.heap.size+3) (rxc k c ng ra rs.length rc lo hi lz ka ks.length kc) (.mk k c ng rs lo hi lz ks) :=
  (hx.mono (S':=fun b=>B≤b∧b≠w.heap.size+1∧b≠w.heap.size+3) fun b hb hlt=>⟨hb,by omega,by omega⟩).later hb0
 have HXS:=ab hxs;have HKS:=ab (RxSl.one hxs hbs0 ⟨by omega,by omega,by omega⟩);have HRD:=ab (h.later hb0);unfold rxc at hw0 hbx0;rw [hw0] at HRD;have HW0:=ab hw0;have HBX0:=ab hbx0;have HBY0:=ab hby0;have HBR0:=ab hbr0;have hgg:w.grownBy w0 (some g):=gH hb0 _;clear hw0 hbx0 hby0 hbs0 hbr0 hxs hx hrs hks h;have hgr:g<w.heap.size:=eu;unfold rxc;cases r with
 | nil =>
  have HR:=ab hR;clear hR;go_enter Tryz.func112,Tryz.ntmps112
  go_wp2_with (go_at_call 43;refine(iq _ HRD.out).mono ?_)
  rintro e w1 ⟨rfl,hst⟩;rw [←HW0.out] at hst;have hgw1:=gG hgg (hst.grown (some g));have hbl1:=hst.below w0.heap.size;have hby1:=(hbl1.block _ (gI HBY0.out)).trans HBY0.out;have hbr1:=(hbl1.block _ (gI HBR0.out)).trans HBR0.out;have hrd1:=hst.rd (HW0.out▸HRD.out:Rd w0 g _ d);have HKS1:=ab (HKS.out.later hbl1);clear hst;try rw [iB]
  have hbx1:=(hbl1.block _ (gI HBX0.out)).trans HBX0.out;obtain⟨f0,f1,f2,f3,f4,f5,f6,f7,f8⟩:=gK (c:=[]) hby1;obtain⟨e0,e1,e2,e3,e4,e5,e6,e7,e8⟩:=gK hbx1;have HRD1:=ab hrd1;clear hby1 hbr1 hbx1 hrd1;unfold hdS;exact aU
 | cons p r1 =>
  by_cases h42:p=[42]
  ·subst h42
   have HR:Hid (Except.ok (nl (.mk k c ng rs lo hi lz ks) 0 (-1) r1)=R):=ab hR;clear hR;go_enter Tryz.func112,Tryz.ntmps112
   go_wp2_with (go_at_call 43;refine(iq _ HRD.out).mono ?_)
   rintro e w1 ⟨rfl,hst⟩;rw [←HW0.out] at hst;have hgw1:=gG hgg (hst.grown (some g));have hbl1:=hst.below w0.heap.size;have hby1:=(hbl1.block _ (gI HBY0.out)).trans HBY0.out;have hbr1:=(hbl1.block _ (gI HBR0.out)).trans HBR0.out;have hrd1:=hst.rd (HW0.out▸HRD.out:Rd w0 g _ d);have HKS1:=ab (HKS.out.later hbl1);clear hst;try rw [iB]
   obtain⟨i,hi9,c1,hf,hr2⟩:=hrd1.step;obtain⟨e0,e1,e2,e3,e4,e5,e6,e7,e8⟩:=gK (c:=[]) hbr1;have e85:=e8 5 eu;clear e8;have HRD2:=ab (RdT.setHi (hr2) ex _:Rd ((w1.setCell ⟨g,1,none⟩ (.int .i64 ((i:Int)+1))).setCell ⟨w.heap.size+3,5,none⟩ (.int .i64 (-1))) g r1 d);have hgw2:w.grownBy ((w1.setCell ⟨g,1,none⟩ (.int .i64 ((i:Int)+1))).setCell ⟨w.heap.size+3,5,none⟩ (.int .i64 (-1))) (some g):=gO (gT hgw1 _ _) ex _;have hby2:((w1.setCell ⟨g,1,none⟩ (.int .i64 ((i:Int)+1))).setCell ⟨w.heap.size+3,5,none⟩ (.int .i64 (-1))).heap[w.heap.size+1]?=some (boxO 0 [] false none 0 0 0 0 false none 0 0):=g7 (g7 hby1 ex _) ex _;have hbr2:((w1.setCell ⟨g,1,none⟩ (.int .i64 ((i:Int)+1))).setCell ⟨w.heap.size+3,5,none⟩ (.int .i64 (-1))).heap[w.heap.size+3]?=some (boxO 7 [] false none 0 0 0 (-1) false (some ⟨w.heap.size+1+1,0,none⟩) 1 1):=ns (g7 hbr1 ex _) _;have hks2:RxSl ((w1.setCell ⟨g,1,none⟩ (.int .i64 ((i:Int)+1))).setCell ⟨w.heap.size+3,5,none⟩ (.int .i64 (-1))) (fun b=>B≤b∧b≠w.heap.size+1∧b≠w.heap.size+3) (some ⟨w.heap.size+2,0,none⟩) 1 [.mk k c ng rs lo hi lz ks]:=(HKS1.out.keep (Kept.setLow _ (fun b hb=>by have:B≤b∧b≠w.heap.size+1∧b≠w.heap.size+3:=hb;first|omega|(simp;done)|(simp;omega)))).keep (Kept.setLow _ (fun b hb=>by have:B≤b∧b≠w.heap.size+1∧b≠w.heap.size+3:=hb;first|omega|(simp;done)|(simp;omega)));have HKS2:=ab hks2;have HBY2:=ab hby2;have HBR2:=ab hbr2;clear hby2 hbr2 hks2;cases ht:io [63] r1 with
   | none =>
    have HT:=ab ht;have HRR:Hid (.ok (repR 0 (-1) false (.mk k c ng rs lo hi lz ks),r1)=R):=ab eR;clear ht;go_wp2_with (go_at_call 149;refine(g8 _ HRD2.out HT.out eB).mono ?_)
    rintro e w3 ⟨rfl,hrd3,hq3⟩;have hgw3:=gG hgw2 hq3;have hby3:=gJ HBY2.out hq3 eu;have hbr3:=gJ HBR2.out hq3 eu;have hks3:=HKS2.out.keep (Kept.grown hq3 fun b hb=>by have:B≤b∧b≠w.heap.size+1∧b≠w.heap.size+3:=hb;omega);have HKS3:=ab hks3;have HRD3:=ab hrd3;have HR:=HRR;obtain⟨f0,f1,f2,f3,f4,f5,f6,f7,f8⟩:=gK (c:=[]) hby3;obtain⟨e0,e1,e2,e3,e4,e5,e6,e7,e8⟩:=gK (c:=[]) hbr3;clear hby3 hbr3 hks3 hrd3 hq3;go_wp2
    refine xE (v:=.tuple #[.agg #[.int .i64 7,.string ⟨[].toArray⟩,.bool false,.slice none ([]:List Row).length 0,.int .i64 0,.int .i64 (-1),.bool false,.slice (some ⟨w.heap.size+1+1,0,none⟩) [Rx.mk k c ng rs lo hi lz ks].length 1],.int .i64 0]) eF rfl ?_;refine⟨?_,?_⟩
    ·exact bg
    rw [←HR.out];refine⟨rxc 7 [] false none ([]:List Row).length 0 0 (-1) false (some ⟨w.heap.size+1+1,0,none⟩) [Rx.mk k c ng rs lo hi lz ks].length 1,rfl,RxV.mono (S:=fun b=>B≤b∧b≠w.heap.size+1∧b≠w.heap.size+3) (fun b hb _=>hb.1) ?_,?_⟩
    ·exact aO
    ·exact bf
   | some r9 =>
    have HT:=ab ht;have HRR:Hid (.ok (repR 0 (-1) true (.mk k c ng rs lo hi lz ks),r9)=R):=ab eR;clear ht;go_wp2_with (go_at_call 149;refine(it _ HRD2.out HT.out).mono ?_)
    rintro e w3 ⟨rfl,hrd3,hq3⟩;have hgw3:=gG hgw2 hq3;have hby3:=gJ HBY2.out hq3 eu;have hbr3:=gJ HBR2.out hq3 eu;have hks3:=HKS2.out.keep (Kept.grown hq3 fun b hb=>by have:B≤b∧b≠w.heap.size+1∧b≠w.heap.size+3:=hb;omega);have HKS3:=ab hks3;have HRD3:=ab hrd3;have HR:=HRR;obtain⟨f0,f1,f2,f3,f4,f5,f6,f7,f8⟩:=gK (c:=[]) hby3;obtain⟨e0,e1,e2,e3,e4,e5,e6,e7,e8⟩:=gK (c:=[]) hbr3;clear hby3 hbr3 hks3 hrd3 hq3;go_wp2
    refine xE (v:=.tuple #[.agg #[.int .i64 7,.string ⟨[].toArray⟩,.bool false,.slice none ([]:List Row).length 0,.int .i64 0,.int .i64 (-1),.bool true,.slice (some ⟨w.heap.size+1+1,0,none⟩) [Rx.mk k c ng rs lo hi lz ks].length 1],.int .i64 0]) eF rfl ?_;refine⟨?_,?_⟩
    ·exact bg
    rw [←HR.out];refine⟨rxc 7 [] false none ([]:List Row).length 0 0 (-1) true (some ⟨w.heap.size+1+1,0,none⟩) [Rx.mk k c ng rs lo hi lz ks].length 1,rfl,RxV.mono (S:=fun b=>B≤b∧b≠w.heap.size+1∧b≠w.heap.size+3) (fun b hb _=>hb.1) ?_,?_⟩
    ·exact aO
    ·exact bf
  by_cases h43:p=[43]
  ·subst h43
   have HR:Hid (Except.ok (nl (.mk k c ng rs lo hi lz ks) 1 (-1) r1)=R):=ab hR;clear hR;go_enter Tryz.func112,Tryz.ntmps112
   go_wp2_with (go_at_call 43;refine(iq _ HRD.out).mono ?_)
   rintro e w1 ⟨rfl,hst⟩;rw [←HW0.out] at hst;have hgw1:=gG hgg (hst.grown (some g));have hbl1:=hst.below w0.heap.size;have hby1:=(hbl1.block _ (gI HBY0.out)).trans HBY0.out;have hbr1:=(hbl1.block _ (gI HBR0.out)).trans HBR0.out;have hrd1:=hst.rd (HW0.out▸HRD.out:Rd w0 g _ d);have HKS1:=ab (HKS.out.later hbl1);clear hst;try rw [iB]
   obtain⟨i,hi9,c1,hf,hr2⟩:=hrd1.step;obtain⟨e0,e1,e2,e3,e4,e5,e6,e7,e8⟩:=gK (c:=[]) hbr1;have e84:=e8 4 eu;have e85:=e8 5 eu;clear e8;have HRD2:=ab (RdT.setHi (RdT.setHi (hr2) ex _) ex _:Rd (((w1.setCell ⟨g,1,none⟩ (.int .i64 ((i:Int)+1))).setCell ⟨w.heap.size+3,4,none⟩ (.int .i64 1)).setCell ⟨w.heap.size+3,5,none⟩ (.int .i64 (-1))) g r1 d);have hgw2:w.grownBy (((w1.setCell ⟨g,1,none⟩ (.int .i64 ((i:Int)+1))).setCell ⟨w.heap.size+3,4,none⟩ (.int .i64 1)).setCell ⟨w.heap.size+3,5,none⟩ (.int .i64 (-1))) (some g):=gO (gO (gT hgw1 _ _) ex _) ex _;have hby2:(((w1.setCell ⟨g,1,none⟩ (.int .i64 ((i:Int)+1))).setCell ⟨w.heap.size+3,4,none⟩ (.int .i64 1)).setCell ⟨w.heap.size+3,5,none⟩ (.int .i64 (-1))).heap[w.heap.size+1]?=some (boxO 0 [] false none 0 0 0 0 false none 0 0):=g7 (g7 (g7 hby1 ex _) ex _) ex _;have hbr2:(((w1.setCell ⟨g,1,none⟩ (.int .i64 ((i:Int)+1))).setCell ⟨w.heap.size+3,4,none⟩ (.int .i64 1)).setCell ⟨w.heap.size+3,5,none⟩ (.int .i64 (-1))).heap[w.heap.size+3]?=some (boxO 7 [] false none 0 0 1 (-1) false (some ⟨w.heap.size+1+1,0,none⟩) 1 1):=ns (sH (g7 hbr1 ex _) _) _;have hks2:RxSl (((w1.setCell ⟨g,1,none⟩ (.int .i64 ((i:Int)+1))).setCell ⟨w.heap.size+3,4,none⟩ (.int .i64 1)).setCell ⟨w.heap.size+3,5,none⟩ (.int .i64 (-1))) (fun b=>B≤b∧b≠w.heap.size+1∧b≠w.heap.size+3) (some ⟨w.heap.size+2,0,none⟩) 1 [.mk k c ng rs lo hi lz ks]:=((HKS1.out.keep (Kept.setLow _ (fun b hb=>by have:B≤b∧b≠w.heap.size+1∧b≠w.heap.size+3:=hb;first|omega|(simp;done)|(simp;omega)))).keep (Kept.setLow _ (fun b hb=>by have:B≤b∧b≠w.heap.size+1∧b≠w.heap.size+3:=hb;first|omega|(simp;done)|(simp;omega)))).keep (Kept.setLow _ (fun b hb=>by have:B≤b∧b≠w.heap.size+1∧b≠w.heap.size+3:=hb;first|omega|(simp;done)|(simp;omega)));have HKS2:=ab hks2;have HBY2:=ab hby2;have HBR2:=ab hbr2;clear hby2 hbr2 hks2;cases ht:io [63] r1 with
   | none =>
    have HT:=ab ht;have HRR:Hid (.ok (repR 1 (-1) false (.mk k c ng rs lo hi lz ks),r1)=R):=ab eR;clear ht;go_wp2_with (go_at_call 149;refine(g8 _ HRD2.out HT.out eB).mono ?_)
    rintro e w3 ⟨rfl,hrd3,hq3⟩;have hgw3:=gG hgw2 hq3;have hby3:=gJ HBY2.out hq3 eu;have hbr3:=gJ HBR2.out hq3 eu;have hks3:=HKS2.out.keep (Kept.grown hq3 fun b hb=>by have:B≤b∧b≠w.heap.size+1∧b≠w.heap.size+3:=hb;omega);have HKS3:=ab hks3;have HRD3:=ab hrd3;have HR:=HRR;obtain⟨f0,f1,f2,f3,f4,f5,f6,f7,f8⟩:=gK (c:=[]) hby3;obtain⟨e0,e1,e2,e3,e4,e5,e6,e7,e8⟩:=gK (c:=[]) hbr3;clear hby3 hbr3 hks3 hrd3 hq3;go_wp2
    refine xE (v:=.tuple #[.agg #[.int .i64 7,.string ⟨[].toArray⟩,.bool false,.slice none ([]:List Row).length 0,.int .i64 1,.int .i64 (-1),.bool false,.slice (some ⟨w.heap.size+1+1,0,none⟩) [Rx.mk k c ng rs lo hi lz ks].length 1],.int .i64 0]) eF rfl ?_;refine⟨?_,?_⟩
    ·exact bg
    rw [←HR.out];refine⟨rxc 7 [] false none ([]:List Row).length 0 1 (-1) false (some ⟨w.heap.size+1+1,0,none⟩) [Rx.mk k c ng rs lo hi lz ks].length 1,rfl,RxV.mono (S:=fun b=>B≤b∧b≠w.heap.size+1∧b≠w.heap.size+3) (fun b hb _=>hb.1) ?_,?_⟩
    ·exact aO
    ·exact bf
   | some r9 =>
    have HT:=ab ht;have HRR:Hid (.ok (repR 1 (-1) true (.mk k c ng rs lo hi lz ks),r9)=R):=ab eR;clear ht;go_wp2_with (go_at_call 149;refine(it _ HRD2.out HT.out).mono ?_)
    rintro e w3 ⟨rfl,hrd3,hq3⟩;have hgw3:=gG hgw2 hq3;have hby3:=gJ HBY2.out hq3 eu;have hbr3:=gJ HBR2.out hq3 eu;have hks3:=HKS2.out.keep (Kept.grown hq3 fun b hb=>by have:B≤b∧b≠w.heap.size+1∧b≠w.heap.size+3:=hb;omega);have HKS3:=ab hks3;have HRD3:=ab hrd3;have HR:=HRR;obtain⟨f0,f1,f2,f3,f4,f5,f6,f7,f8⟩:=gK (c:=[]) hby3;obtain⟨e0,e1,e2,e3,e4,e5,e6,e7,e8⟩:=gK (c:=[]) hbr3;clear hby3 hbr3 hks3 hrd3 hq3;go_wp2
    refine xE (v:=.tuple #[.agg #[.int .i64 7,.string ⟨[].toArray⟩,.bool false,.slice none ([]:List Row).length 0,.int .i64 1,.int .i64 (-1),.bool true,.slice (some ⟨w.heap.size+1+1,0,none⟩) [Rx.mk k c ng rs lo hi lz ks].length 1],.int .i64 0]) eF rfl ?_;refine⟨?_,?_⟩
    ·exact bg
    rw [←HR.out];refine⟨rxc 7 [] false none ([]:List Row).length 0 1 (-1) true (some ⟨w.heap.size+1+1,0,none⟩) [Rx.mk k c ng rs lo hi lz ks].length 1,rfl,RxV.mono (S:=fun b=>B≤b∧b≠w.heap.size+1∧b≠w.heap.size+3) (fun b hb _=>hb.1) ?_,?_⟩
    ·exact aO
    ·exact bf
  by_cases h63:p=[63]
  ·subst h63
   have HR:Hid (Except.ok (nl (.mk k c ng rs lo hi lz ks) 0 1 r1)=R):=ab hR;clear hR;go_enter Tryz.func112,Tryz.ntmps112
   go_wp2_with (go_at_call 43;refine(iq _ HRD.out).mono ?_)
   rintro e w1 ⟨rfl,hst⟩;rw [←HW0.out] at hst;have hgw1:=gG hgg (hst.grown (some g));have hbl1:=hst.below w0.heap.size;have hby1:=(hbl1.block _ (gI HBY0.out)).trans HBY0.out;have hbr1:=(hbl1.block _ (gI HBR0.out)).trans HBR0.out;have hrd1:=hst.rd (HW0.out▸HRD.out:Rd w0 g _ d);have HKS1:=ab (HKS.out.later hbl1);clear hst;try rw [iB]
   obtain⟨i,hi9,c1,hf,hr2⟩:=hrd1.step;obtain⟨e0,e1,e2,e3,e4,e5,e6,e7,e8⟩:=gK (c:=[]) hbr1;have e85:=e8 5 eu;clear e8;have HRD2:=ab (RdT.setHi (hr2) ex _:Rd ((w1.setCell ⟨g,1,none⟩ (.int .i64 ((i:Int)+1))).setCell ⟨w.heap.size+3,5,none⟩ (.int .i64 1)) g r1 d);have hgw2:w.grownBy ((w1.setCell ⟨g,1,none⟩ (.int .i64 ((i:Int)+1))).setCell ⟨w.heap.size+3,5,none⟩ (.int .i64 1)) (some g):=gO (gT hgw1 _ _) ex _;have hby2:((w1.setCell ⟨g,1,none⟩ (.int .i64 ((i:Int)+1))).setCell ⟨w.heap.size+3,5,none⟩ (.int .i64 1)).heap[w.heap.size+1]?=some (boxO 0 [] false none 0 0 0 0 false none 0 0):=g7 (g7 hby1 ex _) ex _;have hbr2:((w1.setCell ⟨g,1,none⟩ (.int .i64 ((i:Int)+1))).setCell ⟨w.heap.size+3,5,none⟩ (.int .i64 1)).heap[w.heap.size+3]?=some (boxO 7 [] false none 0 0 0 1 false (some ⟨w.heap.size+1+1,0,none⟩) 1 1):=ns (g7 hbr1 ex _) _;have hks2:RxSl ((w1.setCell ⟨g,1,none⟩ (.int .i64 ((i:Int)+1))).setCell ⟨w.heap.size+3,5,none⟩ (.int .i64 1)) (fun b=>B≤b∧b≠w.heap.size+1∧b≠w.heap.size+3) (some ⟨w.heap.size+2,0,none⟩) 1 [.mk k c ng rs lo hi lz ks]:=(HKS1.out.keep (Kept.setLow _ (fun b hb=>by have:B≤b∧b≠w.heap.size+1∧b≠w.heap.size+3:=hb;first|omega|(simp;done)|(simp;omega)))).keep (Kept.setLow _ (fun b hb=>by have:B≤b∧b≠w.heap.size+1∧b≠w.heap.size+3:=hb;first|omega|(simp;done)|(simp;omega)));have HKS2:=ab hks2;have HBY2:=ab hby2;have HBR2:=ab hbr2;clear hby2 hbr2 hks2;cases ht:io [63] r1 with
   | none =>
    have HT:=ab ht;have HRR:Hid (.ok (repR 0 1 false (.mk k c ng rs lo hi lz ks),r1)=R):=ab eR;clear ht;go_wp2_with (go_at_call 149;refine(g8 _ HRD2.out HT.out eB).mono ?_)
    rintro e w3 ⟨rfl,hrd3,hq3⟩;have hgw3:=gG hgw2 hq3;have hby3:=gJ HBY2.out hq3 eu;have hbr3:=gJ HBR2.out hq3 eu;have hks3:=HKS2.out.keep (Kept.grown hq3 fun b hb=>by have:B≤b∧b≠w.heap.size+1∧b≠w.heap.size+3:=hb;omega);have HKS3:=ab hks3;have HRD3:=ab hrd3;have HR:=HRR;obtain⟨f0,f1,f2,f3,f4,f5,f6,f7,f8⟩:=gK (c:=[]) hby3;obtain⟨e0,e1,e2,e3,e4,e5,e6,e7,e8⟩:=gK (c:=[]) hbr3;clear hby3 hbr3 hks3 hrd3 hq3;go_wp2
    refine xE (v:=.tuple #[.agg #[.int .i64 7,.string ⟨[].toArray⟩,.bool false,.slice none ([]:List Row).length 0,.int .i64 0,.int .i64 1,.bool false,.slice (some ⟨w.heap.size+1+1,0,none⟩) [Rx.mk k c ng rs lo hi lz ks].length 1],.int .i64 0]) eF rfl ?_;refine⟨?_,?_⟩
    ·exact bg
    rw [←HR.out];refine⟨rxc 7 [] false none ([]:List Row).length 0 0 1 false (some ⟨w.heap.size+1+1,0,none⟩) [Rx.mk k c ng rs lo hi lz ks].length 1,rfl,RxV.mono (S:=fun b=>B≤b∧b≠w.heap.size+1∧b≠w.heap.size+3) (fun b hb _=>hb.1) ?_,?_⟩
    ·exact aO
    ·exact bf
   | some r9 =>
    have HT:=ab ht;have HRR:Hid (.ok (repR 0 1 true (.mk k c ng rs lo hi lz ks),r9)=R):=ab eR;clear ht;go_wp2_with (go_at_call 149;refine(it _ HRD2.out HT.out).mono ?_)
    rintro e w3 ⟨rfl,hrd3,hq3⟩;have hgw3:=gG hgw2 hq3;have hby3:=gJ HBY2.out hq3 eu;have hbr3:=gJ HBR2.out hq3 eu;have hks3:=HKS2.out.keep (Kept.grown hq3 fun b hb=>by have:B≤b∧b≠w.heap.size+1∧b≠w.heap.size+3:=hb;omega);have HKS3:=ab hks3;have HRD3:=ab hrd3;have HR:=HRR;obtain⟨f0,f1,f2,f3,f4,f5,f6,f7,f8⟩:=gK (c:=[]) hby3;obtain⟨e0,e1,e2,e3,e4,e5,e6,e7,e8⟩:=gK (c:=[]) hbr3;clear hby3 hbr3 hks3 hrd3 hq3;go_wp2
    refine xE (v:=.tuple #[.agg #[.int .i64 7,.string ⟨[].toArray⟩,.bool false,.slice none ([]:List Row).length 0,.int .i64 0,.int .i64 1,.bool true,.slice (some ⟨w.heap.size+1+1,0,none⟩) [Rx.mk k c ng rs lo hi lz ks].length 1],.int .i64 0]) eF rfl ?_;refine⟨?_,?_⟩
    ·exact bg
    rw [←HR.out];refine⟨rxc 7 [] false none ([]:List Row).length 0 0 1 true (some ⟨w.heap.size+1+1,0,none⟩) [Rx.mk k c ng rs lo hi lz ks].length 1,rfl,RxV.mono (S:=fun b=>B≤b∧b≠w.heap.size+1∧b≠w.heap.size+3) (fun b hb _=>hb.1) ?_,?_⟩
    ·exact aO
    ·exact bf
  by_cases h123:p=[123]
  ·subst h123
   cases hbd:kA r1 with
   | none =>
    have HR:Hid (Except.error 10=R):=ab (by rw [←hR];simp [jG,hbd]);clear hR;go_enter Tryz.func112,Tryz.ntmps112
    go_wp2_with (go_at_call 43;refine(iq _ HRD.out).mono ?_)
    rintro e w1 ⟨rfl,hst⟩;rw [←HW0.out] at hst;have hgw1:=gG hgg (hst.grown (some g));have hbl1:=hst.below w0.heap.size;have hby1:=(hbl1.block _ (gI HBY0.out)).trans HBY0.out;have hbr1:=(hbl1.block _ (gI HBR0.out)).trans HBR0.out;have hrd1:=hst.rd (HW0.out▸HRD.out:Rd w0 g _ d);have HKS1:=ab (HKS.out.later hbl1);clear hst;try rw [iB]
    obtain⟨i,hi9,c1,hf,hr2⟩:=hrd1.step;obtain⟨e0,e1,e2,e3,e4,e5,e6,e7,e8⟩:=gK (c:=[]) hbr1;have HRD2:=ab hr2;have HBD:=ab hbd;have hgw2:=gT hgw1 1 (.int .i64 ((i:Int)+1));clear hrd1 hr2 hbd;go_wp2_with (go_at_call 148;refine(oS _ HRD2.out).mono ?_)
    rintro e w3 hq;have hq3:=hq.1;have hq4:=hq.2;rw [HBD.out] at hq4;obtain⟨⟨v1,v2,rfl⟩,r9,hrd9⟩:=hq4;have HRD9:=ab hrd9;clear hrd9;have hgw3:=gG hgw2 hq3;have hby3:=gJ (g7 hby1 (a:=⟨g,1,none⟩) fw _) hq3 eu;have hbr3:=gJ (g7 hbr1 (a:=⟨g,1,none⟩) fw _) hq3 eu;clear hq hq3 hbr1 hby1 e0 e1 e2 e3 e4 e5 e6 e7 e8;obtain⟨f0,f1,f2,f3,f4,f5,f6,f7,f8⟩:=gK (c:=[]) hby3;obtain⟨e0,e1,e2,e3,e4,e5,e6,e7,e8⟩:=gK (c:=[]) hbr3;clear hby3 hbr3;go_wp2
    refine xE (v:=.tuple #[.agg #[.int .i64 0,.string ⟨[].toArray⟩,.bool false,.slice none 0 0,.int .i64 0,.int .i64 0,.bool false,.slice none 0 0],.int .i64 10]) eF rfl ?_;refine⟨?_,?_⟩
    ·iterate 10 (refine gO ?_ ex _)
     exact hgw3
    ·rw [←HR.out]
     refine⟨rfl,?_⟩;iterate 10 (refine RdE.setHi ?_ ex _)
     exact⟨_,HRD9.out⟩
   | some y =>
    obtain⟨lo2,hi2,r5⟩:=y;have HR:Hid (Except.ok (nl (.mk k c ng rs lo hi lz ks) lo2 hi2 r5)=R):=ab (by rw [←hR];simp [jG,hbd]);clear hR;go_enter Tryz.func112,Tryz.ntmps112
    go_wp2_with (go_at_call 43;refine(iq _ HRD.out).mono ?_)
    rintro e w1 ⟨rfl,hst⟩;rw [←HW0.out] at hst;have hgw1:=gG hgg (hst.grown (some g));have hbl1:=hst.below w0.heap.size;have hby1:=(hbl1.block _ (gI HBY0.out)).trans HBY0.out;have hbr1:=(hbl1.block _ (gI HBR0.out)).trans HBR0.out;have hrd1:=hst.rd (HW0.out▸HRD.out:Rd w0 g _ d);have HKS1:=ab (HKS.out.later hbl1);clear hst;try rw [iB]
    obtain⟨i,hi9,c1,hf,hr2⟩:=hrd1.step;obtain⟨e0,e1,e2,e3,e4,e5,e6,e7,e8⟩:=gK (c:=[]) hbr1;have HRD2:=ab hr2;have HBD:=ab hbd;have hgw2:=gT hgw1 1 (.int .i64 ((i:Int)+1));clear hrd1 hr2 hbd;go_wp2_with (go_at_call 148;refine(oS _ HRD2.out).mono ?_)
    rintro e w3 hq;have hq3:=hq.1;have hq4:=hq.2;rw [HBD.out] at hq4;obtain⟨rfl,hrd3⟩:=hq4;have hgw3:=gG hgw2 hq3;have hby3:=gJ (g7 hby1 (a:=⟨g,1,none⟩) fw _) hq3 eu;have hbr3:=gJ (g7 hbr1 (a:=⟨g,1,none⟩) fw _) hq3 eu;have hks3:=(HKS1.out.keep (Kept.setLow (a:=⟨g,1,none⟩) (.int .i64 ((i:Int)+1)) (fun b hb=>by have:B≤b∧b≠w.heap.size+1∧b≠w.heap.size+3:=hb;first|omega|(simp;done)|(simp;omega)))).keep (Kept.grown hq3 fun b hb=>by have:B≤b∧b≠w.heap.size+1∧b≠w.heap.size+3:=hb;omega);have HKS3:=ab hks3;have HRD3:=ab hrd3;clear hq hq3 hbr1 hby1 e0 e1 e2 e3 e4 e5 e6 e7 e8 hks3 hrd3 HRD2 hgw2;obtain⟨e0,e1,e2,e3,e4,e5,e6,e7,e8⟩:=gK (c:=[]) hbr3;have e84:=e8 4 eu;have e85:=e8 5 eu;clear e8;have HRD2:=ab (RdT.setHi (RdT.setHi HRD3.out ex _) ex _:Rd ((w3.setCell ⟨w.heap.size+3,4,none⟩ (.int .i64 lo2)).setCell ⟨w.heap.size+3,5,none⟩ (.int .i64 hi2)) g r5 d);have hgw2:w.grownBy ((w3.setCell ⟨w.heap.size+3,4,none⟩ (.int .i64 lo2)).setCell ⟨w.heap.size+3,5,none⟩ (.int .i64 hi2)) (some g):=gO (gO hgw3 ex _) ex _;have hby2:((w3.setCell ⟨w.heap.size+3,4,none⟩ (.int .i64 lo2)).setCell ⟨w.heap.size+3,5,none⟩ (.int .i64 hi2)).heap[w.heap.size+1]?=some (boxO 0 [] false none 0 0 0 0 false none 0 0):=g7 (g7 hby3 ex _) ex _;have hbr2:((w3.setCell ⟨w.heap.size+3,4,none⟩ (.int .i64 lo2)).setCell ⟨w.heap.size+3,5,none⟩ (.int .i64 hi2)).heap[w.heap.size+3]?=some (boxO 7 [] false none 0 0 lo2 hi2 false (some ⟨w.heap.size+1+1,0,none⟩) 1 1):=ns (sH hbr3 _) _;have hks2:RxSl ((w3.setCell ⟨w.heap.size+3,4,none⟩ (.int .i64 lo2)).setCell ⟨w.heap.size+3,5,none⟩ (.int .i64 hi2)) (fun b=>B≤b∧b≠w.heap.size+1∧b≠w.heap.size+3) (some ⟨w.heap.size+2,0,none⟩) 1 [.mk k c ng rs lo hi lz ks]:=(HKS3.out.keep (Kept.setLow _ (fun b hb=>by have:B≤b∧b≠w.heap.size+1∧b≠w.heap.size+3:=hb;first|omega|(simp;done)|(simp;omega)))).keep (Kept.setLow _ (fun b hb=>by have:B≤b∧b≠w.heap.size+1∧b≠w.heap.size+3:=hb;first|omega|(simp;done)|(simp;omega)));have HKS2:=ab hks2;have HBY2:=ab hby2;have HBR2:=ab hbr2;clear hby2 hbr2 hks2;cases ht:io [63] r5 with
    | none =>
     have HT:=ab ht;have HRR:Hid (.ok (repR lo2 hi2 false (.mk k c ng rs lo hi lz ks),r5)=R):=ab eR;clear ht;go_wp2_with (go_at_call 149;refine(g8 _ HRD2.out HT.out eB).mono ?_)
     rintro e w3 ⟨rfl,hrd3,hq3⟩;have hgw3:=gG hgw2 hq3;have hby3:=gJ HBY2.out hq3 eu;have hbr3:=gJ HBR2.out hq3 eu;have hks3:=HKS2.out.keep (Kept.grown hq3 fun b hb=>by have:B≤b∧b≠w.heap.size+1∧b≠w.heap.size+3:=hb;omega);have HKS3:=ab hks3;have HRD3:=ab hrd3;have HR:=HRR;obtain⟨f0,f1,f2,f3,f4,f5,f6,f7,f8⟩:=gK (c:=[]) hby3;obtain⟨e0,e1,e2,e3,e4,e5,e6,e7,e8⟩:=gK (c:=[]) hbr3;clear hby3 hbr3 hks3 hrd3 hq3;go_wp2
     refine xE (v:=.tuple #[.agg #[.int .i64 7,.string ⟨[].toArray⟩,.bool false,.slice none ([]:List Row).length 0,.int .i64 lo2,.int .i64 hi2,.bool false,.slice (some ⟨w.heap.size+1+1,0,none⟩) [Rx.mk k c ng rs lo hi lz ks].length 1],.int .i64 0]) eF rfl ?_;refine⟨?_,?_⟩
     ·exact bg
     rw [←HR.out];refine⟨rxc 7 [] false none ([]:List Row).length 0 lo2 hi2 false (some ⟨w.heap.size+1+1,0,none⟩) [Rx.mk k c ng rs lo hi lz ks].length 1,rfl,RxV.mono (S:=fun b=>B≤b∧b≠w.heap.size+1∧b≠w.heap.size+3) (fun b hb _=>hb.1) ?_,?_⟩
     ·exact aO
     ·exact bf
    | some r9 =>
     have HT:=ab ht;have HRR:Hid (.ok (repR lo2 hi2 true (.mk k c ng rs lo hi lz ks),r9)=R):=ab eR;clear ht;go_wp2_with (go_at_call 149;refine(it _ HRD2.out HT.out).mono ?_)
     rintro e w3 ⟨rfl,hrd3,hq3⟩;have hgw3:=gG hgw2 hq3;have hby3:=gJ HBY2.out hq3 eu;have hbr3:=gJ HBR2.out hq3 eu;have hks3:=HKS2.out.keep (Kept.grown hq3 fun b hb=>by have:B≤b∧b≠w.heap.size+1∧b≠w.heap.size+3:=hb;omega);have HKS3:=ab hks3;have HRD3:=ab hrd3;have HR:=HRR;obtain⟨f0,f1,f2,f3,f4,f5,f6,f7,f8⟩:=gK (c:=[]) hby3;obtain⟨e0,e1,e2,e3,e4,e5,e6,e7,e8⟩:=gK (c:=[]) hbr3;clear hby3 hbr3 hks3 hrd3 hq3;go_wp2
     refine xE (v:=.tuple #[.agg #[.int .i64 7,.string ⟨[].toArray⟩,.bool false,.slice none ([]:List Row).length 0,.int .i64 lo2,.int .i64 hi2,.bool true,.slice (some ⟨w.heap.size+1+1,0,none⟩) [Rx.mk k c ng rs lo hi lz ks].length 1],.int .i64 0]) eF rfl ?_;refine⟨?_,?_⟩
     ·exact bg
     rw [←HR.out];refine⟨rxc 7 [] false none ([]:List Row).length 0 lo2 hi2 true (some ⟨w.heap.size+1+1,0,none⟩) [Rx.mk k c ng rs lo hi lz ks].length 1,rfl,RxV.mono (S:=fun b=>B≤b∧b≠w.heap.size+1∧b≠w.heap.size+3) (fun b hb _=>hb.1) ?_,?_⟩
     ·exact aO
     ·exact bf
  have g42:(p==[42])=false:=xH.2 h42;have g43:(p==[43])=false:=xH.2 h43;have g63:(p==[63])=false:=xH.2 h63;have g123:(p==[123])=false:=xH.2 h123;have HR:Hid (Except.ok ((.mk k c ng rs lo hi lz ks),p::r1)=R):=ab (by rw [←hR];simp [jG,h42,h43,h63,h123]);clear hR h42 h43 h63 h123;go_enter Tryz.func112,Tryz.ntmps112
  go_wp2_with (go_at_call 43;refine(iq _ HRD.out).mono ?_)
  rintro e w1 ⟨rfl,hst⟩;rw [←HW0.out] at hst;have hgw1:=gG hgg (hst.grown (some g));have hbl1:=hst.below w0.heap.size;have hby1:=(hbl1.block _ (gI HBY0.out)).trans HBY0.out;have hbr1:=(hbl1.block _ (gI HBR0.out)).trans HBR0.out;have hrd1:=hst.rd (HW0.out▸HRD.out:Rd w0 g _ d);have HKS1:=ab (HKS.out.later hbl1);clear hst;try rw [iB]
  have hbx1:=(hbl1.block _ (gI HBX0.out)).trans HBX0.out;obtain⟨f0,f1,f2,f3,f4,f5,f6,f7,f8⟩:=gK (c:=[]) hby1;obtain⟨e0,e1,e2,e3,e4,e5,e6,e7,e8⟩:=gK hbx1;have HRD1:=ab hrd1;clear hby1 hbr1 hbx1 hrd1;exact aU
end Go.Proofs.YtbnkaecmgfolpaaGreat
