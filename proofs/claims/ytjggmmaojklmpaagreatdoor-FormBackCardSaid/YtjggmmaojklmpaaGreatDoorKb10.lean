/- walks of slices.stableCmpFunc, SortStableFunc -/
import Derived.Test.YtjggmmaojklmpaaGreatDoorKb9
import Derived.Test.YtjggmmaojklmpaaGreatDoorKb8
set_option maxRecDepth 100000
set_option maxHeartbeats 4000000
namespace Go.Proofs.YtjggmmaojklmpaaGreatDoor
open Go.RowKit
theorem qH {B g cap N:Nat} {rs:List Row} {a b:Nat} {az bz:Int} (w:World) (h1:az=a) (h2:bz=b) (h:RO w B g cap rs) (hN:rs.length=N) (hbn:b≤N) (hl:N≤1000000) (haN:a≤N) :
  Calls Tryz.prog 172 #[.slice (some ⟨g,0,none⟩) N cap,.int .i64 az,.int .i64 bz,.func (.func 159) #[] #[]] w fun e w'=>e=.returned (.tuple #[])∧RO w' B g cap (my a (b-(a+1)) (a+1) rs)∧w.grownBy w' (some g):=by
 subst h1 h2;exact ur B g cap N rs a b w h hN hbn hl haN
def SaRel (B g cap N:Nat) (R:List Row) (w:World) (p q:Value) (wr:World):Prop :=
 ∃(a k:Nat) (rs:List Row),p=.int .i64 a∧q=.int .i64 ((a:Int)+20)∧a≤N∧N<a+k∧RO wr B g cap rs∧w.grownBy wr (some g)∧rs.length=N∧Hid (stA k rs a N=R)
def SbRel (B g cap N s:Nat) (R:List Row) (w:World) (p q:Value) (wr:World):Prop :=
 ∃(a k:Nat) (rs:List Row),p=.int .i64 a∧q=.int .i64 ((a:Int)+2*s)∧a≤N∧N<a+k∧RO wr B g cap rs∧w.grownBy wr (some g)∧rs.length=N∧Hid (stB k rs a s N=R)
def ScRel (B g cap N:Nat) (R:List Row) (w:World) (q:Value) (wr:World):Prop :=
 ∃(s k:Nat) (rs:List Row),q=.int .i64 s∧20≤s∧s≤2000000∧N<s+k∧RO wr B g cap rs∧w.grownBy wr (some g)∧rs.length=N∧Hid (stC k rs s N=R)
theorem A3 (B g cap N:Nat) (rs:List Row) (w:World) (h:RO w B g cap rs) (hN:rs.length=N) (hl:N≤1000000) :
  Calls Tryz.prog 168 #[.slice (some ⟨g,0,none⟩) N cap,.int .i64 N,.func (.func 159) #[] #[]] w fun e w'=>e=.returned (.tuple #[])∧RO w' B g cap (stL rs)∧w.grownBy w' (some g):=by
 unfold stL;rw [hN];obtain⟨R1,hR1⟩:∃R1,stA (N+1) rs 0 N=R1:=⟨_,rfl⟩;have hl1:R1.length=N:=by rw [←hR1,xD];exact hN
 rw [hR1];obtain⟨R,hR⟩:∃R,stC (N+1) R1 20 N=R:=⟨_,rfl⟩;rw [hR];have HR1:=ab hR1;have HR:=ab hR;have HRO:=ab h;clear hR1 hR h;go_enter Tryz.func168,Tryz.ntmps168
 go_wp2
 go_loopw [7,8] (fun p q wr=>SaRel B g cap N R1 w p q wr) (fun p _ _=>N-(intOf p).toNat)
 case atStart=>exact⟨0,N+1,rs,rfl,rfl,by omega,by omega,HRO.out,km _ _,hN,HR1⟩
 case round =>
  obtain⟨a,k,l,rfl,rfl,haN,hk,hro,hg,hlN,HF⟩:=hrel;clear HR1 HRO hN;obtain⟨k,rfl⟩:∃k',k=k'+1:=⟨k-1,by omega⟩;by_cases hc:a+20≤N
  ·have HE:Hid (stA k (my a (a+20-(a+1)) (a+1) l) (a+20) N=R1):=ab (by rw [←HF.out];simp only [stA];rw [Dr hc])
   have HC:=ab (qH (a:=a) (b:=a+20) (az:=(a:Int)) (bz:=(a:Int)+20) wr rfl fR hro hlN hc hl haN);clear HF hro;go_wp2_with (go_at_call 172;refine HC.out.mono ?_;rintro e w1 ⟨rfl,hr1,hg1⟩)
   go_roundw
   case rel=>exact⟨a+20,k,_,by go_num,by go_num,hc,by omega,hr1,jy hg hg1,by rw [oP];exact hlN,HE⟩
   case measure=>simp [intOf];omega
  ·have HE:Hid (my a (N-(a+1)) (a+1) l=R1):=ab (by rw [←HF.out];simp only [stA];rw [Du hc])
   have HC:=ab (qH (a:=a) (b:=N) (az:=(a:Int)) (bz:=(N:Int)) wr rfl rfl hro hlN (Dv _) hl haN);clear HF hro;go_wp2_with (go_at_call 172;refine HC.out.mono ?_)
   rintro e w1 ⟨rfl,hr1,hg1⟩;rw [HE.out] at hr1;have HRO1:=ab hr1;have hgw1:=jy hg hg1;clear hr1 hg1 HE HC hg;go_wp2
   go_loopw [6] (fun q wr=>ScRel B g cap N R w1 q wr) (fun q _=>N-(intOf q).toNat)
   case atStart=>exact⟨20,N+1,R1,rfl,by omega,by omega,by omega,HRO1.out,km _ _,hl1,HR⟩
   case round =>
    obtain⟨s,k2,l2,rfl,hs20,hs2,hk2,hro2,hg2,hlN2,HG⟩:=hrel;clear HR HRO1 hl1;by_cases hs:s<N
    ·obtain⟨k2,rfl⟩:∃k',k2=k'+1:=⟨k2-1,by omega⟩
     obtain⟨T,hT⟩:∃T,stB (N+1) l2 0 s N=T:=⟨_,rfl⟩;have hTl:T.length=N:=by rw [←hT,xg];exact hlN2
     have HE2:Hid (stC k2 T (2*s) N=R):=ab (by rw [←HG.out];simp only [stC];rw [Dr hs,hT]);have HT:=ab hT;have HRO2:=ab hro2;clear HG hT hro2;obtain⟨wo,rfl⟩:∃wo:World,wo=wr:=⟨_,rfl⟩;go_wp2
     go_loopw [7,8] (fun p q wk=>SbRel B g cap N s T wo p q wk) (fun p _ _=>N-(intOf p).toNat)
     case atStart=>exact⟨0,N+1,l2,rfl,by first|rfl|go_num|simp,by omega,by omega,HRO2.out,km _ _,hlN2,HT⟩
     case round =>
      obtain⟨d,k3,l3,rfl,rfl,hdN,hk3,hro3,hg3,hlN3,HH⟩:=hrel;clear HT HRO2 hlN2;obtain⟨k3,rfl⟩:∃k',k3=k'+1:=⟨k3-1,by omega⟩;by_cases hc3:d+2*s≤N
      ·have HE3:Hid (stB k3 (symM (2*s) l3 d (d+s) (d+2*s)) (d+2*s) s N=T):=ab (by rw [←HH.out];simp only [stB];rw [Dr hc3])
       have HC3:=ab (oA B g cap N hl (2*s) l3 d (d+s) (d+2*s) (d:Int) ((d:Int)+s) ((d:Int)+2*s) wr rfl fR fR fR fR fR hc3 hro3 hlN3);clear HH hro3;go_wp2_with (go_at_call 173;refine HC3.out.mono ?_;rintro e w4 ⟨rfl,hr4,hg4⟩)
       go_roundw
       case rel=>exact⟨d+2*s,k3,_,by go_num,by first|go_num|(simp;omega),hc3,by omega,hr4,jy hg3 hg4,by rw [oO];exact hlN3,HE3⟩
       case measure=>simp [intOf];omega
      ·by_cases hc4:d+s<N
       ·have HE3:Hid (symM (N-d) l3 d (d+s) N=T):=ab (by rw [←HH.out];simp only [stB];rw [Du hc3,Dr hc4])
        have HC3:=ab (oA B g cap N hl (N-d) l3 d (d+s) N (d:Int) ((d:Int)+s) (N:Int) wr rfl fR rfl fR fR hc4 (Dv _) hro3 hlN3);clear HH hro3;go_wp2_with (go_at_call 173;refine HC3.out.mono ?_;rintro e w4 ⟨rfl,hr4,hg4⟩)
        rw [HE3.out] at hr4;exact⟨⟨2*s,k2,T,by first|go_num|(simp;omega),by omega,by omega,by omega,hr4,jy hg2 (jy hg3 hg4),hTl,HE2⟩,by simp [intOf];omega⟩
       ·have HE3:Hid (l3=T):=ab (by rw [←HH.out];simp only [stB];rw [Du hc3,Du hc4])
        clear HH;go_wp2
        exact⟨⟨2*s,k2,T,by first|go_num|(simp;omega),by omega,by omega,by omega,by rw [←HE3.out];exact hro3,jy hg2 hg3,hTl,HE2⟩,by simp [intOf];omega⟩
    ·have HE2:Hid (l2=R):=ab (by
      rw [←HG.out];cases k2 with
      | zero=>rfl
      | succ k2=>simp only [stC];rw [Du hs])
     clear HG;go_wp2
     go_end0
     exact⟨rfl,by rw [←HE2.out];exact hro2,jy hgw1 hg2⟩
theorem sW (B g cap N:Nat) (rs:List Row) (w:World) (h:RO w B g cap rs) (hN:rs.length=N) (hl:N≤1000000) :
  Calls Tryz.prog 158 #[.slice (some ⟨g,0,none⟩) N cap,.func (.func 159) #[] #[]] w fun e w'=>e=.returned (.tuple #[])∧RO w' B g cap (stL rs)∧w.grownBy w' (some g):=by
 have HRO:=ab h;clear h;go_enter Tryz.func158,Tryz.ntmps158
 go_wp2_with (go_at_call 168;refine(A3 B g cap N rs _ HRO.out hN hl).mono ?_;rintro e w1 ⟨rfl,hr1,hg1⟩)
 go_end0
 exact⟨rfl,hr1,hg1⟩
def okC (r:List Str):Prop:=∀p∈r,p≠[]∧p.length≤1000000
theorem RdT.ok {T:TypeId} {x:List Value} {w:World} {g:Nat} {r:List Str} (h:RdT T x w g r):okC r∧r.length≤200000:=by
 obtain⟨a,k,l,i,_,_,h3,h4,h5,h6⟩:=h;subst h6;exact⟨fun p hp=>h5 p (List.mem_of_mem_drop hp),by simp;omega⟩
theorem okC.tail {c:Str} {r:List Str} (h:okC (c::r)):okC r:=fun p hp=>h p (DI _ hp)
theorem tG {c t:Str} (h:lr c=some t):t.length≤c.length:=by
 unfold lr at h;by_cases h0:c=[]
 ·rw [Dr h0] at h;cases h
 have hc:1≤c.length:=List.length_pos_iff.2 h0;rw [Du h0] at h;by_cases h1:c=[110]
 ·rw [Dr h1] at h;injection h with h;rw [←h];exact hc
 rw [Du h1] at h;by_cases h2:c=[114]
 ·rw [Dr h2] at h;injection h with h;rw [←h];exact hc
 rw [Du h2] at h;by_cases h3:c=[116]
 ·rw [Dr h3] at h;injection h with h;rw [←h];exact hc
 rw [Du h3] at h;by_cases h4:c=[102]
 ·rw [Dr h4] at h;injection h with h;rw [←h];exact hc
 rw [Du h4] at h;by_cases h5:c=[118]
 ·rw [Dr h5] at h;injection h with h;rw [←h];exact hc
 rw [Du h5] at h;by_cases h6:c=[95]∨nj c=false
 ·rw [Dr h6] at h;injection h with h;rw [h];exact Dv _
 ·rw [Du h6] at h;cases h
theorem mJ (b:UInt8):(kA b).length≤4∧∀q∈kA b,q.1.length≤1000000∧q.2.length≤1000000:=by
 unfold kA;by_cases h1:b=100
 ·rw [Dr h1];simp
 rw [Du h1];by_cases h2:b=119
 ·rw [Dr h2];simp
 rw [Du h2];by_cases h3:b=115
 ·rw [Dr h3];simp
 rw [Du h3];simp
theorem oJ {r r1:List Str} {c:Str} {nm:List Row} (h:mh r=some (c,nm,r1)) (hr:okC r):r1.length<r.length∧nm.length≤4∧c.length≤1000000∧(∀q∈nm,q.1.length≤1000000∧q.2.length≤1000000)∧okC r1:=by
 cases r with
 | nil=>cases h
 | cons p r =>
  have hp:=hr p (DH ..);simp only [mh] at h;by_cases h1:p=[93]
  ·rw [Dr h1] at h;cases h
  rw [Du h1] at h;by_cases h2:p=[92]
  ·rw [Dr h2] at h
   cases r with
   | nil=>cases h
   | cons c2 r2 =>
    have hp2:=hr c2 (DI _ (DH ..));have ho:=hr.tail.tail;simp only at h
    cases hn:l8 c2 with
    | some rows =>
     obtain⟨b,rfl,_,rfl⟩:=pi hn;simp only [hn] at h;injection h with h;injection h with h3 h;injection h with h4 h5
     subst h3 h4 h5;exact⟨by simp;omega,(mJ b).1,by simp,(mJ b).2,ho⟩
    | none =>
     simp only [hn] at h;cases hpm:lr c2 with
     | none=>exact fO
     | some t =>
      simp only [hpm] at h;injection h with h;injection h with h3 h;injection h with h4 h5
      subst h3 h4 h5;exact⟨by simp;omega,by simp,by have:=tG hpm;omega,by simp,ho⟩
  ·rw [Du h2] at h
   injection h with h;injection h with h3 h;injection h with h4 h5
   subst h3 h4 h5;exact⟨by simp,by simp,hp.2,by simp,hr.tail⟩
theorem uA {c:Str} {r:List Str} (h:jQ c r=none) (hc:c≠[]):(hdS r==c)=false∧(hdS r != c)=true:=by
 have:hdS r≠c:=by
  cases r with
  | nil=>exact fun e=>hc e.symm
  | cons p r=>intro e;simp only [hdS] at e;rw [jQ,Dr e] at h;cases h
 have h1:(hdS r==c)=false:=DV.2 this;exact⟨h1,by simp [bne,h1]⟩
theorem RdT.look0 {T:TypeId} {x:List Value} {w:World} {g:Nat} {c:Str} (h:RdT T x w g [c]):∃(a:Option Addr) (k i n:Nat),w.cell? ⟨g,0,none⟩=some (.slice a n k)∧w.cell? ⟨g,1,none⟩=some (.int .i64 i)∧n=i+1∧n≤200000:=by
 obtain⟨a,k,l,i,c0,c1,hf,hs,hl,hi,hp,hd,hg⟩:=h.cells;obtain⟨h1,h2⟩:=pI hd;exact⟨a,k,i,_,c0,c1,by have:=tE h2;omega,hl⟩
theorem RdT.look1 {T:TypeId} {x:List Value} {w:World} {g:Nat} {c c2:Str} {r:List Str} (h:RdT T x w g (c::c2::r)):∃(b o k i n:Nat),w.cell? ⟨g,0,none⟩=some (.slice (some ⟨b,o,none⟩) n k)∧w.cell? ⟨g,1,none⟩=some (.int .i64 i)∧i+1<n∧n≤200000∧w.cell? ⟨b,o+(i+1),none⟩=some (.string ⟨c2.toArray⟩):=by
 obtain⟨a,k,l,i,c0,c1,hf,hs,hl,hi,hp,hd,hg⟩:=h.cells;obtain⟨h1,h2⟩:=pI hd;obtain⟨h3,h4,_⟩:=jO h2;obtain⟨b,o,rfl,hb,k0⟩:=hs.sl.str h4;exact⟨b,o,k,i,_,c0,c1,h3,hl,k0⟩
def ClsRel (g d B L:Nat) (w2:World) (R:Option (List Row × List Str)) (n:Nat) (v:Value) (wr:World):Prop :=
 ∃(rows:List Row) (r:List Str),wr.ownsRow B 62 2 v rows.length (jN rows)∧Rd wr g r d∧w2.grownBy wr (some g)∧rows.length+4*r.length≤L∧r.length<n∧(∀q∈rows,q.1.length≤1000000∧q.2.length≤1000000)∧Hid (kp n rows r=R)
def SortC:Prop:=∀(B g cap N:Nat) (rs:List Row) (w:World),RO w B g cap rs→rs.length=N→N≤1000000 →
  Calls Tryz.prog 158 #[.slice (some ⟨g,0,none⟩) N cap,.func (.func 159) #[] #[]] w fun e w'=>e=.returned (.tuple #[])∧RO w' B g cap (stL rs)∧w.grownBy w' (some g)
theorem BC (hst:SortC) (a:Option Addr) (n c:Nat) (rs:List Row) (w:World) (h:Sl w w.heap.size a 2 n (jN rs)) (hn:n≤1000000) (hlen:∀r∈rs,r.1.length≤100000000∧r.2.length≤100000000) :
  Calls Tryz.prog 143 #[.slice a n c] w fun e w'=>∃a' c',e=.returned (.slice a' (lG rs).length c')∧SlS w' (fun b=>w.heap.size≤b) a' 2 (lG rs).length (jN (lG rs))∧Below w.heap.size w w':=by
 obtain rfl:=h.row_len;obtain⟨ir,hir⟩:=info_parts me;obtain⟨us,hus⟩:∃us,lG rs=us:=⟨_,rfl⟩;rw [hus];have HUS0:=ab hus;clear hus;have HS:=ab h;have HLEN:=ab hlen;have HST:=ab hst;clear h hlen hst;go_enter Tryz.func143,Tryz.ntmps143
 go_wp2
 go_loopw [3,12] (fun v q wr=>U1Rel rs w v q wr) (fun _ q _=>rs.length-(intOf q).toNat)
 case atStart=>exact⟨0,by omega,rfl,Below.refl _ _,by rw [List.take_zero];exact World.ownsRow_nil _ _ _ _⟩
 case round =>
  obtain⟨i,hil,rfl,hb,hown⟩:=hrel;have hB:=hb.size;cases hi:rs[i]? with
  | none =>
   have h2:rs.length≤i:=by simpa using hi
   obtain rfl:i=rs.length:=fR;rw [List.take_length] at hown;obtain⟨fl,hFL⟩:∃fl,filR rs=fl:=⟨_,rfl⟩;have hfl:fl.length≤rs.length:=by rw [←hFL];exact uy rs
   rw [hFL] at hown;obtain⟨ss,hss⟩:∃ss,stL fl=ss:=⟨_,rfl⟩;have hsl:ss.length=fl.length:=by rw [←hss];exact Bn fl
   have HUS:Hid (mrgL ss=us):=ab (by rw [←HUS0.out,lG,hFL,hss])
   -- the sort
   have hsort:∃(va:Option Addr) (vc:Nat),u3=.slice va fl.length vc∧Calls Tryz.prog 158 #[.slice va fl.length vc,.func (.func 159) #[] #[]] wr fun e w'=>e=.returned (.tuple #[])∧Below w.heap.size w w'∧SlS w' (fun b=>b<w'.heap.size) va 2 ss.length (jN ss):=by
    rcases hown.2 with⟨rfl,hn0⟩|⟨g,cap,cur,rfl,_,_,_,_,_,_⟩
    ·have h0:fl=[]:=Ds hn0
     subst h0;have hs0:ss=[]:=Ds (by simpa using hsl);subst hs0;refine⟨none,0,rfl,(sS wr).mono ?_⟩;rintro e w2 ⟨rfl,rfl⟩;exact⟨rfl,hb,SlS.none_ _ _ _ _⟩
    ·refine⟨_,_,rfl,(HST.out w.heap.size g cap fl.length fl wr hown rfl fR).mono ?_⟩
     rintro e w2 ⟨rfl,hro2,hg2⟩;rw [hss] at hro2;exact⟨rfl,(hb.trans ((Below.refl w.heap.size wr).grown hg2 hB fun k hk=>(hown.lt k hk).1)),(uM hro2).mono fun b _ h=>h⟩
   obtain⟨va,vc,rfl,hrun⟩:=hsort;have HRUN:=ab hrun;clear hrun hown hi hss HST HUS0 HS HLEN hFL;go_wp2_with (go_at_call 158;refine HRUN.out.mono ?_)
   rintro e ws ⟨rfl,hbs,hsls⟩;have HSL:=ab hsls;clear HRUN hsls hb hB hil h2;go_wp2
   go_loopw [6,27] (fun v q wr=>U2Rel ss va w v q wr) (fun _ q _=>ss.length-(intOf q).toNat)
   case atStart=>exact⟨0,by omega,rfl,hbs,by rw [List.take_zero];exact World.ownsRow_nil _ _ _ _,HSL.out.mono fun b _ _=>by simp [Value.ownBlock]⟩
   case round =>
    obtain⟨i,hil,rfl,hb,hown,hsl2⟩:=hrel;have hB:=hb.size;cases hi:ss[i]? with
    | none =>
     have h2:ss.length≤i:=by simpa using hi
     obtain rfl:i=ss.length:=fR;rw [List.take_length,HUS.out] at hown;obtain⟨xa,xc,rfl⟩:=jX hown;have HOWN:=ab hown;clear hown hsl2 HSL;go_wp2
     go_ret
     exact⟨xa,xc,rfl,uM HOWN.out,hb⟩
    | some r =>
     have hi2:=(Dw.1 hi).1;have hMT:=Bc hi;have hml:=zO (ss.take i);rw [DT] at hml;obtain⟨b,o,rfl,hbB,c0,c1⟩:=hsl2.sl.row hi;obtain⟨rf,rt⟩:=r;generalize hML:mrgL (ss.take i)=ml at *
     have hb0:Below wr.heap.size wr (wr.alloc (.cells #[.string ⟨rf.toArray⟩,.string ⟨rt.toArray⟩] 62)):=(Below.refl _ _).alloc (Dv _) _;have ho1:=jP hown hb0;have hs1:=hsl2.keep (Kept.all hb0);have hbw1:=hb.trans (hb0.mono hB);have hbx:=heap_alloc_new wr (.cells #[.string ⟨rf.toArray⟩,.string ⟨rt.toArray⟩] 62);have e0:(wr.alloc (.cells #[.string ⟨rf.toArray⟩,.string ⟨rt.toArray⟩] 62)).cell? ⟨wr.heap.size,0,none⟩=some (.string ⟨rf.toArray⟩):=by unfold World.cell?;rw [hbx];rfl
     have e1:(wr.alloc (.cells #[.string ⟨rf.toArray⟩,.string ⟨rt.toArray⟩] 62)).cell? ⟨wr.heap.size,1,none⟩=some (.string ⟨rt.toArray⟩):=by unfold World.cell?;rw [hbx];rfl
     have HO1:=ab ho1;have HS1:=ab hs1;have HMT:=ab hMT;clear hMT hML hb0 hi hbx hs1;rcases tH ml with rfl|⟨B,q,rfl⟩
     ·have hv:u6=.slice none 0 0∨True:=.inr trivial
      obtain⟨xa,xc,rfl⟩:=jX hown;clear ho1 hown hv;simp only [DP] at *;have hgd:decide ((-1:Int) ≥ 0)=false:=rfl;have hgd2:decide ((0:Int)≤-1)=false:=rfl;go_wp2
      go_quiet (fail)
      obtain⟨w1,hw1⟩:∃w1,w1=(wr.alloc (.cells #[.string ⟨rf.toArray⟩,.string ⟨rt.toArray⟩] 62)).drewN nq:=⟨_,rfl⟩;rw [←hw1];have hbq:Below (wr.alloc (.cells #[.string ⟨rf.toArray⟩,.string ⟨rt.toArray⟩] 62)).heap.size (wr.alloc (.cells #[.string ⟨rf.toArray⟩,.string ⟨rt.toArray⟩] 62)) w1:=by rw [hw1];exact below_drewN (Below.refl _ _) _
      have ho2:=jP HO1.out hbq;have hs2:=HS1.out.keep (Kept.all hbq);have hz1:=hbq.size;rw [D0] at hz1;have hbw1:=hbw1.trans (hbq.mono jo);have f0:=jH hbq _ _ e0;have f1:=jH hbq _ _ e1;clear e0 e1 hw1;have hb3:Below w1.heap.size w1 (w1.alloc (.cells #[.string ⟨rf.toArray⟩,.string ⟨rt.toArray⟩] 62)):=(Below.refl _ _).alloc (Dv _) _;have HO3:=ab (jP ho2 hb3);have HS3:=ab (hs2.keep (Kept.all hb3));have HLIT:=ab (Sl.lit (n:=1) (sz:=2) (heap_alloc_new w1 (.cells #[.string ⟨rf.toArray⟩,.string ⟨rt.toArray⟩] 62)) rfl);have hz3:w.heap.size≤(w1.alloc (.cells #[.string ⟨rf.toArray⟩,.string ⟨rt.toArray⟩] 62)).heap.size:=by simp only [D0];omega
      have hbw3:=hbw1.alloc fR (.cells #[.string ⟨rf.toArray⟩,.string ⟨rt.toArray⟩] 62);clear ho2 hs2;go_wp2_with (at_builtin;refine kf w.heap.size 62 rfl _ _ 22 rfl Tryz.underlying22 hir rfl fU rfl HO3.out rfl HLIT.out (lN [(rf,rt)]) fR fR fU hz3 ?_)
      intro v1 w4 ho4 hg4 hb4 hmv;have hs4:=B7 HS3.out hg4 hmv;have hb4':=hbw3.trans hb4;have ho5:w4.ownsRow w.heap.size 62 2 v1 (mrgL (ss.take (i+1))).length (jN (mrgL (ss.take (i+1)))):=by
       rw [HMT.out,zj];exact ho4
      exact dJ
     ·rw [DE,List.length_singleton] at hml
      have hnl:(B++[q]).length=B.length+1:=fX;rw [hnl] at hown ho1 HO1;rcases hown.2 with⟨rfl,hn0⟩|⟨g,cap,cur,rfl,_,_,_,_,_,_⟩
      ·exact absurd hn0 fR
      obtain⟨q1,q2⟩:=q;obtain⟨d0,d1,hfr⟩:=own_at ho1;have hgw:=(ho1.lt g rfl);cases hle:leS rf q2 with
      | true =>
       have hgd:decide ((0:Int)≤B.length)=true:=fX;clear hown ho1;go_wp2
       go_quiet (fail)
       obtain⟨w1,hw1⟩:∃w1,w1=(wr.alloc (.cells #[.string ⟨rf.toArray⟩,.string ⟨rt.toArray⟩] 62)).drewN nq:=⟨_,rfl⟩;rw [←hw1];have hbq:Below (wr.alloc (.cells #[.string ⟨rf.toArray⟩,.string ⟨rt.toArray⟩] 62)).heap.size (wr.alloc (.cells #[.string ⟨rf.toArray⟩,.string ⟨rt.toArray⟩] 62)) w1:=by rw [hw1];exact below_drewN (Below.refl _ _) _
       have ho2:=jP HO1.out hbq;have hs2:=HS1.out.keep (Kept.all hbq);have hz1:=hbq.size;rw [D0] at hz1;have hbw1:=hbw1.trans (hbq.mono jo);have f0:=jH hbq _ _ e0;have f1:=jH hbq _ _ e1;clear e0 e1 hw1;obtain⟨m0,m1,mfr⟩:=own_at ho2;have hmx:=fun(w:World) (ts:Array TypeId) (t:TypeId) (x y:Str)=>Bu (P:=Tryz.prog) w ts t x y
       have HMT2:=ab (HMT.out.trans (CV (r:=(rf,rt)) hle));have HO5:=ab (Be ho2 (mxS q2 rt));have HS5:=ab (hs2.keep (Kept.setLow (a:=⟨g,B.length*2+1,none⟩) (.string ⟨(mxS q2 rt).toArray⟩) (fun b hb e=>hb (by simp [Value.ownBlock,e]))));have HB5:Hid (Below w.heap.size w (w1.setCell ⟨g,B.length*2+1,none⟩ (.string ⟨(mxS q2 rt).toArray⟩))):=ab (hbw1.setCell hgw.1 _);clear ho2 hs2 HMT hgd hle d0 d1;go_wp2
       go_region
       go_wp2
       refine⟨⟨i+1,by omega,by go_num,?_,?_,?_⟩,by simp [intOf];omega⟩
       ·first|exact HB5.out.drew|exact below_drew HB5.out|exact below_drewN HB5.out 1
       ·have e5:(mrgL (ss.take (i+1))).length=B.length+1:=by rw [HMT2.out];simp
        rw [e5,HMT2.out];exact HO5.out
       ·exact HS5.out
      | false =>
       have HMF:=ab (HMT.out.trans (xM (r:=(rf,rt)) hle));have hgd:decide ((0:Int)≤B.length)=true:=fX;clear hown ho1 HMT;go_wp2
       go_quiet (fail)
       obtain⟨w1,hw1⟩:∃w1,w1=(wr.alloc (.cells #[.string ⟨rf.toArray⟩,.string ⟨rt.toArray⟩] 62)).drewN nq:=⟨_,rfl⟩;rw [←hw1];have hbq:Below (wr.alloc (.cells #[.string ⟨rf.toArray⟩,.string ⟨rt.toArray⟩] 62)).heap.size (wr.alloc (.cells #[.string ⟨rf.toArray⟩,.string ⟨rt.toArray⟩] 62)) w1:=by rw [hw1];exact below_drewN (Below.refl _ _) _
       have ho2:=jP HO1.out hbq;have hs2:=HS1.out.keep (Kept.all hbq);have hz1:=hbq.size;rw [D0] at hz1;have hbw1:=hbw1.trans (hbq.mono jo);have f0:=jH hbq _ _ e0;have f1:=jH hbq _ _ e1;clear e0 e1 hw1;have hb3:Below w1.heap.size w1 (w1.alloc (.cells #[.string ⟨rf.toArray⟩,.string ⟨rt.toArray⟩] 62)):=(Below.refl _ _).alloc (Dv _) _;have HO3:=ab (jP ho2 hb3);have HS3:=ab (hs2.keep (Kept.all hb3));have HLIT:=ab (Sl.lit (n:=1) (sz:=2) (heap_alloc_new w1 (.cells #[.string ⟨rf.toArray⟩,.string ⟨rt.toArray⟩] 62)) rfl);have hz3:w.heap.size≤(w1.alloc (.cells #[.string ⟨rf.toArray⟩,.string ⟨rt.toArray⟩] 62)).heap.size:=by simp only [D0];omega
       have hbw3:=hbw1.alloc fR (.cells #[.string ⟨rf.toArray⟩,.string ⟨rt.toArray⟩] 62);clear ho2 hs2;go_wp2_with (at_builtin;refine kf w.heap.size 62 rfl _ _ 22 rfl Tryz.underlying22 hir rfl fU rfl HO3.out rfl HLIT.out (lN [(rf,rt)]) fR fR fU hz3 ?_)
       intro v1 w4 ho4 hg4 hb4 hmv;have hs4:=B7 HS3.out hg4 hmv;have hb4':=hbw3.trans hb4;have ho5:w4.ownsRow w.heap.size 62 2 v1 (mrgL (ss.take (i+1))).length (jN (mrgL (ss.take (i+1)))):=by
        rw [HMF.out,nR,DE,DE];exact ho4
       exact dJ
  | some r =>
   have hi2:=(Dw.1 hi).1;have hFT:=Cf hi;have hfl:=uy (rs.take i);rw [DT] at hfl;obtain⟨hr1,hr2⟩:=HLEN.out r (DL hi);obtain⟨rf,rt⟩:=r;obtain⟨b,o,rfl,hbB,c0,c1⟩:=HS.out.row hi;have k0:=jH hb _ _ c0;have k1:=jH hb _ _ c1;obtain⟨w0,hw0⟩:∃w0,w0=wr.alloc (.cells #[.string ⟨rf.toArray⟩,.string ⟨rt.toArray⟩] 62):=⟨_,rfl⟩;have hb0:Below wr.heap.size wr w0:=by rw [hw0];exact(Below.refl _ _).alloc (Dv _) _
   have hbx0:w0.heap[wr.heap.size]?=some (.cells #[.string ⟨rf.toArray⟩,.string ⟨rt.toArray⟩] 62 (0,0)):=by rw [hw0];exact heap_alloc_new wr _
   have hz0:w0.heap.size=wr.heap.size+1:=by rw [hw0];simp
   generalize hFL:filR (rs.take i)=fl at *
   have HOWN:=ab hown;have HW0:=ab hw0;have HBX:=ab hbx0;clear hown hw0 hbx0 c0 c1;go_wp2_with (go_at_call 115;refine(Cb _ _ _ hr1 hr2).mono ?_)
   first|rintro e w1 rfl hb1|rintro e w1 ⟨rfl,hb1⟩
   rw [←HW0.out] at hb1;rw [←hz0] at hb1;have hb1':=bel2 hb0 hb1;have hz1:=hb1.size;have hbx1:=(hb1.block _ (jA HBX.out)).trans HBX.out;have e0:w1.cell? ⟨wr.heap.size,0,none⟩=some (.string ⟨rf.toArray⟩):=by unfold World.cell?;rw [hbx1];rfl
   have e1:w1.cell? ⟨wr.heap.size,1,none⟩=some (.string ⟨rt.toArray⟩):=by unfold World.cell?;rw [hbx1];rfl
   have HO1:=ab (jP HOWN.out hb1');clear hbx1;cases hrow:rowB (rf,rt) with
   | false =>
    rw [hrow] at hFT;have HFT:=ab hFT;clear hFT hFL;go_wp2
    go_roundw
    case rel=>exact⟨i+1,by omega,by go_num,hb.trans (hb1'.mono hB),by rw [HFT.out];simpa using HO1.out⟩
    case measure=>simp [intOf];omega
   | true =>
    rw [hrow] at hFT;have HFT:=ab hFT;clear hFT hFL;have hb2:Below w1.heap.size w1 (w1.alloc (.cells #[.string ⟨rf.toArray⟩,.string ⟨rt.toArray⟩] 62)):=(Below.refl _ _).alloc (Dv _) _;have HO2:=ab (jP HO1.out hb2);have HSL:=ab (Sl.lit (n:=1) (sz:=2) (heap_alloc_new w1 (.cells #[.string ⟨rf.toArray⟩,.string ⟨rt.toArray⟩] 62)) rfl);have hz2:w.heap.size≤(w1.alloc (.cells #[.string ⟨rf.toArray⟩,.string ⟨rt.toArray⟩] 62)).heap.size:=by rw [D0];omega
    have hbw2:=(hb.trans (hb1'.mono hB)).alloc fR (.cells #[.string ⟨rf.toArray⟩,.string ⟨rt.toArray⟩] 62);go_wp2_with (at_builtin;refine kf w.heap.size 62 rfl _ _ 22 rfl Tryz.underlying22 hir rfl fU rfl HO2.out rfl HSL.out (lN [(rf,rt)]) fR fR fU hz2 ?_)
    intro v1 w4 ho1 hg1 hb4 hmv;have ho4:w4.ownsRow w.heap.size 62 2 v1 (filR (rs.take (i+1))).length (jN (filR (rs.take (i+1)))):=by
     rw [HFT.out,Dr trivial,nR,DE];exact ho1
    have hb4':=hbw2.trans hb4;clear ho1 hg1 hmv;go_wp2
    go_roundw
    case rel=>exact⟨i+1,by omega,by go_num,hb4',ho4⟩
    case measure=>simp [intOf];omega
end Go.Proofs.YtjggmmaojklmpaaGreatDoor
