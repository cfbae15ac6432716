/- walk of slices.symMergeCmpFunc -/
import Derived.Test.YtbgcjpefocdkkaaGreatSm1
import Derived.Test.YtbgcjpefocdkkaaGreatSm3
import Derived.Test.YtbgcjpefocdkkaaGreatSm2
import Derived.Test.YtbgcjpefocdkkaaGreatSm4
set_option maxRecDepth 100000
namespace Go.Proofs.YtbgcjpefocdkkaaGreat
open Go.RowKit
def SymC (B g cap N f:Nat):Prop:=∀(rs:List Row) (a m b:Nat) (az mz bz:Int) (w:World),az=a→mz=m→bz=b→b-a≤f→a<m→m<b→b≤N→RO w B g cap rs→rs.length=N →
  Calls Tryz.prog 150 #[.slice (some ⟨g,0,none⟩) N cap,.int .i64 az,.int .i64 mz,.int .i64 bz,.func (.func 143) #[] #[]] w fun e w'=>e=.returned (.tuple #[])∧RO w' B g cap (symM f rs a m b)∧w.grownBy w' (some g)
theorem rotate_eq {B g cap N:Nat} {rs:List Row} {a m b:Nat} {az mz bz:Int} (f:Value) (w:World) (h1:az=a) (h2:mz=m) (h3:bz=b) (h:RO w B g cap rs) (hN:rs.length=N) (ha:a<m) (hb:m<b) (hbn:b≤N) (hl:N≤1000000) :
  Calls Tryz.prog 151 #[.slice (some ⟨g,0,none⟩) N cap,.int .i64 az,.int .i64 mz,.int .i64 bz,f] w fun e w'=>e=.returned (.tuple #[])∧RO w' B g cap (rotL (b-a) rs m (m-a) (b-m))∧w.grownBy w' (some g):=by
 subst h1 h2 h3;exact rotate_any B g cap N rs a m b f w h hN ha hb hbn hl
def RunC (B g cap N:Nat) (f:FuncId) (x y z:Nat) (l l':List Row):Prop:=∀wr:World,RO wr B g cap l →
  Calls Tryz.prog f #[.slice (some ⟨g,0,none⟩) N cap,.int .i64 x,.int .i64 y,.int .i64 z,.func (.func 143) #[] #[]] wr fun e w'=>e=.returned (.tuple #[])∧RO w' B g cap l'∧wr.grownBy w' (some g)
set_option maxHeartbeats 4000000 in
  theorem smA11 (LO:Nat) (B g cap N a m b M T E:Nat) (rs r1 r2 R:List Row) (w:World) (hN:rs.length=N) (hl:N≤1000000) (ham:a<m) (hmb:m<b) (hbN:b≤N) (hM2:((a:Int)+b) / 2=(M:Int)) (_haM:a≤M) (hMb:M<b) (e1:((m:Int)-a==1)=false) (e2:((b:Int)-m==1)=false) (hE2:(M:Int)+m-T=(E:Int)) (HRO:Hid (RO w B g cap rs)) (q6:M<m) (q7:(M:Int)+m-b=(LO:Int)) (q8:LO≤M) (_haL:a≤LO) (c1:T<m) (c2:m<E) (c5:M<E) (c3:a<T) (c4:T<M) (c6:E<b) (HT:Hid (bs (fun c=>!ltAt rs (M+m-1-c) c) b LO M=T)) (HC1:Hid (RunC B g cap N 151 T m E rs r1)) (HC2:Hid (RunC B g cap N 150 a T M r1 r2)) (HC3:Hid (RunC B g cap N 150 M E b r2 R)):Calls Tryz.prog 150 #[.slice (some ⟨g,0,none⟩) N cap,.int .i64 a,.int .i64 m,.int .i64 b,.func (.func 143) #[] #[]] w fun e w'=>e=.returned (.tuple #[])∧RO w' B g cap R∧w.grownBy w' (some g):=by
   have _hun:True:=(fun(_ _:List Row) {p:Prop} (_:p)=>trivial) r1 r2 c5;go_enter Tryz.func150,Tryz.ntmps150
   go_wp2
   go_loopw [20,21] (fun q s wr=>BsRel B g cap rs (fun c=>!ltAt rs (M+m-1-c) c) (LO) (M) T w q s wr) (fun q s _=>(intOf s).toNat-(intOf q).toNat)
   case atStart=>exact⟨LO,M,b,by first|rfl|go_num|(simp;omega),by first|rfl|go_num|(simp;omega),by omega,by omega,by omega,by omega,HRO.out,grown_refl _ _,HT⟩
   case round =>
    obtain⟨i,j,k,rfl,rfl,hi,hij,hj,hk,hro,hg,HF⟩:=hrel;clear HT HRO;by_cases hlt:i<j
    ·obtain⟨k,rfl⟩:∃k',k=k'+1:=⟨k-1,by omega⟩
     obtain⟨H,hH⟩:∃H,(i+j) / 2=H:=⟨_,rfl⟩;have hH2:((i:Int)+j) / 2=(H:Int):=by omega
     have hHb:i≤H∧H<j:=by omega
     obtain⟨K,hK⟩:∃K,M+m-1-H=K:=⟨_,rfl⟩;have hK2:(M:Int)+m-1-H=(K:Int):=by omega
     have hKN:K<N:=by omega
     obtain⟨x,hx⟩:∃x,rs[K]?=some x:=⟨_,List.getElem?_eq_getElem (by omega)⟩;obtain⟨y,hy⟩:∃y,rs[H]?=some y:=⟨_,List.getElem?_eq_getElem (by omega)⟩;obtain⟨c1,c2⟩:=hro.at_ hx;obtain⟨c3,c4⟩:=hro.at_ hy;obtain⟨x1,x2⟩:=x;obtain⟨y1,y2⟩:=y;obtain⟨cv,hcv⟩:∃cv,cmpR (x1,x2) (y1,y2)=cv:=⟨_,rfl⟩;have HCV:Hid (∀w:World,Calls Tryz.prog 143 #[.agg #[.string ⟨(x1).toArray⟩,.string ⟨(x2).toArray⟩],.agg #[.string ⟨(y1).toArray⟩,.string ⟨(y2).toArray⟩]] w fun e w'=>e=.returned (.int .i64 cv)∧Below w.heap.size w w'):=Lib.hid (fun w=>by
      rw [←hcv];exact cmpU_any (x1,x2) (y1,y2) w)
     have d1:∀x:ExtOf wr,x.val.cell? ⟨g,(K)*2,none⟩=some (.string ⟨(x1).toArray⟩):=ExtOf.cell c1;have d2:∀x:ExtOf wr,x.val.cell? ⟨g,(K)*2+1,none⟩=some (.string ⟨(x2).toArray⟩):=ExtOf.cell c2;have d3:∀x:ExtOf wr,x.val.cell? ⟨g,(H)*2,none⟩=some (.string ⟨(y1).toArray⟩):=ExtOf.cell c3;have d4:∀x:ExtOf wr,x.val.cell? ⟨g,(H)*2+1,none⟩=some (.string ⟨(y2).toArray⟩):=ExtOf.cell c4;have HX:=Lib.hid hx;have HY:=Lib.hid hy;have HROJ:=Lib.hid hro;clear hx hy c1 c2 c3 c4;have HF2:Hid ((if cv<0 then bs (fun c=>!ltAt rs (M+m-1-c) c) k i H else bs (fun c=>!ltAt rs (M+m-1-c) c) k (H+1) j)=T):=Lib.hid (by
      have hp:(!ltAt rs (M+m-1-H) H)=!decide (cv<0):=by rw [hK,ltAt_eq HX.out HY.out,hcv]
      rw [←HF.out];simp only [bs,hlt,if_true,hH,hp];by_cases hc:cv<0<;>simp [hc])
     clear hcv hH hK HF hro;go_wp2
     refine wp_region_ext (by kernel_rfl) (by kernel_rfl) ?_;repeat (go_big_quiet_step ((go_at_call 143;exact ext_call (HCV.out _))))
     refine wpQuiet_nil ?_;rintro _ ⟨xq,rfl⟩;have hrq:RO xq.val B g cap rs:=own_below HROJ.out xq.ext;have hgq:=grown_below hg xq.ext;clear d1 d2 d3 d4;by_cases hc0:cv<0
     ·have hc0':decide (cv<0)=true:=decide_eq_true hc0
      have HE2:=Lib.hid ((if_pos hc0).symm.trans HF2.out);simp only [hc0',Bool.not_true];go_wp2
      go_roundw
      case rel=>exact⟨i,H,k,rfl,rfl,by omega,by omega,by omega,by omega,hrq,hgq,HE2⟩
      case measure=>simp [intOf];omega
     ·have hc0':decide (cv<0)=false:=decide_eq_false hc0
      have hc9:0≤cv:=by omega
      have HE2:=Lib.hid ((if_neg hc0).symm.trans HF2.out);clear hc0;simp only [hc0',Bool.not_false];go_wp2
      go_roundw
      case rel=>exact⟨H+1,j,k,by go_num,rfl,by omega,by omega,by omega,by omega,hrq,hgq,HE2⟩
      case measure=>simp [intOf];omega
    ·have hij2:T=i:=by
      have:=HF.out
      have hje:j=i:=by omega
      subst hje;cases k with
      | zero=>exact this.symm
      | succ k=>simp only [bs] at this;rw [if_neg (by omega)] at this;exact this.symm
     subst hij2;clear HF hk hi hj;go_wp2_with (go_at_call 151;refine(HC1.out _ hro).mono ?_)
     first|rintro e w6 rfl hr6 hh6|rintro e w6 ⟨rfl,hr6,hh6⟩
     have hg6:=grown_trans hg hh6;clear hh6;go_wp2_with (go_at_call 150;refine(HC2.out _ hr6).mono ?_)
     first|rintro e w7 rfl hr7 hh7|rintro e w7 ⟨rfl,hr7,hh7⟩
     have hg7:=grown_trans hg6 hh7;clear hh7;go_wp2_with (go_at_call 150;refine(HC3.out _ hr7).mono ?_)
     first|rintro e w8 rfl hr8 hh8|rintro e w8 ⟨rfl,hr8,hh8⟩
     have hg8:=grown_trans hg7 hh8;clear hh8;go_wp2
     go_end0
     exact⟨rfl,hr8,hg8⟩
set_option maxHeartbeats 4000000 in
     theorem smA10 (LO:Nat) (B g cap N a m b M T E:Nat) (rs r1 r2 R:List Row) (w:World) (hN:rs.length=N) (hl:N≤1000000) (ham:a<m) (hmb:m<b) (hbN:b≤N) (hM2:((a:Int)+b) / 2=(M:Int)) (_haM:a≤M) (hMb:M<b) (e1:((m:Int)-a==1)=false) (e2:((b:Int)-m==1)=false) (hE2:(M:Int)+m-T=(E:Int)) (HRO:Hid (RO w B g cap rs)) (q6:M<m) (q7:(M:Int)+m-b=(LO:Int)) (q8:LO≤M) (_haL:a≤LO) (c1:T<m) (c2:m<E) (c5:M<E) (c3:a<T) (c4:T<M) (c6:b≤E) (HT:Hid (bs (fun c=>!ltAt rs (M+m-1-c) c) b LO M=T)) (HC1:Hid (RunC B g cap N 151 T m E rs r1)) (HC2:Hid (RunC B g cap N 150 a T M r1 R)):Calls Tryz.prog 150 #[.slice (some ⟨g,0,none⟩) N cap,.int .i64 a,.int .i64 m,.int .i64 b,.func (.func 143) #[] #[]] w fun e w'=>e=.returned (.tuple #[])∧RO w' B g cap R∧w.grownBy w' (some g):=by
      have _hun:True:=(fun(_ _:List Row) {p:Prop} (_:p)=>trivial) r1 r2 c5;go_enter Tryz.func150,Tryz.ntmps150
      go_wp2
      go_loopw [20,21] (fun q s wr=>BsRel B g cap rs (fun c=>!ltAt rs (M+m-1-c) c) (LO) (M) T w q s wr) (fun q s _=>(intOf s).toNat-(intOf q).toNat)
      case atStart=>exact⟨LO,M,b,by first|rfl|go_num|(simp;omega),by first|rfl|go_num|(simp;omega),by omega,by omega,by omega,by omega,HRO.out,grown_refl _ _,HT⟩
      case round =>
       obtain⟨i,j,k,rfl,rfl,hi,hij,hj,hk,hro,hg,HF⟩:=hrel;clear HT HRO;by_cases hlt:i<j
       ·obtain⟨k,rfl⟩:∃k',k=k'+1:=⟨k-1,by omega⟩
        obtain⟨H,hH⟩:∃H,(i+j) / 2=H:=⟨_,rfl⟩;have hH2:((i:Int)+j) / 2=(H:Int):=by omega
        have hHb:i≤H∧H<j:=by omega
        obtain⟨K,hK⟩:∃K,M+m-1-H=K:=⟨_,rfl⟩;have hK2:(M:Int)+m-1-H=(K:Int):=by omega
        have hKN:K<N:=by omega
        obtain⟨x,hx⟩:∃x,rs[K]?=some x:=⟨_,List.getElem?_eq_getElem (by omega)⟩;obtain⟨y,hy⟩:∃y,rs[H]?=some y:=⟨_,List.getElem?_eq_getElem (by omega)⟩;obtain⟨c1,c2⟩:=hro.at_ hx;obtain⟨c3,c4⟩:=hro.at_ hy;obtain⟨x1,x2⟩:=x;obtain⟨y1,y2⟩:=y;obtain⟨cv,hcv⟩:∃cv,cmpR (x1,x2) (y1,y2)=cv:=⟨_,rfl⟩;have HCV:Hid (∀w:World,Calls Tryz.prog 143 #[.agg #[.string ⟨(x1).toArray⟩,.string ⟨(x2).toArray⟩],.agg #[.string ⟨(y1).toArray⟩,.string ⟨(y2).toArray⟩]] w fun e w'=>e=.returned (.int .i64 cv)∧Below w.heap.size w w'):=Lib.hid (fun w=>by
         rw [←hcv];exact cmpU_any (x1,x2) (y1,y2) w)
        have d1:∀x:ExtOf wr,x.val.cell? ⟨g,(K)*2,none⟩=some (.string ⟨(x1).toArray⟩):=ExtOf.cell c1;have d2:∀x:ExtOf wr,x.val.cell? ⟨g,(K)*2+1,none⟩=some (.string ⟨(x2).toArray⟩):=ExtOf.cell c2;have d3:∀x:ExtOf wr,x.val.cell? ⟨g,(H)*2,none⟩=some (.string ⟨(y1).toArray⟩):=ExtOf.cell c3;have d4:∀x:ExtOf wr,x.val.cell? ⟨g,(H)*2+1,none⟩=some (.string ⟨(y2).toArray⟩):=ExtOf.cell c4;have HX:=Lib.hid hx;have HY:=Lib.hid hy;have HROJ:=Lib.hid hro;clear hx hy c1 c2 c3 c4;have HF2:Hid ((if cv<0 then bs (fun c=>!ltAt rs (M+m-1-c) c) k i H else bs (fun c=>!ltAt rs (M+m-1-c) c) k (H+1) j)=T):=Lib.hid (by
         have hp:(!ltAt rs (M+m-1-H) H)=!decide (cv<0):=by rw [hK,ltAt_eq HX.out HY.out,hcv]
         rw [←HF.out];simp only [bs,hlt,if_true,hH,hp];by_cases hc:cv<0<;>simp [hc])
        clear hcv hH hK HF hro;go_wp2
        refine wp_region_ext (by kernel_rfl) (by kernel_rfl) ?_;repeat (go_big_quiet_step ((go_at_call 143;exact ext_call (HCV.out _))))
        refine wpQuiet_nil ?_;rintro _ ⟨xq,rfl⟩;have hrq:RO xq.val B g cap rs:=own_below HROJ.out xq.ext;have hgq:=grown_below hg xq.ext;clear d1 d2 d3 d4;by_cases hc0:cv<0
        ·have hc0':decide (cv<0)=true:=decide_eq_true hc0
         have HE2:=Lib.hid ((if_pos hc0).symm.trans HF2.out);simp only [hc0',Bool.not_true];go_wp2
         go_roundw
         case rel=>exact⟨i,H,k,rfl,rfl,by omega,by omega,by omega,by omega,hrq,hgq,HE2⟩
         case measure=>simp [intOf];omega
        ·have hc0':decide (cv<0)=false:=decide_eq_false hc0
         have hc9:0≤cv:=by omega
         have HE2:=Lib.hid ((if_neg hc0).symm.trans HF2.out);clear hc0;simp only [hc0',Bool.not_false];go_wp2
         go_roundw
         case rel=>exact⟨H+1,j,k,by go_num,rfl,by omega,by omega,by omega,by omega,hrq,hgq,HE2⟩
         case measure=>simp [intOf];omega
       ·have hij2:T=i:=by
         have:=HF.out
         have hje:j=i:=by omega
         subst hje;cases k with
         | zero=>exact this.symm
         | succ k=>simp only [bs] at this;rw [if_neg (by omega)] at this;exact this.symm
        subst hij2;clear HF hk hi hj;go_wp2_with (go_at_call 151;refine(HC1.out _ hro).mono ?_)
        first|rintro e w6 rfl hr6 hh6|rintro e w6 ⟨rfl,hr6,hh6⟩
        have hg6:=grown_trans hg hh6;clear hh6;go_wp2_with (go_at_call 150;refine(HC2.out _ hr6).mono ?_)
        first|rintro e w7 rfl hr7 hh7|rintro e w7 ⟨rfl,hr7,hh7⟩
        have hg7:=grown_trans hg6 hh7;clear hh7;go_wp2
        go_end0
        exact⟨rfl,hr7,hg7⟩
set_option maxHeartbeats 4000000 in
        theorem smA00 (LO:Nat) (B g cap N a m b M T E:Nat) (rs r1 r2 R:List Row) (w:World) (hN:rs.length=N) (hl:N≤1000000) (ham:a<m) (hmb:m<b) (hbN:b≤N) (hM2:((a:Int)+b) / 2=(M:Int)) (_haM:a≤M) (hMb:M<b) (e1:((m:Int)-a==1)=false) (e2:((b:Int)-m==1)=false) (hE2:(M:Int)+m-T=(E:Int)) (HRO:Hid (RO w B g cap rs)) (q6:M<m) (q7:(M:Int)+m-b=(LO:Int)) (q8:LO≤M) (_haL:a≤LO) (c1:T<m) (c2:m<E) (c5:M<E) (c3:T≤a) (c6:b≤E) (HT:Hid (bs (fun c=>!ltAt rs (M+m-1-c) c) b LO M=T)) (HC1:Hid (RunC B g cap N 151 T m E rs R)):Calls Tryz.prog 150 #[.slice (some ⟨g,0,none⟩) N cap,.int .i64 a,.int .i64 m,.int .i64 b,.func (.func 143) #[] #[]] w fun e w'=>e=.returned (.tuple #[])∧RO w' B g cap R∧w.grownBy w' (some g):=by
         have _hun:True:=(fun(_ _:List Row) {p:Prop} (_:p)=>trivial) r1 r2 c5;go_enter Tryz.func150,Tryz.ntmps150
         go_wp2
         go_loopw [20,21] (fun q s wr=>BsRel B g cap rs (fun c=>!ltAt rs (M+m-1-c) c) (LO) (M) T w q s wr) (fun q s _=>(intOf s).toNat-(intOf q).toNat)
         case atStart=>exact⟨LO,M,b,by first|rfl|go_num|(simp;omega),by first|rfl|go_num|(simp;omega),by omega,by omega,by omega,by omega,HRO.out,grown_refl _ _,HT⟩
         case round =>
          obtain⟨i,j,k,rfl,rfl,hi,hij,hj,hk,hro,hg,HF⟩:=hrel;clear HT HRO;by_cases hlt:i<j
          ·obtain⟨k,rfl⟩:∃k',k=k'+1:=⟨k-1,by omega⟩
           obtain⟨H,hH⟩:∃H,(i+j) / 2=H:=⟨_,rfl⟩;have hH2:((i:Int)+j) / 2=(H:Int):=by omega
           have hHb:i≤H∧H<j:=by omega
           obtain⟨K,hK⟩:∃K,M+m-1-H=K:=⟨_,rfl⟩;have hK2:(M:Int)+m-1-H=(K:Int):=by omega
           have hKN:K<N:=by omega
           obtain⟨x,hx⟩:∃x,rs[K]?=some x:=⟨_,List.getElem?_eq_getElem (by omega)⟩;obtain⟨y,hy⟩:∃y,rs[H]?=some y:=⟨_,List.getElem?_eq_getElem (by omega)⟩;obtain⟨c1,c2⟩:=hro.at_ hx;obtain⟨c3,c4⟩:=hro.at_ hy;obtain⟨x1,x2⟩:=x;obtain⟨y1,y2⟩:=y;obtain⟨cv,hcv⟩:∃cv,cmpR (x1,x2) (y1,y2)=cv:=⟨_,rfl⟩;have HCV:Hid (∀w:World,Calls Tryz.prog 143 #[.agg #[.string ⟨(x1).toArray⟩,.string ⟨(x2).toArray⟩],.agg #[.string ⟨(y1).toArray⟩,.string ⟨(y2).toArray⟩]] w fun e w'=>e=.returned (.int .i64 cv)∧Below w.heap.size w w'):=Lib.hid (fun w=>by
            rw [←hcv];exact cmpU_any (x1,x2) (y1,y2) w)
           have d1:∀x:ExtOf wr,x.val.cell? ⟨g,(K)*2,none⟩=some (.string ⟨(x1).toArray⟩):=ExtOf.cell c1;have d2:∀x:ExtOf wr,x.val.cell? ⟨g,(K)*2+1,none⟩=some (.string ⟨(x2).toArray⟩):=ExtOf.cell c2;have d3:∀x:ExtOf wr,x.val.cell? ⟨g,(H)*2,none⟩=some (.string ⟨(y1).toArray⟩):=ExtOf.cell c3;have d4:∀x:ExtOf wr,x.val.cell? ⟨g,(H)*2+1,none⟩=some (.string ⟨(y2).toArray⟩):=ExtOf.cell c4;have HX:=Lib.hid hx;have HY:=Lib.hid hy;have HROJ:=Lib.hid hro;clear hx hy c1 c2 c3 c4;have HF2:Hid ((if cv<0 then bs (fun c=>!ltAt rs (M+m-1-c) c) k i H else bs (fun c=>!ltAt rs (M+m-1-c) c) k (H+1) j)=T):=Lib.hid (by
            have hp:(!ltAt rs (M+m-1-H) H)=!decide (cv<0):=by rw [hK,ltAt_eq HX.out HY.out,hcv]
            rw [←HF.out];simp only [bs,hlt,if_true,hH,hp];by_cases hc:cv<0<;>simp [hc])
           clear hcv hH hK HF hro;go_wp2
           refine wp_region_ext (by kernel_rfl) (by kernel_rfl) ?_;repeat (go_big_quiet_step ((go_at_call 143;exact ext_call (HCV.out _))))
           refine wpQuiet_nil ?_;rintro _ ⟨xq,rfl⟩;have hrq:RO xq.val B g cap rs:=own_below HROJ.out xq.ext;have hgq:=grown_below hg xq.ext;clear d1 d2 d3 d4;by_cases hc0:cv<0
           ·have hc0':decide (cv<0)=true:=decide_eq_true hc0
            have HE2:=Lib.hid ((if_pos hc0).symm.trans HF2.out);simp only [hc0',Bool.not_true];go_wp2
            go_roundw
            case rel=>exact⟨i,H,k,rfl,rfl,by omega,by omega,by omega,by omega,hrq,hgq,HE2⟩
            case measure=>simp [intOf];omega
           ·have hc0':decide (cv<0)=false:=decide_eq_false hc0
            have hc9:0≤cv:=by omega
            have HE2:=Lib.hid ((if_neg hc0).symm.trans HF2.out);clear hc0;simp only [hc0',Bool.not_false];go_wp2
            go_roundw
            case rel=>exact⟨H+1,j,k,by go_num,rfl,by omega,by omega,by omega,by omega,hrq,hgq,HE2⟩
            case measure=>simp [intOf];omega
          ·have hij2:T=i:=by
            have:=HF.out
            have hje:j=i:=by omega
            subst hje;cases k with
            | zero=>exact this.symm
            | succ k=>simp only [bs] at this;rw [if_neg (by omega)] at this;exact this.symm
           subst hij2;clear HF hk hi hj;go_wp2_with (go_at_call 151;refine(HC1.out _ hro).mono ?_)
           first|rintro e w6 rfl hr6 hh6|rintro e w6 ⟨rfl,hr6,hh6⟩
           have hg6:=grown_trans hg hh6;clear hh6;go_wp2
           go_end0
           exact⟨rfl,hr6,hg6⟩
set_option maxHeartbeats 4000000 in
           theorem smB11  (B g cap N a m b M T E:Nat) (rs r1 r2 R:List Row) (w:World) (hN:rs.length=N) (hl:N≤1000000) (ham:a<m) (hmb:m<b) (hbN:b≤N) (hM2:((a:Int)+b) / 2=(M:Int)) (_haM:a≤M) (hMb:M<b) (e1:((m:Int)-a==1)=false) (e2:((b:Int)-m==1)=false) (hE2:(M:Int)+m-T=(E:Int)) (HRO:Hid (RO w B g cap rs)) (q6:m≤M) (c1:T<m) (c2:m<E) (c5:M<E) (c3:a<T) (c4:T<M) (c6:E<b) (HT:Hid (bs (fun c=>!ltAt rs (M+m-1-c) c) b a m=T)) (HC1:Hid (RunC B g cap N 151 T m E rs r1)) (HC2:Hid (RunC B g cap N 150 a T M r1 r2)) (HC3:Hid (RunC B g cap N 150 M E b r2 R)):Calls Tryz.prog 150 #[.slice (some ⟨g,0,none⟩) N cap,.int .i64 a,.int .i64 m,.int .i64 b,.func (.func 143) #[] #[]] w fun e w'=>e=.returned (.tuple #[])∧RO w' B g cap R∧w.grownBy w' (some g):=by
            have _hun:True:=(fun(_ _:List Row) {p:Prop} (_:p)=>trivial) r1 r2 c5;go_enter Tryz.func150,Tryz.ntmps150
            go_wp2
            go_loopw [20,21] (fun q s wr=>BsRel B g cap rs (fun c=>!ltAt rs (M+m-1-c) c) (a) (m) T w q s wr) (fun q s _=>(intOf s).toNat-(intOf q).toNat)
            case atStart=>exact⟨a,m,b,by first|rfl|go_num|(simp;omega),by first|rfl|go_num|(simp;omega),by omega,by omega,by omega,by omega,HRO.out,grown_refl _ _,HT⟩
            case round =>
             obtain⟨i,j,k,rfl,rfl,hi,hij,hj,hk,hro,hg,HF⟩:=hrel;clear HT HRO;by_cases hlt:i<j
             ·obtain⟨k,rfl⟩:∃k',k=k'+1:=⟨k-1,by omega⟩
              obtain⟨H,hH⟩:∃H,(i+j) / 2=H:=⟨_,rfl⟩;have hH2:((i:Int)+j) / 2=(H:Int):=by omega
              have hHb:i≤H∧H<j:=by omega
              obtain⟨K,hK⟩:∃K,M+m-1-H=K:=⟨_,rfl⟩;have hK2:(M:Int)+m-1-H=(K:Int):=by omega
              have hKN:K<N:=by omega
              obtain⟨x,hx⟩:∃x,rs[K]?=some x:=⟨_,List.getElem?_eq_getElem (by omega)⟩;obtain⟨y,hy⟩:∃y,rs[H]?=some y:=⟨_,List.getElem?_eq_getElem (by omega)⟩;obtain⟨c1,c2⟩:=hro.at_ hx;obtain⟨c3,c4⟩:=hro.at_ hy;obtain⟨x1,x2⟩:=x;obtain⟨y1,y2⟩:=y;obtain⟨cv,hcv⟩:∃cv,cmpR (x1,x2) (y1,y2)=cv:=⟨_,rfl⟩;have HCV:Hid (∀w:World,Calls Tryz.prog 143 #[.agg #[.string ⟨(x1).toArray⟩,.string ⟨(x2).toArray⟩],.agg #[.string ⟨(y1).toArray⟩,.string ⟨(y2).toArray⟩]] w fun e w'=>e=.returned (.int .i64 cv)∧Below w.heap.size w w'):=Lib.hid (fun w=>by
               rw [←hcv];exact cmpU_any (x1,x2) (y1,y2) w)
              have d1:∀x:ExtOf wr,x.val.cell? ⟨g,(K)*2,none⟩=some (.string ⟨(x1).toArray⟩):=ExtOf.cell c1;have d2:∀x:ExtOf wr,x.val.cell? ⟨g,(K)*2+1,none⟩=some (.string ⟨(x2).toArray⟩):=ExtOf.cell c2;have d3:∀x:ExtOf wr,x.val.cell? ⟨g,(H)*2,none⟩=some (.string ⟨(y1).toArray⟩):=ExtOf.cell c3;have d4:∀x:ExtOf wr,x.val.cell? ⟨g,(H)*2+1,none⟩=some (.string ⟨(y2).toArray⟩):=ExtOf.cell c4;have HX:=Lib.hid hx;have HY:=Lib.hid hy;have HROJ:=Lib.hid hro;clear hx hy c1 c2 c3 c4;have HF2:Hid ((if cv<0 then bs (fun c=>!ltAt rs (M+m-1-c) c) k i H else bs (fun c=>!ltAt rs (M+m-1-c) c) k (H+1) j)=T):=Lib.hid (by
               have hp:(!ltAt rs (M+m-1-H) H)=!decide (cv<0):=by rw [hK,ltAt_eq HX.out HY.out,hcv]
               rw [←HF.out];simp only [bs,hlt,if_true,hH,hp];by_cases hc:cv<0<;>simp [hc])
              clear hcv hH hK HF hro;go_wp2
              refine wp_region_ext (by kernel_rfl) (by kernel_rfl) ?_;repeat (go_big_quiet_step ((go_at_call 143;exact ext_call (HCV.out _))))
              refine wpQuiet_nil ?_;rintro _ ⟨xq,rfl⟩;have hrq:RO xq.val B g cap rs:=own_below HROJ.out xq.ext;have hgq:=grown_below hg xq.ext;clear d1 d2 d3 d4;by_cases hc0:cv<0
              ·have hc0':decide (cv<0)=true:=decide_eq_true hc0
               have HE2:=Lib.hid ((if_pos hc0).symm.trans HF2.out);simp only [hc0',Bool.not_true];go_wp2
               go_roundw
               case rel=>exact⟨i,H,k,rfl,rfl,by omega,by omega,by omega,by omega,hrq,hgq,HE2⟩
               case measure=>simp [intOf];omega
              ·have hc0':decide (cv<0)=false:=decide_eq_false hc0
               have hc9:0≤cv:=by omega
               have HE2:=Lib.hid ((if_neg hc0).symm.trans HF2.out);clear hc0;simp only [hc0',Bool.not_false];go_wp2
               go_roundw
               case rel=>exact⟨H+1,j,k,by go_num,rfl,by omega,by omega,by omega,by omega,hrq,hgq,HE2⟩
               case measure=>simp [intOf];omega
             ·have hij2:T=i:=by
               have:=HF.out
               have hje:j=i:=by omega
               subst hje;cases k with
               | zero=>exact this.symm
               | succ k=>simp only [bs] at this;rw [if_neg (by omega)] at this;exact this.symm
              subst hij2;clear HF hk hi hj;go_wp2_with (go_at_call 151;refine(HC1.out _ hro).mono ?_)
              first|rintro e w6 rfl hr6 hh6|rintro e w6 ⟨rfl,hr6,hh6⟩
              have hg6:=grown_trans hg hh6;clear hh6;go_wp2_with (go_at_call 150;refine(HC2.out _ hr6).mono ?_)
              first|rintro e w7 rfl hr7 hh7|rintro e w7 ⟨rfl,hr7,hh7⟩
              have hg7:=grown_trans hg6 hh7;clear hh7;go_wp2_with (go_at_call 150;refine(HC3.out _ hr7).mono ?_)
              first|rintro e w8 rfl hr8 hh8|rintro e w8 ⟨rfl,hr8,hh8⟩
              have hg8:=grown_trans hg7 hh8;clear hh8;go_wp2
              go_end0
              exact⟨rfl,hr8,hg8⟩
set_option maxHeartbeats 4000000 in
              theorem smB01  (B g cap N a m b M T E:Nat) (rs r1 r2 R:List Row) (w:World) (hN:rs.length=N) (hl:N≤1000000) (ham:a<m) (hmb:m<b) (hbN:b≤N) (hM2:((a:Int)+b) / 2=(M:Int)) (_haM:a≤M) (hMb:M<b) (e1:((m:Int)-a==1)=false) (e2:((b:Int)-m==1)=false) (hE2:(M:Int)+m-T=(E:Int)) (HRO:Hid (RO w B g cap rs)) (q6:m≤M) (c1:T<m) (c2:m<E) (c5:M<E) (c3:T≤a) (c6:E<b) (HT:Hid (bs (fun c=>!ltAt rs (M+m-1-c) c) b a m=T)) (HC1:Hid (RunC B g cap N 151 T m E rs r1)) (HC3:Hid (RunC B g cap N 150 M E b r1 R)):Calls Tryz.prog 150 #[.slice (some ⟨g,0,none⟩) N cap,.int .i64 a,.int .i64 m,.int .i64 b,.func (.func 143) #[] #[]] w fun e w'=>e=.returned (.tuple #[])∧RO w' B g cap R∧w.grownBy w' (some g):=by
               have _hun:True:=(fun(_ _:List Row) {p:Prop} (_:p)=>trivial) r1 r2 c5;go_enter Tryz.func150,Tryz.ntmps150
               go_wp2
               go_loopw [20,21] (fun q s wr=>BsRel B g cap rs (fun c=>!ltAt rs (M+m-1-c) c) (a) (m) T w q s wr) (fun q s _=>(intOf s).toNat-(intOf q).toNat)
               case atStart=>exact⟨a,m,b,by first|rfl|go_num|(simp;omega),by first|rfl|go_num|(simp;omega),by omega,by omega,by omega,by omega,HRO.out,grown_refl _ _,HT⟩
               case round =>
                obtain⟨i,j,k,rfl,rfl,hi,hij,hj,hk,hro,hg,HF⟩:=hrel;clear HT HRO;by_cases hlt:i<j
                ·obtain⟨k,rfl⟩:∃k',k=k'+1:=⟨k-1,by omega⟩
                 obtain⟨H,hH⟩:∃H,(i+j) / 2=H:=⟨_,rfl⟩;have hH2:((i:Int)+j) / 2=(H:Int):=by omega
                 have hHb:i≤H∧H<j:=by omega
                 obtain⟨K,hK⟩:∃K,M+m-1-H=K:=⟨_,rfl⟩;have hK2:(M:Int)+m-1-H=(K:Int):=by omega
                 have hKN:K<N:=by omega
                 obtain⟨x,hx⟩:∃x,rs[K]?=some x:=⟨_,List.getElem?_eq_getElem (by omega)⟩;obtain⟨y,hy⟩:∃y,rs[H]?=some y:=⟨_,List.getElem?_eq_getElem (by omega)⟩;obtain⟨c1,c2⟩:=hro.at_ hx;obtain⟨c3,c4⟩:=hro.at_ hy;obtain⟨x1,x2⟩:=x;obtain⟨y1,y2⟩:=y;obtain⟨cv,hcv⟩:∃cv,cmpR (x1,x2) (y1,y2)=cv:=⟨_,rfl⟩;have HCV:Hid (∀w:World,Calls Tryz.prog 143 #[.agg #[.string ⟨(x1).toArray⟩,.string ⟨(x2).toArray⟩],.agg #[.string ⟨(y1).toArray⟩,.string ⟨(y2).toArray⟩]] w fun e w'=>e=.returned (.int .i64 cv)∧Below w.heap.size w w'):=Lib.hid (fun w=>by
                  rw [←hcv];exact cmpU_any (x1,x2) (y1,y2) w)
                 have d1:∀x:ExtOf wr,x.val.cell? ⟨g,(K)*2,none⟩=some (.string ⟨(x1).toArray⟩):=ExtOf.cell c1;have d2:∀x:ExtOf wr,x.val.cell? ⟨g,(K)*2+1,none⟩=some (.string ⟨(x2).toArray⟩):=ExtOf.cell c2;have d3:∀x:ExtOf wr,x.val.cell? ⟨g,(H)*2,none⟩=some (.string ⟨(y1).toArray⟩):=ExtOf.cell c3;have d4:∀x:ExtOf wr,x.val.cell? ⟨g,(H)*2+1,none⟩=some (.string ⟨(y2).toArray⟩):=ExtOf.cell c4;have HX:=Lib.hid hx;have HY:=Lib.hid hy;have HROJ:=Lib.hid hro;clear hx hy c1 c2 c3 c4;have HF2:Hid ((if cv<0 then bs (fun c=>!ltAt rs (M+m-1-c) c) k i H else bs (fun c=>!ltAt rs (M+m-1-c) c) k (H+1) j)=T):=Lib.hid (by
                  have hp:(!ltAt rs (M+m-1-H) H)=!decide (cv<0):=by rw [hK,ltAt_eq HX.out HY.out,hcv]
                  rw [←HF.out];simp only [bs,hlt,if_true,hH,hp];by_cases hc:cv<0<;>simp [hc])
                 clear hcv hH hK HF hro;go_wp2
                 refine wp_region_ext (by kernel_rfl) (by kernel_rfl) ?_;repeat (go_big_quiet_step ((go_at_call 143;exact ext_call (HCV.out _))))
                 refine wpQuiet_nil ?_;rintro _ ⟨xq,rfl⟩;have hrq:RO xq.val B g cap rs:=own_below HROJ.out xq.ext;have hgq:=grown_below hg xq.ext;clear d1 d2 d3 d4;by_cases hc0:cv<0
                 ·have hc0':decide (cv<0)=true:=decide_eq_true hc0
                  have HE2:=Lib.hid ((if_pos hc0).symm.trans HF2.out);simp only [hc0',Bool.not_true];go_wp2
                  go_roundw
                  case rel=>exact⟨i,H,k,rfl,rfl,by omega,by omega,by omega,by omega,hrq,hgq,HE2⟩
                  case measure=>simp [intOf];omega
                 ·have hc0':decide (cv<0)=false:=decide_eq_false hc0
                  have hc9:0≤cv:=by omega
                  have HE2:=Lib.hid ((if_neg hc0).symm.trans HF2.out);clear hc0;simp only [hc0',Bool.not_false];go_wp2
                  go_roundw
                  case rel=>exact⟨H+1,j,k,by go_num,rfl,by omega,by omega,by omega,by omega,hrq,hgq,HE2⟩
                  case measure=>simp [intOf];omega
                ·have hij2:T=i:=by
                  have:=HF.out
                  have hje:j=i:=by omega
                  subst hje;cases k with
                  | zero=>exact this.symm
                  | succ k=>simp only [bs] at this;rw [if_neg (by omega)] at this;exact this.symm
                 subst hij2;clear HF hk hi hj;go_wp2_with (go_at_call 151;refine(HC1.out _ hro).mono ?_)
                 first|rintro e w6 rfl hr6 hh6|rintro e w6 ⟨rfl,hr6,hh6⟩
                 have hg6:=grown_trans hg hh6;clear hh6;go_wp2_with (go_at_call 150;refine(HC3.out _ hr6).mono ?_)
                 first|rintro e w8 rfl hr8 hh8|rintro e w8 ⟨rfl,hr8,hh8⟩
                 have hg8:=grown_trans hg6 hh8;clear hh8;go_wp2
                 go_end0
                 exact⟨rfl,hr8,hg8⟩
set_option maxHeartbeats 4000000 in
                 theorem smB00  (B g cap N a m b M T E:Nat) (rs r1 r2 R:List Row) (w:World) (hN:rs.length=N) (hl:N≤1000000) (ham:a<m) (hmb:m<b) (hbN:b≤N) (hM2:((a:Int)+b) / 2=(M:Int)) (_haM:a≤M) (hMb:M<b) (e1:((m:Int)-a==1)=false) (e2:((b:Int)-m==1)=false) (hE2:(M:Int)+m-T=(E:Int)) (HRO:Hid (RO w B g cap rs)) (q6:m≤M) (c1:T<m) (c2:m<E) (c5:M<E) (c3:T≤a) (c6:b≤E) (HT:Hid (bs (fun c=>!ltAt rs (M+m-1-c) c) b a m=T)) (HC1:Hid (RunC B g cap N 151 T m E rs R)):Calls Tryz.prog 150 #[.slice (some ⟨g,0,none⟩) N cap,.int .i64 a,.int .i64 m,.int .i64 b,.func (.func 143) #[] #[]] w fun e w'=>e=.returned (.tuple #[])∧RO w' B g cap R∧w.grownBy w' (some g):=by
                  have _hun:True:=(fun(_ _:List Row) {p:Prop} (_:p)=>trivial) r1 r2 c5;go_enter Tryz.func150,Tryz.ntmps150
                  go_wp2
                  go_loopw [20,21] (fun q s wr=>BsRel B g cap rs (fun c=>!ltAt rs (M+m-1-c) c) (a) (m) T w q s wr) (fun q s _=>(intOf s).toNat-(intOf q).toNat)
                  case atStart=>exact⟨a,m,b,by first|rfl|go_num|(simp;omega),by first|rfl|go_num|(simp;omega),by omega,by omega,by omega,by omega,HRO.out,grown_refl _ _,HT⟩
                  case round =>
                   obtain⟨i,j,k,rfl,rfl,hi,hij,hj,hk,hro,hg,HF⟩:=hrel;clear HT HRO;by_cases hlt:i<j
                   ·obtain⟨k,rfl⟩:∃k',k=k'+1:=⟨k-1,by omega⟩
                    obtain⟨H,hH⟩:∃H,(i+j) / 2=H:=⟨_,rfl⟩;have hH2:((i:Int)+j) / 2=(H:Int):=by omega
                    have hHb:i≤H∧H<j:=by omega
                    obtain⟨K,hK⟩:∃K,M+m-1-H=K:=⟨_,rfl⟩;have hK2:(M:Int)+m-1-H=(K:Int):=by omega
                    have hKN:K<N:=by omega
                    obtain⟨x,hx⟩:∃x,rs[K]?=some x:=⟨_,List.getElem?_eq_getElem (by omega)⟩;obtain⟨y,hy⟩:∃y,rs[H]?=some y:=⟨_,List.getElem?_eq_getElem (by omega)⟩;obtain⟨c1,c2⟩:=hro.at_ hx;obtain⟨c3,c4⟩:=hro.at_ hy;obtain⟨x1,x2⟩:=x;obtain⟨y1,y2⟩:=y;obtain⟨cv,hcv⟩:∃cv,cmpR (x1,x2) (y1,y2)=cv:=⟨_,rfl⟩;have HCV:Hid (∀w:World,Calls Tryz.prog 143 #[.agg #[.string ⟨(x1).toArray⟩,.string ⟨(x2).toArray⟩],.agg #[.string ⟨(y1).toArray⟩,.string ⟨(y2).toArray⟩]] w fun e w'=>e=.returned (.int .i64 cv)∧Below w.heap.size w w'):=Lib.hid (fun w=>by
                     rw [←hcv];exact cmpU_any (x1,x2) (y1,y2) w)
                    have d1:∀x:ExtOf wr,x.val.cell? ⟨g,(K)*2,none⟩=some (.string ⟨(x1).toArray⟩):=ExtOf.cell c1;have d2:∀x:ExtOf wr,x.val.cell? ⟨g,(K)*2+1,none⟩=some (.string ⟨(x2).toArray⟩):=ExtOf.cell c2;have d3:∀x:ExtOf wr,x.val.cell? ⟨g,(H)*2,none⟩=some (.string ⟨(y1).toArray⟩):=ExtOf.cell c3;have d4:∀x:ExtOf wr,x.val.cell? ⟨g,(H)*2+1,none⟩=some (.string ⟨(y2).toArray⟩):=ExtOf.cell c4;have HX:=Lib.hid hx;have HY:=Lib.hid hy;have HROJ:=Lib.hid hro;clear hx hy c1 c2 c3 c4;have HF2:Hid ((if cv<0 then bs (fun c=>!ltAt rs (M+m-1-c) c) k i H else bs (fun c=>!ltAt rs (M+m-1-c) c) k (H+1) j)=T):=Lib.hid (by
                     have hp:(!ltAt rs (M+m-1-H) H)=!decide (cv<0):=by rw [hK,ltAt_eq HX.out HY.out,hcv]
                     rw [←HF.out];simp only [bs,hlt,if_true,hH,hp];by_cases hc:cv<0<;>simp [hc])
                    clear hcv hH hK HF hro;go_wp2
                    refine wp_region_ext (by kernel_rfl) (by kernel_rfl) ?_;repeat (go_big_quiet_step ((go_at_call 143;exact ext_call (HCV.out _))))
                    refine wpQuiet_nil ?_;rintro _ ⟨xq,rfl⟩;have hrq:RO xq.val B g cap rs:=own_below HROJ.out xq.ext;have hgq:=grown_below hg xq.ext;clear d1 d2 d3 d4;by_cases hc0:cv<0
                    ·have hc0':decide (cv<0)=true:=decide_eq_true hc0
                     have HE2:=Lib.hid ((if_pos hc0).symm.trans HF2.out);simp only [hc0',Bool.not_true];go_wp2
                     go_roundw
                     case rel=>exact⟨i,H,k,rfl,rfl,by omega,by omega,by omega,by omega,hrq,hgq,HE2⟩
                     case measure=>simp [intOf];omega
                    ·have hc0':decide (cv<0)=false:=decide_eq_false hc0
                     have hc9:0≤cv:=by omega
                     have HE2:=Lib.hid ((if_neg hc0).symm.trans HF2.out);clear hc0;simp only [hc0',Bool.not_false];go_wp2
                     go_roundw
                     case rel=>exact⟨H+1,j,k,by go_num,rfl,by omega,by omega,by omega,by omega,hrq,hgq,HE2⟩
                     case measure=>simp [intOf];omega
                   ·have hij2:T=i:=by
                     have:=HF.out
                     have hje:j=i:=by omega
                     subst hje;cases k with
                     | zero=>exact this.symm
                     | succ k=>simp only [bs] at this;rw [if_neg (by omega)] at this;exact this.symm
                    subst hij2;clear HF hk hi hj;go_wp2_with (go_at_call 151;refine(HC1.out _ hro).mono ?_)
                    first|rintro e w6 rfl hr6 hh6|rintro e w6 ⟨rfl,hr6,hh6⟩
                    have hg6:=grown_trans hg hh6;clear hh6;go_wp2
                    go_end0
                    exact⟨rfl,hr6,hg6⟩
set_option maxHeartbeats 4000000 in
                    theorem smAC (LO:Nat) (B g cap N a m b M T E:Nat) (rs r1 r2 R:List Row) (w:World) (hN:rs.length=N) (hl:N≤1000000) (ham:a<m) (hmb:m<b) (hbN:b≤N) (hM2:((a:Int)+b) / 2=(M:Int)) (_haM:a≤M) (hMb:M<b) (e1:((m:Int)-a==1)=false) (e2:((b:Int)-m==1)=false) (hE2:(M:Int)+m-T=(E:Int)) (HRO:Hid (RO w B g cap rs)) (q6:M<m) (q7:(M:Int)+m-b=(LO:Int)) (q8:LO≤M) (_haL:a≤LO) (c1:T<m) (_c2:E≤m) (c4:M≤T) (c3:a<T) (c5:M<E) (c6:E<b) (HT:Hid (bs (fun c=>!ltAt rs (M+m-1-c) c) b LO M=T)) (HC3:Hid (RunC B g cap N 150 M E b rs R)):Calls Tryz.prog 150 #[.slice (some ⟨g,0,none⟩) N cap,.int .i64 a,.int .i64 m,.int .i64 b,.func (.func 143) #[] #[]] w fun e w'=>e=.returned (.tuple #[])∧RO w' B g cap R∧w.grownBy w' (some g):=by
                     have _hun:True:=(fun(_ _:List Row) {p:Prop} (_:p)=>trivial) r1 r2 c5;go_enter Tryz.func150,Tryz.ntmps150
                     go_wp2
                     go_loopw [20,21] (fun q s wr=>BsRel B g cap rs (fun c=>!ltAt rs (M+m-1-c) c) (LO) (M) T w q s wr) (fun q s _=>(intOf s).toNat-(intOf q).toNat)
                     case atStart=>exact⟨LO,M,b,by first|rfl|go_num|(simp;omega),by first|rfl|go_num|(simp;omega),by omega,by omega,by omega,by omega,HRO.out,grown_refl _ _,HT⟩
                     case round =>
                      obtain⟨i,j,k,rfl,rfl,hi,hij,hj,hk,hro,hg,HF⟩:=hrel;clear HT HRO;by_cases hlt:i<j
                      ·obtain⟨k,rfl⟩:∃k',k=k'+1:=⟨k-1,by omega⟩
                       obtain⟨H,hH⟩:∃H,(i+j) / 2=H:=⟨_,rfl⟩;have hH2:((i:Int)+j) / 2=(H:Int):=by omega
                       have hHb:i≤H∧H<j:=by omega
                       obtain⟨K,hK⟩:∃K,M+m-1-H=K:=⟨_,rfl⟩;have hK2:(M:Int)+m-1-H=(K:Int):=by omega
                       have hKN:K<N:=by omega
                       obtain⟨x,hx⟩:∃x,rs[K]?=some x:=⟨_,List.getElem?_eq_getElem (by omega)⟩;obtain⟨y,hy⟩:∃y,rs[H]?=some y:=⟨_,List.getElem?_eq_getElem (by omega)⟩;obtain⟨c1,c2⟩:=hro.at_ hx;obtain⟨c3,c4⟩:=hro.at_ hy;obtain⟨x1,x2⟩:=x;obtain⟨y1,y2⟩:=y;obtain⟨cv,hcv⟩:∃cv,cmpR (x1,x2) (y1,y2)=cv:=⟨_,rfl⟩;have HCV:Hid (∀w:World,Calls Tryz.prog 143 #[.agg #[.string ⟨(x1).toArray⟩,.string ⟨(x2).toArray⟩],.agg #[.string ⟨(y1).toArray⟩,.string ⟨(y2).toArray⟩]] w fun e w'=>e=.returned (.int .i64 cv)∧Below w.heap.size w w'):=Lib.hid (fun w=>by
                        rw [←hcv];exact cmpU_any (x1,x2) (y1,y2) w)
                       have d1:∀x:ExtOf wr,x.val.cell? ⟨g,(K)*2,none⟩=some (.string ⟨(x1).toArray⟩):=ExtOf.cell c1;have d2:∀x:ExtOf wr,x.val.cell? ⟨g,(K)*2+1,none⟩=some (.string ⟨(x2).toArray⟩):=ExtOf.cell c2;have d3:∀x:ExtOf wr,x.val.cell? ⟨g,(H)*2,none⟩=some (.string ⟨(y1).toArray⟩):=ExtOf.cell c3;have d4:∀x:ExtOf wr,x.val.cell? ⟨g,(H)*2+1,none⟩=some (.string ⟨(y2).toArray⟩):=ExtOf.cell c4;have HX:=Lib.hid hx;have HY:=Lib.hid hy;have HROJ:=Lib.hid hro;clear hx hy c1 c2 c3 c4;have HF2:Hid ((if cv<0 then bs (fun c=>!ltAt rs (M+m-1-c) c) k i H else bs (fun c=>!ltAt rs (M+m-1-c) c) k (H+1) j)=T):=Lib.hid (by
                        have hp:(!ltAt rs (M+m-1-H) H)=!decide (cv<0):=by rw [hK,ltAt_eq HX.out HY.out,hcv]
                        rw [←HF.out];simp only [bs,hlt,if_true,hH,hp];by_cases hc:cv<0<;>simp [hc])
                       clear hcv hH hK HF hro;go_wp2
                       refine wp_region_ext (by kernel_rfl) (by kernel_rfl) ?_;repeat (go_big_quiet_step ((go_at_call 143;exact ext_call (HCV.out _))))
                       refine wpQuiet_nil ?_;rintro _ ⟨xq,rfl⟩;have hrq:RO xq.val B g cap rs:=own_below HROJ.out xq.ext;have hgq:=grown_below hg xq.ext;clear d1 d2 d3 d4;by_cases hc0:cv<0
                       ·have hc0':decide (cv<0)=true:=decide_eq_true hc0
                        have HE2:=Lib.hid ((if_pos hc0).symm.trans HF2.out);simp only [hc0',Bool.not_true];go_wp2
                        go_roundw
                        case rel=>exact⟨i,H,k,rfl,rfl,by omega,by omega,by omega,by omega,hrq,hgq,HE2⟩
                        case measure=>simp [intOf];omega
                       ·have hc0':decide (cv<0)=false:=decide_eq_false hc0
                        have hc9:0≤cv:=by omega
                        have HE2:=Lib.hid ((if_neg hc0).symm.trans HF2.out);clear hc0;simp only [hc0',Bool.not_false];go_wp2
                        go_roundw
                        case rel=>exact⟨H+1,j,k,by go_num,rfl,by omega,by omega,by omega,by omega,hrq,hgq,HE2⟩
                        case measure=>simp [intOf];omega
                      ·have hij2:T=i:=by
                        have:=HF.out
                        have hje:j=i:=by omega
                        subst hje;cases k with
                        | zero=>exact this.symm
                        | succ k=>simp only [bs] at this;rw [if_neg (by omega)] at this;exact this.symm
                       subst hij2;clear HF hk hi hj;go_wp2_with (go_at_call 150;refine(HC3.out _ hro).mono ?_)
                       first|rintro e w8 rfl hr8 hh8|rintro e w8 ⟨rfl,hr8,hh8⟩
                       have hg8:=grown_trans hg hh8;clear hh8;go_wp2
                       go_end0
                       exact⟨rfl,hr8,hg8⟩
set_option maxHeartbeats 4000000 in
                       theorem smBB  (B g cap N a m b M T E:Nat) (rs r1 r2 R:List Row) (w:World) (hN:rs.length=N) (hl:N≤1000000) (ham:a<m) (hmb:m<b) (hbN:b≤N) (hM2:((a:Int)+b) / 2=(M:Int)) (_haM:a≤M) (hMb:M<b) (e1:((m:Int)-a==1)=false) (e2:((b:Int)-m==1)=false) (hE2:(M:Int)+m-T=(E:Int)) (HRO:Hid (RO w B g cap rs)) (q6:m≤M) (c1:m≤T) (c3:a<T) (c4:T<M) (c5:E≤M) (HT:Hid (bs (fun c=>!ltAt rs (M+m-1-c) c) b a m=T)) (HC2:Hid (RunC B g cap N 150 a T M rs R)):Calls Tryz.prog 150 #[.slice (some ⟨g,0,none⟩) N cap,.int .i64 a,.int .i64 m,.int .i64 b,.func (.func 143) #[] #[]] w fun e w'=>e=.returned (.tuple #[])∧RO w' B g cap R∧w.grownBy w' (some g):=by
                        have _hun:True:=(fun(_ _:List Row) {p:Prop} (_:p)=>trivial) r1 r2 c5;go_enter Tryz.func150,Tryz.ntmps150
                        go_wp2
                        go_loopw [20,21] (fun q s wr=>BsRel B g cap rs (fun c=>!ltAt rs (M+m-1-c) c) (a) (m) T w q s wr) (fun q s _=>(intOf s).toNat-(intOf q).toNat)
                        case atStart=>exact⟨a,m,b,by first|rfl|go_num|(simp;omega),by first|rfl|go_num|(simp;omega),by omega,by omega,by omega,by omega,HRO.out,grown_refl _ _,HT⟩
                        case round =>
                         obtain⟨i,j,k,rfl,rfl,hi,hij,hj,hk,hro,hg,HF⟩:=hrel;clear HT HRO;by_cases hlt:i<j
                         ·obtain⟨k,rfl⟩:∃k',k=k'+1:=⟨k-1,by omega⟩
                          obtain⟨H,hH⟩:∃H,(i+j) / 2=H:=⟨_,rfl⟩;have hH2:((i:Int)+j) / 2=(H:Int):=by omega
                          have hHb:i≤H∧H<j:=by omega
                          obtain⟨K,hK⟩:∃K,M+m-1-H=K:=⟨_,rfl⟩;have hK2:(M:Int)+m-1-H=(K:Int):=by omega
                          have hKN:K<N:=by omega
                          obtain⟨x,hx⟩:∃x,rs[K]?=some x:=⟨_,List.getElem?_eq_getElem (by omega)⟩;obtain⟨y,hy⟩:∃y,rs[H]?=some y:=⟨_,List.getElem?_eq_getElem (by omega)⟩;obtain⟨c1,c2⟩:=hro.at_ hx;obtain⟨c3,c4⟩:=hro.at_ hy;obtain⟨x1,x2⟩:=x;obtain⟨y1,y2⟩:=y;obtain⟨cv,hcv⟩:∃cv,cmpR (x1,x2) (y1,y2)=cv:=⟨_,rfl⟩;have HCV:Hid (∀w:World,Calls Tryz.prog 143 #[.agg #[.string ⟨(x1).toArray⟩,.string ⟨(x2).toArray⟩],.agg #[.string ⟨(y1).toArray⟩,.string ⟨(y2).toArray⟩]] w fun e w'=>e=.returned (.int .i64 cv)∧Below w.heap.size w w'):=Lib.hid (fun w=>by
                           rw [←hcv];exact cmpU_any (x1,x2) (y1,y2) w)
                          have d1:∀x:ExtOf wr,x.val.cell? ⟨g,(K)*2,none⟩=some (.string ⟨(x1).toArray⟩):=ExtOf.cell c1;have d2:∀x:ExtOf wr,x.val.cell? ⟨g,(K)*2+1,none⟩=some (.string ⟨(x2).toArray⟩):=ExtOf.cell c2;have d3:∀x:ExtOf wr,x.val.cell? ⟨g,(H)*2,none⟩=some (.string ⟨(y1).toArray⟩):=ExtOf.cell c3;have d4:∀x:ExtOf wr,x.val.cell? ⟨g,(H)*2+1,none⟩=some (.string ⟨(y2).toArray⟩):=ExtOf.cell c4;have HX:=Lib.hid hx;have HY:=Lib.hid hy;have HROJ:=Lib.hid hro;clear hx hy c1 c2 c3 c4;have HF2:Hid ((if cv<0 then bs (fun c=>!ltAt rs (M+m-1-c) c) k i H else bs (fun c=>!ltAt rs (M+m-1-c) c) k (H+1) j)=T):=Lib.hid (by
                           have hp:(!ltAt rs (M+m-1-H) H)=!decide (cv<0):=by rw [hK,ltAt_eq HX.out HY.out,hcv]
                           rw [←HF.out];simp only [bs,hlt,if_true,hH,hp];by_cases hc:cv<0<;>simp [hc])
                          clear hcv hH hK HF hro;go_wp2
                          refine wp_region_ext (by kernel_rfl) (by kernel_rfl) ?_;repeat (go_big_quiet_step ((go_at_call 143;exact ext_call (HCV.out _))))
                          refine wpQuiet_nil ?_;rintro _ ⟨xq,rfl⟩;have hrq:RO xq.val B g cap rs:=own_below HROJ.out xq.ext;have hgq:=grown_below hg xq.ext;clear d1 d2 d3 d4;by_cases hc0:cv<0
                          ·have hc0':decide (cv<0)=true:=decide_eq_true hc0
                           have HE2:=Lib.hid ((if_pos hc0).symm.trans HF2.out);simp only [hc0',Bool.not_true];go_wp2
                           go_roundw
                           case rel=>exact⟨i,H,k,rfl,rfl,by omega,by omega,by omega,by omega,hrq,hgq,HE2⟩
                           case measure=>simp [intOf];omega
                          ·have hc0':decide (cv<0)=false:=decide_eq_false hc0
                           have hc9:0≤cv:=by omega
                           have HE2:=Lib.hid ((if_neg hc0).symm.trans HF2.out);clear hc0;simp only [hc0',Bool.not_false];go_wp2
                           go_roundw
                           case rel=>exact⟨H+1,j,k,by go_num,rfl,by omega,by omega,by omega,by omega,hrq,hgq,HE2⟩
                           case measure=>simp [intOf];omega
                         ·have hij2:T=i:=by
                           have:=HF.out
                           have hje:j=i:=by omega
                           subst hje;cases k with
                           | zero=>exact this.symm
                           | succ k=>simp only [bs] at this;rw [if_neg (by omega)] at this;exact this.symm
                          subst hij2;clear HF hk hi hj;go_wp2_with (go_at_call 150;refine(HC2.out _ hro).mono ?_)
                          first|rintro e w7 rfl hr7 hh7|rintro e w7 ⟨rfl,hr7,hh7⟩
                          have hg7:=grown_trans hg hh7;clear hh7;go_wp2
                          go_end0
                          exact⟨rfl,hr7,hg7⟩
set_option maxHeartbeats 4000000 in
                          theorem smBC  (B g cap N a m b M T E:Nat) (rs r1 r2 R:List Row) (w:World) (hN:rs.length=N) (hl:N≤1000000) (ham:a<m) (hmb:m<b) (hbN:b≤N) (hM2:((a:Int)+b) / 2=(M:Int)) (_haM:a≤M) (hMb:M<b) (e1:((m:Int)-a==1)=false) (e2:((b:Int)-m==1)=false) (hE2:(M:Int)+m-T=(E:Int)) (HRO:Hid (RO w B g cap rs)) (q6:m≤M) (c1:m≤T) (c3:a<T) (c4:M≤T) (c5:E≤M) (hrR:Hid (rs=R)) (HT:Hid (bs (fun c=>!ltAt rs (M+m-1-c) c) b a m=T)) :Calls Tryz.prog 150 #[.slice (some ⟨g,0,none⟩) N cap,.int .i64 a,.int .i64 m,.int .i64 b,.func (.func 143) #[] #[]] w fun e w'=>e=.returned (.tuple #[])∧RO w' B g cap R∧w.grownBy w' (some g):=by
                           have _hun:True:=(fun(_ _:List Row) {p:Prop} (_:p)=>trivial) r1 r2 c5;go_enter Tryz.func150,Tryz.ntmps150
                           go_wp2
                           go_loopw [20,21] (fun q s wr=>BsRel B g cap rs (fun c=>!ltAt rs (M+m-1-c) c) (a) (m) T w q s wr) (fun q s _=>(intOf s).toNat-(intOf q).toNat)
                           case atStart=>exact⟨a,m,b,by first|rfl|go_num|(simp;omega),by first|rfl|go_num|(simp;omega),by omega,by omega,by omega,by omega,HRO.out,grown_refl _ _,HT⟩
                           case round =>
                            obtain⟨i,j,k,rfl,rfl,hi,hij,hj,hk,hro,hg,HF⟩:=hrel;clear HT HRO;by_cases hlt:i<j
                            ·obtain⟨k,rfl⟩:∃k',k=k'+1:=⟨k-1,by omega⟩
                             obtain⟨H,hH⟩:∃H,(i+j) / 2=H:=⟨_,rfl⟩;have hH2:((i:Int)+j) / 2=(H:Int):=by omega
                             have hHb:i≤H∧H<j:=by omega
                             obtain⟨K,hK⟩:∃K,M+m-1-H=K:=⟨_,rfl⟩;have hK2:(M:Int)+m-1-H=(K:Int):=by omega
                             have hKN:K<N:=by omega
                             obtain⟨x,hx⟩:∃x,rs[K]?=some x:=⟨_,List.getElem?_eq_getElem (by omega)⟩;obtain⟨y,hy⟩:∃y,rs[H]?=some y:=⟨_,List.getElem?_eq_getElem (by omega)⟩;obtain⟨c1,c2⟩:=hro.at_ hx;obtain⟨c3,c4⟩:=hro.at_ hy;obtain⟨x1,x2⟩:=x;obtain⟨y1,y2⟩:=y;obtain⟨cv,hcv⟩:∃cv,cmpR (x1,x2) (y1,y2)=cv:=⟨_,rfl⟩;have HCV:Hid (∀w:World,Calls Tryz.prog 143 #[.agg #[.string ⟨(x1).toArray⟩,.string ⟨(x2).toArray⟩],.agg #[.string ⟨(y1).toArray⟩,.string ⟨(y2).toArray⟩]] w fun e w'=>e=.returned (.int .i64 cv)∧Below w.heap.size w w'):=Lib.hid (fun w=>by
                              rw [←hcv];exact cmpU_any (x1,x2) (y1,y2) w)
                             have d1:∀x:ExtOf wr,x.val.cell? ⟨g,(K)*2,none⟩=some (.string ⟨(x1).toArray⟩):=ExtOf.cell c1;have d2:∀x:ExtOf wr,x.val.cell? ⟨g,(K)*2+1,none⟩=some (.string ⟨(x2).toArray⟩):=ExtOf.cell c2;have d3:∀x:ExtOf wr,x.val.cell? ⟨g,(H)*2,none⟩=some (.string ⟨(y1).toArray⟩):=ExtOf.cell c3;have d4:∀x:ExtOf wr,x.val.cell? ⟨g,(H)*2+1,none⟩=some (.string ⟨(y2).toArray⟩):=ExtOf.cell c4;have HX:=Lib.hid hx;have HY:=Lib.hid hy;have HROJ:=Lib.hid hro;clear hx hy c1 c2 c3 c4;have HF2:Hid ((if cv<0 then bs (fun c=>!ltAt rs (M+m-1-c) c) k i H else bs (fun c=>!ltAt rs (M+m-1-c) c) k (H+1) j)=T):=Lib.hid (by
                              have hp:(!ltAt rs (M+m-1-H) H)=!decide (cv<0):=by rw [hK,ltAt_eq HX.out HY.out,hcv]
                              rw [←HF.out];simp only [bs,hlt,if_true,hH,hp];by_cases hc:cv<0<;>simp [hc])
                             clear hcv hH hK HF hro;go_wp2
                             refine wp_region_ext (by kernel_rfl) (by kernel_rfl) ?_;repeat (go_big_quiet_step ((go_at_call 143;exact ext_call (HCV.out _))))
                             refine wpQuiet_nil ?_;rintro _ ⟨xq,rfl⟩;have hrq:RO xq.val B g cap rs:=own_below HROJ.out xq.ext;have hgq:=grown_below hg xq.ext;clear d1 d2 d3 d4;by_cases hc0:cv<0
                             ·have hc0':decide (cv<0)=true:=decide_eq_true hc0
                              have HE2:=Lib.hid ((if_pos hc0).symm.trans HF2.out);simp only [hc0',Bool.not_true];go_wp2
                              go_roundw
                              case rel=>exact⟨i,H,k,rfl,rfl,by omega,by omega,by omega,by omega,hrq,hgq,HE2⟩
                              case measure=>simp [intOf];omega
                             ·have hc0':decide (cv<0)=false:=decide_eq_false hc0
                              have hc9:0≤cv:=by omega
                              have HE2:=Lib.hid ((if_neg hc0).symm.trans HF2.out);clear hc0;simp only [hc0',Bool.not_false];go_wp2
                              go_roundw
                              case rel=>exact⟨H+1,j,k,by go_num,rfl,by omega,by omega,by omega,by omega,hrq,hgq,HE2⟩
                              case measure=>simp [intOf];omega
                            ·have hij2:T=i:=by
                              have:=HF.out
                              have hje:j=i:=by omega
                              subst hje;cases k with
                              | zero=>exact this.symm
                              | succ k=>simp only [bs] at this;rw [if_neg (by omega)] at this;exact this.symm
                             subst hij2;clear HF hk hi hj;go_wp2
                             go_end0
                             exact⟨rfl,(hrR.out▸hro),hg⟩
theorem symMerge_any (B g cap N:Nat) (hl:N≤1000000):∀f:Nat,SymC B g cap N f
 | 0=>by intro rs a m b az mz bz w _ _ _ h1 h2 h3;omega
 | f+1=>by
  rintro rs a m b az mz bz w rfl rfl rfl hf ham hmb hbN h hN;by_cases h1:m=a+1
  ·subst h1
   have:=symMerge_one B g cap N rs a b w h hN hmb hbN hl
   rw [symM_one];exact this
  by_cases h2:b=m+1
  ·subst h2
   have:=symMerge_last B g cap N rs a m w h hN (by omega) hbN hl
   rw [symM_last h1];exact this
  have IH:=symMerge_any B g cap N hl f;obtain⟨M,hM⟩:∃M,(a+b) / 2=M:=⟨_,rfl⟩;have hM2:((a:Int)+b) / 2=(M:Int):=by omega
  obtain⟨LO,hLO⟩:∃LO,sLo a m b=LO:=⟨_,rfl⟩;obtain⟨HI,hHI⟩:∃HI,sHi a m b=HI:=⟨_,rfl⟩;obtain⟨T,hT⟩:∃T,bs (fun c=>!ltAt rs (M+m-1-c) c) b LO HI=T:=⟨_,rfl⟩;have hlohi:a≤LO∧LO≤HI∧HI≤M∧HI≤m∧M+m≤LO+b∧((M<m∧LO=M+m-b∧HI=M)∨(m≤M∧LO=a∧HI=m)):=by
   unfold sLo at hLO;unfold sHi at hHI;rw [hM] at hLO hHI;by_cases hc:M<m
   ·rw [if_pos hc] at hLO hHI;omega
   ·rw [if_neg hc] at hLO hHI;omega
  have hbd:=bs_bd (fun c=>!ltAt rs (M+m-1-c) c) b LO HI hlohi.2.1;rw [hT] at hbd;have hTm:T≤M+m:=by omega
  obtain⟨E,hE⟩:∃E,M+m-T=E:=⟨_,rfl⟩;have hE2:(M:Int)+m-T=(E:Int):=by omega
  have hR:symM (f+1) rs a m b=symT f (if T<m∧m<E then rotL (E-T) rs m (m-T) (E-m) else rs) a T M E b:=by
   rw [symM_gen h1 h2,hM,hLO,hHI,hT,hE]
  rw [hR];have e1:((m:Int)-a==1)=false:=by rw [beq_eq_false_iff_ne];omega
  have e2:((b:Int)-m==1)=false:=by rw [beq_eq_false_iff_ne];omega
  have HRO:=Lib.hid h;have hT0:=hT;have HT:=Lib.hid hT;have ROT:T<m→m<E→RunC B g cap N 151 T m E rs (rotL (E-T) rs m (m-T) (E-m)):=fun c1 c2 wr hro=>rotate_eq _ wr rfl rfl rfl hro hN c1 c2 (by omega) hl
  have SYM:∀(l:List Row) (x y z:Nat),l.length=N→z-x≤f→x<y→y<z→z≤N→RunC B g cap N 150 x y z l (symM f l x y z) :=
   fun l x y z k1 k2 k3 k4 k5 wr hro=>IH l x y z x y z wr rfl rfl rfl k2 k3 k4 k5 hro k1
  have hrl:(rotL (E-T) rs m (m-T) (E-m)).length=N:=by rw [rotL_len];exact hN
  clear hR hT0 h hT;obtain⟨q1,q2,q3,q4,q5,q6⟩:=hlohi;rcases q6 with⟨q6,q7,q8⟩|⟨q6,q7,q8⟩
  ·subst q8
   have q7':(HI:Int)+m-b=(LO:Int):=by omega
   by_cases c4:T<HI
   ·rw [if_pos ⟨(by omega:T<m),(by omega:m<E)⟩]
    by_cases c3:a<T
    ·by_cases c6:E<b
     ·have hr:symT f (rotL (E-T) rs m (m-T) (E-m)) a T HI E b=symM f (symM f (rotL (E-T) rs m (m-T) (E-m)) a T HI) HI E b:=by
       unfold symT;rw [if_pos ⟨(by omega:HI<E),c6⟩,if_pos ⟨c3,c4⟩]
      rw [hr];exact smA11 LO B g cap N a m b HI T E rs _ _ _ w hN hl ham hmb hbN hM2 (by omega) (by omega) e1 e2 hE2 HRO q6 q7' (by omega) (by omega) (by omega) (by omega) (by omega) c3 c4 c6 HT (Lib.hid (ROT (by omega) (by omega))) (Lib.hid (SYM _ _ _ _ hrl (by omega) c3 c4 (by omega))) (Lib.hid (SYM _ _ _ _ (by rw [symM_len];exact hrl) (by omega) (by omega) c6 (by omega)))
     ·have hr:symT f (rotL (E-T) rs m (m-T) (E-m)) a T HI E b=symM f (rotL (E-T) rs m (m-T) (E-m)) a T HI:=by
       unfold symT;rw [if_neg (fun q=>c6 q.2),if_pos ⟨c3,c4⟩]
      rw [hr];exact smA10 LO B g cap N a m b HI T E rs _ [] _ w hN hl ham hmb hbN hM2 (by omega) (by omega) e1 e2 hE2 HRO q6 q7' (by omega) (by omega) (by omega) (by omega) (by omega) c3 c4 (by omega) HT (Lib.hid (ROT (by omega) (by omega))) (Lib.hid (SYM _ _ _ _ hrl (by omega) c3 c4 (by omega)))
    ·by_cases c6:E<b
     ·exfalso;omega
     ·have hr:symT f (rotL (E-T) rs m (m-T) (E-m)) a T HI E b=rotL (E-T) rs m (m-T) (E-m):=by
       unfold symT;rw [if_neg (fun q=>c6 q.2),if_neg (fun q=>c3 q.1)]
      rw [hr];exact smA00 LO B g cap N a m b HI T E rs [] [] _ w hN hl ham hmb hbN hM2 (by omega) (by omega) e1 e2 hE2 HRO q6 q7' (by omega) (by omega) (by omega) (by omega) (by omega) (by omega) (by omega) HT (Lib.hid (ROT (by omega) (by omega)))
   ·rw [if_neg (fun q=>absurd q.2 (by omega:¬m<E))]
    have hr:symT f rs a T HI E b=symM f rs HI E b:=by
     unfold symT;rw [if_pos ⟨(by omega:HI<E),(by omega:E<b)⟩,if_neg (fun q=>c4 q.2)]
    rw [hr];by_cases c3:a<T
    ·exact smAC LO B g cap N a m b HI T E rs [] [] _ w hN hl ham hmb hbN hM2 (by omega) (by omega) e1 e2 hE2 HRO q6 q7' (by omega) (by omega) (by omega) (by omega) (by omega) c3 (by omega) (by omega) HT (Lib.hid (SYM _ _ _ _ hN (by omega) (by omega) (by omega) (by omega)))
    ·exfalso;omega
  ·subst q8
   subst q7;by_cases c1:T<HI
   ·rw [if_pos ⟨c1,(by omega:HI<E)⟩]
    by_cases c3:LO<T
    ·by_cases c6:E<b
     ·have hr:symT f (rotL (E-T) rs HI (HI-T) (E-HI)) LO T M E b=symM f (symM f (rotL (E-T) rs HI (HI-T) (E-HI)) LO T M) M E b:=by
       unfold symT;rw [if_pos ⟨(by omega:M<E),c6⟩,if_pos ⟨c3,(by omega:T<M)⟩]
      rw [hr];exact smB11 B g cap N LO HI b M T E rs _ _ _ w hN hl ham hmb hbN hM2 (by omega) (by omega) e1 e2 hE2 HRO q6 c1 (by omega) (by omega) c3 (by omega) c6 HT (Lib.hid (ROT c1 (by omega))) (Lib.hid (SYM _ _ _ _ hrl (by omega) c3 (by omega) (by omega))) (Lib.hid (SYM _ _ _ _ (by rw [symM_len];exact hrl) (by omega) (by omega) c6 (by omega)))
     ·exfalso;omega
    ·by_cases c6:E<b
     ·have hr:symT f (rotL (E-T) rs HI (HI-T) (E-HI)) LO T M E b=symM f (rotL (E-T) rs HI (HI-T) (E-HI)) M E b:=by
       unfold symT;rw [if_pos ⟨(by omega:M<E),c6⟩,if_neg (fun q=>c3 q.1)]
      rw [hr];exact smB01 B g cap N LO HI b M T E rs _ [] _ w hN hl ham hmb hbN hM2 (by omega) (by omega) e1 e2 hE2 HRO q6 c1 (by omega) (by omega) (by omega) c6 HT (Lib.hid (ROT c1 (by omega))) (Lib.hid (SYM _ _ _ _ hrl (by omega) (by omega) c6 (by omega)))
     ·have hr:symT f (rotL (E-T) rs HI (HI-T) (E-HI)) LO T M E b=rotL (E-T) rs HI (HI-T) (E-HI):=by
       unfold symT;rw [if_neg (fun q=>c6 q.2),if_neg (fun q=>c3 q.1)]
      rw [hr];exact smB00 B g cap N LO HI b M T E rs [] [] _ w hN hl ham hmb hbN hM2 (by omega) (by omega) e1 e2 hE2 HRO q6 c1 (by omega) (by omega) (by omega) (by omega) HT (Lib.hid (ROT c1 (by omega)))
   ·rw [if_neg (fun q=>c1 q.1)]
    by_cases c4:T<M
    ·have hr:symT f rs LO T M E b=symM f rs LO T M:=by
      unfold symT;rw [if_neg (fun q=>absurd q.1 (by omega:¬M<E)),if_pos ⟨(by omega:LO<T),c4⟩]
     rw [hr];exact smBB B g cap N LO HI b M T E rs [] [] _ w hN hl ham hmb hbN hM2 (by omega) (by omega) e1 e2 hE2 HRO q6 (by omega) (by omega) c4 (by omega) HT (Lib.hid (SYM _ _ _ _ hN (by omega) (by omega) c4 (by omega)))
    ·have hr:symT f rs LO T M E b=rs:=by
      unfold symT;rw [if_neg (fun q=>absurd q.1 (by omega:¬M<E)),if_neg (fun q=>c4 q.2)]
     rw [hr];exact smBC B g cap N LO HI b M T E rs [] [] rs w hN hl ham hmb hbN hM2 (by omega) (by omega) e1 e2 hE2 HRO q6 (by omega) (by omega) (by omega) (by omega) (Lib.hid rfl) HT
end Go.Proofs.YtbgcjpefocdkkaaGreat
