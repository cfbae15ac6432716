/- walk of slices.symMergeCmpFunc: one element on a side -/
import Derived.Test.YtbgcjpefocdkkaaGreatSm1
import Derived.Test.YtbgcjpefocdkkaaGreatSm3
import Derived.Test.YtbgcjpefocdkkaaGreatSm2
set_option maxRecDepth 100000
namespace Go.Proofs.YtbgcjpefocdkkaaGreat
open Go.RowKit
def bs (p:Nat→Bool):Nat→Nat→Nat→Nat
 | 0,i,_=>i
 | k+1,i,j=>if i<j then(if p ((i+j) / 2)=true then bs p k ((i+j) / 2+1) j else bs p k i ((i+j) / 2)) else i
theorem bs_bd (p:Nat→Bool):∀(k i j:Nat),i≤j→i≤bs p k i j∧bs p k i j≤j
 | 0,i,j,h=>by simp [bs];exact h
 | k+1,i,j,h=>by
  simp only [bs];split
  ·split
   ·have:=bs_bd p k ((i+j) / 2+1) j (by omega);omega
   ·have:=bs_bd p k i ((i+j) / 2) (by omega);omega
  ·omega
def ltAt (rs:List Row) (x y:Nat):Bool:=match rs[x]?,rs[y]? with|some r,some s=>decide (cmpR r s<0)|_,_=>false
theorem ltAt_eq {rs:List Row} {x y:Nat} {r s:Row} (h1:rs[x]?=some r) (h2:rs[y]?=some s):ltAt rs x y=decide (cmpR r s<0):=by
 unfold ltAt;rw [h1,h2]
def upSw (rs:List Row) (a n:Nat):List Row:=(List.range' a n).foldl (fun l k=>swapL l k (k+1)) rs
def dnSw:Nat→List Row→Nat→List Row
 | 0,rs,_=>rs
 | n+1,rs,m=>dnSw n (swapL rs m (m-1)) (m-1)
theorem dnSw_len:∀(n:Nat) (rs:List Row) (m:Nat),(dnSw n rs m).length=rs.length
 | 0,_,_=>rfl
 | n+1,rs,m=>by simp only [dnSw];rw [dnSw_len n,swapL_len]
theorem upSw_len (rs:List Row) (a n:Nat):(upSw rs a n).length=rs.length:=by
 unfold upSw;have:∀(ks:List Nat) (rs:List Row),(ks.foldl (fun l k=>swapL l k (k+1)) rs).length=rs.length:=by
  intro ks;induction ks with
  | nil=>intro rs;rfl
  | cons k ks ih=>intro rs;rw [List.foldl_cons,ih,swapL_len]
 exact this _ _
def BsRel (B g cap:Nat) (rs:List Row) (p:Nat→Bool) (lo hi T:Nat) (w:World) (q s:Value) (wr:World):Prop :=
 ∃(i j k:Nat),q=.int .i64 i∧s=.int .i64 j∧lo≤i∧i≤j∧j≤hi∧j-i≤k∧RO wr B g cap rs∧w.grownBy wr (some g)∧Hid (bs p k i j=T)
def UpRel (B g cap N i:Nat) (R:List Row) (w:World) (q:Value) (wr:World):Prop :=
 ∃(k:Nat) (rs:List Row),q=.int .i64 k∧k+1≤i∧RO wr B g cap rs∧w.grownBy wr (some g)∧rs.length=N∧Hid (upSw rs k (i-1-k)=R)
set_option maxHeartbeats 1000000 in
theorem symMerge_one (B g cap N:Nat) (rs:List Row) (a b:Nat) (w:World) (h:RO w B g cap rs) (hN:rs.length=N) (hab:a+1<b) (hbn:b≤N) (hl:N≤1000000) :
  Calls Tryz.prog 150 #[.slice (some ⟨g,0,none⟩) N cap,.int .i64 a,.int .i64 ((a:Int)+1),.int .i64 b,.func (.func 143) #[] #[]] w fun e w'=>e=.returned (.tuple #[])∧RO w' B g cap (upSw rs a (bs (fun h=>ltAt rs h a) b (a+1) b-1-a))∧w.grownBy w' (some g):=by
 obtain⟨T,hT⟩:∃T,bs (fun h=>ltAt rs h a) b (a+1) b=T:=⟨_,rfl⟩;have hbd:=bs_bd (fun h=>ltAt rs h a) b (a+1) b (by omega);rw [hT] at hbd ⊢;have HT:=Lib.hid hT;have HRO:=Lib.hid h;have e1:((a:Int)+1-a)=1:=by omega
 obtain⟨R,hR⟩:∃R,upSw rs a (T-1-a)=R:=⟨_,rfl⟩;have HR:=Lib.hid hR;rw [hR];clear hT h hR;go_enter Tryz.func150,Tryz.ntmps150
 go_wp2
 go_loopw [10,11] (fun q s wr=>BsRel B g cap rs (fun h=>ltAt rs h a) (a+1) b T w q s wr) (fun q s _=>(intOf s).toNat-(intOf q).toNat)
 case atStart=>exact⟨a+1,b,b,by go_num,rfl,by omega,by omega,by omega,by omega,HRO.out,grown_refl _ _,HT⟩
 case round =>
  obtain⟨i,j,k,rfl,rfl,hi,hij,hj,hk,hro,hg,HF⟩:=hrel;clear HT HRO;by_cases hlt:i<j
  ·obtain⟨k,rfl⟩:∃k',k=k'+1:=⟨k-1,by omega⟩
   obtain⟨H,hH⟩:∃H,(i+j) / 2=H:=⟨_,rfl⟩;have hH2:((i:Int)+j) / 2=(H:Int):=by omega
   have hHb:i≤H∧H<j:=by omega
   obtain⟨x,hx⟩:∃x,rs[H]?=some x:=⟨_,List.getElem?_eq_getElem (by omega)⟩;obtain⟨y,hy⟩:∃y,rs[a]?=some y:=⟨_,List.getElem?_eq_getElem (by omega)⟩;obtain⟨c1,c2⟩:=hro.at_ hx;obtain⟨c3,c4⟩:=hro.at_ hy;obtain⟨x1,x2⟩:=x;obtain⟨y1,y2⟩:=y;obtain⟨cv,hcv⟩:∃cv,cmpR (x1,x2) (y1,y2)=cv:=⟨_,rfl⟩;have HCV:Hid (∀w:World,Calls Tryz.prog 143 #[.agg #[.string ⟨(x1).toArray⟩,.string ⟨(x2).toArray⟩],.agg #[.string ⟨(y1).toArray⟩,.string ⟨(y2).toArray⟩]] w fun e w'=>e=.returned (.int .i64 cv)∧Below w.heap.size w w'):=Lib.hid (fun w=>by
    rw [←hcv];exact cmpU_any (x1,x2) (y1,y2) w)
   have d1:∀x:ExtOf wr,x.val.cell? ⟨g,(H)*2,none⟩=some (.string ⟨(x1).toArray⟩):=ExtOf.cell c1;have d2:∀x:ExtOf wr,x.val.cell? ⟨g,(H)*2+1,none⟩=some (.string ⟨(x2).toArray⟩):=ExtOf.cell c2;have d3:∀x:ExtOf wr,x.val.cell? ⟨g,(a)*2,none⟩=some (.string ⟨(y1).toArray⟩):=ExtOf.cell c3;have d4:∀x:ExtOf wr,x.val.cell? ⟨g,(a)*2+1,none⟩=some (.string ⟨(y2).toArray⟩):=ExtOf.cell c4;have HX:=Lib.hid hx;have HY:=Lib.hid hy;have HROJ:=Lib.hid hro;clear hx hy c1 c2 c3 c4;have HF2:Hid ((if cv<0 then bs (fun h=>ltAt rs h a) k (H+1) j else bs (fun h=>ltAt rs h a) k i H)=T):=Lib.hid (by
    have hp:ltAt rs H a=decide (cv<0):=by rw [ltAt_eq HX.out HY.out,hcv]
    rw [←HF.out];simp only [bs,hlt,if_true,hH,hp,decide_eq_true_eq])
   clear hcv hH HF hro;go_wp2
   refine wp_region_ext (by kernel_rfl) (by kernel_rfl) ?_;repeat (go_big_quiet_step ((go_at_call 143;exact ext_call (HCV.out _))))
   refine wpQuiet_nil ?_;rintro _ ⟨xq,rfl⟩;have hrq:RO xq.val B g cap rs:=own_below HROJ.out xq.ext;have hgq:=grown_below hg xq.ext;clear d1 d2 d3 d4;by_cases hc0:cv<0
   ·have hc0':decide (cv<0)=true:=decide_eq_true hc0
    have HE2:=Lib.hid ((if_pos hc0).symm.trans HF2.out);go_wp2
    go_roundw
    case rel=>exact⟨H+1,j,k,by go_num,rfl,by omega,by omega,by omega,by omega,hrq,hgq,HE2⟩
    case measure=>simp [intOf];omega
   ·have hc0':decide (cv<0)=false:=decide_eq_false hc0
    have hc9:0≤cv:=by omega
    have HE2:=Lib.hid ((if_neg hc0).symm.trans HF2.out);clear hc0;go_wp2
    go_roundw
    case rel=>exact⟨i,H,k,rfl,rfl,by omega,by omega,by omega,by omega,hrq,hgq,HE2⟩
    case measure=>simp [intOf];omega
  ·have hij2:i=T:=by
    have:=HF.out
    have hje:j=i:=by omega
    subst hje;cases k with
    | zero=>exact this
    | succ k=>simp only [bs] at this;rw [if_neg (by omega)] at this;exact this
   subst hij2;have HRO:=Lib.hid hro;clear HF hro hk;obtain⟨wo,rfl⟩:∃wo:World,wo=wr:=⟨_,rfl⟩;go_wp2
   go_loopw [13] (fun q wk=>UpRel B g cap N i R wo q wk) (fun q _=>i-(intOf q).toNat)
   case atStart=>exact⟨a,rs,rfl,by omega,HRO.out,grown_refl _ _,hN,HR⟩
   case round =>
    obtain⟨m,l,rfl,hmi,hrol,hgl,hlN,HG⟩:=hrel;clear HR HRO;by_cases hm:m+1<i
    ·obtain⟨x,hx⟩:∃x,l[m]?=some x:=⟨_,List.getElem?_eq_getElem (by omega)⟩
     obtain⟨y,hy⟩:∃y,l[m+1]?=some y:=⟨_,List.getElem?_eq_getElem (by omega)⟩;have HG2:Hid (upSw (swapL l m (m+1)) (m+1) (i-1-(m+1))=R):=Lib.hid (by
      rw [←HG.out,show i-1-m=(i-1-(m+1))+1 by omega];simp only [upSw];rw [List.range'_succ,List.foldl_cons])
     clear HG;obtain⟨c1,c2⟩:=(hrol).at_ hx;obtain⟨c3,c4⟩:=(hrol).at_ hy;have f:=fun k=>(hrol).free k
     have hro2:=(hrol).set y (i:=m) (by omega);obtain⟨z,hz⟩:∃z,(l.set m y)[(m+1)]?=some z:=⟨_,List.getElem?_eq_getElem (by simp;omega)⟩;obtain⟨c5,c6⟩:=hro2.at_ hz;have f2:=fun k=>hro2.free k
     have HSW:=Lib.hid ((hrol).swap hx hy);have HGS:=Lib.hid (grown_drew (grown_set (grown_set (grown_set (grown_set hgl ((m)*2) (.string ⟨(y.1).toArray⟩)) ((m)*2+1) (.string ⟨(y.2).toArray⟩)) (((m+1))*2) (.string ⟨(x.1).toArray⟩)) (((m+1))*2+1) (.string ⟨(x.2).toArray⟩)));clear hx hy hz hro2 hrol hgl;obtain⟨x1,x2⟩:=x;obtain⟨y1,y2⟩:=y;go_wp2
     go_region
     go_wp2
     go_roundw
     case rel=>exact⟨m+1,swapL l m (m+1),by go_num,by omega,HSW.out,HGS.out,by rw [swapL_len];exact hlN,HG2⟩
     case measure=>simp [intOf];omega
    ·have HE:Hid (l=R):=Lib.hid (by rw [←HG.out,show i-1-m=0 by omega];rfl)
     clear HG;go_wp2
     refine bodyPost_ret (v:=.tuple #[]) (results_none rfl _ _ _) rfl ?_;exact⟨rfl,by rw [←HE.out];exact hrol,grown_trans hg hgl⟩
end Go.Proofs.YtbgcjpefocdkkaaGreat
set_option maxRecDepth 100000
namespace Go.Proofs.YtbgcjpefocdkkaaGreat
open Go.RowKit
def DnRel (B g cap N i hi:Nat) (R:List Row) (w:World) (q:Value) (wr:World):Prop :=
 ∃(k:Nat) (rs:List Row),q=.int .i64 k∧i≤k∧k≤hi∧RO wr B g cap rs∧w.grownBy wr (some g)∧rs.length=N∧Hid (dnSw (k-i) rs k=R)
set_option maxHeartbeats 1000000 in
theorem symMerge_last (B g cap N:Nat) (rs:List Row) (a m:Nat) (w:World) (h:RO w B g cap rs) (hN:rs.length=N) (ham:a+1<m) (hbn:m+1≤N) (hl:N≤1000000) :
  Calls Tryz.prog 150 #[.slice (some ⟨g,0,none⟩) N cap,.int .i64 a,.int .i64 m,.int .i64 ((m:Int)+1),.func (.func 143) #[] #[]] w fun e w'=>e=.returned (.tuple #[])∧RO w' B g cap (dnSw (m-bs (fun h=>!ltAt rs m h) m a m) rs m)∧w.grownBy w' (some g):=by
 obtain⟨T,hT⟩:∃T,bs (fun h=>!ltAt rs m h) m a m=T:=⟨_,rfl⟩;have hbd:=bs_bd (fun h=>!ltAt rs m h) m a m (by omega);rw [hT] at hbd ⊢;have HT:=Lib.hid hT;have HRO:=Lib.hid h;have e1:((m:Int)-a==1)=false:=by rw [beq_eq_false_iff_ne];omega
 have e2:((m:Int)+1-m)=1:=by omega
 obtain⟨R,hR⟩:∃R,dnSw (m-T) rs m=R:=⟨_,rfl⟩;have HR:=Lib.hid hR;rw [hR];clear hT h hR;go_enter Tryz.func150,Tryz.ntmps150
 go_wp2
 go_loopw [14,15] (fun q s wr=>BsRel B g cap rs (fun h=>!ltAt rs m h) a m T w q s wr) (fun q s _=>(intOf s).toNat-(intOf q).toNat)
 case atStart=>exact⟨a,m,m,rfl,rfl,by omega,by omega,by omega,by omega,HRO.out,grown_refl _ _,HT⟩
 case round =>
  obtain⟨i,j,k,rfl,rfl,hi,hij,hj,hk,hro,hg,HF⟩:=hrel;clear HT HRO;by_cases hlt:i<j
  ·obtain⟨k,rfl⟩:∃k',k=k'+1:=⟨k-1,by omega⟩
   obtain⟨H,hH⟩:∃H,(i+j) / 2=H:=⟨_,rfl⟩;have hH2:((i:Int)+j) / 2=(H:Int):=by omega
   have hHb:i≤H∧H<j:=by omega
   obtain⟨x,hx⟩:∃x,rs[m]?=some x:=⟨_,List.getElem?_eq_getElem (by omega)⟩;obtain⟨y,hy⟩:∃y,rs[H]?=some y:=⟨_,List.getElem?_eq_getElem (by omega)⟩;obtain⟨c1,c2⟩:=hro.at_ hx;obtain⟨c3,c4⟩:=hro.at_ hy;obtain⟨x1,x2⟩:=x;obtain⟨y1,y2⟩:=y;obtain⟨cv,hcv⟩:∃cv,cmpR (x1,x2) (y1,y2)=cv:=⟨_,rfl⟩;have HCV:Hid (∀w:World,Calls Tryz.prog 143 #[.agg #[.string ⟨(x1).toArray⟩,.string ⟨(x2).toArray⟩],.agg #[.string ⟨(y1).toArray⟩,.string ⟨(y2).toArray⟩]] w fun e w'=>e=.returned (.int .i64 cv)∧Below w.heap.size w w'):=Lib.hid (fun w=>by
    rw [←hcv];exact cmpU_any (x1,x2) (y1,y2) w)
   have d1:∀x:ExtOf wr,x.val.cell? ⟨g,(m)*2,none⟩=some (.string ⟨(x1).toArray⟩):=ExtOf.cell c1;have d2:∀x:ExtOf wr,x.val.cell? ⟨g,(m)*2+1,none⟩=some (.string ⟨(x2).toArray⟩):=ExtOf.cell c2;have d3:∀x:ExtOf wr,x.val.cell? ⟨g,(H)*2,none⟩=some (.string ⟨(y1).toArray⟩):=ExtOf.cell c3;have d4:∀x:ExtOf wr,x.val.cell? ⟨g,(H)*2+1,none⟩=some (.string ⟨(y2).toArray⟩):=ExtOf.cell c4;have HX:=Lib.hid hx;have HY:=Lib.hid hy;have HROJ:=Lib.hid hro;clear hx hy c1 c2 c3 c4;have HF2:Hid ((if cv<0 then bs (fun h=>!ltAt rs m h) k i H else bs (fun h=>!ltAt rs m h) k (H+1) j)=T):=Lib.hid (by
    have hp:(!ltAt rs m H)=!decide (cv<0):=by rw [ltAt_eq HX.out HY.out,hcv]
    rw [←HF.out];simp only [bs,hlt,if_true,hH,hp];by_cases hc:cv<0<;>simp [hc])
   clear hcv hH HF hro;go_wp2
   refine wp_region_ext (by kernel_rfl) (by kernel_rfl) ?_;repeat (go_big_quiet_step ((go_at_call 143;exact ext_call (HCV.out _))))
   refine wpQuiet_nil ?_;rintro _ ⟨xq,rfl⟩;have hrq:RO xq.val B g cap rs:=own_below HROJ.out xq.ext;have hgq:=grown_below hg xq.ext;clear d1 d2 d3 d4;by_cases hc0:cv<0
   ·have hc0':decide (cv<0)=true:=decide_eq_true hc0
    have HE2:=Lib.hid ((if_pos hc0).symm.trans HF2.out);simp only [hc0',Bool.not_true];go_wp2
    go_roundw
    case rel=>exact⟨i,H,k,rfl,rfl,by omega,by omega,by omega,by omega,hrq,hgq,HE2⟩
    case measure=>simp [intOf];omega
   ·have hc0':decide (cv<0)=false:=decide_eq_false hc0
    have hc9:0≤cv:=by omega
    have HE2:=Lib.hid ((if_neg hc0).symm.trans HF2.out);clear hc0;simp only [hc0',Bool.not_false];go_wp2
    go_roundw
    case rel=>exact⟨H+1,j,k,by go_num,rfl,by omega,by omega,by omega,by omega,hrq,hgq,HE2⟩
    case measure=>simp [intOf];omega
  ·have hij2:i=T:=by
    have:=HF.out
    have hje:j=i:=by omega
    subst hje;cases k with
    | zero=>exact this
    | succ k=>simp only [bs] at this;rw [if_neg (by omega)] at this;exact this
   subst hij2;have HRO:=Lib.hid hro;clear HF hro hk;obtain⟨wo,rfl⟩:∃wo:World,wo=wr:=⟨_,rfl⟩;go_wp2
   go_loopw [17] (fun q wk=>DnRel B g cap N i m R wo q wk) (fun q _=>(intOf q).toNat)
   case atStart=>exact⟨m,rs,rfl,by omega,by omega,HRO.out,grown_refl _ _,hN,HR⟩
   case round =>
    obtain⟨d,l,rfl,hid,hdm,hrol,hgl,hlN,HG⟩:=hrel;clear HR HRO;by_cases hm:i<d
    ·obtain⟨d,rfl⟩:∃d',d=d'+1:=⟨d-1,by omega⟩
     obtain⟨x,hx⟩:∃x,l[d+1]?=some x:=⟨_,List.getElem?_eq_getElem (by omega)⟩;obtain⟨y,hy⟩:∃y,l[d]?=some y:=⟨_,List.getElem?_eq_getElem (by omega)⟩;have HG2:Hid (dnSw (d-i) (swapL l (d+1) d) d=R):=Lib.hid (by
      rw [←HG.out,show d+1-i=(d-i)+1 by omega];simp only [dnSw];rw [Nat.add_sub_cancel])
     clear HG;obtain⟨c1,c2⟩:=(hrol).at_ hx;obtain⟨c3,c4⟩:=(hrol).at_ hy;have f:=fun k=>(hrol).free k
     have hro2:=(hrol).set y (i:=(d+1)) (by omega);obtain⟨z,hz⟩:∃z,(l.set (d+1) y)[d]?=some z:=⟨_,List.getElem?_eq_getElem (by simp;omega)⟩;obtain⟨c5,c6⟩:=hro2.at_ hz;have f2:=fun k=>hro2.free k
     have HSW:=Lib.hid ((hrol).swap hx hy);have HGS:=Lib.hid (grown_drew (grown_set (grown_set (grown_set (grown_set hgl (((d+1))*2) (.string ⟨(y.1).toArray⟩)) (((d+1))*2+1) (.string ⟨(y.2).toArray⟩)) ((d)*2) (.string ⟨(x.1).toArray⟩)) ((d)*2+1) (.string ⟨(x.2).toArray⟩)));clear hx hy hz hro2 hrol hgl;obtain⟨x1,x2⟩:=x;obtain⟨y1,y2⟩:=y;have ed:(d:Int)+1-1=d:=by omega
     go_wp2
     clear ed;go_region
     go_wp2
     go_roundw
     case rel=>exact⟨d,swapL l (d+1) d,by go_num,by omega,by omega,HSW.out,HGS.out,by rw [swapL_len];exact hlN,HG2⟩
     case measure=>simp [intOf]
    ·have HE:Hid (l=R):=Lib.hid (by rw [←HG.out,show d-i=0 by omega];rfl)
     clear HG;go_wp2
     refine bodyPost_ret (v:=.tuple #[]) (results_none rfl _ _ _) rfl ?_;exact⟨rfl,by rw [←HE.out];exact hrol,grown_trans hg hgl⟩
end Go.Proofs.YtbgcjpefocdkkaaGreat
set_option maxRecDepth 100000
namespace Go.Proofs.YtbgcjpefocdkkaaGreat
theorem rotL_len:∀(k:Nat) (rs:List Row) (m i j:Nat),(rotL k rs m i j).length=rs.length
 | 0,_,_,_,_=>rfl
 | k+1,rs,m,i,j=>by
  simp only [rotL];split
  ·rw [swapN_len]
  ·split
   ·rw [rotL_len k,swapN_len]
   ·rw [rotL_len k,swapN_len]
def sLo (a m b:Nat):Nat:=if (a+b) / 2<m then(a+b) / 2+m-b else a
def sHi (a m b:Nat):Nat:=if (a+b) / 2<m then(a+b) / 2 else m
def symM:Nat→List Row→Nat→Nat→Nat→List Row
 | 0,rs,_,_,_=>rs
 | f+1,rs,a,m,b =>
  if m=a+1 then upSw rs a (bs (fun h=>ltAt rs h a) b m b-1-a)
  else if b=m+1 then dnSw (m-bs (fun h=>!ltAt rs m h) m a m) rs m
  else
   let M:=(a+b) / 2
   let s:=bs (fun c=>!ltAt rs (M+m-1-c) c) b (sLo a m b) (sHi a m b)
   let e:=M+m-s
   let r1:=if s<m∧m<e then rotL (e-s) rs m (m-s) (e-m) else rs
   let r2:=if a<s∧s<M then symM f r1 a s M else r1
   if M<e∧e<b then symM f r2 M e b else r2
theorem symM_len:∀(f:Nat) (rs:List Row) (a m b:Nat),(symM f rs a m b).length=rs.length
 | 0,_,_,_,_=>rfl
 | f+1,rs,a,m,b=>by
  simp only [symM];have ih:=symM_len f
  (repeat' split)<;>simp only [ih,rotL_len,upSw_len,dnSw_len]
def symT (f:Nat) (r1:List Row) (a s M e b:Nat):List Row :=
 if M<e∧e<b then symM f (if a<s∧s<M then symM f r1 a s M else r1) M e b else(if a<s∧s<M then symM f r1 a s M else r1)
theorem symM_one (f:Nat) (rs:List Row) (a b:Nat):symM (f+1) rs a (a+1) b=upSw rs a (bs (fun h=>ltAt rs h a) b (a+1) b-1-a):=by
 rw [symM];exact if_pos rfl
theorem symM_last {f:Nat} {rs:List Row} {a m:Nat} (h:¬m=a+1):symM (f+1) rs a m (m+1)=dnSw (m-bs (fun h=>!ltAt rs m h) m a m) rs m:=by
 rw [symM];exact(if_neg h).trans (if_pos rfl)
theorem symM_gen {f:Nat} {rs:List Row} {a m b:Nat} (h1:¬m=a+1) (h2:¬b=m+1) :
  symM (f+1) rs a m b=symT f (if bs (fun c=>!ltAt rs ((a+b) / 2+m-1-c) c) b (sLo a m b) (sHi a m b)<m∧m<(a+b) / 2+m-bs (fun c=>!ltAt rs ((a+b) / 2+m-1-c) c) b (sLo a m b) (sHi a m b) then
   rotL ((a+b) / 2+m-bs (fun c=>!ltAt rs ((a+b) / 2+m-1-c) c) b (sLo a m b) (sHi a m b)-bs (fun c=>!ltAt rs ((a+b) / 2+m-1-c) c) b (sLo a m b) (sHi a m b)) rs m (m-bs (fun c=>!ltAt rs ((a+b) / 2+m-1-c) c) b (sLo a m b) (sHi a m b)) ((a+b) / 2+m-bs (fun c=>!ltAt rs ((a+b) / 2+m-1-c) c) b (sLo a m b) (sHi a m b)-m) else rs)
   a (bs (fun c=>!ltAt rs ((a+b) / 2+m-1-c) c) b (sLo a m b) (sHi a m b)) ((a+b) / 2) ((a+b) / 2+m-bs (fun c=>!ltAt rs ((a+b) / 2+m-1-c) c) b (sLo a m b) (sHi a m b)) b:=by
 rw [symM];exact(if_neg h1).trans (if_neg h2)
end Go.Proofs.YtbgcjpefocdkkaaGreat
set_option maxRecDepth 100000
namespace Go.Proofs.YtbgcjpefocdkkaaGreat
def stA:Nat→List Row→Nat→Nat→List Row
 | 0,rs,_,_=>rs
 | k+1,rs,a,n=>if a+20≤n then stA k (insOut a (a+20-(a+1)) (a+1) rs) (a+20) n else insOut a (n-(a+1)) (a+1) rs
def stB:Nat→List Row→Nat→Nat→Nat→List Row
 | 0,rs,_,_,_=>rs
 | k+1,rs,a,s,n=>if a+2*s≤n then stB k (symM (2*s) rs a (a+s) (a+2*s)) (a+2*s) s n else if a+s<n then symM (n-a) rs a (a+s) n else rs
def stC:Nat→List Row→Nat→Nat→List Row
 | 0,rs,_,_=>rs
 | k+1,rs,s,n=>if s<n then stC k (stB (n+1) rs 0 s n) (2*s) n else rs
def stL (rs:List Row):List Row:=stC (rs.length+1) (stA (rs.length+1) rs 0 rs.length) 20 rs.length
theorem stA_len:∀(k:Nat) (rs:List Row) (a n:Nat),(stA k rs a n).length=rs.length
 | 0,_,_,_=>rfl
 | k+1,rs,a,n=>by
  simp only [stA];split
  ·rw [stA_len k,insOut_len]
  ·rw [insOut_len]
theorem stB_len:∀(k:Nat) (rs:List Row) (a s n:Nat),(stB k rs a s n).length=rs.length
 | 0,_,_,_,_=>rfl
 | k+1,rs,a,s,n=>by
  simp only [stB];split
  ·rw [stB_len k,symM_len]
  ·split
   ·rw [symM_len]
   ·rfl
theorem stC_len:∀(k:Nat) (rs:List Row) (s n:Nat),(stC k rs s n).length=rs.length
 | 0,_,_,_=>rfl
 | k+1,rs,s,n=>by
  simp only [stC];split
  ·rw [stC_len k,stB_len]
  ·rfl
theorem snoc_cases (A:List Row):A=[]∨∃B y,A=B++[y]:=by
 rcases List.eq_nil_or_concat A with h|⟨B,y,h⟩
 ·exact .inl h
 ·exact .inr ⟨B,y,by simpa using h⟩
end Go.Proofs.YtbgcjpefocdkkaaGreat
set_option maxRecDepth 100000
namespace Go.Proofs.YtbgcjpefocdkkaaGreat
def mxS (a b:Str):Str:=if Op.bytesLess a b=true then b else a
def mrgS (out:List Row) (r:Row):List Row:=match out.getLast? with
 | none=>[r]
 | some q=>if leS r.1 q.2=true then out.dropLast++[(q.1,mxS q.2 r.2)] else out++[r]
def mrgL (ss:List Row):List Row:=ss.foldl mrgS []
def filR (rs:List Row):List Row:=rs.filter rowB
def unionM (rs:List Row):List Row:=mrgL (stL (filR rs))
theorem mrgS_nil (r:Row):mrgS [] r=[r]:=rfl
theorem mrgS_le {B:List Row} {q r:Row} (h:leS r.1 q.2=true):mrgS (B++[q]) r=B++[(q.1,mxS q.2 r.2)]:=by
 unfold mrgS;rw [List.getLast?_concat];simp [h]
theorem mrgS_gt {B:List Row} {q r:Row} (h:leS r.1 q.2=false):mrgS (B++[q]) r=B++[q]++[r]:=by
 unfold mrgS;rw [List.getLast?_concat];simp [h]
theorem mrgL_take {ss:List Row} {i:Nat} {r:Row} (h:ss[i]?=some r):mrgL (ss.take (i+1))=mrgS (mrgL (ss.take i)) r:=by
 unfold mrgL;rw [List.take_add_one,h,List.foldl_append];rfl
theorem mrgS_len (out:List Row) (r:Row):(mrgS out r).length≤out.length+1:=by
 unfold mrgS;split
 ·simp
 ·rename_i q hq
  have:out≠[]:=by rintro rfl;simp at hq
  have:=List.length_pos_iff.2 this
  split<;>simp<;>omega
theorem mrgL_len (ss:List Row):(mrgL ss).length≤ss.length:=by
 have key:∀(l out:List Row),(l.foldl mrgS out).length≤out.length+l.length:=by
  intro l;induction l with
  | nil=>intro out;simp
  | cons r l ih=>intro out;have h1:=ih (mrgS out r);have h2:=mrgS_len out r;simp only [List.foldl_cons,List.length_cons];omega
 simpa [mrgL] using key ss []
theorem filR_take {rs:List Row} {i:Nat} {r:Row} (h:rs[i]?=some r):filR (rs.take (i+1))=filR (rs.take i)++(if rowB r=true then [r] else []):=by
 unfold filR;rw [List.take_add_one,h,List.filter_append];cases hr:rowB r<;>simp [hr]
theorem filR_len (rs:List Row):(filR rs).length≤rs.length:=List.length_filter_le _ _
theorem stL_len (rs:List Row):(stL rs).length=rs.length:=by unfold stL;rw [stC_len,stA_len]
end Go.Proofs.YtbgcjpefocdkkaaGreat
set_option maxRecDepth 100000
namespace Go.Proofs.YtbgcjpefocdkkaaGreat
open Go.RowKit
theorem rcells_snoc (l:List Row) (r:Row):rcells (l++[r])=rcells l++[.string ⟨(r.1).toArray⟩,.string ⟨(r.2).toArray⟩]:=by simp [rcells]
def U1Rel (rs:List Row) (w:World) (v q:Value) (wr:World):Prop :=
 ∃i:Nat,i≤rs.length∧q=.int .i64 i∧Below w.heap.size w wr∧wr.ownsRow w.heap.size 103 2 v (filR (rs.take i)).length (rcells (filR (rs.take i)))
def U2Rel (ss:List Row) (a:Option Addr) (w:World) (v q:Value) (wr:World):Prop :=
 ∃i:Nat,i≤ss.length∧q=.int .i64 i∧Below w.heap.size w wr∧wr.ownsRow w.heap.size 103 2 v (mrgL (ss.take i)).length (rcells (mrgL (ss.take i)))∧SlS wr (fun b=>v.ownBlock≠some b) a 2 ss.length (rcells ss)
theorem run_max_S {P:Program} (w:World) (ts:Array TypeId) (t:TypeId) (x y:Str):(Builtin.max_ ts t #[.string ⟨(x).toArray⟩,.string ⟨(y).toArray⟩]).run P w=.ok (.string ⟨(mxS x y).toArray⟩) w:=by
 unfold mxS;cases h:Op.bytesLess x y<;>simp [Builtin.max_,Builtin.max2,Op.stringOp,asBool,h]
theorem src_app {w w':World} {v v':Value} {a:Option Addr} {sz n:Nat} {cs:List Value} (h:SlS w (fun b=>v.ownBlock≠some b) a sz n cs) (hg:w.grownBy w' v.ownBlock) (hm:Moved w v v') :
  SlS w' (fun b=>v'.ownBlock≠some b) a sz n cs:=by
 have h1:SlS w (fun b=>v.ownBlock≠some b∧b<w.heap.size) a sz n cs:=h.mono fun b h1 h2=>⟨h1,h2⟩
 have h2:=h1.keep (w':=w') ⟨hg.size,fun b hb hlt=>hg.block b hlt (by first|exact hb.1|exact fun e=>hb.1 e.symm)⟩;refine h2.mono fun b hb _=>?_
 rcases hm with e|e
 ·rw [e];exact hb.1
 ·intro h3;have:=e b h3;omega
theorem own_setTo {w:World} {B g cap:Nat} {L:List Row} {q:Row} {n:Nat} (h:w.ownsRow B 103 2 (.slice (some ⟨g,0,none⟩) n cap) n (rcells (L++[q]))) (t:Str) :
  (w.setCell ⟨g,L.length*2+1,none⟩ (.string ⟨(t).toArray⟩)).ownsRow B 103 2 (.slice (some ⟨g,0,none⟩) n cap) n (rcells (L++[(q.1,t)])):=by
 have h1:=(h.stored (L.length*2+1) (.string ⟨(t).toArray⟩)).1;have e:(rcells (L++[q])).set (L.length*2+1) (.string ⟨(t).toArray⟩)=rcells (L++[(q.1,t)]):=by
  rw [rcells_snoc,rcells_snoc,List.set_append_right _ _ (by rw [rcells_length];omega),rcells_length,show L.length*2+1-L.length*2=1 by omega];rfl
 rw [e] at h1;exact h1
theorem own_at {w:World} {B g cap:Nat} {L:List Row} {q:Row} {n:Nat} (h:w.ownsRow B 103 2 (.slice (some ⟨g,0,none⟩) n cap) n (rcells (L++[q]))) :
  w.cell? ⟨g,L.length*2,none⟩=some (.string ⟨(q.1).toArray⟩)∧w.cell? ⟨g,L.length*2+1,none⟩=some (.string ⟨(q.2).toArray⟩)∧∀j,w.frozen? ⟨g,j,none⟩=false:=by
 obtain⟨c1,c2⟩:=rcells_at (rs:=L++[q]) (k:=L.length) (r:=q) (by simp);have hl:L.length+1=n:=by have:=h.1;rw [rcells_length,List.length_append,List.length_singleton] at this;omega
 exact⟨by rw [h.cellAt _ (by omega)];exact c1,by rw [h.cellAt _ (by omega)];exact c2,fun j=>h.frozenAt j⟩
end Go.Proofs.YtbgcjpefocdkkaaGreat
namespace Go.Proofs.YtbgcjpefocdkkaaGreat
open Go.RowKit
theorem insertion_nil (f:Value) (w:World):Calls Tryz.prog 149 #[.slice none 0 0,.int .i64 0,.int .i64 0,f] w fun e w'=>e=.returned (.tuple #[])∧w'=w:=by
 go_enter Tryz.func149,Tryz.ntmps149
 go_wp2
 go_loopw [8] (fun q wr=>q=.int .i64 1∧wr=w) (fun _ _=>0)
 case atStart=>exact⟨rfl,rfl⟩
 case round =>
  obtain⟨rfl,rfl⟩:=hrel;go_wp2
  go_end0
  exact⟨rfl,rfl⟩
theorem SortStable_nil (w:World) :
  Calls Tryz.prog 142 #[.slice none 0 0,.func (.func 143) #[] #[]] w fun e w'=>e=.returned (.tuple #[])∧w'=w:=by
 have hst:Calls Tryz.prog 147 #[.slice none 0 0,.int .i64 0,.func (.func 143) #[] #[]] w fun e w'=>e=.returned (.tuple #[])∧w'=w:=by
  go_enter Tryz.func147,Tryz.ntmps147
  go_wp2
  go_loopw [7,8] (fun p q wr=>p=.int .i64 0∧q=.int .i64 20∧wr=w) (fun _ _ _=>0)
  case atStart=>exact⟨rfl,rfl,rfl⟩
  case round =>
   obtain⟨rfl,rfl,rfl⟩:=hrel;go_wp2_with (go_at_call 149;refine(insertion_nil _ _).mono ?_)
   rintro e w1 ⟨rfl,hw1⟩;subst hw1;obtain⟨wo,hwo⟩:∃wo:World,wo=w1:=⟨_,rfl⟩;rw [←hwo];go_wp2
   go_loopw [6] (fun q wr=>q=.int .i64 20∧wr=wo) (fun _ _=>0)
   case atStart=>exact⟨rfl,hwo.symm⟩
   case round =>
    obtain⟨rfl,rfl⟩:=hrel;go_wp2
    go_end0
    exact⟨rfl,rfl⟩
 go_enter Tryz.func142,Tryz.ntmps142
 go_wp2_with (go_at_call 147;refine hst.mono ?_;rintro e w1 ⟨rfl,rfl⟩)
 go_end0
 exact⟨rfl,rfl⟩
end Go.Proofs.YtbgcjpefocdkkaaGreat
set_option maxRecDepth 100000
namespace Go.Proofs.YtbgcjpefocdkkaaGreat
open Go.RowKit
def namedL (c:UInt8):List Row:=if c=100 then [([48],[57])] else if c=119 then [([48],[57]),([65],[90]),([95],[95]),([97],[122])] else if c=115 then [([9],[13]),([32],[32])] else []
def namedB (c:UInt8):Bool:=c==100||c==119||c==115
def NamedPost (L:List Row) (b:Bool) (w:World) (e:Ending) (w':World):Prop :=
 ∃a k,e=.returned (.tuple #[.slice a L.length k,.bool b])∧SlS w' (fun x=>w.heap.size≤x) a 2 L.length (rcells L)∧Below w.heap.size w w'∧(b=true→∃x,a=some x)
theorem lit_slS {w:World} {B:Nat} {n sz:Nat} {cs:Array Value} {t:TypeId} (hB:B≤w.heap.size) (hl:cs.toList.length=n*sz) (h:Sl (w.alloc (.cells cs t)) (w.alloc (.cells cs t)).heap.size (some ⟨w.heap.size,0,none⟩) sz n cs.toList) :
  SlS (w.alloc (.cells cs t)) (fun x=>B≤x) (some ⟨w.heap.size,0,none⟩) sz n cs.toList :=
 ⟨hl,fun hn=>by
  obtain⟨b,o,h1,h2,h3⟩:=h.2 hn;injection h1 with h1
  injection h1 with h1 h4
  subst h1 h4;exact⟨_,_,rfl,hB,h2,h3⟩⟩
set_option maxHeartbeats 400000 in
theorem Named_any (c:UInt8) (w:World):Calls Tryz.prog 139 #[.int .u8 c.toNat] w fun e w'=>NamedPost (namedL c) (namedB c) w e w':=by
 have hb:=(Below.refl w.heap.size w).alloc (Nat.le_refl _) (.cells #[.string ⟨(([48]:Str)).toArray⟩,.string ⟨(([57]:Str)).toArray⟩] 103);by_cases h1:c=100
 ·subst h1
  show Calls Tryz.prog 139 #[.int .u8 (100:Nat)] w fun e w'=>NamedPost [([48],[57])] true w e w'
  go_enter Tryz.func139,Tryz.ntmps139
  go_wp2
  go_ret2
  refine⟨_,_,rfl,?_,hb.alloc (by simp) _,fun _=>⟨_,rfl⟩⟩;have hs:=lit_slS (B:=w.heap.size) (w:=w.alloc (.cells #[.string ⟨(([48]:Str)).toArray⟩,.string ⟨(([57]:Str)).toArray⟩] 103)) (t:=103) (cs:=#[.string ⟨(([48]:Str)).toArray⟩,.string ⟨(([57]:Str)).toArray⟩]) (n:=1) (sz:=2) (by simp) rfl (Sl.lit (heap_alloc_new _ _) rfl);rw [World.size_alloc] at hs;exact hs
 by_cases h2:c=119
 ·subst h2
  show Calls Tryz.prog 139 #[.int .u8 (119:Nat)] w fun e w'=>NamedPost [([48],[57]),([65],[90]),([95],[95]),([97],[122])] true w e w'
  go_enter Tryz.func139,Tryz.ntmps139
  go_wp2
  go_ret2
  refine⟨_,_,rfl,?_,hb.alloc (by simp) _,fun _=>⟨_,rfl⟩⟩;have hs:=lit_slS (B:=w.heap.size) (w:=w.alloc (.cells #[.string ⟨(([48]:Str)).toArray⟩,.string ⟨(([57]:Str)).toArray⟩] 103)) (t:=103) (cs:=#[.string ⟨(([48]:Str)).toArray⟩,.string ⟨(([57]:Str)).toArray⟩,.string ⟨(([65]:Str)).toArray⟩,.string ⟨(([90]:Str)).toArray⟩,.string ⟨(([95]:Str)).toArray⟩,.string ⟨(([95]:Str)).toArray⟩,.string ⟨(([97]:Str)).toArray⟩,.string ⟨(([122]:Str)).toArray⟩]) (n:=4) (sz:=2) (by simp) rfl (Sl.lit (heap_alloc_new _ _) rfl);rw [World.size_alloc] at hs;exact hs
 by_cases h3:c=115
 ·subst h3
  show Calls Tryz.prog 139 #[.int .u8 (115:Nat)] w fun e w'=>NamedPost [([9],[13]),([32],[32])] true w e w'
  go_enter Tryz.func139,Tryz.ntmps139
  go_wp2
  go_ret2
  refine⟨_,_,rfl,?_,hb.alloc (by simp) _,fun _=>⟨_,rfl⟩⟩;have hs:=lit_slS (B:=w.heap.size) (w:=w.alloc (.cells #[.string ⟨(([48]:Str)).toArray⟩,.string ⟨(([57]:Str)).toArray⟩] 103)) (t:=103) (cs:=#[.string ⟨(([9]:Str)).toArray⟩,.string ⟨(([13]:Str)).toArray⟩,.string ⟨(([32]:Str)).toArray⟩,.string ⟨(([32]:Str)).toArray⟩]) (n:=2) (sz:=2) (by simp) rfl (Sl.lit (heap_alloc_new _ _) rfl);rw [World.size_alloc] at hs;exact hs
 ·have hL:namedL c=[]:=by simp [namedL,h1,h2,h3]
  have hB:namedB c=false:=by simp [namedB,h1,h2,h3]
  have n1:c.toNat≠100:=fun e=>h1 (UInt8.toNat_inj.1 e)
  have n2:c.toNat≠119:=fun e=>h2 (UInt8.toNat_inj.1 e)
  have n3:c.toNat≠115:=fun e=>h3 (UInt8.toNat_inj.1 e)
  rw [hL,hB];clear hL hB h1 h2 h3;go_enter Tryz.func139,Tryz.ntmps139
  go_wp2
  go_ret2
  exact⟨none,0,rfl,SlS.none_ _ _ _ _,hb,fun h=>by cases h⟩
end Go.Proofs.YtbgcjpefocdkkaaGreat
set_option maxRecDepth 100000
namespace Go.Proofs.YtbgcjpefocdkkaaGreat
open Go.RowKit
def splitF:Nat→Str→List Str
 | 0,_=>[]
 | _,[]=>[]
 | k+1,c::r=>(c::r.takeWhile insideB)::splitF k (r.dropWhile insideB)
def splitM (l:Str):List Str:=splitF l.length l
theorem str_infoW:(Tryz.prog.info? 9).map (fun i=>(i.zero,i.size,i.bytes))=some (some (.string ⟨#[]⟩),1,16):=by kernel_rfl
theorem scells_snoc (ps:List Str) (p:Str):scells (ps++[p])=scells ps++[.string ⟨(p).toArray⟩]:=by simp [scells]
theorem span_take (l:Str) (i:Nat) (c:UInt8) (r:Str) (h:l.drop i=c::r):spanE l i≤l.length∧i<spanE l i∧(l.take (spanE l i)).drop i=c::r.takeWhile insideB∧l.drop (spanE l i)=r.dropWhile insideB:=by
 have hl:i<l.length:=by
  rcases Nat.lt_or_ge i l.length with h1|h1
  ·exact h1
  ·rw [List.drop_of_length_le h1] at h;cases h
 have h2:l.drop (i+1)=r:=by rw [←List.drop_drop,h];rfl
 have hsp:spanE l i=i+1+(r.takeWhile insideB).length:=by unfold spanE;rw [h2]
 have hr:r.takeWhile insideB++r.dropWhile insideB=r:=List.takeWhile_append_dropWhile;have hle:=congrArg List.length h2;rw [List.length_drop] at hle;have hle2:=congrArg List.length hr;rw [List.length_append] at hle2;refine⟨by omega,by omega,?_,?_⟩
 ·rw [hsp,List.drop_take,h,show i+1+(r.takeWhile insideB).length-i=(r.takeWhile insideB).length+1 by omega,List.take_succ_cons]
  congr 1
  conv=>lhs;rw [←hr]
  rw [List.take_append_of_le_length (by simp),List.take_of_length_le (by simp)]
 ·rw [hsp,←List.drop_drop,h2]
  conv=>lhs;rw [←hr]
  rw [List.drop_append_of_le_length (by simp),List.drop_of_length_le (by simp),List.nil_append]
def SpRel (l:Str) (R:List Str) (w:World) (v q:Value) (wr:World):Prop :=
 ∃(i k:Nat) (ps:List Str),i≤l.length∧l.length-i≤k∧q=.int .i64 i∧Below w.heap.size w wr∧wr.ownsRow w.heap.size 9 1 v ps.length (scells ps)∧ps.length≤i∧Hid (ps++splitF k (l.drop i)=R)
set_option maxHeartbeats 1000000 in
theorem Split_any (l:Str) (w:World) (hs:l.length≤1000000) :
  Calls Tryz.prog 87 #[.string ⟨(l).toArray⟩] w fun e w'=>∃a c,e=.returned (.slice a (splitM l).length c)∧SlS w' (fun b=>w.heap.size≤b) a 1 (splitM l).length (scells (splitM l))∧Below w.heap.size w w':=by
 obtain⟨R,hR⟩:∃R,splitM l=R:=⟨_,rfl⟩;rw [hR];have HR:=Lib.hid hR;obtain⟨ir,hir⟩:=info_parts str_infoW;clear hR;go_enter Tryz.func87,Tryz.ntmps87
 go_wp2
 go_loopw [3,4] (fun v q wr=>SpRel l R w v q wr) (fun _ q _=>l.length-(intOf q).toNat)
 case atStart=>exact⟨0,l.length,[],by omega,by omega,rfl,Below.refl _ _,World.ownsRow_nil _ _ _ _,by simp,HR⟩
 case round =>
  obtain⟨i,k,ps,hi,hk,rfl,hb,hown,hps,HF⟩:=hrel;have hB:=hb.size;clear HR;cases hd:l.drop i with
  | nil =>
   have h2:=drop_nil hd;have HE:Hid (ps=R):=Lib.hid (by rw [←HF.out,hd];cases k<;>simp [splitF]);obtain⟨va,vc,rfl⟩:=own_form hown;have HOWN:=Lib.hid hown;clear hd HF hown;go_wp2
   go_ret
   exact⟨va,vc,by rw [HE.out];rfl,by rw [←HE.out];exact own_slS HOWN.out,hb⟩
  | cons c r =>
   obtain⟨h1,h2,h3,h4⟩:=span_take l i c r hd;obtain⟨k,rfl⟩:∃k',k=k'+1:=⟨k-1,by have:=congrArg List.length hd;simp at this;omega⟩;have hil:i<l.length:=by have:=congrArg List.length hd;simp at this;omega
   have HE:Hid ((ps++[c::r.takeWhile insideB])++splitF k (l.drop (spanE l i))=R):=Lib.hid (by rw [←HF.out,hd,h4];simp [splitF]);generalize hp:c::r.takeWhile insideB=p at *
   obtain⟨e,he⟩:∃e,spanE l i=e:=⟨_,rfl⟩;rw [he] at h1 h2 h3 h4 HE;rw [List.drop_take] at h3;have HEN:=Lib.hid (he▸end_any l i wr (by omega) (by omega):Calls Tryz.prog 102 #[.string ⟨(l).toArray⟩,.int .i64 i] wr fun x w'=>x=.returned (.int .i64 (e:Int))∧wr=w');have hb1:Below wr.heap.size wr (wr.alloc (.cells #[.string ⟨(p).toArray⟩] 9)):=(Below.refl _ _).alloc (Nat.le_refl _) _;have HO1:=Lib.hid (own_below hown hb1);have HSL:=Lib.hid (Sl.lit (n:=1) (sz:=1) (heap_alloc_new wr (.cells #[.string ⟨(p).toArray⟩] 9)) rfl);have hz1:w.heap.size≤(wr.alloc (.cells #[.string ⟨(p).toArray⟩] 9)).heap.size:=by rw [World.size_alloc];omega
   have hbw1:=hb.alloc hB (.cells #[.string ⟨(p).toArray⟩] 9);clear hd hp h4 he HF hown;go_wp2_with (first|(go_at_call 102;refine HEN.out.mono ?_;rintro x w1 ⟨rfl,rfl⟩)|(at_builtin;refine wpList_appM w.heap.size 9 rfl _ _ 38 rfl Tryz.underlying38 hir rfl (by decide) rfl HO1.out rfl HSL.out (by simp [Value.oneCell']) (by omega) (by omega) (by decide) hz1 ?_))
   intro v1 w4 ho4 hg4 hb4 hmv;have hb4':=hbw1.trans hb4;have ho5:w4.ownsRow w.heap.size 9 1 v1 (ps++[p]).length (scells (ps++[p])):=by
    rw [scells_snoc,List.length_append];exact ho4
   clear ho4 hg4 hmv;go_wp2
   go_roundw
   case rel=>exact⟨e,k,ps++[p],h1,by omega,rfl,hb4',ho5,by simp;omega,HE⟩
   case measure=>simp [intOf];omega
end Go.Proofs.YtbgcjpefocdkkaaGreat
namespace Go.Proofs.YtbgcjpefocdkkaaGreat
open Go.RowKit
def wordB:Str→Bool
 | [b]=>decide (97≤b.toNat∧b.toNat≤122)||decide (65≤b.toNat∧b.toNat≤90)||decide (48≤b.toNat∧b.toNat≤57)||decide (b.toNat=95)
 | _=>false
set_option maxHeartbeats 400000 in
theorem Word_any (c:Str) (w:World) (hs:c.length≤100000000):Calls Tryz.prog 146 #[.string ⟨(c).toArray⟩] w fun e w'=>e=.returned (.bool (wordB c))∧w=w':=by
 match c,hs with
 | [],_ =>
  go_enter Tryz.func146,Tryz.ntmps146
  go_wp2
  go_ret
  exact⟨rfl,rfl⟩
 | b::d::r,hs =>
  go_enter Tryz.func146,Tryz.ntmps146
  go_wp2
  go_ret
  exact⟨rfl,rfl⟩
 | [b],_ =>
  go_enter Tryz.func146,Tryz.ntmps146
  go_wp2
  all_goals (go_ret;refine⟨ret_bool ?_,rfl⟩;simp only [wordB];rw [Bool.eq_iff_iff];simp only [Bool.or_eq_true,decide_eq_true_eq,beq_iff_eq];first|omega|(simp;omega)|skip)
end Go.Proofs.YtbgcjpefocdkkaaGreat
set_option maxRecDepth 100000
namespace Go.Proofs.YtbgcjpefocdkkaaGreat
abbrev Res:=Except Int (Rx × List Str)
def rx0:Rx:=.mk 0 [] false [] 0 0 false []
def rxK (k:Int):Rx:=.mk k [] false [] 0 0 false []
def chrR (c:Str):Rx:=.mk 2 c false [] 0 0 false []
def setR (rows:List Row) (ng:Bool):Rx:=.mk 4 [] ng rows 0 0 false []
def grpR (k:Int) (x:Rx):Rx:=.mk k [] false [] 0 0 false [x]
def repR (lo hi:Int) (lz:Bool) (x:Rx):Rx:=.mk 7 [] false [] lo hi lz [x]
def plainM (c:Str):Option Str :=
 if c=[] then none else if c=[110] then some [10] else if c=[114] then some [13] else if c=[116] then some [9] else if c=[102] then some [12] else if c=[118] then some [11]
 else if c=[95]∨wordB c=false then some c else none
def namedS (c:Str):Option (List Row):=match c with
 | [b]=>if namedB b=true then some (namedL b) else none
 | _=>none
def bigS (c:Str):Option (List Row):=if c=[68] then some (namedL 100) else if c=[87] then some (namedL 119) else if c=[83] then some (namedL 115) else none
def escM:List Str→Res
 | []=>.error 10
 | c::r=>match namedS c with
  | some rows=>.ok (setR rows false,r)
  | none=>match bigS c with
   | some rows=>.ok (setR rows true,r)
   | none=>match plainM c with
    | none=>.error 10
    | some t=>.ok (chrR t,r)
def itemM:List Str→Option (Str × List Row × List Str)
 | []=>none
 | c::r=>if c=[93] then none else if c=[92] then(match r with
   | []=>none
   | c2::r2=>match namedS c2 with
    | some rows=>some ([],rows,r2)
    | none=>match plainM c2 with
     | none=>none
     | some t=>some (t,[],r2)) else some (c,[],r)
def takeM (c:Str):List Str→Option (List Str)
 | []=>none
 | x::r=>if x=c then some r else none
def classL:Nat→List Row→List Str→Option (List Row × List Str)
 | 0,_,_=>none
 | n+1,rows,r=>match takeM [93] r with
  | some r1=>some (rows,r1)
  | none=>match itemM r with
   | none=>none
   | some (c,nm,r1) =>
    if nm≠[] then classL n (rows++nm) r1
    else match takeM [45] r1 with
     | none=>classL n (rows++[(c,c)]) r1
     | some r2=>if takeM [93] r2=none then(match itemM r2 with
       | none=>none
       | some (t,nm2,r3)=>if nm2≠[]∨Op.bytesLess t c=true then none else classL n (rows++[(c,t)]) r3)
      else classL n (rows++[(c,c)]) r1
def classM (r:List Str):Res :=
 let ng:=(takeM [94] r).isSome
 let r0:=(takeM [94] r).getD r
 match classL (r0.length+1) [] r0 with
 | none=>.error 10
 | some (rows,r1)=>.ok (setR (unionM rows) ng,r1)
def digS (c:Str):Option Nat:=match c with
 | [b]=>if 48≤b.toNat∧b.toNat≤57 then some (b.toNat-48) else none
 | _=>none
def numL:Nat→Nat→List Str→Option (Nat × List Str)
 | k,n,[]=>if 0<k∧n≤255 then some (n,[]) else none
 | k,n,c::r=>match digS c with
  | some d=>if k=3 then none else numL (k+1) (10*n+d) r
  | none=>if 0<k∧n≤255 then some (n,c::r) else none
def boundsM (r:List Str):Option (Int × Int × List Str):=match numL 0 0 r with
 | none=>none
 | some (lo,r1)=>match takeM [125] r1 with
  | some r2=>some (lo,lo,r2)
  | none=>match takeM [44] r1 with
   | none=>none
   | some r2=>match takeM [125] r2 with
    | some r3=>some (lo,-1,r3)
    | none=>match numL 0 0 r2 with
     | none=>none
     | some (hi,r3)=>if lo≤hi then(match takeM [125] r3 with
      | some r4=>some (lo,hi,r4)
      | none=>none) else none
def lazyM (x:Rx) (lo hi:Int) (r:List Str):Rx × List Str:=match takeM [63] r with
 | some r1=>(repR lo hi true x,r1)
 | none=>(repR lo hi false x,r)
def quantM (x:Rx):List Str→Res
 | []=>.ok (x,[])
 | c::r=>if c=[42] then .ok (lazyM x 0 (-1) r) else if c=[43] then .ok (lazyM x 1 (-1) r) else if c=[63] then .ok (lazyM x 0 1 r)
  else if c=[123] then(match boundsM r with
   | none=>.error 10
   | some (lo,hi,r1)=>.ok (lazyM x lo hi r1)) else .ok (x,c::r)
def groupK (r:List Str):Option (Int × List Str):=match takeM [63] r with
 | none=>some (5,r)
 | some r1=>match takeM [58] r1 with
  | none=>none
  | some r2=>some (6,r2)
def groupM (pat:List Str→Nat→Res) (r:List Str) (d:Nat):Res :=
 if 16≤d then .error 8 else match groupK r with
 | none=>.error 10
 | some (k,r0)=>match pat r0 (d+1) with
  | .error e=>.error e
  | .ok (x,r1)=>match takeM [41] r1 with
   | none=>.error 10
   | some r2=>.ok (grpR k x,r2)
def noAtom (c:Str):Bool:=decide (c=[42])||decide (c=[43])||decide (c=[63])||decide (c=[41])||decide (c=[123])||decide (c=[124])||decide (c=[94])||decide (c=[36])
def atomM (pat:List Str→Nat→Res):List Str→Nat→Res
 | [],_=>.error 10
 | c::r,d=>if c=[46] then .ok (rxK 3,r) else if c=[40] then groupM pat r d else if c=[91] then classM r else if c=[92] then escM r
  else if noAtom c=true then .error 10 else .ok (chrR c,r)
def edgeM (r:List Str):Option (Rx × List Str):=match r with
 | []=>none
 | c::r1=>if c=[94] then some (rxK 8,r1) else if c=[36] then some (rxK 9,r1) else if c=[92] then(match takeM [98] r1 with
  | some r2=>some (rxK 10,r2)
  | none=>match takeM [66] r1 with
   | some r2=>some (rxK 11,r2)
   | none=>none) else none
def termM (pat:List Str→Nat→Res) (r:List Str) (d:Nat):Res:=match edgeM r with
 | some y=>.ok y
 | none=>match atomM pat r d with
  | .error e=>.error e
  | .ok (x,r1)=>quantM x r1
def patL (trm:List Str→Res):Nat→List Rx→List Rx→List Str→Res
 | 0,_,_,_=>.error 1
 | n+1,alts,terms,r=>match r with
  | []=>.ok (altR (alts++[seqR terms]),[])
  | c::r1=>if c=[41] then .ok (altR (alts++[seqR terms]),c::r1) else if c=[124] then patL trm n (alts++[seqR terms]) [] r1
   else match trm (c::r1) with
    | .error e=>.error e
    | .ok (x,r2)=>patL trm n alts (terms++[x]) r2
def patF:Nat→List Str→Nat→Res
 | 0,_,_=>.error 1
 | n+1,r,d=>patL (fun r=>termM (patF n) r d) (r.length+1) [] [] r
def readC (l:List Str):Except Int Rx:=match patF (l.length+1) l 0 with
 | .error e=>.error e
 | .ok (x,[])=>.ok x
 | .ok (_,_::_)=>.error 10
def readM (s:Str):Except Int Rx :=
 if 256<s.length then .error 4 else match splitM s with
 | []=>readC []
 | c::r=>if properB c=true then readC (c::r) else .error 10
end Go.Proofs.YtbgcjpefocdkkaaGreat
set_option maxRecDepth 100000
namespace Go.Proofs.YtbgcjpefocdkkaaGreat
structure Tf where
 rx:Rx
 fs:List Fm
 fold:Bool
 all:Bool
def tf0:Tf:=⟨rx0,[],false,false⟩
inductive Sn where
 | mk (kind:Int) (text:Str) (n:Int) (has turned:Bool) (form:Tf) (opts:List Str) (kids:List Sn)
namespace Sn
def kind:Sn→Int|mk k _ _ _ _ _ _ _=>k
def text:Sn→Str|mk _ t _ _ _ _ _ _=>t
def n:Sn→Int|mk _ _ n _ _ _ _ _=>n
def has:Sn→Bool|mk _ _ _ h _ _ _ _=>h
def turned:Sn→Bool|mk _ _ _ _ t _ _ _=>t
def form:Sn→Tf|mk _ _ _ _ _ f _ _=>f
def opts:Sn→List Str|mk _ _ _ _ _ _ o _=>o
def kids:Sn→List Sn|mk _ _ _ _ _ _ _ k=>k
mutual
def parts:Sn→Nat
 | mk _ _ _ _ _ _ _ ks=>1+partsL ks
def partsL:List Sn→Nat
 | []=>0
 | x::r=>parts x+partsL r
end
mutual
def deep:Sn→Nat
 | mk _ _ _ h _ _ _ ks=>deepL ks+(if h then 1 else 0)
def deepL:List Sn→Nat
 | []=>0
 | x::r=>max (deep x) (deepL r)
end
theorem parts_pos:∀x:Sn,1≤parts x
 | mk _ _ _ _ _ _ _ ks=>by simp only [parts];omega
theorem parts_mem:∀{ks:List Sn} {x:Sn},x∈ks→parts x≤partsL ks
 | [],_,h=>by simp at h
 | y::r,x,h=>by
  simp only [partsL];rcases List.mem_cons.1 h with rfl|h
  ·omega
  ·have:=parts_mem h;omega
theorem len_parts:∀ks:List Sn,ks.length≤partsL ks
 | []=>by simp
 | x::r=>by have:=parts_pos x;have:=len_parts r;simp only [partsL,List.length_cons];omega
theorem partsL_app:∀a b:List Sn,partsL (a++b)=partsL a+partsL b
 | [],b=>by simp [partsL]
 | x::a,b=>by simp only [List.cons_append,partsL,partsL_app a b];omega
theorem deepL_app:∀a b:List Sn,deepL (a++b)=max (deepL a) (deepL b)
 | [],b=>by simp [deepL]
 | x::a,b=>by simp only [List.cons_append,deepL,deepL_app a b];omega
end Sn
def textS (t:Str):Sn:=.mk 0 t 0 false false tf0 [] []
def stopS (n:Nat):Sn:=.mk 1 [] n false false tf0 [] []
def varS (t:Str):Sn:=.mk 3 t 0 false false tf0 [] []
def Sn.give:Sn→List Sn→Sn|.mk k t n _ u f o _,ks=>.mk k t n true u f o ks
def Sn.turn:Sn→Tf→Sn|.mk k t n h _ _ o ks,f=>.mk k t n h true f o ks
def Sn.choose:Sn→List Str→Sn|.mk _ t n h u f _ ks,o=>.mk 2 t n h u f o ks
def nameC (c:UInt8):Bool:=decide (97≤c.toNat∧c.toNat≤122)||decide (65≤c.toNat∧c.toNat≤90)||decide (48≤c.toNat∧c.toNat≤57)||decide (c.toNat=95)
def nameB:Str→Bool
 | []=>false
 | c::r=>decide ((c::r).length≤64)&&(c::r).all nameC&&decide (57<c.toNat)
def three:Str:=[36,125,92]
def fiveS:Str:=[36,125,92,44,124]
def nxtM (these:Str):Str→UInt8 × Str
 | []=>(0,[])
 | [c]=>(c,[])
 | c::d::r=>if c.toNat=92∧these.contains d=true then(d,r) else(c,d::r)
theorem nxtM_len (these:Str) (c:UInt8) (r:Str):(nxtM these (c::r)).2.length≤r.length:=by
 cases r with
 | nil=>simp [nxtM]
 | cons d r=>simp only [nxtM];split<;>simp
def rxSp:Str→Str→Str × Str
 | [],a=>(a,[])
 | [c],a=>if c.toNat=47 then(a,[c]) else(a++[c],[])
 | c::d::r,a=>if c.toNat=47 then(a,c::d::r) else if c.toNat=92 then rxSp r (if d.toNat=47 then a++[d] else a++[92,d]) else rxSp (d::r) (a++[c])
def flagsM (fl:Str):Option (Bool × Bool) :=
 if fl=[] then some (false,false) else if fl=[103] then some (true,false) else if fl=[105] then some (false,true) else if fl=[103,105]∨fl=[105,103] then some (true,true) else none
def flagT (x:Rx) (fs:List Fm) (r:Str):Option (Tf × Str):=match r.dropWhile ne125 with
 | []=>none
 | _::r2=>match flagsM (r.takeWhile ne125) with
  | none=>none
  | some (a,f)=>some (⟨x,fs,f,a⟩,r2)
def formM:Str→Option (Tf × Str)
 | []=>none
 | c::r=>if c.toNat=47 then(match (rxSp r []).2 with
  | []=>none
  | _::r3=>match readM (rxSp r []).1 with
   | .error _=>none
   | .ok x=>match readX r3 [] [] with
    | none=>none
    | some (_,[])=>none
    | some (fs,_::r5)=>flagT x fs r5) else none
def nameM (r:Str):Option (Sn × Str):=if nameB (r.takeWhile nameC)=true then some (varS (r.takeWhile nameC),r.dropWhile nameC) else none
def headM (r:Str):Option (Sn × Str):=match numRF r with
 | some (n,r2)=>some (stopS n,r2)
 | none=>nameM r
def optL:Str→List Str→Str→List Str × Str
 | [],o,t=>(o++[t],[])
 | [c],o,t=>if c.toNat=124 then(o++[t],[c]) else if c.toNat=44 then(o++[t]++[[]],[]) else(o++[t++[c]],[])
 | c::d::r,o,t=>if c.toNat=124 then(o++[t],c::d::r) else if c.toNat=44 then optL (d::r) (o++[t]) []
  else if c.toNat=92∧fiveS.contains d=true then optL r o (t++[d]) else optL (d::r) o (t++[c])
def optsM (x:Sn) (r:Str):Option (Sn × Str):=match (optL r [] []).2 with
 | c::d::r2=>if c.toNat=124∧d.toNat=125 then some (x.choose (optL r [] []).1,r2) else none
 | _=>none
def bracedS (ps:Str→List Sn × Str) (x:Sn) (r:Str):Option (Sn × Str):=match r with
 | []=>none
 | c::r1=>if c.toNat=125 then some (x,r1)
  else if c.toNat=58 then(match (ps r1).2 with|[]=>none|_::r2=>some (x.give (ps r1).1,r2))
  else if c.toNat=124∧x.kind=1 then optsM x r1
  else match formM (c::r1) with|none=>none|some (f,r2)=>some (x.turn f,r2)
def wholeM (ps:Str→List Sn × Str) (r:Str):Option (Sn × Str):=match r with
 | []=>none
 | c::r1=>if c.toNat=123 then(match headM r1 with|none=>none|some (x,r2)=>bracedS ps x r2) else headM (c::r1)
def withT (l:List Sn) (t:Str):List Sn:=if t=[] then l else l++[textS t]
def dolM (pt:Str→Option (Sn × Str)) (c:UInt8) (r:Str):Option (Sn × Str):=if c.toNat=36 then pt r else none
def partsG (pt:Str→Option (Sn × Str)) (inside:Bool):Nat→List Sn→Str→Str→List Sn × Str
 | 0,out,text,r=>(withT out text,r)
 | _+1,out,text,[]=>(withT out text,[])
 | k+1,out,text,c::r=>if inside=true∧c.toNat=125 then(withT out text,c::r)
  else match dolM pt c r with
  | some (x,r2)=>partsG pt inside k (withT out text++[x]) [] r2
  | none=>partsG pt inside k out (text++[(nxtM three (c::r)).1]) (nxtM three (c::r)).2
def partF:Nat→Str→Option (Sn × Str)
 | 0,_=>none
 | n+1,r=>wholeM (fun r=>partsG (partF n) true (r.length+1) [] [] r) r
def snipL (r:Str):List Sn:=(partsG (partF (r.length+1)) false (r.length+1) [] [] r).1
def snipM (s:Str):Except Int (List Sn):=if 8192<s.length then .error 4 else if 32<Sn.deepL (snipL s) then .error 8 else .ok (snipL s)
end Go.Proofs.YtbgcjpefocdkkaaGreat
set_option maxRecDepth 100000
namespace Go.Proofs.YtbgcjpefocdkkaaGreat
theorem nameM_len {r:Str} {x:Sn} {s:Str} (h:nameM r=some (x,s)):s.length<r.length:=by
 unfold nameM at h;split at h
 ·rename_i hb
  injection h with h;injection h with _ h;subst h
  have h1:=congrArg List.length (List.takeWhile_append_dropWhile (p:=nameC) (l:=r));rw [List.length_append] at h1;cases hn:r.takeWhile nameC with
  | nil=>rw [hn] at hb;cases hb
  | cons a b=>rw [hn] at h1;simp at h1;omega
 ·cases h
theorem headM_len {r:Str} {x:Sn} {s:Str} (h:headM r=some (x,s)):s.length<r.length:=by
 unfold headM at h;split at h
 ·rename_i heq
  injection h with h;injection h with _ h;subst h;exact numR_len heq
 ·exact nameM_len h
theorem rxSp_len:∀(r a:Str),(rxSp r a).2.length≤r.length
 | [],a=>by simp [rxSp]
 | [c],a=>by simp only [rxSp];split<;>simp
 | c::d::r,a=>by
  simp only [rxSp];split
  ·simp
  ·split
   ·have:=rxSp_len r (if d.toNat=47 then a++[d] else a++[92,d]);simp;omega
   ·have:=rxSp_len (d::r) (a++[c]);simp at this ⊢;omega
theorem readN_len:∀(k:Nat) (r tx:Str) (fs:List Fm) {gs:List Fm} {s:Str},readN k r tx fs=some (gs,s)→s.length≤r.length∧∃c s',s=c::s'∧c.toNat=47
 | 0,_,_,_,_,_,h=>by cases h
 | _+1,[],_,_,_,_,h=>by cases h
 | k+1,c::r,tx,fs,gs,s,h=>by
  simp only [readN] at h;split at h
  ·rename_i hc
   injection h with h;injection h with _ h;subst h;exact⟨Nat.le_refl _,_,_,rfl,hc⟩
  ·split at h
   ·split at h
    ·rename_i p hp
     obtain⟨f,s'⟩:=p;have h1:=partR_len hp;obtain⟨h2,h3⟩:=readN_len k _ _ _ h;exact⟨by simp at *;omega,h3⟩
    ·obtain⟨h2,h3⟩:=readN_len k _ _ _ h
     exact⟨by simp;omega,h3⟩
   ·split at h
    ·obtain⟨h2,h3⟩:=readN_len k _ _ _ h
     exact⟨by simp at h2 ⊢;omega,h3⟩
    ·obtain⟨h2,h3⟩:=readN_len k _ _ _ h
     exact⟨by simp;omega,h3⟩
theorem flagT_len {x:Rx} {fs:List Fm} {r:Str} {f:Tf} {s:Str} (h:flagT x fs r=some (f,s)):s.length<r.length:=by
 unfold flagT at h;have h1:=congrArg List.length (List.takeWhile_append_dropWhile (p:=ne125) (l:=r));rw [List.length_append] at h1;split at h
 ·cases h
 ·rename_i heq
  rw [heq] at h1;simp at h1;split at h
  ·cases h
  ·injection h with h;injection h with _ h;subst h;omega
theorem formM_len {r:Str} {f:Tf} {s:Str} (h:formM r=some (f,s)):s.length<r.length:=by
 cases r with
 | nil=>cases h
 | cons c r =>
  simp only [formM] at h;have h1:=rxSp_len r [];split at h
  ·split at h
   ·cases h
   ·rename_i heq
    rw [heq] at h1;split at h
    ·cases h
    ·split at h
     ·cases h
     ·cases h
     ·rename_i heq2
      have h2:=(readN_len _ _ _ _ heq2).1;have h3:=flagT_len h;simp at *;omega
  ·cases h
theorem optL_len:∀(r:Str) (o:List Str) (t:Str),(optL r o t).2.length≤r.length
 | [],o,t=>by simp [optL]
 | [c],o,t=>by simp only [optL];split<;>(try split)<;>simp
 | c::d::r,o,t=>by
  simp only [optL];split
  ·simp
  ·split
   ·have:=optL_len (d::r) (o++[t]) [];simp at this ⊢;omega
   ·split
    ·have:=optL_len r o (t++[d]);simp;omega
    ·have:=optL_len (d::r) o (t++[c]);simp at this ⊢;omega
theorem optsM_len {x:Sn} {r:Str} {y:Sn} {s:Str} (h:optsM x r=some (y,s)):s.length<r.length:=by
 have h1:=optL_len r [] [];unfold optsM at h;split at h
 ·rename_i heq
  rw [heq] at h1;split at h
  ·injection h with h;injection h with _ h;subst h;simp at h1;omega
  ·cases h
 ·cases h
theorem bracedS_len {ps:Str→List Sn × Str} {x y:Sn} {r s:Str} (hps:∀t,t.length<r.length→(ps t).2.length≤t.length) (h:bracedS ps x r=some (y,s)):s.length<r.length:=by
 cases r with
 | nil=>cases h
 | cons c r =>
  simp only [bracedS] at h;split at h
  ·injection h with h;injection h with _ h;subst h;simp
  ·split at h
   ·have h1:=hps r (by simp)
    split at h
    ·cases h
    ·rename_i heq
     rw [heq] at h1;injection h with h;injection h with _ h;subst h;simp at *;omega
   ·split at h
    ·have:=optsM_len h;simp;omega
    ·split at h
     ·cases h
     ·rename_i heq
      have:=formM_len heq
      injection h with h;injection h with _ h;subst h;exact this
theorem wholeM_len {ps:Str→List Sn × Str} {y:Sn} {r s:Str} (hps:∀t,t.length<r.length→(ps t).2.length≤t.length) (h:wholeM ps r=some (y,s)):s.length<r.length:=by
 cases r with
 | nil=>cases h
 | cons c r =>
  simp only [wholeM] at h;split at h
  ·split at h
   ·cases h
   ·rename_i heq
    have h1:=headM_len heq;have h2:=bracedS_len (fun t ht=>hps t (by simp;omega)) h;simp;omega
  ·exact headM_len h
theorem partsG_len {pt:Str→Option (Sn × Str)} {ins:Bool}:∀(k:Nat) (out:List Sn) (text r:Str),(∀t x s,t.length<r.length→pt t=some (x,s)→s.length<t.length)→(partsG pt ins k out text r).2.length≤r.length
 | 0,out,text,r,_=>Nat.le_refl _
 | _+1,out,text,[],_=>Nat.le_refl _
 | k+1,out,text,c::r,hpt=>by
  simp only [partsG];split
  ·simp
  ·split
   ·rename_i x r2 heq
    have hl:r2.length<r.length:=by
     unfold dolM at heq;split at heq
     ·exact hpt r x r2 (by simp) heq
     ·cases heq
    have:=partsG_len (ins:=ins) k (withT out text++[x]) [] r2 (fun t x s ht=>hpt t x s (by simp;omega))
    simp;omega
   ·have hl:=nxtM_len three c r
    have:=partsG_len (ins:=ins) k out (text++[(nxtM three (c::r)).1]) (nxtM three (c::r)).2 (fun t x s ht=>hpt t x s (by simp;omega))
    simp;omega
theorem partF_len:∀(n:Nat) (r:Str) {x:Sn} {s:Str},partF n r=some (x,s)→s.length<r.length
 | 0,r,x,s,h=>by cases h
 | n+1,r,x,s,h=>wholeM_len (fun t _=>partsG_len _ _ _ _ fun t x s _ ht=>partF_len n t ht) h
theorem bracedS_congr {ps qs:Str→List Sn × Str} (x:Sn) {r:Str} (h:∀t,t.length<r.length→ps t=qs t):bracedS ps x r=bracedS qs x r:=by
 cases r with
 | nil=>rfl
 | cons c r=>simp only [bracedS,h r (by simp)]
theorem wholeM_congr {ps qs:Str→List Sn × Str} {r:Str} (h:∀t,t.length<r.length→ps t=qs t):wholeM ps r=wholeM qs r:=by
 cases r with
 | nil=>rfl
 | cons c r =>
  simp only [wholeM];split
  ·split
   ·rfl
   ·rename_i heq
    have:=headM_len heq
    exact bracedS_congr _ fun t ht=>h t (by simp;omega)
  ·rfl
theorem partsG_congr {pt qt:Str→Option (Sn × Str)} {ins:Bool}:∀(k k':Nat) (out:List Sn) (text r:Str),r.length<k→r.length<k'→(∀t,t.length<r.length→pt t=qt t)→(∀t x s,t.length<r.length→pt t=some (x,s)→s.length<t.length) →
  partsG pt ins k out text r=partsG qt ins k' out text r
 | 0,_,_,_,_,h,_,_,_=>by omega
 | _+1,0,_,_,_,_,h,_,_=>by omega
 | _+1,_+1,out,text,[],_,_,_,_=>rfl
 | k+1,k'+1,out,text,c::r,h,h',heq,hl=>by
  simp only [List.length_cons] at h h' heq hl;have e:dolM pt c r=dolM qt c r:=by unfold dolM;rw [heq r (by omega)]
  simp only [partsG];rw [←e];split
  ·rfl
  ·split
   ·rename_i x r2 he
    have hr:r2.length<r.length:=by
     unfold dolM at he;split at he
     ·exact hl r x r2 (by simp) he
     ·cases he
    exact partsG_congr k k' _ _ _ (by omega) (by omega) (fun t ht=>heq t (by omega)) (fun t x s ht=>hl t x s (by omega))
   ·have hr:=nxtM_len three c r
    exact partsG_congr k k' _ _ _ (by omega) (by omega) (fun t ht=>heq t (by omega)) (fun t x s ht=>hl t x s (by omega))
theorem partF_fuel:∀(N:Nat) (n n':Nat) (r:Str),r.length≤N→r.length<n→r.length<n'→partF n r=partF n' r
 | N,0,_,_,_,h,_=>by omega
 | N,_+1,0,_,_,_,h=>by omega
 | 0,n+1,n'+1,r,hN,h,h'=>by
  have:r=[]:=List.eq_nil_of_length_eq_zero (by omega)
  subst this;rfl
 | N+1,n+1,n'+1,r,hN,h,h'=>by
  simp only [partF];refine wholeM_congr fun t ht=>?_
  exact partsG_congr _ _ _ _ _ (by omega) (by omega) (fun t2 ht2=>partF_fuel N n n' t2 (by omega) (by omega) (by omega)) (fun t2 x s _ h2=>partF_len n t2 h2)
def partS (r:Str):Option (Sn × Str):=partF (r.length+1) r
def partsS (ins:Bool) (out:List Sn) (text r:Str):List Sn × Str:=partsG partS ins (r.length+1) out text r
theorem partS_len {r:Str} {x:Sn} {s:Str} (h:partS r=some (x,s)):s.length<r.length:=partF_len _ r h
theorem partS_eq (r:Str):partS r=wholeM (partsS true [] []) r:=by
 unfold partS;simp only [partF];refine wholeM_congr fun t ht=>?_
 exact partsG_congr _ _ _ _ _ (by omega) (by omega) (fun t2 ht2=>partF_fuel r.length _ _ t2 (by omega) (by omega) (by omega)) (fun t2 x s _ h2=>partF_len _ t2 h2)
theorem partsS_nil (ins:Bool) (out:List Sn) (text:Str):partsS ins out text []=(withT out text,[]):=rfl
theorem partsS_cons (ins:Bool) (out:List Sn) (text:Str) (c:UInt8) (r:Str):partsS ins out text (c::r) =
  if ins=true∧c.toNat=125 then(withT out text,c::r)
  else match dolM partS c r with
  | some (x,r2)=>partsS ins (withT out text++[x]) [] r2
  | none=>partsS ins out (text++[(nxtM three (c::r)).1]) (nxtM three (c::r)).2:=by
 unfold partsS;have e:(c::r).length=r.length+1:=rfl;rw [e];simp only [partsG];by_cases hc:ins=true∧c.toNat=125
 ·rw [if_pos hc,if_pos hc]
 ·rw [if_neg hc,if_neg hc]
  cases he:dolM partS c r with
  | some y =>
   obtain⟨x,r2⟩:=y;simp only
   have hr:r2.length<r.length:=by
    unfold dolM at he;split at he
    ·exact partS_len he
    ·cases he
   exact partsG_congr _ _ _ _ _ (by omega) (by omega) (fun _ _=>rfl) (fun t x s _ h=>partS_len h)
  | none =>
   simp only
   have hr:=nxtM_len three c r;exact partsG_congr _ _ _ _ _ (by omega) (by omega) (fun _ _=>rfl) (fun t x s _ h=>partS_len h)
theorem snipL_eq (r:Str):snipL r=(partsS false [] [] r).1:=by
 unfold snipL partsS;exact congrArg Prod.fst (partsG_congr _ _ _ _ _ (by omega) (by omega) (fun t ht=>partF_fuel r.length _ _ t (by omega) (by omega) (by omega)) (fun t x s _ h=>partF_len _ t h))
end Go.Proofs.YtbgcjpefocdkkaaGreat
