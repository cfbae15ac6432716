/- A snippet that passes the statements' measure is small, and so is what it is told as: plain. -/
import Derived.Test.YtbmakifbppocaaaGreatDoorSs1
import Derived.Test.YtbmakifbppocaaaGreatDoorSs2
import Derived.Deep.LoopGhost
import Derived.IntWalk
import Derived.Test.YtbmakifbppocaaaGreatDoorSs3
import Derived.Maps.OwnSet
import Derived.Maps.Keyed
import Derived.Test.YtbmakifbppocaaaGreatDoorSs4
import Derived.Test.YtbmakifbppocaaaGreatDoorSs5
import Derived.Test.YtbmakifbppocaaaGreatDoorSs6
import Derived.Test.YtbmakifbppocaaaGreatDoorSs7
import Derived.Test.YtbmakifbppocaaaGreatDoorSs8
import Derived.Test.YtbmakifbppocaaaGreatDoorSs9
import Derived.Test.YtbmakifbppocaaaGreatDoorSs10
import Derived.Deep.AppendLies
import Derived.Test.YtbmakifbppocaaaGreatDoorSs11
import Derived.Test.YtbmakifbppocaaaGreatDoorSs12
import Derived.Test.YtbmakifbppocaaaGreatDoorSs13
import Derived.Test.YtbmakifbppocaaaGreatDoorRows
import Derived.LaidMore
import Derived.Stop.Joined
import Derived.Lib.LaidTab
import Derived.WalkKit
import Derived.ProofKit
import Derived.OpenShut
import Derived.ShutString
import Derived.Below
import Derived.ChangeSame
import Derived.Carry
set_option maxRecDepth 100000
namespace Go.Proofs.YtbmakifbppocaaaGreatDoor
def fwt:List Fm→Nat
 | []=>0
 | f :: r=>1+f.thn.length+f.els.length+fwt r
def owt:List Str→Nat
 | []=>0
 | s :: r=>1+s.length+owt r
def formW (f:Tf):Nat:=f.rx.wt+fwt f.fs
namespace Sn
mutual
def wt:Sn→Nat
 | mk _ t _ _ _ f o ks=>1+t.length+formW f+owt o+wtL ks
def wtL:List Sn→Nat
 | []=>0
 | x :: r=>wt x+wtL r
end
end Sn
theorem leftF_eq:∀ (fs:List Fm) (m:Int),0≤leftF fs m→leftF fs m=m - fwt fs
 | [],m,_=>by simp [leftF,fwt]
 | f :: r,m,h=>by
  simp only [leftF] at h ⊢
  split at h
  ·omega
  ·rename_i hc
   rw [if_neg hc]
   have:=leftF_eq r _ h
   simp only [fwt];omega
theorem formL_eq (f:Tf) (n:Int) (h:0≤formL f n):formL f n=n - formW f:=by
 unfold formL at h ⊢
 split at h
 ·omega
 ·rename_i hc
  rw [if_neg hc]
  have h1:=left_eq _ f.rx n (Nat.le_refl _) (by omega)
  have h2:=leftF_eq _ _ h
  unfold formW;omega
theorem leftO_eq:∀ (o:List Str) (n m:Int),leftO o n=some m→m=n - owt o
 | [],n,m,h=>by simp only [leftO] at h;injection h with h;subst h;simp [owt]
 | s :: r,n,m,h=>by
  simp only [leftO] at h
  split at h
  ·cases h
  ·have:=leftO_eq r _ m h
   simp only [owt];omega
theorem leftS_eq:∀ (N:Nat) (x:Sn) (n:Int),x.parts≤N→0≤x.left n→x.left n=n - x.wt
 | 0,x,_,h,_=>by have:=Sn.parts_pos x;omega
 | N+1,.mk k t n0 hh u f o ks,n,h,h0=>by
  simp only [Sn.parts] at h
  have hk:∀ (l:List Sn) (m:Int),Sn.partsL l≤N→0≤Sn.leftL l m→Sn.leftL l m=m - Sn.wtL l:=by
   intro l
   induction l with
   | nil=>intro m _ _;simp [Sn.leftL,Sn.wtL]
   | cons x r ih =>
    intro m hm a
    simp only [Sn.partsL] at hm
    simp only [Sn.leftL] at a ⊢
    split at a
    ·omega
    ·rename_i hneg
     rw [if_neg hneg]
     have h1:=ih _ (by omega) a
     by_cases hx:0≤x.left m
     ·have:=leftS_eq N x m (by omega) hx
      simp only [Sn.wtL];omega
     ·exfalso
      rw [leftL_neg _ _ (by omega)] at a;omega
  simp only [Sn.left] at h0 ⊢
  split at h0
  ·omega
  ·rename_i hc
   rw [if_neg hc]
   split at h0
   ·omega
   ·rename_i m hm
    split at h0
    ·omega
    ·rename_i hneg
     have h2:=leftO_eq o _ m hm
     have h4:=formL_eq f (n - 1 - t.length) (by omega)
     have h3:=hk ks m (by omega) h0
     show (if m < 0 then m else Sn.leftL ks m)=_
     rw [if_neg hneg,h3]
     simp only [Sn.wt];omega
theorem leftL_eq (l:List Sn) (m:Int) (a:0≤Sn.leftL l m):Sn.leftL l m=m - Sn.wtL l:=by
 induction l generalizing m with
 | nil=>simp [Sn.leftL,Sn.wtL]
 | cons x r ih =>
  simp only [Sn.leftL] at a ⊢
  split at a
  ·omega
  ·rename_i hneg
   rw [if_neg hneg]
   have h1:=ih _ a
   by_cases hx:0≤x.left m
   ·have:=leftS_eq _ x m (Nat.le_refl _) hx
    simp only [Sn.wtL];omega
   ·exfalso
    rw [leftL_neg _ _ (by omega)] at a;omega
theorem fwt_mem:∀ {fs:List Fm},fs.length≤fwt fs∧∀ f ∈ fs,f.thn.length≤fwt fs∧f.els.length≤fwt fs
 | []=>by simp [fwt]
 | f :: r=>by
  obtain ⟨h1,h2⟩:=fwt_mem (fs:=r)
  simp only [fwt,List.length_cons]
  refine ⟨by omega,fun q hq=>?_⟩
  rcases List.mem_cons.1 hq with rfl | hq
  ·omega
  ·have:=h2 q hq;omega
theorem owt_mem:∀ {o:List Str},o.length≤owt o∧∀ s ∈ o,s.length≤owt o
 | []=>by simp [owt]
 | s :: r=>by
  obtain ⟨h1,h2⟩:=owt_mem (o:=r)
  simp only [owt,List.length_cons]
  refine ⟨by omega,fun q hq=>?_⟩
  rcases List.mem_cons.1 hq with rfl | hq
  ·omega
  ·have:=h2 q hq;omega
theorem partsS_wt:∀ (N:Nat) (x:Sn),x.parts≤N→x.parts≤x.wt
 | 0,x,h=>by have:=Sn.parts_pos x;omega
 | N+1,.mk k t n hh u f o ks,h=>by
  simp only [Sn.parts] at h
  have hk:∀ (l:List Sn),Sn.partsL l≤N→Sn.partsL l≤Sn.wtL l:=by
   intro l
   induction l with
   | nil=>intro _;simp [Sn.partsL,Sn.wtL]
   | cons x r ih =>
    intro hm
    simp only [Sn.partsL] at hm
    simp only [Sn.partsL,Sn.wtL]
    have:=partsS_wt N x (by omega)
    have:=ih (by omega)
    omega
  have:=hk ks (by omega)
  simp only [Sn.parts,Sn.wt];omega
theorem partsL_wtS:∀ l:List Sn,Sn.partsL l≤Sn.wtL l
 | []=>by simp [Sn.partsL,Sn.wtL]
 | x :: r=>by have:=partsS_wt _ x (Nat.le_refl _);have:=partsL_wtS r;simp only [Sn.partsL,Sn.wtL];omega
theorem form_small {f:Tf} (h:formW f≤1000000):f.small:=by
 unfold formW at h
 have h1:=parts_wt _ f.rx (Nat.le_refl _)
 have h2:=(fwt_mem (fs:=f.fs)).1
 exact ⟨small_wt _ f.rx (Nat.le_refl _) (by omega),by omega,by omega⟩
mutual
theorem smallS_wt:∀ x:Sn,x.wt≤1000000→x.small
 | .mk k t n h u f o ks,hw=>by
  simp only [Sn.wt] at hw
  have h1:=(owt_mem (o:=o)).1
  have h2:=Sn.len_parts ks
  have h3:=partsL_wtS ks
  exact ⟨form_small (by omega),by omega,by omega,by omega,smallL_wtS ks (by omega)⟩
theorem smallL_wtS:∀ l:List Sn,Sn.wtL l≤1000000→Sn.smallL l
 | [],_=>trivial
 | x :: r,hw=>by
  simp only [Sn.wtL] at hw
  exact ⟨smallS_wt x (by omega),smallL_wtS r (by omega)⟩
end
theorem showL_fwt:∀ {fs:List Fm},(∀ f ∈ fs,mayF f=true)→(showF fs).length≤22 * fwt fs
 | [],_=>by simp [showF]
 | f :: r,h=>by
  have h1:=showP_le (h f (List.mem_cons_self ..))
  have h2:=showL_fwt (fs:=r) (fun g hg=>h g (List.mem_cons_of_mem _ hg))
  have e:showF (f :: r)=showP f++showF r:=by simp [showF]
  rw [e,List.length_append]
  simp only [fwt];omega
theorem showF_fwt {fs:List Fm} (h:mayFs fs=true):(showF fs).length≤22 * fwt fs:=showL_fwt (mayL_all _ _ h)
/-- How long what a transform is told as is. -/
theorem form_told {f:Tf} (h:tfMay f=true∨tfZ f=true):f.rx.tell.length≤15 * f.rx.wt∧(showF f.fs).length≤22 * fwt f.fs:=by
 rcases h with h | h
 ·unfold tfMay at h
  rw [Bool.and_eq_true] at h
  have hwf:f.rx.wf=true:=by
   have h:=h.1;simp only [mayB,okB,Bool.and_eq_true] at h;exact h.1.1
  have:=tell_len _ f.rx (Nat.le_refl _) hwf
  exact ⟨by omega,showF_fwt h.2⟩
 ·unfold tfZ at h
  rw [Bool.and_eq_true,Bool.and_eq_true,List.isEmpty_iff] at h
  obtain ⟨X,fs,fd,al⟩:=f
  obtain ⟨hz,hfs,_⟩:=h
  obtain rfl:fs=[]:=hfs
  obtain rfl:X=rx0:=by
   obtain ⟨k,c,ng,rs,lo,hi,lz,ks⟩:=X
   have hz':rxZ (.mk k c ng rs lo hi lz ks)=true:=hz
   simp only [rxZ,Bool.and_eq_true,decide_eq_true_eq,List.isEmpty_iff,Bool.not_eq_true'] at hz'
   obtain ⟨rfl,rfl,rfl,rfl,rfl,rfl,rfl,rfl⟩:=hz'
   rfl
  exact ⟨(by decide:(rx0.tell).length≤15 * rx0.wt),by simp [showF]⟩
theorem bes_form {x:Sn} (h:besidesS x=true):tfMay x.form=true∨tfZ x.form=true:=by
 unfold besidesS nothingS at h
 split at h
 ·split at h
  ·cases h
  ·exact .inr h
 ·split at h
  ·rw [Bool.and_eq_true] at h;exact .inl h.2
  ·simp only [Bool.and_eq_true] at h;exact .inr h.2.2.2
theorem fields_form {x:Sn} (h:fieldsS x=true):tfMay x.form=true∨tfZ x.form=true:=by
 unfold fieldsS at h
 split at h
 ·unfold nothingS at h;simp only [Bool.and_eq_true] at h;exact .inr h.2.2.2.2.2.2
 split at h
 ·simp only [Bool.and_eq_true] at h;exact bes_form h.2.2.2
 split at h
 ·unfold nothingS at h;simp only [Bool.and_eq_true] at h;exact .inr h.2.2.2.2.2.2
 split at h
 ·simp only [Bool.and_eq_true] at h;exact bes_form h.2.2.2
 ·cases h
theorem fields_num {x:Sn} (h:fieldsS x=true):0≤x.n∧x.n≤9999:=by
 unfold fieldsS numberS at h
 split at h
 ·simp only [Bool.and_eq_true,decide_eq_true_eq] at h;omega
 split at h
 ·simp only [Bool.and_eq_true,decide_eq_true_eq] at h;omega
 split at h
 ·simp only [Bool.and_eq_true,decide_eq_true_eq] at h;omega
 split at h
 ·simp only [Bool.and_eq_true,decide_eq_true_eq] at h;omega
 ·cases h
theorem joinN_owt:∀ o:List Str,joinN o≤2 * owt o
 | []=>by simp [joinN,owt]
 | a :: l=>by have:=joinN_owt l;simp only [joinN,owt];omega
theorem kids_none {k:Int} {t:Str} {n:Int} {u:Bool} {f:Tf} {o:List Str} {ks:List Sn} (hf:fieldsS (.mk k t n false u f o ks)=true):Sn.wfL ks=true:=by
 rw [fields_kids hf];rfl
mutual
theorem tellS_len:∀ x:Sn,x.wf=true→x.tell.length≤40 * x.wt
 | .mk k t n h u f o ks,hw=>by
  rw [Sn.wf,Bool.and_eq_true] at hw
  have hwl:Sn.wfL ks=true:=by
   cases h with
   | true =>
    have h2:=hw.2
    rw [Bool.not_true,Bool.false_or,Bool.and_eq_true] at h2
    exact h2.2
   | false=>exact kids_none hw.1
  have h1:=tellSL_len ks hwl
  obtain ⟨f1,f2⟩:=form_told (fields_form hw.1)
  obtain ⟨n0,n1⟩:=fields_num hw.1
  have h3:=dec_len n0 n1
  have h4:=quot_len three t
  have h5:=joinQ_len o
  have h6:=joinN_owt o
  have h7:=flagS_len f
  have f1':f.rx.tell.length≤15 * f.rx.wt:=f1
  have f2':(showF f.fs).length≤22 * fwt f.fs:=f2
  have h3':(dec n).length≤4:=h3.2
  have h8:(nameT k t n).length≤t.length+4:=by unfold nameT;split <;> omega
  have h9:(formS f).length≤5+15 * f.rx.wt+22 * fwt f.fs:=by unfold formS;simp;omega
  simp only [Sn.tell,Sn.wt]
  unfold formW
  split
  ·omega
  ·split
   ·simp;omega
   ·have h10:((if h=true then 58 :: Sn.tellL ks else []):Str).length≤1+40 * Sn.wtL ks:=by split <;> simp;omega
    have h11:((if u=true then formS f else []):Str).length≤5+15 * f.rx.wt+22 * fwt f.fs:=by
     split
     ·exact h9
     ·simp
    simp only [List.length_cons,List.length_append,List.length_nil]
    omega
theorem tellSL_len:∀ l:List Sn,Sn.wfL l=true→(Sn.tellL l).length≤40 * Sn.wtL l
 | [],_=>by simp [Sn.tellL]
 | x :: r,hw=>by
  simp only [Sn.wfL,Bool.and_eq_true] at hw
  have h1:=tellS_len x hw.1
  have h2:=tellSL_len r hw.2
  simp only [Sn.tellL,Sn.wtL,List.length_append];omega
end
mutual
theorem tinyS_wt:∀ x:Sn,x.wf=true→x.wt≤1000→x.tiny
 | .mk k t n h u f o ks,hw,hwt=>by
  simp only [Sn.wt] at hwt
  rw [Sn.wf,Bool.and_eq_true] at hw
  have hwl:Sn.wfL ks=true:=by
   cases h with
   | true =>
    have h2:=hw.2
    rw [Bool.not_true,Bool.false_or,Bool.and_eq_true] at h2
    exact h2.2
   | false=>exact kids_none hw.1
  obtain ⟨f1,f2⟩:=form_told (fields_form hw.1)
  have f1':f.rx.tell.length≤15 * f.rx.wt:=f1
  have f2':(showF f.fs).length≤22 * fwt f.fs:=f2
  obtain ⟨o1,o2⟩:=owt_mem (o:=o)
  obtain ⟨g1,g2⟩:=fwt_mem (fs:=f.fs)
  have h2:=Sn.len_parts ks
  have h3:=partsL_wtS ks
  have hfw:formW f=f.rx.wt+fwt f.fs:=rfl
  simp only [Sn.tiny]
  refine ⟨⟨form_small (by omega),by omega,fun g hg=>?_,by omega,by omega⟩,by omega,by omega,fun s hs=>?_,by omega,tinySL_wt ks hwl (by omega)⟩
  ·have:=g2 g hg;omega
  ·have:=o2 s hs;omega
theorem tinySL_wt:∀ l:List Sn,Sn.wfL l=true→Sn.wtL l≤1000→Sn.tinyL l
 | [],_,_=>trivial
 | x :: r,hw,hwt=>by
  simp only [Sn.wfL,Bool.and_eq_true] at hw
  simp only [Sn.wtL] at hwt
  simp only [Sn.tinyL]
  exact ⟨tinyS_wt x hw.1 (by omega),tinySL_wt r hw.2 (by omega)⟩
end
end Go.Proofs.YtbmakifbppocaaaGreatDoor
set_option maxRecDepth 100000
namespace Go.Proofs.YtbmakifbppocaaaGreatDoor
open Go.RowKit
theorem SShw_any (B g:Nat) (htb:1 < B):∀ (N:Nat) (ks:List Sn),Sn.partsL ks < N→Sn.tinyL ks→ks.length≤1000000→Sn.wfL ks=true→ShwC B g ks
 | 0,ks,h,_,_,_=>by omega
 | N+1,ks,h,hti,hkl,hwf=>SShow_step B g ks hti hkl hwf htb (fun y hy hh=>by
   have h1:=Sn.parts_mem hy
   have h2:=tinyL_mem hti y hy
   have h3:=wfL_mem0 hwf y hy
   obtain ⟨yk,yt,yn,yh,yu,yf,yo,ys⟩:=y
   simp only [Sn.tiny] at h2
   obtain ⟨_,_,_,_,h5,h6⟩:=h2
   simp only [Sn.parts] at h1
   obtain rfl:yh=true:=hh
   rw [Sn.wf,Bool.and_eq_true,Bool.not_true,Bool.false_or,Bool.and_eq_true] at h3
   exact SShw_any B g htb N ys (by omega) h6 h5 h3.2.2)
theorem SshowF_no (S:Nat→Prop) (ks:List Sn) (hsm:Sn.smallL ks) (hkl:ks.length≤1000000) (hm:maySn ks=false) (a:Option Addr) (c:Nat) (w:World) (hx:SnSl w S a ks.length ks) :
  Calls Tryz.prog 6 #[.slice a ks.length c] w fun e w'=>e=.returned (.tuple #[.string ⟨([]).toArray⟩,.int .i64 10])∧Below w.heap.size w w':=by
 have HM:=Lib.hid (NMay_any S ks hsm hkl a c w hx)
 rw [hm] at HM
 clear hx hm hsm
 go_enter Tryz.func6,Tryz.ntmps6
 go_wp2_with (go_at_call 9;refine HM.out.mono ?_)
 first | rintro e w1 rfl hb1 | rintro e w1 ⟨rfl,hb1⟩
 go_wp2
 go_ret2
 exact ⟨rfl,hb1⟩
theorem SshowF_yes (S:Nat→Prop) (ks:List Sn) (hti:Sn.tinyL ks) (hkl:ks.length≤1000000) (hm:maySn ks=true) (hl:(Sn.tellL ks).length≤10000000) (a:Option Addr) (c:Nat) (w:World) (hS:∀ b,S b→b < w.heap.size) (ht:Tab w) (hx:SnSl w S a ks.length ks) :
  Calls Tryz.prog 6 #[.slice a ks.length c] w fun e w'=>e=.returned (.tuple #[.string ⟨(Sn.tellL ks).toArray⟩,.int .i64 0])∧Below w.heap.size w w':=by
 have HM:=Lib.hid (NMay_any S ks (tinyL_small ks hti) hkl a c w hx)
 rw [hm] at HM
 have hwf:Sn.wfL ks=true:=by
  unfold maySn at hm
  rw [Bool.and_eq_true,Bool.and_eq_true] at hm
  exact hm.1.2
 have htb:=ht.lt
 have HSH:=Lib.hid (fun g=>SShw_any w.heap.size g htb (Sn.partsL ks+1) ks (by omega) hti hkl hwf)
 have HX:=Lib.hid hx
 have HT:=Lib.hid ht
 have HS:=Lib.hid hS
 clear hx hm hti hwf ht hS
 go_enter Tryz.func6,Tryz.ntmps6
 go_wp2_with (go_at_call 9;refine HM.out.mono ?_)
 first | rintro e w1 rfl hb1 | rintro e w1 ⟨rfl,hb1⟩
 have hb2:Below w1.heap.size w1 (w1.alloc (.cells #[.pointer none,.slice none 0 0] 43)):=(Below.refl _ _).alloc (Nat.le_refl _) _
 have hbw:=bel2 hb1 hb2
 have HC:=Lib.hid (HSH.out w1.heap.size S a c [] _ (Bld.fresh w.heap.size w1 hb1.size) ((HT.out.keep hb1).keep hb2) hbw.size HS.out ((HX.out.later hb1).later hb2) (by simpa using hl))
 rw [List.nil_append] at HC
 have HBW:=Lib.hid hbw
 have hz1:=hb1.size
 clear hb1 hb2 hbw
 go_wp2_with (go_at_call 10;refine HC.out.mono ?_)
 first | rintro e w3 rfl hbl3 hfr3 | rintro e w3 ⟨rfl,hbl3,hfr3⟩
 have hb3:=HBW.out.trans (hfr3.below (by simp;omega) (by simpa using hz1))
 have HB3:=Lib.hid hb3
 have hsz3:=hb3.size
 clear hfr3 hb3
 go_wp2_with (go_at_call 11;refine (String_any _ _ _ _ hbl3 hsz3).mono ?_)
 first | rintro e w4 rfl hb4 | rintro e w4 ⟨rfl,hb4⟩
 go_wp2
 go_ret2
 exact ⟨rfl,HB3.out.trans hb4⟩
end Go.Proofs.YtbmakifbppocaaaGreatDoor
set_option maxRecDepth 100000
namespace Go.Proofs.YtbmakifbppocaaaGreatDoor
open Go.RowKit
def awA:Sn:=.mk 1 [] 1 true false tf0 [] [textS [97,125]]
def awB:Sn:=.mk 2 [] 2 false false tf0 [[97],[98,44,99]] []
def awT:Str:=[36,123,49,58,97,92,125,125,36,123,50,124,97,44,98,92,44,99,124,125]
theorem awAB_tell:Sn.tellL [awA,awB]=awT:=by kernel_rfl
theorem awAB_may:maySn [awA,awB]=true:=by kernel_rfl
theorem awAB_wf:Sn.wfL [awA,awB]=true:=by kernel_rfl
theorem awAB_wt:Sn.wtL [awA,awB]≤1000:=by decide
def awK1:Obj:=.cells #[.int .i64 0,.string ⟨([97,125]).toArray⟩,.int .i64 0,.bool false,.bool false,.int .i64 0,.string ⟨#[]⟩,.bool false,.slice none 0 0,.int .i64 0,.int .i64 0,.bool false,.slice none 0 0,.slice none 0 0,.bool false,.bool false,.slice none 0 0,.slice none 0 0] 38
def awK2:Obj:=.cells #[.string ⟨([97]).toArray⟩,.string ⟨([98,44,99]).toArray⟩] 9
def awK3 (b:Nat):Obj:=.cells #[.int .i64 1,.string ⟨([]).toArray⟩,.int .i64 1,.bool true,.bool false,.int .i64 0,.string ⟨#[]⟩,.bool false,.slice none 0 0,.int .i64 0,.int .i64 0,.bool false,.slice none 0 0,.slice none 0 0,.bool false,.bool false,.slice none 0 0,.slice (some ⟨b,0,none⟩) 1 1,.int .i64 2,.string ⟨([]).toArray⟩,.int .i64 2,.bool false,.bool false,.int .i64 0,.string ⟨#[]⟩,.bool false,.slice none 0 0,.int .i64 0,.int .i64 0,.bool false,.slice none 0 0,.slice none 0 0,.bool false,.bool false,.slice (some ⟨b+1,0,none⟩) 2 2,.slice none 0 0] 38
def awSW (w:World):World:=((w.alloc awK1).alloc awK2).alloc (awK3 w.heap.size)
theorem awSW_below (w:World):Below w.heap.size w (awSW w):=(((Below.refl _ _).alloc (Nat.le_refl _) _).alloc (by simp) _).alloc (by simp;omega) _
theorem awSW_v (w:World):SnSl (awSW w) Any (some ⟨w.heap.size+2,0,none⟩) 2 [awA,awB]:=by
 have h0:(awSW w).heap[w.heap.size]?=some awK1:=by
  unfold awSW;rw [Below.heap_alloc _ _ _ (by simp;omega),Below.heap_alloc _ _ _ (by simp)];exact heap_alloc_new w _
 have h1:(awSW w).heap[w.heap.size+1]?=some awK2:=by
  unfold awSW;rw [Below.heap_alloc _ _ _ (by simp)]
  have:=heap_alloc_new (w.alloc awK1) awK2;simpa using this
 have h2:(awSW w).heap[w.heap.size+2]?=some (awK3 w.heap.size):=by
  unfold awSW
  have:=heap_alloc_new ((w.alloc awK1).alloc awK2) (awK3 w.heap.size);simpa using this
 have s1:SnSl (awSW w) Any (some ⟨w.heap.size,0,none⟩) 1 [textS [97,125]]:=SnSl.one (hd_v _ _ 0 [97,125] 0) h0 trivial
 have s2:SlS (awSW w) Any (some ⟨w.heap.size+1,0,none⟩) 1 2 (scells [[97],[98,44,99]]):=(Sl.lit (sz:=1) (n:=2) h1 rfl).slAny
 refine ⟨[_,_],?_,.cons (hx_v (os:=[]) (ks:=[textS [97,125]]) (oa:=none) (oc:=0) (ka:=some ⟨w.heap.size,0,none⟩) (kc:=1) (SlS.none_ _ _ _ _) s1) (.cons (hx_v (os:=[[97],[98,44,99]]) (ks:=[]) (oa:=some ⟨w.heap.size+1,0,none⟩) (oc:=2) (ka:=none) (kc:=0) s2 (SnSl.nil _ _ _)) .nil)⟩
 exact (Sl.lit (sz:=18) (n:=2) h2 rfl).slAny
theorem awake22 (w:World) (ht:Tab w):Calls Tryz.prog 5 #[] w fun e w'=>e=.returned (.bool true)∧Below w.heap.size w w':=by
 have hb:=awSW_below w
 have H:Calls Tryz.prog 6 #[.slice (some ⟨w.heap.size+2,0,none⟩) 2 2] (awSW w) fun e w'=>e=.returned (.tuple #[.string ⟨(Sn.tellL [awA,awB]).toArray⟩,.int .i64 0])∧Below (awSW w).heap.size (awSW w) w' :=
  SshowF_yes (fun b=>b < (awSW w).heap.size) [awA,awB] (tinySL_wt _ awAB_wf awAB_wt) (by decide) awAB_may (by rw [awAB_tell];decide) _ 2 _ (fun _ h=>h) (ht.keep hb) ((awSW_v w).mono (fun _ _ h=>h))
 rw [awAB_tell] at H
 unfold awSW awK1 awK2 awK3 awT at H
 unfold awSW awK1 awK2 awK3 at hb
 have HB:=Lib.hid hb
 have HH:=Lib.hid H
 clear ht H hb
 go_enter Tryz.func5,Tryz.ntmps5
 go_wp2_with (go_at_call 6;refine HH.out.mono ?_)
 first | rintro e w1 rfl hb1 | rintro e w1 ⟨rfl,hb1⟩
 go_wp2
 go_ret
 exact ⟨rfl,HB.out.trans (hb1.mono (by omega))⟩
set_option maxHeartbeats 4000000 in
theorem SshowTells_walk (a:Option Addr) (c:Nat) (xs:List Sn) (w:World) (ht:Tab w) (hx:SnSl w Any a xs.length xs) (hm:Sn.memL xs) (hl:xs.length≤maxLen) :
  Calls Tryz.prog 3 #[.slice a xs.length c] w fun e w'=>e=.returned (.bool true)∧Below w.heap.size w w':=by
 obtain ⟨L,hL⟩:∃ L,Sn.leftL xs 150=L:=⟨_,rfl⟩
 have HLB:=Lib.hid (LawSnips_any (Sn.partsL xs+1) xs (by omega) hm hl Any a c w 150 hx (by decide) (by decide))
 rw [hL] at HLB
 have HAW:=Lib.hid awake22
 have hX:0≤L→∃ (s:Str) (n:Int),∀ w',Below w.heap.size w w' →
   (Calls Tryz.prog 6 #[.slice a xs.length c] w' fun e w''=>e=.returned (.tuple #[.string ⟨(s).toArray⟩,.int .i64 n])∧Below w'.heap.size w' w'') ∧
   (Calls Tryz.prog 7 #[.slice a xs.length c] w' fun e w''=>e=.returned (.tuple #[.string ⟨(s).toArray⟩,.int .i64 n])∧Below w'.heap.size w' w''):=by
  intro h0
  have h1:=leftL_eq xs 150 (by rw [hL];exact h0)
  have hw:Sn.wtL xs≤150:=by omega
  have hp:=partsL_wtS xs
  have hn:=Sn.len_parts xs
  have hsm:=smallL_wtS xs (by omega)
  cases hmay:maySn xs with
  | true =>
   have hwf:Sn.wfL xs=true:=by
    have h:=hmay;unfold maySn at h;rw [Bool.and_eq_true,Bool.and_eq_true] at h;exact h.1.2
   have htl:=tellSL_len xs hwf
   have hti:=tinySL_wt xs hwf (by omega)
   exact ⟨Sn.tellL xs,0,fun w' hb=>⟨SshowF_yes (fun b=>b < w'.heap.size) xs hti (by omega) hmay (by omega) a c w' (fun _ h=>h) (ht.keep hb) ((hx.later hb).mono (fun _ _ h=>h)),R22Show_yes Any xs hti (by omega) hmay (by omega) a c w' (hx.later hb)⟩⟩
  | false=>exact ⟨[],10,fun w' hb=>⟨SshowF_no Any xs hsm (by omega) hmay a c w' (hx.later hb),R22Show_no Any xs hsm (by omega) hmay a c w' (hx.later hb)⟩⟩
 have HT:=Lib.hid ht
 have HX:=Lib.hid hX
 clear hL hm hx ht hX
 unfold maxLen at hl
 go_enter Tryz.func3,Tryz.ntmps3
 go_wp2_with (go_at_call 4;refine HLB.out.mono ?_)
 first | rintro e w1 rfl hb1 | rintro e w1 ⟨rfl,hb1⟩
 have HT1:=Lib.hid (HT.out.keep hb1)
 by_cases hneg:L < 0
 ·have hge:decide (L < 0)=true:=decide_eq_true hneg
  clear hneg
  go_wp2_with (go_at_call 5;refine (HAW.out _ HT1.out).mono ?_;rintro e w2 ⟨rfl,hb2⟩)
  go_ret
  exact ⟨rfl,bel2 hb1 hb2⟩
 ·obtain ⟨s,n,hS⟩:=HX.out (by omega)
  have HS:=Lib.hid hS
  have hge:decide (L < 0)=false:=decide_eq_false hneg
  have HC1:=Lib.hid (HS.out w1 hb1).1
  clear hS HX hneg
  go_wp2_with (go_at_call 6;refine HC1.out.mono ?_)
  first | rintro e w2 rfl hb2 | rintro e w2 ⟨rfl,hb2⟩
  have hbw2:=bel2 hb1 hb2
  have HC2:=Lib.hid (HS.out w2 hbw2).2
  go_wp2_with (go_at_call 7;refine HC2.out.mono ?_)
  first | rintro e w3 rfl hb3 | rintro e w3 ⟨rfl,hb3⟩
  have hbw3:=bel2 hbw2 hb3
  have HT3:=Lib.hid (HT.out.keep hbw3)
  clear hb1 hb2 hb3
  go_wp2_with (go_at_call 5;refine (HAW.out _ HT3.out).mono ?_;rintro e w4 ⟨rfl,hb4⟩)
  go_ret
  exact ⟨rfl,bel2 hbw3 hb4⟩
end Go.Proofs.YtbmakifbppocaaaGreatDoor
set_option maxRecDepth 100000
namespace Go.Proofs.YtbmakifbppocaaaGreatDoor
open Go.ChangeShapes Go.WideShapes Go.RowKit
theorem tab_laid {W : World} (h : laidMetH Tryz.prog [("math/bits.deBruijn32tab", Rows.laid_math_bits_deBruijn32tab), ("math/bits.deBruijn64tab", Rows.laid_math_bits_deBruijn64tab), ("internal/strconv.uint64pow10", Rows.laid_internal_strconv_uint64pow10)] W) : Tab W := by
 rw [MakeChecks.laidMetH_plain _ _ _ (by kernel_rfl)] at h
 obtain ⟨ps,⟨g0,t0,cs0,f0,p0,q0,hg0,ht0,hv0,hd0,⟨g1,t1,cs1,f1,p1,q1,hg1,ht1,hv1,hd1,⟨g2,t2,cs2,f2,p2,q2,hg2,ht2,hv2,hd2,_,_⟩,_⟩,_⟩,_⟩:=h
 have hg : Tryz.prog.globalNamed "internal/strconv.uint64pow10" = some 1 := by kernel_rfl
 have ht:(Tryz.prog.globals[1]?).map (·.type)=some 93:=by kernel_rfl
 obtain rfl:=Option.some.inj (hg.symm.trans hg2)
 obtain rfl:=Option.some.inj (ht.symm.trans ht2)
 have hc:=Lib.cells_of_tab (zs:=Lib.pow10Tab) (k:=.u64) Tryz.underlying93 Tryz.underlying82 (by kernel_rfl) (by kernel_rfl) hd2
 unfold Tab Lib.TabIs
 rw [hv2,← hc]
end Go.Proofs.YtbmakifbppocaaaGreatDoor
set_option maxRecDepth 100000
namespace Go.Proofs.YtbmakifbppocaaaGreatDoor
open Go.RowKit Go.WideShapes Go.ChangeShapes
theorem own:ownKnob Tryz.prog.godebug=none:=by kernel_rfl
section
variable {H:Type} {enc:TypeId × Value→H} {P:Program}
theorem args_again (hl:laidOutB P=true) {W W':World} (hb:Below W.heap.size W W'):∀ {ts:List TypeId} {vs:List Value} {ds:List (DataW H)} {ps:List MemPlace},
  (∀ t ∈ ts,P.readableRec t=true∧t < P.types.size)→DataW.TrodAll enc P W 0 (fun _=>true) true ts vs ds ps→(∀ p ∈ ps,p.block < W.heap.size)→∀ sp:Nat→Bool,(∀ p ∈ ps,sp p.block=true) →
  DataW.TrodAll enc P W' 0 sp true ts vs ds ps
 | [],vs,ds,ps,_,h,_,sp,_=>by
  obtain ⟨rfl,rfl,rfl⟩:=trodAll_nil h
  exact trodAll_mk0
 | t :: ts,vs,ds,ps,ht,h,hlt,sp,hsp=>by
  obtain ⟨v,vs',d,ds',p,q,rfl,rfl,rfl,h1,h2⟩:=trodAll_cons h
  obtain ⟨r1,r2⟩:=ht t (List.mem_cons_self ..)
  exact trodAll_cons_mk (WideElems.Trod_stays hl r1 r2 h1 (fun x hx=>hb.same (hlt x (List.mem_append_left _ hx))) (fun x hx=>hsp x (List.mem_append_left _ hx)))
   (args_again hl hb (fun t hm=>ht t (List.mem_cons_of_mem _ hm)) h2 (fun x hx=>hlt x (List.mem_append_right _ hx)) sp (fun x hx=>hsp x (List.mem_append_right _ hx)))
theorem post_of_below {f:Func} {s:ChangeSpec} {apart fresh handsOn again:Bool} {W W':World} {args:Array Value} {v:Value} {ds gs:List (DataW H)} {before pa pv:List MemPlace}
  (hW:DataW.Whole enc P f.params.toList s.vars apart W args.toList ds gs before)
  (hres:∀ (b:Nat) (sp:Nat→Bool) (hd:Bool),DataW.TrodAll enc P W' b sp hd f.resultTypes.toList (v.resultList f.resultTypes.size) (s.fn H (ds++gs)).results [])
  (hargs:∀ sp:Nat→Bool,(∀ p ∈ before,sp p.block=true)→DataW.TrodAll enc P W' 0 sp true f.params.toList args.toList (s.fn H (ds++gs)).args pa)
  (hvars:∀ sp:Nat→Bool,(∀ p ∈ before,sp p.block=true)→DataW.TrodVars enc P W' sp s.vars (s.fn H (ds++gs)).vars pv)
  (hps:before=pa++pv) (hb:Below W.heap.size W W')
  (hok:∀ (j:Nat) (t:TypeId) (r:Value),f.resultTypes[j]?=some t→(v.resultList f.resultTypes.size)[j]?=some r→Value.okWide P W' .any 0 t r) :
  s.post enc P f apart fresh handsOn again W args v W':=by
 have hlt:∀ p ∈ before,p.block < W.heap.size:=fun p hp=>hW.lt p hp
 have hold:∀ p ∈ before,(fun b=>decide (b < W.heap.size)) p.block=true:=fun p hp=>by simpa using hlt p hp
 refine ⟨ds,gs,before,[],pa,pv,hW,hres _ _ _,hargs _ hold,hvars _ hold,World.keptBut_mono (fun p hp=>⟨hp,?_⟩) (hb.frame (· ∈ before)),fun _=>?_⟩
 ·rw [hps,List.mem_append] at hp
  exact Or.inr hp
 ·obtain ⟨_,_,_,_,_,hz,hn⟩:=hW
  refine ⟨hok,_,_,([]++pa)++pv,⟨[]++pa,pv,trodAll_append (hargs _ (fun _ _=>rfl)) (hres _ _ _),hvars _ (fun _ _=>rfl),rfl,?_,?_⟩,?_⟩
  ·intro b off hp
   have hin:MemPlace.cell b off ∈ before:=by rw [hps];simpa using hp
   rw [hb.frozen (hlt _ hin)]
   exact hz b off hin
  ·intro ha
   have:=hn ha
   rw [hps] at this
   simpa using this
  ·intro p hp _
   rw [hps]
   simpa using hp
end
end Go.Proofs.YtbmakifbppocaaaGreatDoor
