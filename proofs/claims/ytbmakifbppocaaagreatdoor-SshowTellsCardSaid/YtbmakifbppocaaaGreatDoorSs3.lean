/- walks of fmts: may, May -/
import Derived.Test.YtbmakifbppocaaaGreatDoorSs1
import Derived.Test.YtbmakifbppocaaaGreatDoorSs2
import Derived.Lib.ItoaMem
import Derived.Deep.LoopGhost
import Derived.IntWalk
import Derived.StillTailTactics
import Derived.Deep.MidRow
import Derived.Laws.ResultCell
import Derived.Laws.Rows
import Derived.Laws.Tables
import Derived.Deep.WholeRow
import Derived.Deep.Quiet
import Derived.Maps.OwnSet
import Derived.Maps.Keyed
import Derived.StillTail
set_option maxRecDepth 100000
namespace Go.Proofs.YtbmakifbppocaaaGreatDoor
open Go.RowKit
set_option maxHeartbeats 4000000 in
theorem may_any (f:Fm) (w:World) :
  Calls Tryz.prog 80 #[.agg #[.int .i64 (f).kind,.int .i64 (f).n,.int .i64 (f).cse,.string ⟨((f).thn).toArray⟩,.string ⟨((f).els).toArray⟩]] w fun e w'=>e=.returned (.bool (mayF f))∧Below w.heap.size w w':=by
 obtain ⟨kind,n,cse,thn,els⟩:=f
 by_cases hn:0≤n∧n≤9999
 ·obtain ⟨hn0,hn1⟩:=hn
  have hz:=fun (n:Int) (w:World)=>Name_any n w
  generalize hR:mayF ⟨kind,n,cse,thn,els⟩=R
  have HR:=Lib.hid hR
  clear hR
  have HZ:=Lib.hid hz;clear hz
  have hk:kind=0∨kind=1∨kind=2∨kind=3∨kind=4∨kind=5∨(¬ kind=0∧¬ kind=1∧¬ kind=2∧¬ kind=3∧¬ kind=4∧¬ kind=5):=by omega
  have HN:Hid (decide (0≤n∧n≤9999)=true):=Lib.hid (by simp;omega)
  rcases hk with hk | hk | hk | hk | hk | hk | ⟨k0,k1,k2,k3,k4,k5⟩
  ·subst hk
   have HS:Hid (R=(blankB ⟨0,n,cse,thn,els⟩ false false true false && decide (thn≠[]))):=Lib.hid (by rw [← HR.out,mayF,HN.out,Bool.true_and,if_pos rfl])
   clear HR
   by_cases hB:blankB ⟨0,n,cse,thn,els⟩ false false true false=true
   ·go_enter Tryz.func80,Tryz.ntmps80
    go_wp2_with (go_at_call 95;refine (blank_any ⟨_,n,cse,thn,els⟩ _ _ _ _ _).mono ?_)
    rintro e w1 ⟨rfl,hb1⟩
    have c2:w1.cell? ⟨w.heap.size,3,none⟩=some (.string ⟨(thn).toArray⟩):=by
     rw [hb1.cell (p:=⟨w.heap.size,3,none⟩) (by simp)];simp
    go_wp2
    go_ret
    refine ⟨ret_bool ?_,((Below.refl _ _).alloc (Nat.le_refl _) _).trans (hb1.mono (by simp))⟩
    rw [HS.out,hB];cases thn <;> rfl
   ·have hB':blankB ⟨0,n,cse,thn,els⟩ false false true false=false:=by simpa using hB
    clear hB
    go_enter Tryz.func80,Tryz.ntmps80
    go_wp2_with (go_at_call 95;refine (blank_any ⟨_,n,cse,thn,els⟩ _ _ _ _ _).mono ?_;rintro e w1 ⟨rfl,hb1⟩)
    go_ret
    refine ⟨ret_bool ?_,((Below.refl _ _).alloc (Nat.le_refl _) _).trans (hb1.mono (by simp))⟩
    rw [HS.out,hB'];simp
  ·subst hk
   have HS:Hid (R=(blankB ⟨1,n,cse,thn,els⟩ true false false false)):=Lib.hid (by rw [← HR.out,mayF,HN.out,Bool.true_and,if_neg (by simp),if_pos rfl])
   clear HR
   go_enter Tryz.func80,Tryz.ntmps80
   go_wp2_with (go_at_call 95;refine (blank_any ⟨_,n,cse,thn,els⟩ _ _ _ _ _).mono ?_;rintro e w1 ⟨rfl,hb1⟩)
   go_ret
   exact ⟨ret_bool HS.out.symm,((Below.refl _ _).alloc (Nat.le_refl _) _).trans (hb1.mono (by simp))⟩
  ·subst hk
   have HS:Hid (R=(blankB ⟨2,n,cse,thn,els⟩ true true false false && decide (nameOf cse≠[]))):=Lib.hid (by rw [← HR.out,mayF,HN.out,Bool.true_and,if_neg (by simp),if_neg (by simp),if_pos rfl])
   clear HR
   by_cases hB:blankB ⟨2,n,cse,thn,els⟩ true true false false=true
   ·go_enter Tryz.func80,Tryz.ntmps80
    go_wp2_with (go_at_call 95;refine (blank_any ⟨_,n,cse,thn,els⟩ _ _ _ _ _).mono ?_)
    rintro e w1 ⟨rfl,hb1⟩
    have c2:w1.cell? ⟨w.heap.size,2,none⟩=some (.int .i64 cse):=by
     rw [hb1.cell (p:=⟨w.heap.size,2,none⟩) (by simp)];simp
    go_wp2_with (go_at_call 65;refine (HZ.out _ _).mono ?_)
    rintro e w2 ⟨rfl,hb2⟩
    go_wp2
    go_ret
    refine ⟨ret_bool ?_,(((Below.refl _ _).alloc (Nat.le_refl _) _).trans (hb1.mono (by simp))).trans (hb2.mono (by have:=hb1.size;simp at this;omega))⟩
    rw [HS.out,hB];cases nameOf cse <;> rfl
   ·have hB':blankB ⟨2,n,cse,thn,els⟩ true true false false=false:=by simpa using hB
    clear hB
    go_enter Tryz.func80,Tryz.ntmps80
    go_wp2_with (go_at_call 95;refine (blank_any ⟨_,n,cse,thn,els⟩ _ _ _ _ _).mono ?_;rintro e w1 ⟨rfl,hb1⟩)
    go_ret
    refine ⟨ret_bool ?_,((Below.refl _ _).alloc (Nat.le_refl _) _).trans (hb1.mono (by simp))⟩
    rw [HS.out,hB'];simp
  ·subst hk
   have HS:Hid (R=(blankB ⟨3,n,cse,thn,els⟩ true false true false)):=Lib.hid (by rw [← HR.out,mayF,HN.out,Bool.true_and,if_neg (by simp),if_neg (by simp),if_neg (by simp),if_pos rfl])
   clear HR
   go_enter Tryz.func80,Tryz.ntmps80
   go_wp2_with (go_at_call 95;refine (blank_any ⟨_,n,cse,thn,els⟩ _ _ _ _ _).mono ?_;rintro e w1 ⟨rfl,hb1⟩)
   go_ret
   exact ⟨ret_bool HS.out.symm,((Below.refl _ _).alloc (Nat.le_refl _) _).trans (hb1.mono (by simp))⟩
  ·subst hk
   have HS:Hid (R=(blankB ⟨4,n,cse,thn,els⟩ true false false true)):=Lib.hid (by rw [← HR.out,mayF,HN.out,Bool.true_and,if_neg (by simp),if_neg (by simp),if_neg (by simp),if_neg (by simp),if_pos rfl])
   clear HR
   go_enter Tryz.func80,Tryz.ntmps80
   go_wp2_with (go_at_call 95;refine (blank_any ⟨_,n,cse,thn,els⟩ _ _ _ _ _).mono ?_;rintro e w1 ⟨rfl,hb1⟩)
   go_ret
   exact ⟨ret_bool HS.out.symm,((Below.refl _ _).alloc (Nat.le_refl _) _).trans (hb1.mono (by simp))⟩
  ·subst hk
   have HS:Hid (R=(blankB ⟨5,n,cse,thn,els⟩ true false true true)):=Lib.hid (by rw [← HR.out,mayF,HN.out,Bool.true_and,if_neg (by simp),if_neg (by simp),if_neg (by simp),if_neg (by simp),if_neg (by simp),if_pos rfl])
   clear HR
   go_enter Tryz.func80,Tryz.ntmps80
   go_wp2_with (go_at_call 95;refine (blank_any ⟨_,n,cse,thn,els⟩ _ _ _ _ _).mono ?_;rintro e w1 ⟨rfl,hb1⟩)
   go_ret
   exact ⟨ret_bool HS.out.symm,((Below.refl _ _).alloc (Nat.le_refl _) _).trans (hb1.mono (by simp))⟩
  ·have HS:Hid (R=false):=Lib.hid (by rw [← HR.out,mayF,HN.out,Bool.true_and,if_neg (by omega),if_neg (by omega),if_neg (by omega),if_neg (by omega),if_neg (by omega),if_neg (by omega)])
   clear HR
   have e0:(kind == 0)=false:=by simpa using k0
   have e1:(kind == 1)=false:=by simpa using k1
   have e2:(kind == 2)=false:=by simpa using k2
   have e3:(kind == 3)=false:=by simpa using k3
   have e4:(kind == 4)=false:=by simpa using k4
   have e5:(kind == 5)=false:=by simpa using k5
   clear k0 k1 k2 k3 k4 k5
   go_enter Tryz.func80,Tryz.ntmps80
   go_wp2
   go_ret
   exact ⟨ret_bool HS.out.symm,(Below.refl _ _).alloc (Nat.le_refl _) _⟩
 ·have HS:Hid (mayF ⟨kind,n,cse,thn,els⟩=false):=Lib.hid (by unfold mayF;rw [decide_eq_false hn,Bool.false_and])
  rw [HS.out]
  go_enter Tryz.func80,Tryz.ntmps80
  go_wp2
  all_goals first
   | (exfalso;omega)
   | (go_ret;exact ⟨rfl,(Below.refl _ _).alloc (Nat.le_refl _) _⟩)
end Go.Proofs.YtbmakifbppocaaaGreatDoor
set_option maxRecDepth 100000
namespace Go.Proofs.YtbmakifbppocaaaGreatDoor
open Go.RowKit
set_option maxHeartbeats 4000000 in
theorem May_any (a:Option Addr) (n c:Nat) (fs:List Fm) (w:World) (h:Sl w w.heap.size a 5 n (fcells fs)) (hn:n≤1000000) :
  Calls Tryz.prog 62 #[.slice a n c] w fun e w'=>e=.returned (.bool (mayFs fs))∧Below w.heap.size w w':=by
 generalize hR:mayFs fs=R
 have HR:=Lib.hid hR
 clear hR
 have HR0:Hid (mayL false (fs.drop 0)=R):=HR
 have Hn:=Lib.hid h.fs_len
 have HSl:=Lib.hid h
 clear HR h
 go_enter Tryz.func62,Tryz.ntmps62
 go_wp2
 go_loopw [7] (fun q wr=>∃ (k:Nat) (pt:Bool),k≤n∧q=.int .i64 k∧Below w.heap.size w wr∧Hid ((k=0→pt=false)∧(0 < k→∀ g,fs[k - 1]?=some g→decide (g.kind=0)=pt))∧Hid (mayL pt (fs.drop k)=R)) (fun q _=>n - (intOf q).toNat)
 case atStart=>exact ⟨0,false,by omega,rfl,Below.refl _ _,Lib.hid ⟨fun _=>rfl,fun h=>by omega⟩,HR0⟩
 case round =>
  obtain ⟨k,pt,hk,rfl,hb,HP,HF⟩:=hrel
  clear HR0
  have hB:=hb.size
  cases hd:fs.drop k with
  | nil =>
   have h2:n≤k:=by have:=Hn.out;simp at hd;omega
   have HF':Hid (mayL pt []=R):=Lib.hid (by rw [← hd];exact HF.out)
   clear hd HF
   go_wp2
   go_ret
   exact ⟨ret_bool HF'.out,hb⟩
  | cons f r =>
   obtain ⟨h2,h3,hr⟩:=ldrop_cons hd
   have HF':Hid (mayL pt (f :: r)=R):=Lib.hid (by rw [← hd];exact HF.out)
   have Hr:=Lib.hid hr
   have HK:=Lib.hid h3
   have hkn:k < n:=by have:=Hn.out;omega
   obtain ⟨b,o,rfl,hbB,c0,c1,c2,c3,c4⟩:=(HSl.out.keep hb).fm h3
   clear hd HF hr h2 h3
   obtain ⟨kind,fn,cse,thn,els⟩:=f
   by_cases hm:mayF ⟨kind,fn,cse,thn,els⟩=true
   ·have HM:=Lib.hid hm
    have c5:∀ w1,Below (wr.heap.size+1) (wr.alloc (.cells #[.int .i64 kind,.int .i64 fn,.int .i64 cse,.string ⟨(thn).toArray⟩,.string ⟨(els).toArray⟩] 65)) w1→w1.cell? ⟨wr.heap.size,0,none⟩=some (.int .i64 kind):=fun w1 h1=>by
     rw [h1.cell (p:=⟨wr.heap.size,0,none⟩) (by simp)];simp
    have C5:=Lib.hid c5;clear c5
    by_cases hk0:kind=0
    ·subst hk0
     by_cases hkk:k=0
     ·have hpt:=HP.out.1 hkk
      have hkk':k≤0:=by omega
      subst hpt
      have HKK:=Lib.hid hkk;clear hkk
      go_wp2_with (go_at_call 80;refine (may_any ⟨0,fn,cse,thn,els⟩ _).mono ?_;rintro e w1 ⟨rfl,hb1⟩;have d5:=C5.out w1 (by simpa using hb1);have hbw:Below w.heap.size wr w1:=((Below.refl _ _).alloc hB _).trans (hb1.mono (by simp;omega)))
      clear hm
      go_roundw
      case rel =>
       refine ⟨k+1,true,by omega,by go_num,hb.trans hbw,Lib.hid ⟨fun h=>by omega,fun _ g hg=>?_⟩,?_⟩
       ·rw [show k+1 - 1=k from rfl,HK.out] at hg;injection hg with hg;subst hg;first | rfl | (simp;done) | (simp [HK0.out];done)
       ·refine Lib.hid ?_
        rw [Hr.out,← HF'.out];conv=>rhs;unfold mayL
        (rw [HM.out];rfl)
      case measure=>simp [intOf];omega
     ·obtain ⟨g,hg⟩:∃ g,fs[k - 1]?=some g:=⟨fs[k - 1]'(by have:=Hn.out;omega),List.getElem?_eq_getElem (by have:=Hn.out;omega)⟩
      have hpg:=HP.out.2 (by omega) g hg
      obtain ⟨b',o',hab,_,g0,_⟩:=HSl.out.fm hg
      have hbo:b'=b∧o'=o:=by simpa using hab.symm
      obtain ⟨rfl,rfl⟩:=hbo
      have hkp:0 < k:=by omega
      have ek:((k - 1:Nat):Int)=(k:Int) - 1:=by omega
      have e1:(k:Int) - 1 < n∧0≤(k:Int) - 1:=by omega
      obtain ⟨gk,gn,gc,gt,ge⟩:=g
      have G0:=Lib.hid g0
      have HPG:=Lib.hid hpg
      clear hab g0 hpg hkk hg
      by_cases hgk:gk=0
      ·subst hgk
       go_wp2_with (go_at_call 80;refine (may_any ⟨0,fn,cse,thn,els⟩ _).mono ?_;rintro e w1 ⟨rfl,hb1⟩;have d5:=C5.out w1 (by simpa using hb1);have hbw:Below w.heap.size wr w1:=((Below.refl _ _).alloc hB _).trans (hb1.mono (by simp;omega));have g1:w1.cell? ⟨b',o'+(k - 1) * 5,none⟩=some (.int .i64 0):=((hb.trans hbw).cell (p:=⟨b',o'+(k - 1) * 5,none⟩) hbB).trans G0.out)
       go_ret
       refine ⟨ret_bool ?_,hb.trans hbw⟩
       rw [← HF'.out,mayL,← HPG.out];simp
      ·have eg:(gk == 0)=false:=by simpa using hgk
       have HGK:=Lib.hid hgk;clear hgk
       go_wp2_with (go_at_call 80;refine (may_any ⟨0,fn,cse,thn,els⟩ _).mono ?_;rintro e w1 ⟨rfl,hb1⟩;have d5:=C5.out w1 (by simpa using hb1);have hbw:Below w.heap.size wr w1:=((Below.refl _ _).alloc hB _).trans (hb1.mono (by simp;omega));have g1:w1.cell? ⟨b',o'+(k - 1) * 5,none⟩=some (.int .i64 gk):=((hb.trans hbw).cell (p:=⟨b',o'+(k - 1) * 5,none⟩) hbB).trans G0.out)
       clear hm
       go_roundw
       case rel =>
        refine ⟨k+1,true,by omega,by go_num,hb.trans hbw,Lib.hid ⟨fun h=>by omega,fun _ g hg=>?_⟩,?_⟩
        ·rw [show k+1 - 1=k from rfl,HK.out] at hg;injection hg with hg;subst hg;first | rfl | (simp;done) | (simp [HK0.out];done)
        ·refine Lib.hid ?_
         rw [Hr.out,← HF'.out];conv=>rhs;unfold mayL
         (rw [HM.out,← HPG.out];simp [HGK.out])
       case measure=>simp [intOf];omega
    ·have e0:(kind == 0)=false:=by simpa using hk0
     have HK0:=Lib.hid hk0;clear hk0
     go_wp2_with (go_at_call 80;refine (may_any ⟨kind,fn,cse,thn,els⟩ _).mono ?_;rintro e w1 ⟨rfl,hb1⟩;have d5:=C5.out w1 (by simpa using hb1);have hbw:Below w.heap.size wr w1:=((Below.refl _ _).alloc hB _).trans (hb1.mono (by simp;omega)))
     clear hm
     go_roundw
     case rel =>
      refine ⟨k+1,false,by omega,by go_num,hb.trans hbw,Lib.hid ⟨fun h=>by omega,fun _ g hg=>?_⟩,?_⟩
      ·rw [show k+1 - 1=k from rfl,HK.out] at hg;injection hg with hg;subst hg;first | rfl | (simp;done) | (simp [HK0.out];done)
      ·refine Lib.hid ?_
       rw [Hr.out,← HF'.out];conv=>rhs;unfold mayL
       (rw [HM.out];simp [HK0.out])
     case measure=>simp [intOf];omega
   ·have hm':mayF ⟨kind,fn,cse,thn,els⟩=false:=by simpa using hm
    clear hm
    go_wp2_with (go_at_call 80;refine (may_any ⟨kind,fn,cse,thn,els⟩ _).mono ?_;rintro e w1 ⟨rfl,hb1⟩)
    go_ret
    refine ⟨ret_bool ?_,hb.trans (((Below.refl _ _).alloc hB _).trans (hb1.mono (by simp;omega)))⟩
    rw [← HF'.out,mayL,hm'];rfl
end Go.Proofs.YtbmakifbppocaaaGreatDoor
set_option maxRecDepth 100000
namespace Go.Proofs.YtbmakifbppocaaaGreatDoor
open Go.RowKit
/-- What is left of n behind the parts of a format. -/
def leftF:List Fm→Int→Int
 | [],n=>n
 | f :: r,n=>if n≤f.thn.length∨n≤f.els.length then -1 else leftF r (n - 1 - f.thn.length - f.els.length)
set_option maxHeartbeats 4000000 in
theorem FmtsLeft_any (a:Option Addr) (n c:Nat) (m:Int) (fs:List Fm) (w:World) (h:Sl w w.heap.size a 5 n (fcells fs)) (hn:n≤maxLen) (hm:-100000≤m∧m≤100000)
  (hsz:∀ f ∈ fs,f.thn.length≤maxLen∧f.els.length≤maxLen) :
  Calls Tryz.prog 15 #[.slice a n c,.int .i64 m] w fun e w'=>e=.returned (.int .i64 (leftF fs m))∧Below w.heap.size w w':=by
 unfold maxLen at hn hsz
 generalize hR:leftF fs m=R
 have HR:=Lib.hid hR
 clear hR
 have HR0:Hid (leftF (fs.drop 0) m=R):=HR
 have Hn:=Lib.hid h.fs_len
 have HSl:=Lib.hid h
 have HSz:=Lib.hid hsz
 clear HR h hsz
 obtain ⟨hm0,hm1⟩:=hm
 go_enter Tryz.func15,Tryz.ntmps15
 go_wp2
 go_loopw [1,5] (fun s q wr=>∃ (k:Nat) (m':Int),k≤n∧q=.int .i64 k∧s=.int .i64 m'∧-100000≤m'∧m'≤100000∧Below w.heap.size w wr∧Hid (leftF (fs.drop k) m'=R)) (fun _ q _=>n - (intOf q).toNat)
 case atStart=>exact ⟨0,m,by omega,rfl,rfl,hm0,hm1,Below.refl _ _,HR0⟩
 case round =>
  obtain ⟨k,m',hk,rfl,rfl,hm2,hm3,hb,HF⟩:=hrel
  clear HR0
  cases hd:fs.drop k with
  | nil =>
   have h2:n≤k:=by have:=Hn.out;simp at hd;omega
   have HF':Hid (leftF [] m'=R):=Lib.hid (by rw [← hd];exact HF.out)
   clear hd HF
   go_wp2
   go_ret
   exact ⟨ret_int HF'.out,hb⟩
  | cons f r =>
   obtain ⟨h2,h3,hr⟩:=ldrop_cons hd
   have HF':Hid (leftF (f :: r) m'=R):=Lib.hid (by rw [← hd];exact HF.out)
   have Hr:=Lib.hid hr
   have hkn:k < n:=by have:=Hn.out;omega
   obtain ⟨b,o,rfl,hbB,c0,c1,c2,c3,c4⟩:=(HSl.out.keep hb).fm h3
   obtain ⟨z1,z2⟩:=HSz.out f (List.mem_of_getElem? h3)
   clear hd HF hr h2 h3
   obtain ⟨kind,fn,cse,thn,els⟩:=f
   by_cases hA:m'≤thn.length∨m'≤els.length
   ·have HE:Hid (R=-1):=Lib.hid (by rw [← HF'.out];simp only [leftF];exact if_pos hA)
    go_wp2
    all_goals first
     | (go_ret;exact ⟨ret_int HE.out.symm,hb⟩)
     | (exfalso;omega)
   ·have HE:Hid (R=leftF r (m' - 1 - thn.length - els.length)):=Lib.hid (by rw [← HF'.out];simp only [leftF];exact if_neg hA)
    have hA1:(thn.length:Int) < m':=by omega
    have hA2:(els.length:Int) < m':=by omega
    clear hA
    go_wp2
    go_quiet (fail)
    go_wp2
    go_roundw
    case rel =>
     refine ⟨k+1,m' - 1 - thn.length - els.length,by omega,by go_num,rfl,by omega,by omega,below_drewN hb _,Lib.hid ?_⟩
     rw [Hr.out,HE.out]
    case measure=>simp [intOf];omega
end Go.Proofs.YtbmakifbppocaaaGreatDoor
set_option maxRecDepth 100000
namespace Go.Proofs.YtbmakifbppocaaaGreatDoor
def dec (n:Int):Str:=Lib.decDigits n.toNat
theorem nDigits_le {u:Nat} (h:u≤9999):1≤Lib.nDigits u∧Lib.nDigits u≤4:=by
 have h1:∀ v,v < 10→Lib.nDigits v=1:=fun v hv=>by rw [Lib.nDigits,dif_pos hv]
 have h2:∀ v,¬ v < 10→Lib.nDigits v=Lib.nDigits (v / 10)+1:=fun v hv=>by rw [Lib.nDigits,dif_neg hv]
 by_cases a:u < 10
 ·rw [h1 u a];omega
 ·rw [h2 u a]
  by_cases b:u / 10 < 10
  ·rw [h1 _ b];omega
  ·rw [h2 _ b]
   by_cases c:u / 10 / 10 < 10
   ·rw [h1 _ c];omega
   ·rw [h2 _ c,h1 _ (by omega)];omega
theorem dec_len {n:Int} (h0:0≤n) (h:n≤9999):1≤(dec n).length∧(dec n).length≤4:=by
 unfold dec;rw [Lib.decDigits_length];exact nDigits_le (by omega)
end Go.Proofs.YtbmakifbppocaaaGreatDoor
set_option maxRecDepth 100000
namespace Go.Proofs.YtbmakifbppocaaaGreatDoor
/-- 'quoted': a text with a backslash ahead of each of these bytes. -/
def quot (these:Str):Str→Str
 | []=>[]
 | c :: r=>(if these.contains c=true then [92,c] else [c])++quot these r
theorem quot_len (these:Str):∀ l:Str,(quot these l).length≤2 * l.length
 | []=>by simp [quot]
 | c :: r=>by
  have:=quot_len these r
  simp only [quot,List.length_append,List.length_cons];split <;> simp <;> omega
/-- One part, told. -/
def showP (f:Fm):Str :=
 if f.kind=0 then quot four f.thn
 else if f.kind=1 then 36 :: 123 :: (dec f.n++[125])
 else if f.kind=2 then 36 :: 123 :: (dec f.n++58 :: 47 :: (nameOf f.cse++[125]))
 else if f.kind=3 then 36 :: 123 :: (dec f.n++58 :: 43 :: (quot five f.thn++[125]))
 else if f.kind=4 then 36 :: 123 :: (dec f.n++58 :: 45 :: (quot five f.els++[125]))
 else 36 :: 123 :: (dec f.n++58 :: 63 :: (quot five f.thn++58 :: (quot five f.els++[125])))
def showF (fs:List Fm):Str:=fs.flatMap showP
end Go.Proofs.YtbmakifbppocaaaGreatDoor
set_option maxRecDepth 100000
namespace Go.Proofs.YtbmakifbppocaaaGreatDoor
/-- Options, one behind the other. -/
def joinQ:List Str→Str
 | []=>[]
 | [a]=>quot fiveS a
 | a :: b :: l=>quot fiveS a++44 :: joinQ (b :: l)
end Go.Proofs.YtbmakifbppocaaaGreatDoor
set_option maxRecDepth 100000
namespace Go.Proofs.YtbmakifbppocaaaGreatDoor
open Go.RowKit
def TfV (w:World) (S:Nat→Prop) (cc:List Value) (f:Tf):Prop :=
 ∃ (rc:List Value) (fa:Option Addr) (fc:Nat),RxV w S rc f.rx∧SlS w S fa 5 f.fs.length (fcells f.fs)∧cc=rc++[.slice fa f.fs.length fc,.bool f.fold,.bool f.all]
theorem TfV.keep {w w':World} {S:Nat→Prop} (hk:Kept S w w') {c:List Value} {f:Tf} (h:TfV w S c f):TfV w' S c f:=by
 obtain ⟨rc,fa,fc,h1,h2,h3⟩:=h
 exact ⟨rc,fa,fc,h1.keep hk,h2.keep hk,h3⟩
theorem TfV.mono {w:World} {S S':Nat→Prop} (hS:∀ b,S b→b < w.heap.size→S' b) {c:List Value} {f:Tf} (h:TfV w S c f):TfV w S' c f:=by
 obtain ⟨rc,fa,fc,h1,h2,h3⟩:=h
 exact ⟨rc,fa,fc,h1.mono hS,h2.mono hS,h3⟩
theorem TfV.len {w:World} {S:Nat→Prop} {c:List Value} {f:Tf} (h:TfV w S c f):c.length=11:=by
 obtain ⟨rc,fa,fc,h1,h2,rfl⟩:=h
 rw [List.length_append,h1.len];rfl
theorem TfV.one {w:World} {S:Nat→Prop} {c:List Value} {f:Tf} (h:TfV w S c f):∀ u ∈ c,u.oneCell'=true:=by
 obtain ⟨rc,fa,fc,h1,h2,rfl⟩:=h
 intro u hu
 rcases List.mem_append.1 hu with hu | hu
 ·exact h1.one u hu
 ·simp only [List.mem_cons,List.not_mem_nil,or_false] at hu
  rcases hu with rfl | rfl | rfl <;> rfl
theorem TfV.zero (w:World) (S:Nat→Prop):TfV w S (rxc 0 [] false none ([]:List Row).length 0 0 0 false none ([]:List Rx).length 0++[.slice none 0 0,.bool false,.bool false]) tf0 :=
 ⟨_,none,0,RxV.close (SlS.none_ _ _ _ _) ⟨[],SlS.none_ _ _ _ _,.nil⟩,SlS.none_ _ _ _ _,rfl⟩
/-- The eighteen cells of a part. -/
def snc (k:Int) (t:Str) (n:Int) (h u:Bool) (fc:List Value) (oa:Option Addr) (on oc:Nat) (ka:Option Addr) (kn kc:Nat):List Value :=
 [.int .i64 k,.string ⟨(t).toArray⟩,.int .i64 n,.bool h,.bool u]++fc++[.slice oa on oc,.slice ka kn kc]
mutual
inductive SnV (w:World) (S:Nat→Prop):List Value→Sn→Prop
 | mk {k:Int} {t:Str} {n:Int} {h u:Bool} {f:Tf} {os:List Str} {ks:List Sn} {fc:List Value} {oa ka:Option Addr} {oc kc:Nat} {css:List (List Value)} :
   TfV w S fc f→SlS w S oa 1 os.length (scells os)→SlS w S ka 18 ks.length css.flatten→SnVs w S css ks→SnV w S (snc k t n h u fc oa os.length oc ka ks.length kc) (.mk k t n h u f os ks)
inductive SnVs (w:World) (S:Nat→Prop):List (List Value)→List Sn→Prop
 | nil:SnVs w S [] []
 | cons {c:List Value} {x:Sn} {cs:List (List Value)} {xs:List Sn}:SnV w S c x→SnVs w S cs xs→SnVs w S (c :: cs) (x :: xs)
end
mutual
theorem SnV.keep {w w':World} {S:Nat→Prop} (hk:Kept S w w'):∀ {c:List Value} {x:Sn},SnV w S c x→SnV w' S c x
 | _,_,.mk h0 h1 h2 h3=>.mk (h0.keep hk) (h1.keep hk) (h2.keep hk) (SnVs.keep hk h3)
theorem SnVs.keep {w w':World} {S:Nat→Prop} (hk:Kept S w w'):∀ {cs:List (List Value)} {xs:List Sn},SnVs w S cs xs→SnVs w' S cs xs
 | _,_,.nil=>.nil
 | _,_,.cons h1 h2=>.cons (SnV.keep hk h1) (SnVs.keep hk h2)
end
mutual
theorem SnV.mono {w:World} {S S':Nat→Prop} (hS:∀ b,S b→b < w.heap.size→S' b):∀ {c:List Value} {x:Sn},SnV w S c x→SnV w S' c x
 | _,_,.mk h0 h1 h2 h3=>.mk (h0.mono hS) (h1.mono hS) (h2.mono hS) (SnVs.mono hS h3)
theorem SnVs.mono {w:World} {S S':Nat→Prop} (hS:∀ b,S b→b < w.heap.size→S' b):∀ {cs:List (List Value)} {xs:List Sn},SnVs w S cs xs→SnVs w S' cs xs
 | _,_,.nil=>.nil
 | _,_,.cons h1 h2=>.cons (SnV.mono hS h1) (SnVs.mono hS h2)
end
theorem SnV.later {w w':World} {S:Nat→Prop} {c:List Value} {x:Sn} (h:SnV w S c x) (hb:Below w.heap.size w w'):SnV w' S c x:=h.keep (Kept.all hb)
theorem SnV.len {w:World} {S:Nat→Prop} {c:List Value} {x:Sn} (h:SnV w S c x):c.length=18:=by
 cases h with
 | mk h0 h1 h2 h3=>unfold snc;simp [h0.len]
theorem SnVs.length {w:World} {S:Nat→Prop}:∀ {cs:List (List Value)} {xs:List Sn},SnVs w S cs xs→cs.length=xs.length
 | _,_,.nil=>rfl
 | _,_,.cons _ h=>by simp [h.length]
theorem SnVs.eights {w:World} {S:Nat→Prop}:∀ {cs:List (List Value)} {xs:List Sn},SnVs w S cs xs→∀ c ∈ cs,c.length=18
 | _,_,.nil,c,hc=>by simp at hc
 | _,_,.cons h1 h2,c,hc=>by
  rcases List.mem_cons.1 hc with rfl | hc
  ·exact h1.len
  ·exact h2.eights c hc
theorem SnVs.at_ {w:World} {S:Nat→Prop}:∀ {cs:List (List Value)} {xs:List Sn},SnVs w S cs xs→∀ {k:Nat} {x:Sn},xs[k]?=some x→∃ c,cs[k]?=some c∧SnV w S c x
 | _,_,.nil,k,x,h=>by simp at h
 | _,_,.cons h1 h2,0,x,h=>by simp at h;subst h;exact ⟨_,rfl,h1⟩
 | _,_,.cons h1 h2,k+1,x,h=>by simpa using h2.at_ (by simpa using h)
theorem SnV.one {w:World} {S:Nat→Prop} {c:List Value} {x:Sn} (h:SnV w S c x):∀ u ∈ c,u.oneCell'=true:=by
 cases h with
 | mk h0 h1 h2 h3 =>
  intro u hu
  unfold snc at hu
  rcases List.mem_append.1 hu with hu | hu
  ·rcases List.mem_append.1 hu with hu | hu
   ·simp only [List.mem_cons,List.not_mem_nil,or_false] at hu
    rcases hu with rfl | rfl | rfl | rfl | rfl <;> rfl
   ·exact h0.one u hu
  ·simp only [List.mem_cons,List.not_mem_nil,or_false] at hu
   rcases hu with rfl | rfl <;> rfl
/-- A slice of parts. -/
def SnSl (w:World) (S:Nat→Prop) (a:Option Addr) (n:Nat) (xs:List Sn):Prop:=∃ css,SlS w S a 18 n css.flatten∧SnVs w S css xs
theorem SnSl.keep {w w':World} {S:Nat→Prop} {a:Option Addr} {n:Nat} {xs:List Sn} (h:SnSl w S a n xs) (hk:Kept S w w'):SnSl w' S a n xs:=by
 obtain ⟨css,h1,h2⟩:=h
 exact ⟨css,h1.keep hk,h2.keep hk⟩
theorem SnSl.later {w w':World} {S:Nat→Prop} {a:Option Addr} {n:Nat} {xs:List Sn} (h:SnSl w S a n xs) (hb:Below w.heap.size w w'):SnSl w' S a n xs:=h.keep (Kept.all hb)
theorem SnSl.mono {w:World} {S S':Nat→Prop} {a:Option Addr} {n:Nat} {xs:List Sn} (h:SnSl w S a n xs) (hS:∀ b,S b→b < w.heap.size→S' b):SnSl w S' a n xs:=by
 obtain ⟨css,h1,h2⟩:=h
 exact ⟨css,h1.mono hS,h2.mono hS⟩
theorem SnSl.nil (w:World) (S:Nat→Prop) (a:Option Addr):SnSl w S a 0 []:=⟨[],SlS.none_ _ _ _ _,.nil⟩
theorem flat_len {C:Nat}:∀ {cs:List (List Value)},(∀ c ∈ cs,c.length=C)→cs.flatten.length=cs.length * C
 | [],_=>by simp
 | c :: cs,h=>by rw [List.flatten_cons,List.length_append,flat_len (fun x hx=>h x (List.mem_cons_of_mem _ hx)),h c (List.mem_cons_self ..),List.length_cons,Nat.succ_mul];omega
theorem SnSl.len {w:World} {S:Nat→Prop} {a:Option Addr} {n:Nat} {xs:List Sn} (h:SnSl w S a n xs):n=xs.length:=by
 obtain ⟨css,h1,h2⟩:=h
 have h3:=h1.1
 rw [flat_len h2.eights,h2.length] at h3;omega
/-- Element k of a slice of parts: its cells. -/
theorem SnSl.at_ {w:World} {S:Nat→Prop} {a:Option Addr} {n:Nat} {xs:List Sn} (h:SnSl w S a n xs) {k:Nat} {x:Sn} (hk:xs[k]?=some x) :
  ∃ b o c,a=some ⟨b,o,none⟩∧S b∧b < w.heap.size∧SnV w S c x∧∀ (j:Nat) (u:Value),c[j]?=some u→w.cell? ⟨b,o+(k * 18+j),none⟩=some u:=by
 have hn:=h.len
 obtain ⟨css,h1,h2⟩:=h
 have hlt:=(List.getElem?_eq_some_iff.1 hk).1
 obtain ⟨b,o,e1,e2,e3,e4⟩:=h1.2 (by omega)
 obtain ⟨c,hc,hv⟩:=h2.at_ hk
 exact ⟨b,o,c,e1,e2,e3,hv,fun j u hj=>e4 _ u (flat_at h2.eights hc hj)⟩
/-- A transform's cells, one by one. -/
structure TfCells (fc:List Value) (f:Tf) (w:World) (S:Nat→Prop) (rk:Int) (rch:Str) (rng:Bool) (rrs:List Row) (rlo rhi:Int) (rlz:Bool) (rks:List Rx) (ra:Option Addr) (rcp:Nat) (rka:Option Addr) (rkc:Nat) (fa:Option Addr) (fcp:Nat):Prop where
 eq:fc=[.int .i64 rk,.string ⟨(rch).toArray⟩,.bool rng,.slice ra rrs.length rcp,.int .i64 rlo,.int .i64 rhi,.bool rlz,.slice rka rks.length rkc,.slice fa f.fs.length fcp,.bool f.fold,.bool f.all]
 rx:f.rx=.mk rk rch rng rrs rlo rhi rlz rks
 rv:RxV w S (rxc rk rch rng ra rrs.length rcp rlo rhi rlz rka rks.length rkc) (.mk rk rch rng rrs rlo rhi rlz rks)
 fv:SlS w S fa 5 f.fs.length (fcells f.fs)
theorem TfV.open_ {w:World} {S:Nat→Prop} {fc:List Value} {f:Tf} (h:TfV w S fc f):∃ rk rch rng rrs rlo rhi rlz rks ra rcp rka rkc fa fcp,TfCells fc f w S rk rch rng rrs rlo rhi rlz rks ra rcp rka rkc fa fcp:=by
 obtain ⟨rc,fa,fcp,h1,h2,rfl⟩:=h
 obtain ⟨rx,fs,fd,al⟩:=f
 obtain ⟨rk,rch,rng,rrs,rlo,rhi,rlz,rks⟩:=rx
 have h0:=h1
 obtain ⟨ra,rcp,rka,rkc,rfl,_,_⟩:=h1.open_
 exact ⟨rk,rch,rng,rrs,rlo,rhi,rlz,rks,ra,rcp,rka,rkc,fa,fcp,rfl,rfl,h0,h2⟩
/-- A value that is a part, told field by field. -/
theorem SnV.open_ {w:World} {S:Nat→Prop} {cc:List Value} {k:Int} {t:Str} {n:Int} {h u:Bool} {f:Tf} {os:List Str} {ks:List Sn} (hv:SnV w S cc (.mk k t n h u f os ks)) :
  ∃ fc oa oc ka kc,cc=snc k t n h u fc oa os.length oc ka ks.length kc∧TfV w S fc f∧SlS w S oa 1 os.length (scells os)∧SnSl w S ka ks.length ks:=by
 cases hv with
 | mk h0 h1 h2 h3=>exact ⟨_,_,_,_,_,rfl,h0,h1,_,h2,h3⟩
theorem SnV.close {w:World} {S:Nat→Prop} {k:Int} {t:Str} {n:Int} {h u:Bool} {f:Tf} {os:List Str} {ks:List Sn} {fc:List Value} {oa ka:Option Addr} {oc kc:Nat} (h0:TfV w S fc f) (h1:SlS w S oa 1 os.length (scells os)) (h2:SnSl w S ka ks.length ks) :
  SnV w S (snc k t n h u fc oa os.length oc ka ks.length kc) (.mk k t n h u f os ks):=by
 obtain ⟨css,a,b⟩:=h2
 exact .mk h0 h1 a b
theorem SnSl.one {w:World} {S:Nat→Prop} {b:Nat} {cc:List Value} {x:Sn} {t:TypeId} (h:SnV w S cc x) (hb:w.heap[b]?=some (.cells cc.toArray t (0,0))) (hS:S b):SnSl w S (some ⟨b,0,none⟩) 1 [x]:=by
 refine ⟨[cc],⟨by simp [h.len],fun _=>⟨b,0,rfl,hS,heap_lt hb,fun j u hu=>?_⟩⟩,.cons h .nil⟩
 rw [Lib.cell_of_heap hb]
 simpa using hu
end Go.Proofs.YtbmakifbppocaaaGreatDoor
set_option maxRecDepth 100000
namespace Go.Proofs.YtbmakifbppocaaaGreatDoor
end Go.Proofs.YtbmakifbppocaaaGreatDoor
namespace Go.Proofs.YtbmakifbppocaaaGreatDoor
def ltR (a b:Row):Prop:=cmpR a b < 0
instance (a b:Row):Decidable (ltR a b):=inferInstanceAs (Decidable (_ < _))
end Go.Proofs.YtbmakifbppocaaaGreatDoor
namespace Go.Proofs.YtbmakifbppocaaaGreatDoor
end Go.Proofs.YtbmakifbppocaaaGreatDoor
namespace Go.Proofs.YtbmakifbppocaaaGreatDoor
end Go.Proofs.YtbmakifbppocaaaGreatDoor
namespace Go.Proofs.YtbmakifbppocaaaGreatDoor
end Go.Proofs.YtbmakifbppocaaaGreatDoor
set_option maxRecDepth 100000
namespace Go.Proofs.YtbmakifbppocaaaGreatDoor
open Go.RowKit
theorem blk_cell {w:World} {g:Nat} {cs:Array Value} {t:TypeId} {m:Nat × Nat} (h:w.heap[g]?=some (.cells cs t m)) (j:Nat) {u:Value} (hj:cs[j]?=some u):w.cell? ⟨g,j,none⟩=some u:=by
 rw [Lib.cell_of_heap h];exact hj
end Go.Proofs.YtbmakifbppocaaaGreatDoor
set_option maxRecDepth 100000
namespace Go.Proofs.YtbmakifbppocaaaGreatDoor
open Go.RowKit
/-- The store of a whole box, the world behind it by a name. -/
theorem wpList_stW {P:Program} {ops:Array Oper} {rest:List Oper} {o:Oper} {a:Act} {w W:World} {Q:Exit→Act→World→Prop} (hgd:o.guard=none) (ty:TypeId) (x y:Operand) (ho:o.op=.store ty x y)
  (g:Nat) (cells:Array Value) (hx:a.eval x=.pointer (some ⟨g,0,none⟩)) (hy:a.eval y=.agg cells)
  (t:TypeId) (old:Array Value) {n:Nat} (hg:w.heap[g]?=some (.cells old t (0,0))) (hi:(P.info? ty).map (·.size)=some n) (hn:cells.size=n)
  (hold:old.size=n) (h1:∀ u ∈ cells.toList,u.oneCell'=true) (hW:w.setRow g cells=W)
  (h:wpList P ops Q rest (a.put o.dst undef) W):wpList P ops Q (o :: rest) a w:=by
 subst hn
 subst hW
 exact wpList_store_row hgd ty x y ho g cells hx hy t old hg hi hold (Array.all_eq_true_iff_forall_mem.2 (fun v hv=>h1 v (by simpa using hv))) h
theorem wpList_ldW {P:Program} {ops:Array Oper} {rest:List Oper} {op:Oper} {a:Act} {w:World} {Q:Exit→Act→World→Prop} (hgd:op.guard=none) (ty:TypeId) (x:Operand) (ho:op.op=.load ty x)
  (b o:Nat) (hx:a.eval x=.pointer (some ⟨b,o,none⟩)) (cs:List Value) (d:TypeDesc) (hc:w.rangeAt b o cs)
  (hu:P.underlying ty=some d) (hd:d.isRow=true) (hi:(P.info? ty).map (·.size)=some cs.length)
  (h:wpList P ops Q rest (a.put op.dst (.agg cs.toArray)) w):wpList P ops Q (op :: rest) a w:=wpList_load_mid hgd ty x ho b o hx cs d hc hu hd hi h
theorem range_blk {w:World} {b:Nat} {cs ds:List Value} {t:TypeId} {f:Nat × Nat} (h:w.heap[b]?=some (.cells (cs++ds).toArray t f)):w.rangeAt b 0 cs:=fun j v hv=>by
 rw [Nat.zero_add,Lib.cell_of_heap h]
 have:=(List.getElem?_eq_some_iff.1 hv).1
 simp [List.getElem?_append_left this,hv]
end Go.Proofs.YtbmakifbppocaaaGreatDoor
set_option maxRecDepth 100000
namespace Go.Proofs.YtbmakifbppocaaaGreatDoor
open Go.RowKit
theorem oper_then {P:Program} {o:Oper} {a:Act} {w:World} {K:Act→World→Prop} {Q:Exit→Act→World→Prop} (h:o.wp P a w K (Exit.then K Q)):o.wp P a w K Q:=by
 unfold Oper.wp at *
 generalize (execOp a.eval o).run P w=r at *
 cases r with
 | ok n w' =>
  cases n <;> simp only [Oper.upon] at h ⊢ <;> first | exact h | exact h.mono (fun e w'' he=>by cases e <;> exact he)
 | halt x w'=>cases x <;> simp only [Oper.upon] at h ⊢ <;> exact h
theorem oper_then' {P:Program} {o:Oper} {a:Act} {w:World} {K K1 K2:Act→World→Prop} {Q:Exit→Act→World→Prop} (h:o.wp P a w K (Exit.then K1 Q)):o.wp P a w K (Exit.then K2 Q):=by
 unfold Oper.wp at *
 generalize (execOp a.eval o).run P w=r at *
 cases r with
 | ok n w' =>
  cases n <;> simp only [Oper.upon] at h ⊢ <;> first | exact h | exact h.mono (fun e w'' he=>by cases e <;> exact he)
 | halt x w'=>cases x <;> simp only [Oper.upon] at h ⊢ <;> exact h
def open_ (ops:Array Oper) (listed:Array Bool):Nat:=((List.range ops.size).filter fun j=>!listed.getD j true).length
theorem open_dec {ops:Array Oper} {listed:Array Bool} {i:Nat} (hi:i < ops.size) (hs:listed.size=ops.size) (h:listed.getD i true=false):open_ ops (listed.setIfInBounds i true) < open_ ops listed:=by
 unfold open_
 have e:((List.range ops.size).filter fun j=>!(listed.setIfInBounds i true).getD j true)=((List.range ops.size).filter fun j=>!listed.getD j true).filter fun j=>decide (j≠i):=by
  rw [List.filter_filter]
  apply List.filter_congr
  intro j hj
  by_cases hji:j=i
  ·subst hji
   have:(listed.setIfInBounds j true).getD j true=true:=by simp [Array.getD_eq_getD_getElem?,hs]
   rw [this];simp
  ·have:(listed.setIfInBounds i true).getD j true=listed.getD j true:=by
    simp only [Array.getD_eq_getD_getElem?];rw [Array.getElem?_setIfInBounds_ne (Ne.symm hji)]
   rw [this];simp [hji]
 rw [e,List.length_filter_lt_length_iff_exists]
 exact ⟨i,List.mem_filter.2 ⟨List.mem_range.2 hi,by rw [h];rfl⟩,by simp⟩
/-- What an operation waits for has come up. -/
def DepsOk (o:Oper) (L:Nat→Bool):Prop:=∀ e ∈ o.after,Region.binds .any e=true→L e.on=true
theorem put_self (a:Act) (d:Nat):a.put (some d) (a.tmps.getD d undef)=a:=by
 have e:a.tmps.setIfInBounds d (a.tmps.getD d undef)=a.tmps:=by
  apply Array.ext_getElem?
  intro i
  by_cases h:d=i
  ·subst h
   by_cases hd:d < a.tmps.size
   ·rw [Array.getElem?_setIfInBounds_self_of_lt hd,Array.getElem?_eq_getElem hd,Array.getD_eq_getD_getElem?,Array.getElem?_eq_getElem hd];rfl
   ·rw [Array.getElem?_eq_none (by simpa using hd),Array.getElem?_eq_none (by simpa using hd)]
  ·rw [Array.getElem?_setIfInBounds_ne h]
 show ({ a with tmps:=a.tmps.setIfInBounds d (a.tmps.getD d undef) }:Act)=a
 rw [e]
/-- The slots of a region's operations, with what they have yielded. -/
def putsL:List Nat→Nat→(Nat→Value)→Act→Act
 | [],_,_,a=>a
 | d :: ds,k,V,a=>putsL ds (k+1) V (a.put (some d) (V k))
theorem putsL_self (a:Act):∀ (ds:List Nat) (k:Nat) (V:Nat→Value),(∀ i d,ds[i]?=some d→V (k+i)=a.tmps.getD d undef)→putsL ds k V a=a
 | [],_,_,_=>rfl
 | d :: ds,k,V,h=>by
  have h0:=h 0 d rfl
  simp only [putsL]
  rw [show V k=a.tmps.getD d undef from h0,put_self]
  exact putsL_self a ds (k+1) V fun i d' hi=>by have:=h (i+1) d' (by simpa using hi);rw [show k+(i+1)=k+1+i by omega] at this;exact this
theorem putsL_own (a:Act) (ds:List Nat):∃ V:Nat→Value,a=putsL ds 0 V a:=by
 refine ⟨fun i=>a.tmps.getD (ds.getD i 0) undef,(putsL_self a ds 0 _ fun i d hi=>?_).symm⟩
 have e:ds.getD i 0=d:=by rw [List.getD_eq_getElem?_getD,hi];rfl
 simp only [Nat.zero_add,e]
def upd (V:Nat→Value) (i:Nat) (v:Value):Nat→Value:=fun j=>if j=i then v else V j
end Go.Proofs.YtbmakifbppocaaaGreatDoor
set_option maxRecDepth 100000
namespace Go.Proofs.YtbmakifbppocaaaGreatDoor
open Go.RowKit Go.Maps Go.MapKept
open Go.ChangeMaps (setBlock)
theorem snip_size:(Tryz.prog.info? 38).map (·.size)=some 18:=by kernel_rfl
theorem snip_under:Tryz.prog.underlying 38=some (.struct (Tryz.prog.fieldsOf 38)):=by kernel_rfl
end Go.Proofs.YtbmakifbppocaaaGreatDoor
set_option maxRecDepth 100000
namespace Go.Proofs.YtbmakifbppocaaaGreatDoor
def gk (bare:Bool):Int:=if bare=true then 6 else 5
end Go.Proofs.YtbmakifbppocaaaGreatDoor
set_option maxRecDepth 100000
namespace Go.Proofs.YtbmakifbppocaaaGreatDoor
def rxZ:Rx→Bool | .mk k c ng rs lo hi lz ks=>decide (k=0) && (c.isEmpty && (!ng && (rs.isEmpty && (decide (lo=0) && (decide (hi=0) && (!lz && ks.isEmpty))))))
/-- Is a transform the empty one? -/
def tfZ (f:Tf):Bool:=rxZ f.rx && (f.fs.isEmpty && (!f.fold && !f.all))
def tfMay (f:Tf):Bool:=mayB f.rx && mayFs f.fs
def nothingS (x:Sn):Bool:=!x.has && (!x.turned && (x.kids.isEmpty && tfZ x.form))
def besidesS (x:Sn):Bool:=if x.has=true then (if x.turned=true then false else tfZ x.form) else if x.turned=true then x.kids.isEmpty && tfMay x.form else nothingS x
def numberS (x:Sn):Bool:=decide (0≤x.n∧x.n≤9999)
def fieldsS (x:Sn):Bool :=
 if x.kind=0 then !x.text.isEmpty && (decide (x.n=0) && (x.opts.isEmpty && nothingS x))
 else if x.kind=1 then x.text.isEmpty && (numberS x && (x.opts.isEmpty && besidesS x))
 else if x.kind=2 then x.text.isEmpty && (numberS x && (!x.opts.isEmpty && nothingS x))
 else if x.kind=3 then nameB x.text && (decide (x.n=0) && (x.opts.isEmpty && besidesS x))
 else false
/-- No two texts side by side; pt: is the part ahead a text? -/
def adjS:Bool→List Sn→Bool
 | _,[]=>true
 | pt,x :: r=>!(decide (x.kind=0) && pt) && adjS (decide (x.kind=0)) r
namespace Sn
mutual
def wf:Sn→Bool
 | mk k t n h u f o ks=>fieldsS (mk k t n h u f o ks) && (!h || (adjS false ks && wfL ks))
def wfL:List Sn→Bool
 | []=>true
 | x :: r=>wf x && wfL r
end
end Sn
def maySn (l:List Sn):Bool:=adjS false l && Sn.wfL l && decide (Sn.deepL l≤32)
end Go.Proofs.YtbmakifbppocaaaGreatDoor
set_option maxRecDepth 100000
namespace Go.Proofs.YtbmakifbppocaaaGreatDoor
open Go.RowKit
structure SnAt (w:World) (S:Nat→Prop) (cc:List Value) (k:Int) (t:Str) (n:Int) (h u:Bool) (f:Tf) (os:List Str) (ks:List Sn) (fc:List Value) (oa:Option Addr) (oc:Nat) (ka:Option Addr) (kc:Nat):Prop where
 eq:cc=snc k t n h u fc oa os.length oc ka ks.length kc
 len:cc.length=18
 c0:cc[0]?=some (.int .i64 k)
 c1:cc[1]?=some (.string ⟨(t).toArray⟩)
 c2:cc[2]?=some (.int .i64 n)
 c3:cc[3]?=some (.bool h)
 c4:cc[4]?=some (.bool u)
 c16:cc[16]?=some (.slice oa os.length oc)
 c17:cc[17]?=some (.slice ka ks.length kc)
 cf:∀ (j:Nat) v,fc[j]?=some v→cc[5+j]?=some v
 fl:fc.length=11
 fv:TfV w S fc f
 ov:SlS w S oa 1 os.length (scells os)
 kv:SnSl w S ka ks.length ks
theorem SnV.at_ {w:World} {S:Nat→Prop} {cc:List Value} {k:Int} {t:Str} {n:Int} {h u:Bool} {f:Tf} {os:List Str} {ks:List Sn} (hv:SnV w S cc (.mk k t n h u f os ks)):∃ fc oa oc ka kc,SnAt w S cc k t n h u f os ks fc oa oc ka kc:=by
 have hl:=hv.len
 obtain ⟨fc,oa,oc,ka,kc,rfl,h0,h1,h2⟩:=hv.open_
 have hf:=h0.len
 refine ⟨fc,oa,oc,ka,kc,rfl,hl,rfl,rfl,rfl,rfl,rfl,?_,?_,fun j v hj=>?_,hf,h0,h1,h2⟩
 ·unfold snc
  rw [List.getElem?_append_right (by simp [hf])]
  simp [hf]
 ·unfold snc
  rw [List.getElem?_append_right (by simp [hf])]
  simp [hf]
 ·have hj':=(List.getElem?_eq_some_iff.1 hj).1
  unfold snc
  rw [List.getElem?_append_left (by simp;omega),List.getElem?_append_right (by simp)]
  simpa using hj
theorem SnAt.box {w w':World} {S:Nat→Prop} {cc:List Value} {k:Int} {t:Str} {n:Int} {h u:Bool} {f:Tf} {os:List Str} {ks:List Sn} {fc:List Value} {oa:Option Addr} {oc:Nat} {ka:Option Addr} {kc:Nat} (hA:SnAt w S cc k t n h u f os ks fc oa oc ka kc) {b:Nat} {ty:TypeId} {fr:Nat × Nat} (hb:w'.heap[b]?=some (.cells cc.toArray ty fr)) :
  w'.cell? ⟨b,0,none⟩=some (.int .i64 k)∧w'.cell? ⟨b,1,none⟩=some (.string ⟨(t).toArray⟩)∧w'.cell? ⟨b,2,none⟩=some (.int .i64 n)∧w'.cell? ⟨b,3,none⟩=some (.bool h)∧w'.cell? ⟨b,4,none⟩=some (.bool u) ∧
  w'.cell? ⟨b,16,none⟩=some (.slice oa os.length oc)∧w'.cell? ⟨b,17,none⟩=some (.slice ka ks.length kc)∧w'.rangeAt b 5 fc:=by
 refine ⟨?_,?_,?_,?_,?_,?_,?_,fun j v hj=>?_⟩
 ·rw [Lib.cell_of_heap hb];simpa using hA.c0
 ·rw [Lib.cell_of_heap hb];simpa using hA.c1
 ·rw [Lib.cell_of_heap hb];simpa using hA.c2
 ·rw [Lib.cell_of_heap hb];simpa using hA.c3
 ·rw [Lib.cell_of_heap hb];simpa using hA.c4
 ·rw [Lib.cell_of_heap hb];simpa using hA.c16
 ·rw [Lib.cell_of_heap hb];simpa using hA.c17
 ·rw [Lib.cell_of_heap hb];simpa using hA.cf j v hj
def Tf.small (f:Tf):Prop:=f.rx.small∧f.rx.parts≤1000000∧f.fs.length≤1000000
mutual
def Sn.small:Sn→Prop
 | .mk _ t _ _ _ f os ks=>f.small∧os.length≤1000000∧ks.length≤1000000∧t.length≤1000000∧Sn.smallL ks
def Sn.smallL:List Sn→Prop
 | []=>True
 | x :: r=>x.small∧Sn.smallL r
end
theorem Sn.small_mem:∀ {l:List Sn},Sn.smallL l→∀ x ∈ l,x.small
 | [],_,x,h=>by cases h
 | y :: r,hl,x,h=>by
  simp only [Sn.smallL] at hl
  rcases List.mem_cons.1 h with rfl | h
  ·exact hl.1
  ·exact Sn.small_mem hl.2 x h
end Go.Proofs.YtbmakifbppocaaaGreatDoor
set_option maxRecDepth 100000
namespace Go.Proofs.YtbmakifbppocaaaGreatDoor
open Go.RowKit Go.Maps Go.MapKept
open Go.ChangeMaps (setBlock)
theorem hd_v (w:World) (S:Nat→Prop) (k:Int) (t:Str) (n:Int):SnV w S [.int .i64 k,.string ⟨(t).toArray⟩,.int .i64 n,.bool false,.bool false,.int .i64 0,.string ⟨#[]⟩,.bool false,.slice none 0 0,.int .i64 0,.int .i64 0,.bool false,.slice none 0 0,.slice none 0 0,.bool false,.bool false,.slice none 0 0,.slice none 0 0] (.mk k t n false false tf0 [] []) :=
 SnV.close (os:=[]) (ks:=[]) (TfV.zero w S) (SlS.none_ _ _ _ _) (SnSl.nil _ _ _)
end Go.Proofs.YtbmakifbppocaaaGreatDoor
set_option maxRecDepth 100000
namespace Go.Proofs.YtbmakifbppocaaaGreatDoor
open Go.RowKit
/-- Each operation waits for earlier ones alone. -/
def relyGB (ops:Array Oper):Bool:=(List.range ops.size).all fun i=>((ops[i]?).map fun o=>o.after.all fun e=>!Region.binds .any e || decide (e.on < i)).getD true
theorem relyGB_at {ops:Array Oper} (h:relyGB ops=true) {i:Nat} {o:Oper} (ho:ops[i]?=some o):∀ e ∈ o.after,Region.binds .any e=true→e.on < i:=by
 have hi:i < ops.size:=(Array.getElem?_eq_some_iff.1 ho).1
 have h1:=List.all_eq_true.1 h i (List.mem_range.2 hi)
 rw [ho] at h1
 simp only [Option.map_some,Option.getD_some,Array.all_eq_true_iff_forall_mem] at h1
 intro e he hb
 have:=h1 e he
 rw [hb] at this
 simpa using this
theorem none_readyG {ops:Array Oper} (hB:relyGB ops=true) {listed:Array Bool} (h:Region.ready .any ops listed=[]) (hs:listed.size=ops.size):∀ i,i < ops.size→listed.getD i false=true:=by
 intro i
 induction i using Nat.strongRecOn with
 | ind i ih =>
  intro hi
  cases hl:listed.getD i false with
  | true=>rfl
  | false =>
   exfalso
   obtain ⟨o,ho⟩:∃ o,ops[i]?=some o:=⟨_,Array.getElem?_eq_getElem hi⟩
   have hm:i ∈ Region.ready .any ops listed:=by
    rw [mem_ready]
    refine ⟨?_,o,ho,fun e he hb=>?_⟩
    ·have hls:i < listed.size:=by omega
     simp only [Array.getD_eq_getD_getElem?,Array.getElem?_eq_getElem hls,Option.getD_some] at hl ⊢
     exact hl
    ·have hlt:=relyGB_at hB ho e he hb
     exact ih e.on hlt (by omega)
   rw [h] at hm
   cases hm
theorem oper_to {P:Program} {o:Oper} {a:Act} {w:World} {K K2:Act→World→Prop} {Q:Exit→Act→World→Prop} (h:o.wp P a w K Q):o.wp P a w K (Exit.then K2 Q):=by
 unfold Oper.wp at *
 generalize (execOp a.eval o).run P w=r at *
 cases r with
 | ok n w' =>
  cases n <;> simp only [Oper.upon] at h ⊢ <;> first | exact h | exact h.mono (fun e w'' he=>by cases e <;> exact he)
 | halt x w'=>cases x <;> simp only [Oper.upon] at h ⊢ <;> exact h
theorem wpAny_relyG {P:Program} {ops:Array Oper} {Q:Exit→Act→World→Prop} (hB:relyGB ops=true) (I:(Nat→Bool)→Act→World→Prop)
  (hstep:∀ (L:Nat→Bool) (i:Nat) (o:Oper) (a:Act) (w:World),ops[i]?=some o→L i=false→(∀ e ∈ o.after,Region.binds .any e=true→L e.on=true)→I L a w →
   wpList P ops (Exit.then (fun a' w'=>I (fun j=>L j || j == i) a' w') Q) [o] a w)
  (hend:∀ (L:Nat→Bool) (a:Act) (w:World),(∀ i,i < ops.size→L i=true)→I L a w→Q .normal a w) :
  ∀ (fuel:Nat) (listed:Array Bool) (L:Nat→Bool) (a:Act) (w:World),listed.size=ops.size→open_ ops listed≤fuel→(∀ j,L j=listed.getD j false)→I L a w→wpAny P .any ops Q fuel listed a w:=by
 have fin:∀ (listed:Array Bool) (L:Nat→Bool) (a:Act) (w:World),listed.size=ops.size→(∀ j,L j=listed.getD j false)→I L a w→Region.ready .any ops listed=[]→Q .normal a w :=
  fun listed L a w hs hL h hr=>hend _ a w (fun i hi=>by rw [hL];exact none_readyG hB hr hs i hi) h
 intro fuel
 induction fuel with
 | zero =>
  intro listed L a w hs hf hL h
  have hr:Region.ready .any ops listed=[]:=by
   apply List.eq_nil_iff_forall_not_mem.2
   intro i hi
   obtain ⟨h1,o,ho,_⟩:=mem_ready.1 hi
   have hlt:=(Array.getElem?_eq_some_iff.1 ho).1
   have:=open_dec hlt hs h1
   omega
  exact ⟨hr,fin listed L a w hs hL h hr⟩
 | succ fuel ih =>
  intro listed L a w hs hf hL h
  refine ⟨fin listed L a w hs hL h,fun i hi=>?_⟩
  obtain ⟨h1,o,ho,hall⟩:=mem_ready.1 hi
  have hlt:=(Array.getElem?_eq_some_iff.1 ho).1
  have hd:=open_dec hlt hs h1
  have hls:i < listed.size:=by omega
  have hLi:L i=false:=by
   rw [hL];simp only [Array.getD_eq_getD_getElem?,Array.getElem?_eq_getElem hls,Option.getD_some] at h1 ⊢;exact h1
  have hst:=hstep L i o a w ho hLi (fun e he hb=>by rw [hL];exact hall e he hb) h
  have key:∀ a' w',I (fun j=>L j || j == i) a' w'→wpAny P .any ops Q fuel (listed.setIfInBounds i true) a' w':=fun a' w' h' =>
   ih _ (fun j=>L j || j == i) a' w' (by simpa using hs) (by omega) (fun j=>by
    by_cases hji:j=i
    ·subst hji
     simp [Array.getD_eq_getD_getElem?,hls]
    ·have e1:(j == i)=false:=beq_eq_false_iff_ne.2 hji
     rw [e1,Bool.or_false,hL]
     simp only [Array.getD_eq_getD_getElem?];rw [Array.getElem?_setIfInBounds_ne (Ne.symm hji)]) h'
  unfold wpOp
  rw [ho]
  show if Region.wanted o (yielded ops a.tmps)=true then _ else _
  unfold wpList at hst
  by_cases hw:Region.wanted o (yielded ops a.tmps)=true
  ·rw [if_pos hw] at hst ⊢
   rcases hst with h2 | ⟨h2,h3⟩
   ·exact .inl (Oper.wp_mono key (oper_then h2))
   ·exact .inr ⟨h2,h3⟩
  ·rw [if_neg hw] at hst ⊢
   exact key _ _ hst
theorem wp_region_relyG {P:Program} {id:Nat} {ops:Array Oper} {Q:Exit→Act→World→Prop} {a:Act} {w:World} (hm:P.follows .mixedOrders=true) (hB:relyGB ops=true) (I:(Nat→Bool)→Act→World→Prop)
  (h0:I (fun _=>false) a w.drew)
  (hstep:∀ (L:Nat→Bool) (i:Nat) (o:Oper) (a:Act) (w:World),ops[i]?=some o→L i=false→(∀ e ∈ o.after,Region.binds .any e=true→L e.on=true)→I L a w →
   wpList P ops (Exit.then (fun a' w'=>I (fun j=>L j || j == i) a' w') Q) [o] a w)
  (hend:∀ (L:Nat→Bool) (a:Act) (w:World),(∀ i,i < ops.size→L i=true)→I L a w→Q .normal a w):(Code.region id ops true).wp P Q a w :=
 wp_region_any hm (wpAny_relyG hB I hstep hend ops.size (Array.replicate ops.size false) (fun _=>false) a w.drew (by simp) (by
  have:=List.length_filter_le (fun j=>!(Array.replicate ops.size false).getD j true) (List.range ops.size)
  simpa [open_] using this) (fun j=>by simp [Array.getD_eq_getD_getElem?,Array.getElem?_replicate];split <;> rfl) h0)
/-- Each of the first n operations waits for earlier ones alone; the others stand in one order behind them. -/
def relyTB (ops:Array Oper) (n:Nat):Bool:=relyGB ops && decide (n < ops.size) && Region.sinkB .any ops n && Region.chainB .any ops n
def RelyStepsT (P:Program) (ops:Array Oper) (Q:Exit→Act→World→Prop) (I:(Nat→Bool)→Act→World→Prop):List Oper→Nat→Prop
 | [],_=>True
 | o :: rest,i=>(∀ (L:Nat→Bool) (a:Act) (w:World),L i=false→DepsOk o L→I L a w→wpList P ops (Exit.then (fun a' w'=>I (fun j=>L j || j == i) a' w') Q) [o] a w)∧RelyStepsT P ops Q I rest (i+1)
theorem RelyStepsT.at_ {P:Program} {ops:Array Oper} {Q:Exit→Act→World→Prop} {I:(Nat→Bool)→Act→World→Prop}:∀ {l:List Oper} {k i:Nat} {o:Oper},RelyStepsT P ops Q I l k→l[i]?=some o →
  ∀ (L:Nat→Bool) (a:Act) (w:World),L (k+i)=false→DepsOk o L→I L a w→wpList P ops (Exit.then (fun a' w'=>I (fun j=>L j || j == k+i) a' w') Q) [o] a w
 | [],_,_,_,_,h=>by simp at h
 | x :: l,k,0,o,hs,h=>by simp at h;subst h;exact hs.1
 | x :: l,k,i+1,o,hs,h=>by
  have:=RelyStepsT.at_ (k:=k+1) (i:=i) hs.2 (by simpa using h)
  rw [show k+(i+1)=k+1+i by omega];exact this
/-- What has come up, what it waits for has come up. -/
def Clo (ops:Array Oper) (L:Nat→Bool):Prop:=∀ j o,ops[j]?=some o→L j=true→DepsOk o L
theorem Clo.add {ops:Array Oper} {L:Nat→Bool} (h:Clo ops L) {i:Nat} {o:Oper} (ho:ops[i]?=some o) (hd:DepsOk o L):Clo ops (fun j=>L j || j == i):=by
 intro j oj hj hL e he hb
 have key:DepsOk oj L:=by
  by_cases hji:j=i
  ·subst hji
   obtain rfl:oj=o:=by rw [hj] at ho;injection ho
   exact hd
  ·have e1:(j == i)=false:=beq_eq_false_iff_ne.2 hji
   simp only [e1,Bool.or_false] at hL
   exact h j oj hj hL
 simp [key e he hb]
theorem Clo.sink {ops:Array Oper} {L:Nat→Bool} (h:Clo ops L) {n:Nat} {o:Oper} (hs:Region.sinkB .any ops n=true) (ho:ops[n]?=some o) (hd:DepsOk o L):∀ (d i:Nat),n - i=d→i < n→L i=true:=by
 intro d
 induction d using Nat.strongRecOn with
 | _ d ih =>
  intro i hdi hi
  have h1:=List.all_eq_true.1 hs i (List.mem_range.2 hi)
  obtain ⟨j,hj,hj2⟩:=List.any_eq_true.1 h1
  simp only [Bool.and_eq_true,decide_eq_true_eq] at hj2
  obtain ⟨oj,hoj,e,he,hb,hon⟩:=Region.waitsFor_spec hj2.2
  have hjle:j≤n:=by have:=List.mem_range.1 hj;omega
  rw [← hon]
  by_cases hjn:j=n
  ·subst hjn
   obtain rfl:oj=o:=by rw [hoj] at ho;injection ho
   exact hd e he hb
  ·exact h j oj hoj (ih (n - j) (by omega) j rfl (by omega)) e he hb
theorem chain_at {ops:Array Oper} {n t:Nat} {o:Oper} (hc:Region.chainB .any ops n=true) (ht:n < t) (ho:ops[t]?=some o) {L:Nat→Bool} (hd:DepsOk o L):L (t - 1)=true:=by
 have htl:=(Array.getElem?_eq_some_iff.1 ho).1
 have h1:=List.all_eq_true.1 hc t (List.mem_range.2 htl)
 simp only [Bool.or_eq_true,decide_eq_true_eq] at h1
 rcases h1 with h1 | h1
 ·omega
 ·obtain ⟨o',ho',e,he,hb,hon⟩:=Region.waitsFor_spec h1
  obtain rfl:o'=o:=by rw [ho'] at ho;injection ho
  rw [← hon];exact hd e he hb
theorem wpList_part {P:Program} {ops:Array Oper} {Q:Exit→Act→World→Prop} {o:Oper} {rest:List Oper} {a:Act} {w:World} {K:Act→World→Prop} (h:wpList P ops Q (o :: rest) a w) (hK:∀ a' w',wpList P ops Q rest a' w'→K a' w') :
  wpList P ops (Exit.then K Q) [o] a w:=by
 unfold wpList at h ⊢
 split
 ·rename_i hw
  rw [if_pos hw] at h
  rcases h with h | ⟨h1,h2⟩
  ·exact .inl (oper_to (Oper.wp_mono (K':=wpList P ops (Exit.then K Q) []) (fun a' w' h'=>hK a' w' h') h))
  ·exact .inr ⟨h1,h2⟩
 ·rename_i hw
  rw [if_neg hw] at h
  exact hK _ _ h
/-- What is owed of the tail: those that have come up are behind us. -/
def TailI (P:Program) (ops:List Oper) (Q:Exit→Act→World→Prop) (n:Nat) (I:(Nat→Bool)→Act→World→Prop) (L:Nat→Bool) (a:Act) (w:World):Prop :=
 Clo ops.toArray L∧((∀ t,n≤t→t < ops.length→L t=false)∧I L a w∨∃ t,n≤t∧t < ops.length∧L t=true∧(∀ j,t < j→j < ops.length→L j=false)∧wpList P ops.toArray Q (ops.drop (t+1)) a w)
/-- **A region that draws its order**: the first n operations by what is true all the while, the others as they stand. -/
theorem wp_region_relyT {P:Program} {id:Nat} {ops:List Oper} {Q:Exit→Act→World→Prop} {a:Act} {w:World} (n:Nat) (hm:P.follows .mixedOrders=true) (hB:relyTB ops.toArray n=true) (I:Act→World→(Nat→Bool)→Act→World→Prop)
  (h0:I a w (fun _=>false) a w.drew) (hs:RelyStepsT P ops.toArray Q (I a w) (ops.take n) 0)
  (hend:∀ L a' w',(∀ j,j < n→L j=true)→I a w L a' w'→wpList P ops.toArray Q (ops.drop n) a' w'):(Code.region id ops.toArray true).wp P Q a w:=by
 simp only [relyTB,Bool.and_eq_true,decide_eq_true_eq] at hB
 obtain ⟨⟨⟨hB1,hn⟩,hsk⟩,hch⟩:=hB
 have hn':n < ops.length:=by simpa using hn
 obtain ⟨on,hon⟩:∃ on,ops[n]?=some on:=⟨_,List.getElem?_eq_getElem hn'⟩
 refine wp_region_relyG hm hB1 (TailI P ops Q n (I a w)) ⟨fun j o hj h=>(by cases h),.inl ⟨fun _ _ _=>rfl,h0⟩⟩ ?_ ?_
 ·intro L i o a' w' ho hLi hde hI
  have ho':ops[i]?=some o:=by simpa using ho
  have hil:=(List.getElem?_eq_some_iff.1 ho').1
  obtain ⟨hclo,hI⟩:=hI
  have hclo':=hclo.add ho hde
  by_cases hin:i < n
  ·have hno:∀ t,n≤t→t < ops.length→L t=false:=by
    rcases hI with ⟨h,_⟩ | ⟨t,ht,htl,hLt,_,_⟩
    ·exact h
    ·exfalso
     obtain ⟨ot,hot⟩:∃ ot,ops[t]?=some ot:=⟨_,List.getElem?_eq_getElem htl⟩
     have hdown:∀ k,n+k≤t→L (t - k)=true:=by
      intro k
      induction k with
      | zero=>intro _;exact hLt
      | succ k ih =>
       intro hk
       have h1:=ih (by omega)
       obtain ⟨ok,hok⟩:∃ ok,ops[t - k]?=some ok:=⟨_,List.getElem?_eq_getElem (by omega)⟩
       have h2:=chain_at hch (t:=t - k) (by omega) (by simpa using hok) (hclo _ ok (by simpa using hok) h1)
       rw [show t - (k+1)=t - k - 1 by omega];exact h2
     have hLn:L n=true:=by have:=hdown (t - n) (by omega);rwa [show t - (t - n)=n by omega] at this
     have:=hclo.sink hsk (by simpa using hon) (hclo n on (by simpa using hon) hLn) (n - i) i rfl hin
     rw [this] at hLi;cases hLi
   have hIo:I a w L a' w':=by
    rcases hI with ⟨_,h⟩ | ⟨t,ht,htl,hLt,_,_⟩
    ·exact h
    ·rw [hno t ht htl] at hLt;cases hLt
   have hst:=hs.at_ (i:=i) (o:=o) (by rw [List.getElem?_take_of_lt hin];exact ho') L a' w' (by simpa using hLi) hde hIo
   simp only [Nat.zero_add] at hst
   have key:∀ a2 w2,I a w (fun j=>L j || j == i) a2 w2→TailI P ops Q n (I a w) (fun j=>L j || j == i) a2 w2:=fun a2 w2 h=>⟨hclo',.inl ⟨fun t ht htl=>by
    have e1:(t == i)=false:=beq_eq_false_iff_ne.2 (by omega)
    simp [hno t ht htl,e1],h⟩⟩
   unfold wpList at hst ⊢
   split
   ·rename_i hw
    rw [if_pos hw] at hst
    refine hst.imp (fun h=>?_) (fun h=>h)
    exact oper_then' (Oper.wp_mono (K':=wpList P ops.toArray _ []) (fun a2 w2 h2=>key a2 w2 h2) h)
   ·rename_i hw
    rw [if_neg hw] at hst
    exact key _ _ hst
  ·have hni:n≤i:=Nat.le_of_not_lt hin
   have hrest:wpList P ops.toArray Q (ops.drop i) a' w':=by
    by_cases he:i=n
    ·subst he
     rcases hI with ⟨hno,hI⟩ | ⟨t,ht,htl,hLt,hgt,_⟩
     ·exact hend L a' w' (fun j hj=>hclo.sink hsk ho hde (i - j) j rfl hj) hI
     ·exfalso
      by_cases hte:t=i
      ·subst hte;rw [hLt] at hLi;cases hLi
      ·obtain ⟨ot,hot⟩:∃ ot,ops[t]?=some ot:=⟨_,List.getElem?_eq_getElem htl⟩
       have hdown:∀ k,i+k≤t→L (t - k)=true:=by
        intro k
        induction k with
        | zero=>intro _;exact hLt
        | succ k ih =>
         intro hk
         have h1:=ih (by omega)
         obtain ⟨ok,hok⟩:∃ ok,ops[t - k]?=some ok:=⟨_,List.getElem?_eq_getElem (by omega)⟩
         have h2:=chain_at hch (t:=t - k) (by omega) (by simpa using hok) (hclo _ ok (by simpa using hok) h1)
         rw [show t - (k+1)=t - k - 1 by omega];exact h2
       have:=hdown (t - i) (by omega)
       rw [show t - (t - i)=i by omega,hLi] at this;cases this
    ·have hp:=chain_at hch (t:=i) (by omega) ho hde
     rcases hI with ⟨hno,_⟩ | ⟨t,ht,htl,hLt,hgt,hw⟩
     ·rw [hno (i - 1) (by omega) (by omega)] at hp;cases hp
     ·have hti:t=i - 1:=by
       rcases Nat.lt_trichotomy t (i - 1) with h | h | h
       ·rw [hgt (i - 1) h (by omega)] at hp;cases hp
       ·exact h
       ·exfalso
        by_cases hte:t=i
        ·subst hte;rw [hLt] at hLi;cases hLi
        ·have hdown:∀ k,i+k≤t→L (t - k)=true:=by
          intro k
          induction k with
          | zero=>intro _;exact hLt
          | succ k ih =>
           intro hk
           have h1:=ih (by omega)
           obtain ⟨ok,hok⟩:∃ ok,ops[t - k]?=some ok:=⟨_,List.getElem?_eq_getElem (by omega)⟩
           have h2:=chain_at hch (t:=t - k) (by omega) (by simpa using hok) (hclo _ ok (by simpa using hok) h1)
           rw [show t - (k+1)=t - k - 1 by omega];exact h2
         have:=hdown (t - i) (by omega)
         rw [show t - (t - i)=i by omega,hLi] at this;cases this
      subst hti
      rwa [show i - 1+1=i by omega] at hw
   have hcons:ops.drop i=o :: ops.drop (i+1):=by
    rw [List.drop_eq_getElem_cons hil]
    have:=(List.getElem?_eq_some_iff.1 ho').2
    rw [this]
   rw [hcons] at hrest
   refine wpList_part hrest fun a2 w2 h2=>⟨hclo',.inr ⟨i,hni,hil,by simp,fun j hj hjl=>?_,h2⟩⟩
   have e1:(j == i)=false:=beq_eq_false_iff_ne.2 (by omega)
   cases hLj:L j with
   | false=>simp [hLj,e1]
   | true =>
    exfalso
    have hdown:∀ k,i+k≤j→L (j - k)=true:=by
     intro k
     induction k with
     | zero=>intro _;exact hLj
     | succ k ih =>
      intro hk
      have h1:=ih (by omega)
      obtain ⟨ok,hok⟩:∃ ok,ops[j - k]?=some ok:=⟨_,List.getElem?_eq_getElem (by omega)⟩
      have h2:=chain_at hch (t:=j - k) (by omega) (by simpa using hok) (hclo _ ok (by simpa using hok) h1)
      rw [show j - (k+1)=j - k - 1 by omega];exact h2
    have:=hdown (j - i) (by omega)
    rw [show j - (j - i)=i by omega,hLi] at this;cases this
 ·intro L a' w' hL hI
  obtain ⟨_,hI⟩:=hI
  rcases hI with ⟨hno,_⟩ | ⟨t,ht,htl,hLt,hgt,hw⟩
  ·have h1:=hno n (Nat.le_refl _) hn'
   rw [hL n hn] at h1;cases h1
  ·have hte:t+1=ops.length:=by
    rcases Nat.lt_or_ge (t+1) ops.length with h | h
    ·have h1:=hgt (t+1) (by omega) h
     rw [hL (t+1) (by simpa using h)] at h1;cases h1
    ·omega
   rw [List.drop_eq_nil_of_le (by omega)] at hw
   exact hw
end Go.Proofs.YtbmakifbppocaaaGreatDoor
set_option maxRecDepth 100000
namespace Go.Proofs.YtbmakifbppocaaaGreatDoor
open Go.RowKit Go.Maps Go.MapKept
open Go.ChangeMaps (setBlock)
theorem hx_v {w:World} {S:Nat→Prop} {k:Int} {t:Str} {n:Int} {h u:Bool} {os:List Str} {ks:List Sn} {oa ka:Option Addr} {oc kc:Nat} (h1:SlS w S oa 1 os.length (scells os)) (h2:SnSl w S ka ks.length ks) :
  SnV w S [.int .i64 k,.string ⟨(t).toArray⟩,.int .i64 n,.bool h,.bool u,.int .i64 0,.string ⟨#[]⟩,.bool false,.slice none 0 0,.int .i64 0,.int .i64 0,.bool false,.slice none 0 0,.slice none 0 0,.bool false,.bool false,.slice oa os.length oc,.slice ka ks.length kc] (.mk k t n h u tf0 os ks):=SnV.close (TfV.zero w S) h1 h2
end Go.Proofs.YtbmakifbppocaaaGreatDoor
set_option maxRecDepth 100000
namespace Go.Proofs.YtbmakifbppocaaaGreatDoor
open Go.RowKit
/-- It has yielded just this. -/
def eqP (c:Value):Value→World→Prop:=fun v _=>v=c
def FsAt (Fs:List (Value→World→Prop)) (j:Nat):Value→World→Prop:=Fs.getD j (fun _ _=>True)
/-- What is true of a value stays true where memory is added. -/
def MonoF (Fs:List (Value→World→Prop)):Prop:=∀ P ∈ Fs,∀ v w w',Below w.heap.size w w'→P v w→P v w'
theorem MonoF.nil:MonoF []:=fun _ h=>by cases h
theorem MonoF.eq {Fs:List (Value→World→Prop)} {c:Value} (h:MonoF Fs):MonoF (eqP c :: Fs):=fun P hP v w w' hb hv=>by
 rcases List.mem_cons.1 hP with rfl | hP
 ·exact hv
 ·exact h P hP v w w' hb hv
theorem MonoF.at_ {Fs:List (Value→World→Prop)} (h:MonoF Fs) (j:Nat) {v:Value} {w w':World} (hb:Below w.heap.size w w') (hv:FsAt Fs j v w):FsAt Fs j v w':=by
 unfold FsAt at *
 rw [List.getD_eq_getElem?_getD] at *
 cases hj:Fs[j]? with
 | none=>trivial
 | some P=>rw [hj] at hv;exact h P (List.mem_of_getElem? hj) v w w' hb hv
structure BelI (W0:World) (Fs:List (Value→World→Prop)) (V:Nat→Value) (L:Nat→Bool) (w':World):Prop where
 ext:Below W0.heap.size W0 w'
 at_:∀ j,L j=true→FsAt Fs j (V j) w'
theorem BelI.start (W0:World) (Fs:List (Value→World→Prop)) (V:Nat→Value):BelI W0 Fs V (fun _=>false) W0.drew:=⟨(Below.refl _ _).drew,fun _ h=>by cases h⟩
theorem BelI.step {W0:World} {Fs:List (Value→World→Prop)} (hM:MonoF Fs) {V:Nat→Value} {L:Nat→Bool} {w' w2:World} (h:BelI W0 Fs V L w') (k:Nat) {v:Value} (hb:Below w'.heap.size w' w2) (hv:FsAt Fs k v w2) :
  BelI W0 Fs (upd V k v) (fun j=>L j || j == k) w2 :=
 ⟨h.ext.trans (hb.mono h.ext.size),fun j hj=>by
  unfold upd
  by_cases e:j=k
  ·subst e;rw [if_pos rfl];exact hv
  ·rw [if_neg e]
   have e1:(j == k)=false:=beq_eq_false_iff_ne.2 e
   simp only [e1,Bool.or_false] at hj
   exact hM.at_ j hb (h.at_ j hj)⟩
theorem BelI.same {W0:World} {Fs:List (Value→World→Prop)} (hM:MonoF Fs) {V:Nat→Value} {L:Nat→Bool} {w':World} (h:BelI W0 Fs V L w') (k:Nat) {v:Value} (hv:FsAt Fs k v w') :
  BelI W0 Fs (upd V k v) (fun j=>L j || j == k) w':=h.step hM k (Below.refl _ _) hv
end Go.Proofs.YtbmakifbppocaaaGreatDoor
