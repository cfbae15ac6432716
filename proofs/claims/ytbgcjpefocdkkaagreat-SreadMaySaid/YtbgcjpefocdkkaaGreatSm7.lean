/- walks of sread: name; snode.Name -/
import Derived.Test.YtbgcjpefocdkkaaGreatSm1
import Derived.Test.YtbgcjpefocdkkaaGreatSm2
import Derived.Test.YtbgcjpefocdkkaaGreatSm3
import Derived.Test.YtbgcjpefocdkkaaGreatSm4
import Derived.Test.YtbgcjpefocdkkaaGreatSm5
import Derived.Test.YtbgcjpefocdkkaaGreatSm6
set_option maxRecDepth 100000
namespace Go.Proofs.YtbgcjpefocdkkaaGreat
open Go.RowKit
theorem NameByte_any (c:UInt8) (w:World):Calls Tryz.prog 66 #[.int .u8 c.toNat] w fun e w'=>e=.returned (.bool (nameC c))∧w=w':=by
 go_enter Tryz.func66,Tryz.ntmps66
 go_wp2
 all_goals (go_ret;refine⟨ret_bool ?_,rfl⟩;unfold nameC;rw [Bool.eq_iff_iff];simp only [Bool.or_eq_true,decide_eq_true_eq];first|omega|(simp;omega)|skip)
theorem nameB_bad {s:Str} {c:UInt8} (h:c∈s) (hc:nameC c=false):nameB s=false:=by
 cases s with
 | nil=>rfl
 | cons a r =>
  simp only [nameB];have:(a::r).all nameC=false:=by rw [List.all_eq_false];exact⟨c,h,by rw [hc];decide⟩
  rw [this];simp
theorem nameB_dig {c:UInt8} {r:Str} (h:c.toNat≤57):nameB (c::r)=false:=by
 simp only [nameB];rw [decide_eq_false (p:=57<c.toNat) (by omega)];simp
theorem nameB_good {c:UInt8} {r:Str} (h:∀d∈c::r,nameC d=true) (h1:57<c.toNat):nameB (c::r)=decide ((c::r).length≤64):=by
 simp only [nameB];rw [decide_eq_true h1,List.all_eq_true.2 h];simp
def NmRel (s:Str) (w:World) (q:Value) (wr:World):Prop :=
 ∃i:Nat,i≤s.length∧q=.int .i64 i∧wr=w∧Hid (∀c∈s.take i,nameC c=true)∧Hid (0<i→57<(s.headD 0).toNat)
set_option maxHeartbeats 1000000 in
theorem SName_any (s:Str) (w:World) (hs:s.length≤1000000) :
  Calls Tryz.prog 47 #[.string ⟨(s).toArray⟩] w fun e w'=>e=.returned (.bool (nameB s))∧w=w':=by
 generalize hR:nameB s=R
 have HR:=Lib.hid hR;clear hR;go_enter Tryz.func47,Tryz.ntmps47
 go_wp2
 go_loopw [3] (fun q wr=>NmRel s w q wr) (fun q _=>s.length-(intOf q).toNat)
 case atStart=>exact⟨0,by omega,rfl,rfl,Lib.hid (by simp),Lib.hid (by omega)⟩
 case round =>
  obtain⟨i,hi,rfl,rfl,HA,HH⟩:=hrel;cases hd:s.drop i with
  | nil =>
   have h2:=drop_nil hd;have hil:i=s.length:=by omega
   subst hil;have gl:decide (s.length<s.length)=false:=decide_eq_false (by omega);cases s with
   | nil =>
    have HR2:Hid (R=false):=Lib.hid (by rw [←HR.out];rfl);clear hd HA HH HR;go_wp2
    go_ret
    exact⟨by rw [HR2.out];rfl,rfl⟩
   | cons c r =>
    have HR2:Hid (R=decide ((c::r).length≤64)):=Lib.hid (by rw [←HR.out];exact nameB_good (fun d hd=>HA.out d (by rw [List.take_length];exact hd)) (HH.out (by simp)));clear hd HA HH HR;go_wp2
    go_ret
    refine⟨?_,rfl⟩;rw [HR2.out];exact ret_bool (a:=decide ((r.length:Int)+1≤64)) (by rw [Bool.eq_iff_iff];simp only [decide_eq_true_eq,List.length_cons];omega)
  | cons c r =>
   obtain⟨h2,h3,hr⟩:=drop_cons hd;have hmem:c∈s:=by rw [←h3 h2];exact List.getElem_mem h2
   have gl:decide (i<s.length)=true:=decide_eq_true h2;have HTk:Hid (s.take (i+1)=s.take i++[c]):=Lib.hid (by rw [List.take_add_one,List.getElem?_eq_getElem h2,h3 h2];rfl);cases hn:nameC c with
   | false =>
    have HR2:Hid (R=false):=Lib.hid (by rw [←HR.out];exact nameB_bad hmem hn);have HN:Hid (∀w:World,Calls Tryz.prog 66 #[.int .u8 c.toNat] w fun e w'=>e=.returned (.bool false)∧w=w'):=Lib.hid (by rw [←hn];exact NameByte_any c);clear hd hmem hn HR HA HH hr;go_wp2_with (go_at_call 66;refine(HN.out _).mono ?_;rintro e w1 ⟨rfl,rfl⟩)
    go_ret
    exact⟨by rw [HR2.out];rfl,rfl⟩
   | true =>
    have HN:Hid (∀w:World,Calls Tryz.prog 66 #[.int .u8 c.toNat] w fun e w'=>e=.returned (.bool true)∧w=w'):=Lib.hid (by rw [←hn];exact NameByte_any c);have HA2:Hid (∀d∈s.take (i+1),nameC d=true):=Lib.hid (by
     rw [HTk.out];intro d hd';rcases List.mem_append.1 hd' with hd'|hd'
     ·exact HA.out d hd'
     ·rw [List.mem_singleton] at hd';rw [hd'];exact hn)
    by_cases hi0:i=0
    ·subst hi0
     by_cases h57:c.toNat≤57
     ·have HR2:Hid (R=false):=Lib.hid (by rw [←HR.out];rw [List.drop_zero] at hd;rw [hd];exact nameB_dig h57)
      clear hd hmem hn HR HA HH hr HTk HA2;go_wp2_with (go_at_call 66;refine(HN.out _).mono ?_;rintro e w1 ⟨rfl,rfl⟩)
      go_ret
      exact⟨by rw [HR2.out];rfl,rfl⟩
     ·have HH2:Hid (0<0+1→57<(s.headD 0).toNat):=Lib.hid (fun _=>by rw [List.drop_zero] at hd;rw [hd];simp;omega)
      clear hd hmem hn HA HH hr HTk;go_wp2_with (go_at_call 66;refine(HN.out _).mono ?_;rintro e w1 ⟨rfl,rfl⟩)
      go_roundw
      case rel=>exact⟨0+1,by omega,by go_num,rfl,HA2,HH2⟩
      case measure=>simp [intOf];omega
    ·have hz:((i:Int)==0)=false:=by rw [beq_eq_false_iff_ne];omega
     have HH2:Hid (0<i+1→57<(s.headD 0).toNat):=Lib.hid (fun _=>HH.out (by omega));clear hd hmem hn HA HH hr HTk;go_wp2_with (go_at_call 66;refine(HN.out _).mono ?_;rintro e w1 ⟨rfl,rfl⟩)
     go_roundw
     case rel=>exact⟨i+1,by omega,by go_num,rfl,HA2,HH2⟩
     case measure=>simp [intOf];omega
theorem tw_at {α:Type} {p:α→Bool}:∀(l:List α) (m:Nat),(∀c∈l.take m,p c=true)→(∀c r,l.drop m=c::r→p c=false)→l.takeWhile p=l.take m∧l.dropWhile p=l.drop m
 | [],m,_,_=>by simp
 | c::l,0,_,h=>by have:=h c l rfl;simp [this]
 | c::l,m+1,h1,h2=>by
  have hc:p c=true:=h1 c (by simp);obtain⟨i1,i2⟩:=tw_at l m (fun d hd=>h1 d (by simp [hd])) (fun d r hd=>h2 d r (by simpa using hd));rw [List.takeWhile_cons_of_pos hc,List.dropWhile_cons_of_pos hc,i1,i2];exact⟨rfl,rfl⟩
def nameS (r:Str):Option (Str × Str):=if nameB (r.takeWhile nameC)=true then some (r.takeWhile nameC,r.dropWhile nameC) else none
def NameS (x:List Value) (g:Nat) (s:Str) (i:Nat) (R:Option (Str × Str)) (w:World) (e:Ending) (w':World):Prop:=w.grownBy w' (some g) ∧
 match R with
 | none=>e=.returned (.tuple #[.string ⟨([]).toArray⟩,.bool false])∧Pl x w' g s i
 | some (n,r)=>nameB n=true∧e=.returned (.tuple #[.string ⟨(n).toArray⟩,.bool true])∧∃j,Pl x w' g s j∧s.drop j=r∧i<j
def NaRel (s:Str) (i:Nat) (w:World) (q:Value) (wr:World):Prop :=
 ∃k:Nat,i≤k∧k≤s.length∧q=.int .i64 k∧wr=w∧Hid (∀c∈(s.drop i).take (k-i),nameC c=true)
set_option maxHeartbeats 1000000 in
theorem name_s {x:List Value} {g:Nat} {s:Str} {i:Nat} (w:World) (h:Pl x w g s i) :
  Calls Tryz.prog 51 #[.pointer (some ⟨g,0,none⟩)] w fun e w'=>NameS x g s i (nameS (s.drop i)) w e w':=by
 obtain⟨R,hR⟩:∃R,R=nameS (s.drop i):=⟨_,rfl⟩;rw [←hR];have HR:=Lib.hid hR;have HPL:=Lib.hid h;have hi:=h.2.1;have hl:=h.2.2;have c0:=h.c0;have c1:=h.c1;clear h hR;go_enter Tryz.func51,Tryz.ntmps51
 go_wp2
 go_loopw [4] (fun q wr=>NaRel s i w q wr) (fun q _=>s.length-(intOf q).toNat)
 case atStart=>exact⟨i,by omega,by omega,rfl,rfl,Lib.hid (by simp)⟩
 case round =>
  obtain⟨k,hik0,hk,rfl,rfl,HA⟩:=hrel;have d0:∀x':ExtOf wr,x'.val.cell? ⟨g,0,none⟩=some (.string ⟨(s).toArray⟩):=ExtOf.cell c0;have d1:∀x':ExtOf wr,x'.val.cell? ⟨g,1,none⟩=some (.int .i64 i):=ExtOf.cell c1;have gk0:(0:Int)≤(i:Int):=by omega
  have gk1:(i:Int)≤(k:Int):=by omega
  have gk2:(k:Int)≤(s.length:Int):=by omega
  have gk3:((i:Int)).toNat=i:=by omega
  have gk4:((k:Int)).toNat=k:=by omega
  have gk5:(0:Int)≤(k:Int):=by omega
  have HTW:Hid ((∀c r,s.drop k=c::r→nameC c=false)→R=if nameB ((s.drop i).take (k-i))=true then some ((s.drop i).take (k-i),s.drop k) else none):=Lib.hid fun hc=>by
   obtain⟨a,b⟩:=tw_at (s.drop i) (k-i) HA.out (fun c r hcr=>hc c r (by rw [List.drop_drop] at hcr;rw [←hcr];congr 1;omega));rw [HR.out];unfold nameS;rw [a,b,List.drop_drop,show i+(k-i)=k by omega]
  cases hd:s.drop k with
  | nil =>
   have h2:=drop_nil hd;have gl:decide ((k:Int)<(s.length:Int))=false:=decide_eq_false (by omega);have HRE:Hid (R=if nameB ((s.drop i).take (k-i))=true then some ((s.drop i).take (k-i),s.drop k) else none):=Lib.hid (HTW.out (fun c r e=>by rw [hd] at e;cases e));have HN:Hid True:=Lib.hid trivial;clear hd HTW HA HR;go_wp2_with (go_at_call 66;refine(HN.out _).mono ?_;rintro e w1 ⟨rfl,rfl⟩)
   refine wp_region_ext (by kernel_rfl) (by kernel_rfl) ?_;repeat (go_big_quiet_step ((fail)))
   refine wpQuiet_nil ?_;rintro _ ⟨xq,rfl⟩;have hpl:=HPL.out.later xq.ext;have hg0:=grown_of_below xq.ext (some g);generalize xq.val=wa at *
   clear d0 d1;have f1:=hpl.free 1;have c0:=hpl.c0;have c1:=hpl.c1;have HP2:=Lib.hid (hpl.set (j:=k) (by omega));have hg2:=grown_set hg0 1 (.int .i64 (k:Int));have HP1:=Lib.hid hpl;clear hpl;cases hb:nameB ((s.drop i).take (k-i)) with
   | false =>
    have HR2:Hid (R=none):=Lib.hid (by rw [HRE.out,hb];rfl);have HNM:Hid (∀w:World,Calls Tryz.prog 47 #[.string ⟨((s.drop i).take (k-i)).toArray⟩] w fun e w'=>e=.returned (.bool false)∧w=w'):=Lib.hid (fun w=>by rw [←hb];exact SName_any _ w (by simp;omega));clear hb HRE;go_wp2_with (go_at_call 47;refine(HNM.out _).mono ?_;rintro e w1 ⟨rfl,rfl⟩)
    go_ret2
    exact⟨hg0,by rw [HR2.out];exact⟨rfl,HP1.out⟩⟩
   | true =>
    have HR2:Hid (R=some ((s.drop i).take (k-i),s.drop k)):=Lib.hid (by rw [HRE.out,hb];rfl);have HNM:Hid (∀w:World,Calls Tryz.prog 47 #[.string ⟨((s.drop i).take (k-i)).toArray⟩] w fun e w'=>e=.returned (.bool true)∧w=w'):=Lib.hid (fun w=>by rw [←hb];exact SName_any _ w (by simp;omega));have hik:i<k:=by
     rcases Nat.lt_or_ge i k with h|h
     ·exact h
     ·rw [show k-i=0 by omega] at hb;cases hb
    have HB:=Lib.hid hb;clear hb HRE;go_wp2_with (go_at_call 47;refine(HNM.out _).mono ?_;rintro e w1 ⟨rfl,rfl⟩)
    go_ret2
    exact⟨hg2,by rw [HR2.out];exact⟨HB.out,rfl,k,HP2.out,rfl,hik⟩⟩
  | cons c r =>
   obtain⟨h2,h3,hr⟩:=drop_cons hd;have gl:decide ((k:Int)<(s.length:Int))=true:=decide_eq_true (by omega);have gl1:(k:Int)<(s.length:Int):=by omega
   cases hn:nameC c with
   | false =>
    have HN:Hid (∀w:World,Calls Tryz.prog 66 #[.int .u8 c.toNat] w fun e w'=>e=.returned (.bool false)∧w=w'):=Lib.hid (by rw [←hn];exact NameByte_any c);have HRE:Hid (R=if nameB ((s.drop i).take (k-i))=true then some ((s.drop i).take (k-i),s.drop k) else none):=Lib.hid (HTW.out (fun c' r' e=>by rw [hd] at e;injection e with e _;rw [←e];exact hn));clear hd HTW HA HR hn hr;go_wp2_with (go_at_call 66;refine(HN.out _).mono ?_;rintro e w1 ⟨rfl,rfl⟩)
    refine wp_region_ext (by kernel_rfl) (by kernel_rfl) ?_;repeat (go_big_quiet_step ((fail)))
    refine wpQuiet_nil ?_;rintro _ ⟨xq,rfl⟩;have hpl:=HPL.out.later xq.ext;have hg0:=grown_of_below xq.ext (some g);generalize xq.val=wa at *
    clear d0 d1;have f1:=hpl.free 1;have c0:=hpl.c0;have c1:=hpl.c1;have HP2:=Lib.hid (hpl.set (j:=k) (by omega));have hg2:=grown_set hg0 1 (.int .i64 (k:Int));have HP1:=Lib.hid hpl;clear hpl;cases hb:nameB ((s.drop i).take (k-i)) with
    | false =>
     have HR2:Hid (R=none):=Lib.hid (by rw [HRE.out,hb];rfl);have HNM:Hid (∀w:World,Calls Tryz.prog 47 #[.string ⟨((s.drop i).take (k-i)).toArray⟩] w fun e w'=>e=.returned (.bool false)∧w=w'):=Lib.hid (fun w=>by rw [←hb];exact SName_any _ w (by simp;omega));clear hb HRE;go_wp2_with (go_at_call 47;refine(HNM.out _).mono ?_;rintro e w1 ⟨rfl,rfl⟩)
     go_ret2
     exact⟨hg0,by rw [HR2.out];exact⟨rfl,HP1.out⟩⟩
    | true =>
     have HR2:Hid (R=some ((s.drop i).take (k-i),s.drop k)):=Lib.hid (by rw [HRE.out,hb];rfl);have HNM:Hid (∀w:World,Calls Tryz.prog 47 #[.string ⟨((s.drop i).take (k-i)).toArray⟩] w fun e w'=>e=.returned (.bool true)∧w=w'):=Lib.hid (fun w=>by rw [←hb];exact SName_any _ w (by simp;omega));have hik:i<k:=by
      rcases Nat.lt_or_ge i k with h|h
      ·exact h
      ·rw [show k-i=0 by omega] at hb;cases hb
     have HB:=Lib.hid hb;clear hb HRE;go_wp2_with (go_at_call 47;refine(HNM.out _).mono ?_;rintro e w1 ⟨rfl,rfl⟩)
     go_ret2
     exact⟨hg2,by rw [HR2.out];exact⟨HB.out,rfl,k,HP2.out,rfl,hik⟩⟩
   | true =>
    have HN:Hid (∀w:World,Calls Tryz.prog 66 #[.int .u8 c.toNat] w fun e w'=>e=.returned (.bool true)∧w=w'):=Lib.hid (by rw [←hn];exact NameByte_any c);have HA2:Hid (∀d∈(s.drop i).take (k+1-i),nameC d=true):=Lib.hid (by
     have e1:(s.drop i).take (k+1-i)=(s.drop i).take (k-i)++[c]:=by
      rw [show k+1-i=(k-i)+1 by omega,List.take_add_one,List.getElem?_drop,show i+(k-i)=k by omega,List.getElem?_eq_getElem h2,h3 h2];rfl
     rw [e1];intro d hd';rcases List.mem_append.1 hd' with hd'|hd'
     ·exact HA.out d hd'
     ·rw [List.mem_singleton] at hd';rw [hd'];exact hn)
    clear hd HTW HA hn hr d0 d1;go_wp2_with (go_at_call 66;refine(HN.out _).mono ?_;rintro e w1 ⟨rfl,rfl⟩)
    go_roundw
    case rel=>exact⟨k+1,by omega,by omega,by go_num,rfl,HA2⟩
    case measure=>simp [intOf];omega
end Go.Proofs.YtbgcjpefocdkkaaGreat
set_option maxRecDepth 100000
namespace Go.Proofs.YtbgcjpefocdkkaaGreat
open Go.RowKit
theorem alloc1 (w:World) {b:Array Value} {t:TypeId} {w0:World} (h:w0=w.alloc (.cells b t)):Below w.heap.size w w0∧w0.heap.size=w.heap.size+1∧w0.heap[w.heap.size]?=some (.cells b t (0,0)):=by
 subst h;exact⟨(Below.refl _ _).alloc (Nat.le_refl _) _,by simp,heap_alloc_new w _⟩
theorem plain_some {c t:Str} (w:World) (hs:c.length≤100000000) (h:plainM c=some t) :
  Calls Tryz.prog 140 #[.string ⟨(c).toArray⟩] w fun e w'=>e=.returned (.tuple #[.string ⟨(t).toArray⟩,.bool true])∧w=w':=by
 refine(plain_any c w hs).mono ?_
 rintro e w' ⟨h1,h2⟩;rw [h] at h2;exact⟨h2,h1⟩
def PlainNo (w:World) (e:Ending) (w':World):Prop:=∃t:Str,e=.returned (.tuple #[.string ⟨(t).toArray⟩,.bool false])∧w=w'
theorem plain_none {c:Str} (w:World) (hs:c.length≤100000000) (h:plainM c=none) :
  Calls Tryz.prog 140 #[.string ⟨(c).toArray⟩] w fun e w'=>PlainNo w e w':=by
 refine(plain_any c w hs).mono ?_
 rintro e w' ⟨h1,h2⟩;rw [h] at h2;obtain⟨t,h2⟩:=h2;exact⟨t,h2,h1⟩
theorem next_nil' {T:TypeId} {x:List Value} {g:Nat} (w:World) (h:RdT T x w g []) :
  Calls Tryz.prog 129 #[.pointer (some ⟨g,0,none⟩)] w fun e w'=>e=.returned (.string ⟨(([]:Str)).toArray⟩)∧RdT T x w' g []∧w.grownBy w' (some g) :=
 (next_nil w h).mono fun _ _ ⟨h1,h2⟩=>⟨h1,h2.rd h,h2.grown _⟩
def NamedRes (L:List Row) (w:World) (e:Ending) (w':World):Prop :=
 ∃(a:Addr) (k:Nat),e=.returned (.tuple #[.slice (some a) L.length k,.bool true])∧SlS w' (fun x=>w.heap.size≤x) (some a) 2 L.length (rcells L)∧Below w.heap.size w w'
theorem Named_yes {c:UInt8} (w:World) (h:namedB c=true):Calls Tryz.prog 139 #[.int .u8 c.toNat] w fun e w'=>NamedRes (namedL c) w e w':=by
 refine(Named_any c w).mono ?_
 rintro e w' ⟨a,k,h1,h2,h3,h4⟩;obtain⟨x,rfl⟩:=h4 h;rw [h] at h1;exact⟨x,k,h1,h2,h3⟩
def NamedNo (w:World) (e:Ending) (w':World):Prop:=∃(v:Value),e=.returned (.tuple #[v,.bool false])∧Below w.heap.size w w'
theorem Named_no {c:UInt8} (w:World) (h:namedB c=false):Calls Tryz.prog 139 #[.int .u8 c.toNat] w fun e w'=>NamedNo w e w':=by
 refine(Named_any c w).mono ?_
 rintro e w' ⟨a,k,h1,h2,h3,h4⟩;rw [h] at h1;exact⟨_,h1,h3⟩
theorem namedS_one (b:UInt8):namedS [b]=if namedB b=true then some (namedL b) else none:=rfl
set_option maxHeartbeats 1000000 in
theorem escaped_any {g d:Nat} {r:List Str} (w:World) (h:Rd w g r d) :
  Calls Tryz.prog 132 #[.pointer (some ⟨g,0,none⟩)] w fun e w'=>ResPost g d w.heap.size w (escM r) e w':=by
 obtain⟨R,hR⟩:∃R,escM r=R:=⟨_,rfl⟩;rw [hR];cases r with
 | nil =>
  have HR:Hid (Except.error 10=R):=Lib.hid hR;clear hR;obtain⟨w0,hw0⟩:∃w0,w0=w.alloc (.cells #[.int .i64 0,.string ⟨#[]⟩,.bool false,.slice none 0 0,.int .i64 0,.int .i64 0,.bool false,.slice none 0 0] 34):=⟨_,rfl⟩;obtain⟨hb0,hz0,hby0⟩:=alloc1 w hw0;have HRD:=Lib.hid (h.later hb0);rw [hw0] at HRD;have HW0:=Lib.hid hw0;have HBY0:=Lib.hid hby0;have hgg:w.grownBy w0 (some g):=grown_of_below hb0 _;have hgr:g<w.heap.size:=h.lt;clear hw0 hby0 h;go_enter Tryz.func132,Tryz.ntmps132
  go_wp2_with (go_at_call 129;refine(next_nil' _ HRD.out).mono ?_)
  rintro e w1 ⟨rfl,hrd1,hq1⟩;rw [←HW0.out] at hq1;have hg1:=grown_trans hgg hq1;have HRD1:=Lib.hid hrd1;have HBY1:=Lib.hid (box_grown HBY0.out hq1 (by omega));have hz1:=hq1.size;clear hrd1 hq1;go_wp2_with (go_at_call 140;refine(plain_none _ (by simp) rfl).mono ?_)
  rintro e w2 hq;obtain⟨t,rfl,rfl⟩:=hq;obtain⟨f0,f1,f2,f3,f4,f5,f6,f7,f8⟩:=bx_cells (c:=[]) HBY1.out;go_wp2
  refine bodyPost_ret (v:=.tuple #[.agg #[.int .i64 0,.string ⟨([]).toArray⟩,.bool false,.slice none 0 0,.int .i64 0,.int .i64 0,.bool false,.slice none 0 0],.int .i64 10]) (by simp [results,Tryz.results132,go_sem,f0,f1,f2,f3,f4,f5,f6,f7]) rfl ?_;refine⟨?_,?_⟩
  ·iterate 8 (refine grown_setNew ?_ (by first|omega|(simp;done)|(simp;omega)) _)
   exact hg1
  ·rw [←HR.out]
   refine⟨rfl,?_⟩;iterate 8 (refine RdE.setHi ?_ (by first|omega|(simp;done)|(simp;omega)) _)
   exact⟨_,HRD1.out⟩
 | cons c r1 =>
  have hp:=h.pos;cases hn:namedS c with
  | some rows =>
   have HR:Hid (Except.ok (setR rows false,r1)=R):=Lib.hid (by rw [←hR];simp only [escM,hn]);clear hR;obtain⟨b,rfl,hnb,rfl⟩:∃b,c=[b]∧namedB b=true∧rows=namedL b:=by
    match c,hn with
    | [b],hn =>
     rw [namedS_one] at hn;split at hn
     ·rename_i q;injection hn with hn;exact⟨b,rfl,q,hn.symm⟩
     ·cases hn
    | [],hn=>cases hn
    | b::b2::t,hn=>cases hn
   clear hn;have HNB:=Lib.hid hnb;clear hnb;obtain⟨w0,hw0⟩:∃w0,w0=w.alloc (.cells #[.int .i64 0,.string ⟨#[]⟩,.bool false,.slice none 0 0,.int .i64 0,.int .i64 0,.bool false,.slice none 0 0] 34):=⟨_,rfl⟩;obtain⟨hb0,hz0,hby0⟩:=alloc1 w hw0;have HRD:=Lib.hid (h.later hb0);rw [hw0] at HRD;have HW0:=Lib.hid hw0;have HBY0:=Lib.hid hby0;have hgg:w.grownBy w0 (some g):=grown_of_below hb0 _;have hgr:g<w.heap.size:=h.lt;clear hw0 hby0 h;go_enter Tryz.func132,Tryz.ntmps132
   go_wp2_with (go_at_call 129;refine(next_cons _ HRD.out).mono ?_)
   rintro e w1 ⟨rfl,hrd1,hq1⟩;rw [←HW0.out] at hq1;have hg1:=grown_trans hgg hq1;have HRD1:=Lib.hid hrd1;have HBY1:=Lib.hid (box_grown HBY0.out hq1 (by omega));have hz1:=hq1.size;clear hrd1 hq1;go_wp2_with (go_at_call 139;refine(Named_yes _ HNB.out).mono ?_)
   rintro e w2 hq;obtain⟨a,k,rfl,hsl,hb2⟩:=hq;have hg2:=grown_trans hg1 (grown_of_below hb2 (some g));have hby2:=(hb2.block _ (heap_lt HBY1.out)).trans HBY1.out;have HRD2:=Lib.hid (HRD1.out.later hb2);have HV:Hid (RxV w2 (fun b=>w.heap.size≤b∧b≠w.heap.size) (rxc 4 [] false (some a) (namedL b).length k 0 0 false none ([]:List Rx).length 0) (setR (namedL b) false)):=Lib.hid
    (RxV.close (hsl.mono fun x hx _=>by omega) ⟨[],SlS.none_ _ _ _ _,.nil⟩)
   obtain⟨f0,f1,f2,f3,f4,f5,f6,f7,f8⟩:=bx_cells (c:=[]) hby2;clear hsl hby2;go_wp2
   refine bodyPost_ret (v:=.tuple #[.agg #[.int .i64 4,.string ⟨([]).toArray⟩,.bool false,.slice (some a) (namedL b).length k,.int .i64 0,.int .i64 0,.bool false,.slice none ([]:List Rx).length 0],.int .i64 0]) (by simp [results,Tryz.results132,go_sem,f0,f1,f2,f3,f4,f5,f6,f7]) rfl ?_;refine⟨?_,?_⟩
   ·iterate 8 (refine grown_setNew ?_ (by first|omega|(simp;done)|(simp;omega)) _)
    exact hg2
   rw [←HR.out];refine⟨rxc 4 [] false (some a) (namedL b).length k 0 0 false none ([]:List Rx).length 0,rfl,RxV.mono (S:=fun b=>w.heap.size≤b∧b≠w.heap.size) (fun b hb _=>hb.1) ?_,?_⟩
   ·iterate 8 (refine RxV.keep (Kept.setLow _ (fun b hb=>by have:w.heap.size≤b∧b≠w.heap.size:=hb;first|omega|(simp;done)|(simp;omega))) ?_)
    exact HV.out
   ·iterate 8 (refine RdT.setHi ?_ (by first|omega|(simp;done)|(simp;omega)) _)
    exact HRD2.out
  | none =>
   by_cases h68:c=[68]
   ·subst h68
    have HR:Hid (Except.ok (setR (namedL 100) true,r1)=R):=Lib.hid hR;clear hR hn;obtain⟨w0,hw0⟩:∃w0,w0=w.alloc (.cells #[.int .i64 0,.string ⟨#[]⟩,.bool false,.slice none 0 0,.int .i64 0,.int .i64 0,.bool false,.slice none 0 0] 34):=⟨_,rfl⟩;obtain⟨hb0,hz0,hby0⟩:=alloc1 w hw0;have HRD:=Lib.hid (h.later hb0);rw [hw0] at HRD;have HW0:=Lib.hid hw0;have HBY0:=Lib.hid hby0;have hgg:w.grownBy w0 (some g):=grown_of_below hb0 _;have hgr:g<w.heap.size:=h.lt;clear hw0 hby0 h;go_enter Tryz.func132,Tryz.ntmps132
    go_wp2_with (go_at_call 129;refine(next_cons _ HRD.out).mono ?_)
    rintro e w1 ⟨rfl,hrd1,hq1⟩;rw [←HW0.out] at hq1;have hg1:=grown_trans hgg hq1;have HRD1:=Lib.hid hrd1;have HBY1:=Lib.hid (box_grown HBY0.out hq1 (by omega));have hz1:=hq1.size;clear hrd1 hq1;go_wp2_with (go_at_call 139;refine(Named_no (c:=68) _ (by decide)).mono ?_)
    rintro e w2 hq;obtain⟨v,rfl,hb2⟩:=hq;have hg2:=grown_trans hg1 (grown_of_below hb2 (some g));have HBY2:=Lib.hid ((hb2.block _ (heap_lt HBY1.out)).trans HBY1.out);have HRD2:=Lib.hid (HRD1.out.later hb2);have hz2:=hb2.size;go_wp2_with (go_at_call 139;refine(Named_yes (c:=100) _ (by decide)).mono ?_)
    rintro e w3 hq;obtain⟨a,k,rfl,hsl,hb3⟩:=hq;have hg3:=grown_trans hg2 (grown_of_below hb3 (some g));have hby3:=(hb3.block _ (heap_lt HBY2.out)).trans HBY2.out;have HRD3:=Lib.hid (HRD2.out.later hb3);have HV:Hid (RxV w3 (fun b=>w.heap.size≤b∧b≠w.heap.size) (rxc 4 [] true (some a) (namedL 100).length k 0 0 false none ([]:List Rx).length 0) (setR (namedL 100) true)):=Lib.hid
     (RxV.close (hsl.mono fun x hx _=>by omega) ⟨[],SlS.none_ _ _ _ _,.nil⟩)
    obtain⟨f0,f1,f2,f3,f4,f5,f6,f7,f8⟩:=bx_cells (c:=[]) hby3;clear hsl hby3;go_wp2
    refine bodyPost_ret (v:=.tuple #[.agg #[.int .i64 4,.string ⟨([]).toArray⟩,.bool true,.slice (some a) (namedL 100).length k,.int .i64 0,.int .i64 0,.bool false,.slice none ([]:List Rx).length 0],.int .i64 0]) (by simp [results,Tryz.results132,go_sem,f0,f1,f2,f3,f4,f5,f6,f7]) rfl ?_;refine⟨?_,?_⟩
    ·iterate 8 (refine grown_setNew ?_ (by first|omega|(simp;done)|(simp;omega)) _)
     exact hg3
    rw [←HR.out];refine⟨rxc 4 [] true (some a) (namedL 100).length k 0 0 false none ([]:List Rx).length 0,rfl,RxV.mono (S:=fun b=>w.heap.size≤b∧b≠w.heap.size) (fun b hb _=>hb.1) ?_,?_⟩
    ·iterate 8 (refine RxV.keep (Kept.setLow _ (fun b hb=>by have:w.heap.size≤b∧b≠w.heap.size:=hb;first|omega|(simp;done)|(simp;omega))) ?_)
     exact HV.out
    ·iterate 8 (refine RdT.setHi ?_ (by first|omega|(simp;done)|(simp;omega)) _)
     exact HRD3.out
   by_cases h87:c=[87]
   ·subst h87
    have HR:Hid (Except.ok (setR (namedL 119) true,r1)=R):=Lib.hid hR;clear hR hn;obtain⟨w0,hw0⟩:∃w0,w0=w.alloc (.cells #[.int .i64 0,.string ⟨#[]⟩,.bool false,.slice none 0 0,.int .i64 0,.int .i64 0,.bool false,.slice none 0 0] 34):=⟨_,rfl⟩;obtain⟨hb0,hz0,hby0⟩:=alloc1 w hw0;have HRD:=Lib.hid (h.later hb0);rw [hw0] at HRD;have HW0:=Lib.hid hw0;have HBY0:=Lib.hid hby0;have hgg:w.grownBy w0 (some g):=grown_of_below hb0 _;have hgr:g<w.heap.size:=h.lt;clear hw0 hby0 h;go_enter Tryz.func132,Tryz.ntmps132
    go_wp2_with (go_at_call 129;refine(next_cons _ HRD.out).mono ?_)
    rintro e w1 ⟨rfl,hrd1,hq1⟩;rw [←HW0.out] at hq1;have hg1:=grown_trans hgg hq1;have HRD1:=Lib.hid hrd1;have HBY1:=Lib.hid (box_grown HBY0.out hq1 (by omega));have hz1:=hq1.size;clear hrd1 hq1;go_wp2_with (go_at_call 139;refine(Named_no (c:=87) _ (by decide)).mono ?_)
    rintro e w2 hq;obtain⟨v,rfl,hb2⟩:=hq;have hg2:=grown_trans hg1 (grown_of_below hb2 (some g));have HBY2:=Lib.hid ((hb2.block _ (heap_lt HBY1.out)).trans HBY1.out);have HRD2:=Lib.hid (HRD1.out.later hb2);have hz2:=hb2.size;go_wp2_with (go_at_call 139;refine(Named_yes (c:=119) _ (by decide)).mono ?_)
    rintro e w3 hq;obtain⟨a,k,rfl,hsl,hb3⟩:=hq;have hg3:=grown_trans hg2 (grown_of_below hb3 (some g));have hby3:=(hb3.block _ (heap_lt HBY2.out)).trans HBY2.out;have HRD3:=Lib.hid (HRD2.out.later hb3);have HV:Hid (RxV w3 (fun b=>w.heap.size≤b∧b≠w.heap.size) (rxc 4 [] true (some a) (namedL 119).length k 0 0 false none ([]:List Rx).length 0) (setR (namedL 119) true)):=Lib.hid
     (RxV.close (hsl.mono fun x hx _=>by omega) ⟨[],SlS.none_ _ _ _ _,.nil⟩)
    obtain⟨f0,f1,f2,f3,f4,f5,f6,f7,f8⟩:=bx_cells (c:=[]) hby3;clear hsl hby3;go_wp2
    refine bodyPost_ret (v:=.tuple #[.agg #[.int .i64 4,.string ⟨([]).toArray⟩,.bool true,.slice (some a) (namedL 119).length k,.int .i64 0,.int .i64 0,.bool false,.slice none ([]:List Rx).length 0],.int .i64 0]) (by simp [results,Tryz.results132,go_sem,f0,f1,f2,f3,f4,f5,f6,f7]) rfl ?_;refine⟨?_,?_⟩
    ·iterate 8 (refine grown_setNew ?_ (by first|omega|(simp;done)|(simp;omega)) _)
     exact hg3
    rw [←HR.out];refine⟨rxc 4 [] true (some a) (namedL 119).length k 0 0 false none ([]:List Rx).length 0,rfl,RxV.mono (S:=fun b=>w.heap.size≤b∧b≠w.heap.size) (fun b hb _=>hb.1) ?_,?_⟩
    ·iterate 8 (refine RxV.keep (Kept.setLow _ (fun b hb=>by have:w.heap.size≤b∧b≠w.heap.size:=hb;first|omega|(simp;done)|(simp;omega))) ?_)
     exact HV.out
    ·iterate 8 (refine RdT.setHi ?_ (by first|omega|(simp;done)|(simp;omega)) _)
     exact HRD3.out
   by_cases h83:c=[83]
   ·subst h83
    have HR:Hid (Except.ok (setR (namedL 115) true,r1)=R):=Lib.hid hR;clear hR hn;obtain⟨w0,hw0⟩:∃w0,w0=w.alloc (.cells #[.int .i64 0,.string ⟨#[]⟩,.bool false,.slice none 0 0,.int .i64 0,.int .i64 0,.bool false,.slice none 0 0] 34):=⟨_,rfl⟩;obtain⟨hb0,hz0,hby0⟩:=alloc1 w hw0;have HRD:=Lib.hid (h.later hb0);rw [hw0] at HRD;have HW0:=Lib.hid hw0;have HBY0:=Lib.hid hby0;have hgg:w.grownBy w0 (some g):=grown_of_below hb0 _;have hgr:g<w.heap.size:=h.lt;clear hw0 hby0 h;go_enter Tryz.func132,Tryz.ntmps132
    go_wp2_with (go_at_call 129;refine(next_cons _ HRD.out).mono ?_)
    rintro e w1 ⟨rfl,hrd1,hq1⟩;rw [←HW0.out] at hq1;have hg1:=grown_trans hgg hq1;have HRD1:=Lib.hid hrd1;have HBY1:=Lib.hid (box_grown HBY0.out hq1 (by omega));have hz1:=hq1.size;clear hrd1 hq1;go_wp2_with (go_at_call 139;refine(Named_no (c:=83) _ (by decide)).mono ?_)
    rintro e w2 hq;obtain⟨v,rfl,hb2⟩:=hq;have hg2:=grown_trans hg1 (grown_of_below hb2 (some g));have HBY2:=Lib.hid ((hb2.block _ (heap_lt HBY1.out)).trans HBY1.out);have HRD2:=Lib.hid (HRD1.out.later hb2);have hz2:=hb2.size;go_wp2_with (go_at_call 139;refine(Named_yes (c:=115) _ (by decide)).mono ?_)
    rintro e w3 hq;obtain⟨a,k,rfl,hsl,hb3⟩:=hq;have hg3:=grown_trans hg2 (grown_of_below hb3 (some g));have hby3:=(hb3.block _ (heap_lt HBY2.out)).trans HBY2.out;have HRD3:=Lib.hid (HRD2.out.later hb3);have HV:Hid (RxV w3 (fun b=>w.heap.size≤b∧b≠w.heap.size) (rxc 4 [] true (some a) (namedL 115).length k 0 0 false none ([]:List Rx).length 0) (setR (namedL 115) true)):=Lib.hid
     (RxV.close (hsl.mono fun x hx _=>by omega) ⟨[],SlS.none_ _ _ _ _,.nil⟩)
    obtain⟨f0,f1,f2,f3,f4,f5,f6,f7,f8⟩:=bx_cells (c:=[]) hby3;clear hsl hby3;go_wp2
    refine bodyPost_ret (v:=.tuple #[.agg #[.int .i64 4,.string ⟨([]).toArray⟩,.bool true,.slice (some a) (namedL 115).length k,.int .i64 0,.int .i64 0,.bool false,.slice none ([]:List Rx).length 0],.int .i64 0]) (by simp [results,Tryz.results132,go_sem,f0,f1,f2,f3,f4,f5,f6,f7]) rfl ?_;refine⟨?_,?_⟩
    ·iterate 8 (refine grown_setNew ?_ (by first|omega|(simp;done)|(simp;omega)) _)
     exact hg3
    rw [←HR.out];refine⟨rxc 4 [] true (some a) (namedL 115).length k 0 0 false none ([]:List Rx).length 0,rfl,RxV.mono (S:=fun b=>w.heap.size≤b∧b≠w.heap.size) (fun b hb _=>hb.1) ?_,?_⟩
    ·iterate 8 (refine RxV.keep (Kept.setLow _ (fun b hb=>by have:w.heap.size≤b∧b≠w.heap.size:=hb;first|omega|(simp;done)|(simp;omega))) ?_)
     exact HV.out
    ·iterate 8 (refine RdT.setHi ?_ (by first|omega|(simp;done)|(simp;omega)) _)
     exact HRD3.out
   have hbig:bigS c=none:=by unfold bigS;rw [if_neg h68,if_neg h87,if_neg h83]
   have g68:(c==[68])=false:=beq_eq_false_iff_ne.2 h68;have g87:(c==[87])=false:=beq_eq_false_iff_ne.2 h87;have g83:(c==[83])=false:=beq_eq_false_iff_ne.2 h83;have hpl:=hp.2;match c,hp,hn with
   | [],hp,_=>exact absurd rfl hp.1
   | [b],_,hn =>
    have hnb:namedB b=false:=by
     rw [namedS_one] at hn;cases hb:namedB b with
     | true=>rw [hb] at hn;cases hn
     | false=>rfl
    have HNB:=Lib.hid hnb;clear hnb h68 h87 h83;cases hpm:plainM [b] with
    | none =>
     have HR:Hid (Except.error 10=R):=Lib.hid (by rw [←hR];simp only [escM,hn,hbig,hpm]);have HPM:=Lib.hid hpm;clear hR hn hbig hpm;obtain⟨w0,hw0⟩:∃w0,w0=w.alloc (.cells #[.int .i64 0,.string ⟨#[]⟩,.bool false,.slice none 0 0,.int .i64 0,.int .i64 0,.bool false,.slice none 0 0] 34):=⟨_,rfl⟩;obtain⟨hb0,hz0,hby0⟩:=alloc1 w hw0;have HRD:=Lib.hid (h.later hb0);rw [hw0] at HRD;have HW0:=Lib.hid hw0;have HBY0:=Lib.hid hby0;have hgg:w.grownBy w0 (some g):=grown_of_below hb0 _;have hgr:g<w.heap.size:=h.lt;clear hw0 hby0 h;go_enter Tryz.func132,Tryz.ntmps132
     go_wp2_with (go_at_call 129;refine(next_cons _ HRD.out).mono ?_)
     rintro e w1 ⟨rfl,hrd1,hq1⟩;rw [←HW0.out] at hq1;have hg1:=grown_trans hgg hq1;have HRD1:=Lib.hid hrd1;have HBY1:=Lib.hid (box_grown HBY0.out hq1 (by omega));have hz1:=hq1.size;clear hrd1 hq1;go_wp2_with (go_at_call 139;refine(Named_no _ HNB.out).mono ?_)
     rintro e w2 hq;obtain⟨v,rfl,hb2⟩:=hq;have hg2:=grown_trans hg1 (grown_of_below hb2 (some g));have HBY2:=Lib.hid ((hb2.block _ (heap_lt HBY1.out)).trans HBY1.out);have HRD2:=Lib.hid (HRD1.out.later hb2);go_wp2_with (go_at_call 140;refine(plain_none _ (by simp) HPM.out).mono ?_)
     rintro e w3 hq;obtain⟨t,rfl,rfl⟩:=hq;obtain⟨f0,f1,f2,f3,f4,f5,f6,f7,f8⟩:=bx_cells (c:=[]) HBY2.out;go_wp2
     refine bodyPost_ret (v:=.tuple #[.agg #[.int .i64 0,.string ⟨([]).toArray⟩,.bool false,.slice none 0 0,.int .i64 0,.int .i64 0,.bool false,.slice none 0 0],.int .i64 10]) (by simp [results,Tryz.results132,go_sem,f0,f1,f2,f3,f4,f5,f6,f7]) rfl ?_;refine⟨?_,?_⟩
     ·iterate 8 (refine grown_setNew ?_ (by first|omega|(simp;done)|(simp;omega)) _)
      exact hg2
     ·rw [←HR.out]
      refine⟨rfl,?_⟩;iterate 8 (refine RdE.setHi ?_ (by first|omega|(simp;done)|(simp;omega)) _)
      exact⟨_,HRD2.out⟩
    | some t =>
     have HR:Hid (Except.ok (chrR t,r1)=R):=Lib.hid (by rw [←hR];simp only [escM,hn,hbig,hpm]);have HPM:=Lib.hid hpm;clear hR hn hbig hpm;obtain⟨w0,hw0⟩:∃w0,w0=w.alloc (.cells #[.int .i64 0,.string ⟨#[]⟩,.bool false,.slice none 0 0,.int .i64 0,.int .i64 0,.bool false,.slice none 0 0] 34):=⟨_,rfl⟩;obtain⟨hb0,hz0,hby0⟩:=alloc1 w hw0;have HRD:=Lib.hid (h.later hb0);rw [hw0] at HRD;have HW0:=Lib.hid hw0;have HBY0:=Lib.hid hby0;have hgg:w.grownBy w0 (some g):=grown_of_below hb0 _;have hgr:g<w.heap.size:=h.lt;clear hw0 hby0 h;go_enter Tryz.func132,Tryz.ntmps132
     go_wp2_with (go_at_call 129;refine(next_cons _ HRD.out).mono ?_)
     rintro e w1 ⟨rfl,hrd1,hq1⟩;rw [←HW0.out] at hq1;have hg1:=grown_trans hgg hq1;have HRD1:=Lib.hid hrd1;have HBY1:=Lib.hid (box_grown HBY0.out hq1 (by omega));have hz1:=hq1.size;clear hrd1 hq1;go_wp2_with (go_at_call 139;refine(Named_no _ HNB.out).mono ?_)
     rintro e w2 hq;obtain⟨v,rfl,hb2⟩:=hq;have hg2:=grown_trans hg1 (grown_of_below hb2 (some g));have HBY2:=Lib.hid ((hb2.block _ (heap_lt HBY1.out)).trans HBY1.out);have HRD2:=Lib.hid (HRD1.out.later hb2);go_wp2_with (go_at_call 140;refine(plain_some _ (by simp) HPM.out).mono ?_)
     rintro e w3 ⟨rfl,rfl⟩;obtain⟨f0,f1,f2,f3,f4,f5,f6,f7,f8⟩:=bx_cells (c:=[]) HBY2.out;go_wp2
     refine bodyPost_ret (v:=.tuple #[.agg #[.int .i64 2,.string ⟨(t).toArray⟩,.bool false,.slice none ([]:List Row).length 0,.int .i64 0,.int .i64 0,.bool false,.slice none ([]:List Rx).length 0],.int .i64 0]) (by simp [results,Tryz.results132,go_sem,f0,f1,f2,f3,f4,f5,f6,f7]) rfl ?_;refine⟨?_,?_⟩
     ·iterate 8 (refine grown_setNew ?_ (by first|omega|(simp;done)|(simp;omega)) _)
      exact hg2
     rw [←HR.out];refine⟨rxc 2 t false none ([]:List Row).length 0 0 0 false none ([]:List Rx).length 0,rfl,RxV.mono (S:=fun b=>w.heap.size≤b∧b≠w.heap.size) (fun b hb _=>hb.1) ?_,?_⟩
     ·iterate 8 (refine RxV.keep (Kept.setLow _ (fun b hb=>by have:w.heap.size≤b∧b≠w.heap.size:=hb;first|omega|(simp;done)|(simp;omega))) ?_)
      exact(RxV.close (SlS.none_ _ _ _ _) ⟨[],SlS.none_ _ _ _ _,.nil⟩)
     ·iterate 8 (refine RdT.setHi ?_ (by first|omega|(simp;done)|(simp;omega)) _)
      exact HRD2.out
   | b::b2::t,_,hn =>
    have hne:((t.length:Int)+1+1==1)=false:=by rw [beq_eq_false_iff_ne];omega
    clear h68 h87 h83;generalize hcc:b::b2::t=cc at *
    have hcl:cc.length=t.length+2:=by rw [←hcc];rfl
    have hne:((cc.length:Int)==1)=false:=by rw [beq_eq_false_iff_ne];omega
    clear hcc hcl;cases hpm:plainM cc with
    | none =>
     have HR:Hid (Except.error 10=R):=Lib.hid (by rw [←hR];simp only [escM,hn,hbig,hpm]);have HPM:=Lib.hid hpm;clear hR hn hbig hpm;obtain⟨w0,hw0⟩:∃w0,w0=w.alloc (.cells #[.int .i64 0,.string ⟨#[]⟩,.bool false,.slice none 0 0,.int .i64 0,.int .i64 0,.bool false,.slice none 0 0] 34):=⟨_,rfl⟩;obtain⟨hb0,hz0,hby0⟩:=alloc1 w hw0;have HRD:=Lib.hid (h.later hb0);rw [hw0] at HRD;have HW0:=Lib.hid hw0;have HBY0:=Lib.hid hby0;have hgg:w.grownBy w0 (some g):=grown_of_below hb0 _;have hgr:g<w.heap.size:=h.lt;clear hw0 hby0 h;go_enter Tryz.func132,Tryz.ntmps132
     go_wp2_with (go_at_call 129;refine(next_cons _ HRD.out).mono ?_)
     rintro e w1 ⟨rfl,hrd1,hq1⟩;rw [←HW0.out] at hq1;have hg1:=grown_trans hgg hq1;have HRD1:=Lib.hid hrd1;have HBY1:=Lib.hid (box_grown HBY0.out hq1 (by omega));have hz1:=hq1.size;clear hrd1 hq1;go_wp2_with (go_at_call 140;refine(plain_none _ (by omega) HPM.out).mono ?_)
     rintro e w3 hq;obtain⟨t,rfl,rfl⟩:=hq;obtain⟨f0,f1,f2,f3,f4,f5,f6,f7,f8⟩:=bx_cells (c:=[]) HBY1.out;go_wp2
     refine bodyPost_ret (v:=.tuple #[.agg #[.int .i64 0,.string ⟨([]).toArray⟩,.bool false,.slice none 0 0,.int .i64 0,.int .i64 0,.bool false,.slice none 0 0],.int .i64 10]) (by simp [results,Tryz.results132,go_sem,f0,f1,f2,f3,f4,f5,f6,f7]) rfl ?_;refine⟨?_,?_⟩
     ·iterate 8 (refine grown_setNew ?_ (by first|omega|(simp;done)|(simp;omega)) _)
      exact hg1
     ·rw [←HR.out]
      refine⟨rfl,?_⟩;iterate 8 (refine RdE.setHi ?_ (by first|omega|(simp;done)|(simp;omega)) _)
      exact⟨_,HRD1.out⟩
    | some u =>
     have HR:Hid (Except.ok (chrR u,r1)=R):=Lib.hid (by rw [←hR];simp only [escM,hn,hbig,hpm]);have HPM:=Lib.hid hpm;clear hR hn hbig hpm;obtain⟨w0,hw0⟩:∃w0,w0=w.alloc (.cells #[.int .i64 0,.string ⟨#[]⟩,.bool false,.slice none 0 0,.int .i64 0,.int .i64 0,.bool false,.slice none 0 0] 34):=⟨_,rfl⟩;obtain⟨hb0,hz0,hby0⟩:=alloc1 w hw0;have HRD:=Lib.hid (h.later hb0);rw [hw0] at HRD;have HW0:=Lib.hid hw0;have HBY0:=Lib.hid hby0;have hgg:w.grownBy w0 (some g):=grown_of_below hb0 _;have hgr:g<w.heap.size:=h.lt;clear hw0 hby0 h;go_enter Tryz.func132,Tryz.ntmps132
     go_wp2_with (go_at_call 129;refine(next_cons _ HRD.out).mono ?_)
     rintro e w1 ⟨rfl,hrd1,hq1⟩;rw [←HW0.out] at hq1;have hg1:=grown_trans hgg hq1;have HRD1:=Lib.hid hrd1;have HBY1:=Lib.hid (box_grown HBY0.out hq1 (by omega));have hz1:=hq1.size;clear hrd1 hq1;go_wp2_with (go_at_call 140;refine(plain_some _ (by omega) HPM.out).mono ?_)
     rintro e w3 ⟨rfl,rfl⟩;obtain⟨f0,f1,f2,f3,f4,f5,f6,f7,f8⟩:=bx_cells (c:=[]) HBY1.out;go_wp2
     refine bodyPost_ret (v:=.tuple #[.agg #[.int .i64 2,.string ⟨(u).toArray⟩,.bool false,.slice none ([]:List Row).length 0,.int .i64 0,.int .i64 0,.bool false,.slice none ([]:List Rx).length 0],.int .i64 0]) (by simp [results,Tryz.results132,go_sem,f0,f1,f2,f3,f4,f5,f6,f7]) rfl ?_;refine⟨?_,?_⟩
     ·iterate 8 (refine grown_setNew ?_ (by first|omega|(simp;done)|(simp;omega)) _)
      exact hg1
     rw [←HR.out];refine⟨rxc 2 u false none ([]:List Row).length 0 0 0 false none ([]:List Rx).length 0,rfl,RxV.mono (S:=fun b=>w.heap.size≤b∧b≠w.heap.size) (fun b hb _=>hb.1) ?_,?_⟩
     ·iterate 8 (refine RxV.keep (Kept.setLow _ (fun b hb=>by have:w.heap.size≤b∧b≠w.heap.size:=hb;first|omega|(simp;done)|(simp;omega))) ?_)
      exact(RxV.close (SlS.none_ _ _ _ _) ⟨[],SlS.none_ _ _ _ _,.nil⟩)
     ·iterate 8 (refine RdT.setHi ?_ (by first|omega|(simp;done)|(simp;omega)) _)
      exact HRD1.out
end Go.Proofs.YtbgcjpefocdkkaaGreat
namespace Go.Proofs.YtbgcjpefocdkkaaGreat
open Go.RowKit
def ItemPost (g d:Nat) (w:World) (R:Option (Str × List Row × List Str)) (e:Ending) (w':World):Prop:=w.grownBy w' (some g)∧match R with
 | none=>e=.returned (.tuple #[.string ⟨#[]⟩,.slice none 0 0,.int .i64 10])∧∃r,Rd w' g r d
 | some (t,rows,r)=>Rd w' g r d∧((rows=[]∧e=.returned (.tuple #[.string ⟨(t).toArray⟩,.slice none 0 0,.int .i64 0]))∨(rows≠[]∧∃(a:Addr) (k:Nat),e=.returned (.tuple #[.string ⟨#[]⟩,.slice (some a) rows.length k,.int .i64 0])∧SlS w' (fun x=>w.heap.size≤x) (some a) 2 rows.length (rcells rows)))
theorem namedS_some {c:Str} {rows:List Row} (hn:namedS c=some rows):∃b,c=[b]∧namedB b=true∧rows=namedL b:=by
 match c,hn with
 | [b],hn =>
  rw [namedS_one] at hn;split at hn
  ·rename_i q;injection hn with hn;exact⟨b,rfl,q,hn.symm⟩
  ·cases hn
 | [],hn=>cases hn
 | b::b2::t,hn=>cases hn
theorem namedS_none {b:UInt8} (hn:namedS [b]=none):namedB b=false:=by
 rw [namedS_one] at hn;cases hb:namedB b with
 | true=>rw [hb] at hn;cases hn
 | false=>rfl
theorem namedL_ne {b:UInt8} (h:namedB b=true):namedL b≠[]:=by
 unfold namedB at h;simp only [Bool.or_eq_true,beq_iff_eq] at h;rcases h with(rfl|rfl)|rfl<;>decide
set_option maxHeartbeats 1000000 in
theorem item_any {g d:Nat} {r:List Str} (w:World) (h:Rd w g r d) :
  Calls Tryz.prog 137 #[.pointer (some ⟨g,0,none⟩)] w fun e w'=>ItemPost g d w (itemM r) e w':=by
 obtain⟨R,hR⟩:∃R,itemM r=R:=⟨_,rfl⟩;rw [hR];have HRD:=Lib.hid h;have hg0:=grown_refl w (some g);cases r with
 | nil =>
  have HR:Hid (none=R):=Lib.hid hR;clear hR h;go_enter Tryz.func137,Tryz.ntmps137
  go_wp2_with (go_at_call 129;refine(next_nil' _ HRD.out).mono ?_)
  rintro e w1 ⟨rfl,hrd1,hq1⟩;have hg1:=grown_trans hg0 hq1;have HRD1:=Lib.hid hrd1;have hz1:=hq1.size;clear hrd1 hq1;go_wp2
  go_ret3
  exact⟨hg1,by rw [←HR.out];exact⟨rfl,_,HRD1.out⟩⟩
 | cons c r1 =>
  have hp:=h.pos;by_cases h93:c=[93]
  ·subst h93
   have HR:Hid (none=R):=Lib.hid hR;clear hR h;go_enter Tryz.func137,Tryz.ntmps137
   go_wp2_with (go_at_call 129;refine(next_cons _ HRD.out).mono ?_)
   rintro e w1 ⟨rfl,hrd1,hq1⟩;have hg1:=grown_trans hg0 hq1;have HRD1:=Lib.hid hrd1;have hz1:=hq1.size;clear hrd1 hq1;go_wp2
   go_ret3
   exact⟨hg1,by rw [←HR.out];exact⟨rfl,_,HRD1.out⟩⟩
  by_cases h92:c=[92]
  ·subst h92
   cases r1 with
   | nil =>
    have HR:Hid (none=R):=Lib.hid hR;clear hR h;go_enter Tryz.func137,Tryz.ntmps137
    go_wp2_with (go_at_call 129;refine(next_cons _ HRD.out).mono ?_)
    rintro e w1 ⟨rfl,hrd1,hq1⟩;have hg1:=grown_trans hg0 hq1;have HRD1:=Lib.hid hrd1;have hz1:=hq1.size;clear hrd1 hq1;go_wp2_with (go_at_call 129;refine(next_nil' _ HRD1.out).mono ?_)
    rintro e w2 ⟨rfl,hrd2,hq2⟩;have hg2:=grown_trans hg1 hq2;have HRD2:=Lib.hid hrd2;have hz2:=hq2.size;clear hrd2 hq2;go_wp2_with (go_at_call 140;refine(plain_none _ (by simp) rfl).mono ?_)
    rintro e w3 hq;obtain⟨t,rfl,rfl⟩:=hq;go_wp2
    go_ret3
    exact⟨hg2,by rw [←HR.out];exact⟨rfl,_,HRD2.out⟩⟩
   | cons c2 r2 =>
    have hp2:c2≠[]∧c2.length≤1000000:=by
     obtain⟨a,k,l,i,_,_,_,_,h5,h6⟩:=h;have h7:=(ldrop_cons h6).2.2;have:=(ldrop_cons h7).2.1
     exact h5 c2 (List.mem_of_getElem? this)
    have hR2:(match namedS c2 with|some rows=>some ([],rows,r2)|none=>match plainM c2 with|none=>none|some t=>some (t,[],r2))=R:=hR;clear h hR;cases hn:namedS c2 with
    | some rows =>
     simp only [hn] at hR2;obtain⟨b,rfl,hnb,rfl⟩:=namedS_some hn;have hne:=namedL_ne hnb;have HNE:=Lib.hid hne;have HNB:=Lib.hid hnb;have HR:=Lib.hid hR2;clear hn hR2 hnb hne;go_enter Tryz.func137,Tryz.ntmps137
     go_wp2_with (go_at_call 129;refine(next_cons _ HRD.out).mono ?_)
     rintro e w1 ⟨rfl,hrd1,hq1⟩;have hg1:=grown_trans hg0 hq1;have HRD1:=Lib.hid hrd1;have hz1:=hq1.size;clear hrd1 hq1;go_wp2_with (go_at_call 129;refine(next_cons _ HRD1.out).mono ?_)
     rintro e w2 ⟨rfl,hrd2,hq2⟩;have hg2:=grown_trans hg1 hq2;have HRD2:=Lib.hid hrd2;have hz2:=hq2.size;clear hrd2 hq2;go_wp2_with (go_at_call 139;refine(Named_yes _ HNB.out).mono ?_)
     rintro e w3 hq;obtain⟨a,k,rfl,hsl,hb3⟩:=hq;have hg3:=grown_trans hg2 (grown_of_below hb3 (some g));have HRD3:=Lib.hid (HRD2.out.later hb3);have HSL:=Lib.hid hsl;clear hsl;go_wp2
     go_ret3
     exact⟨hg3,by rw [←HR.out];exact⟨HRD3.out,.inr ⟨HNE.out,a,k,rfl,HSL.out.mono fun x hx _=>by omega⟩⟩⟩
    | none =>
     simp only [hn] at hR2;match c2,hp2,hn with
     | [],hp,_=>exact absurd rfl hp.1
     | [b],_,hn =>
      have HNB:=Lib.hid (namedS_none hn);clear hn;cases hpm:plainM [b] with
      | none =>
       simp only [hpm] at hR2;have HR:=Lib.hid hR2;have HPM:=Lib.hid hpm;clear hR2 hpm;go_enter Tryz.func137,Tryz.ntmps137
       go_wp2_with (go_at_call 129;refine(next_cons _ HRD.out).mono ?_)
       rintro e w1 ⟨rfl,hrd1,hq1⟩;have hg1:=grown_trans hg0 hq1;have HRD1:=Lib.hid hrd1;have hz1:=hq1.size;clear hrd1 hq1;go_wp2_with (go_at_call 129;refine(next_cons _ HRD1.out).mono ?_)
       rintro e w2 ⟨rfl,hrd2,hq2⟩;have hg2:=grown_trans hg1 hq2;have HRD2:=Lib.hid hrd2;have hz2:=hq2.size;clear hrd2 hq2;go_wp2_with (go_at_call 139;refine(Named_no _ HNB.out).mono ?_)
       rintro e w3 hq;obtain⟨v,rfl,hb3⟩:=hq;have hg3:=grown_trans hg2 (grown_of_below hb3 (some g));have HRD3:=Lib.hid (HRD2.out.later hb3);go_wp2_with (go_at_call 140;refine(plain_none _ (by simp) HPM.out).mono ?_)
       rintro e w4 hq;obtain⟨t,rfl,rfl⟩:=hq;go_wp2
       go_ret3
       exact⟨hg3,by rw [←HR.out];exact⟨rfl,_,HRD3.out⟩⟩
      | some t =>
       simp only [hpm] at hR2;have HR:=Lib.hid hR2;have HPM:=Lib.hid hpm;clear hR2 hpm;go_enter Tryz.func137,Tryz.ntmps137
       go_wp2_with (go_at_call 129;refine(next_cons _ HRD.out).mono ?_)
       rintro e w1 ⟨rfl,hrd1,hq1⟩;have hg1:=grown_trans hg0 hq1;have HRD1:=Lib.hid hrd1;have hz1:=hq1.size;clear hrd1 hq1;go_wp2_with (go_at_call 129;refine(next_cons _ HRD1.out).mono ?_)
       rintro e w2 ⟨rfl,hrd2,hq2⟩;have hg2:=grown_trans hg1 hq2;have HRD2:=Lib.hid hrd2;have hz2:=hq2.size;clear hrd2 hq2;go_wp2_with (go_at_call 139;refine(Named_no _ HNB.out).mono ?_)
       rintro e w3 hq;obtain⟨v,rfl,hb3⟩:=hq;have hg3:=grown_trans hg2 (grown_of_below hb3 (some g));have HRD3:=Lib.hid (HRD2.out.later hb3);go_wp2_with (go_at_call 140;refine(plain_some _ (by simp) HPM.out).mono ?_)
       rintro e w4 ⟨rfl,rfl⟩;go_wp2
       go_ret3
       exact⟨hg3,by rw [←HR.out];exact⟨HRD3.out,.inl ⟨rfl,rfl⟩⟩⟩
     | b::b2::t,hp2,hn =>
      have hpl:=hp2.2;generalize hcc:b::b2::t=cc at *
      have hcl:cc.length=t.length+2:=by rw [←hcc];rfl
      have hne:((cc.length:Int)==1)=false:=by rw [beq_eq_false_iff_ne];omega
      clear hcc hcl hn;cases hpm:plainM cc with
      | none =>
       simp only [hpm] at hR2;have HR:=Lib.hid hR2;have HPM:=Lib.hid hpm;clear hR2 hpm;go_enter Tryz.func137,Tryz.ntmps137
       go_wp2_with (go_at_call 129;refine(next_cons _ HRD.out).mono ?_)
       rintro e w1 ⟨rfl,hrd1,hq1⟩;have hg1:=grown_trans hg0 hq1;have HRD1:=Lib.hid hrd1;have hz1:=hq1.size;clear hrd1 hq1;go_wp2_with (go_at_call 129;refine(next_cons _ HRD1.out).mono ?_)
       rintro e w2 ⟨rfl,hrd2,hq2⟩;have hg2:=grown_trans hg1 hq2;have HRD2:=Lib.hid hrd2;have hz2:=hq2.size;clear hrd2 hq2;go_wp2_with (go_at_call 140;refine(plain_none _ (by omega) HPM.out).mono ?_)
       rintro e w4 hq;obtain⟨t,rfl,rfl⟩:=hq;go_wp2
       go_ret3
       exact⟨hg2,by rw [←HR.out];exact⟨rfl,_,HRD2.out⟩⟩
      | some t =>
       simp only [hpm] at hR2;have HR:=Lib.hid hR2;have HPM:=Lib.hid hpm;clear hR2 hpm;go_enter Tryz.func137,Tryz.ntmps137
       go_wp2_with (go_at_call 129;refine(next_cons _ HRD.out).mono ?_)
       rintro e w1 ⟨rfl,hrd1,hq1⟩;have hg1:=grown_trans hg0 hq1;have HRD1:=Lib.hid hrd1;have hz1:=hq1.size;clear hrd1 hq1;go_wp2_with (go_at_call 129;refine(next_cons _ HRD1.out).mono ?_)
       rintro e w2 ⟨rfl,hrd2,hq2⟩;have hg2:=grown_trans hg1 hq2;have HRD2:=Lib.hid hrd2;have hz2:=hq2.size;clear hrd2 hq2;go_wp2_with (go_at_call 140;refine(plain_some _ (by omega) HPM.out).mono ?_)
       rintro e w4 ⟨rfl,rfl⟩;go_wp2
       go_ret3
       exact⟨hg2,by rw [←HR.out];exact⟨HRD2.out,.inl ⟨rfl,rfl⟩⟩⟩
  have g93:(c==[93])=false:=beq_eq_false_iff_ne.2 h93;have g92:(c==[92])=false:=beq_eq_false_iff_ne.2 h92;have g0:List.isEmpty c=false:=by have:=hp.1;cases c<;>simp at this ⊢
  have HR:Hid (some (c,[],r1)=R):=Lib.hid (by rw [←hR];simp [itemM,h93,h92]);clear hR h h93 h92;go_enter Tryz.func137,Tryz.ntmps137
  go_wp2_with (go_at_call 129;refine(next_cons _ HRD.out).mono ?_)
  rintro e w1 ⟨rfl,hrd1,hq1⟩;have hg1:=grown_trans hg0 hq1;have HRD1:=Lib.hid hrd1;have hz1:=hq1.size;clear hrd1 hq1;go_wp2
  go_ret3
  exact⟨hg1,by rw [←HR.out];exact⟨HRD1.out,.inl ⟨rfl,rfl⟩⟩⟩
end Go.Proofs.YtbgcjpefocdkkaaGreat
