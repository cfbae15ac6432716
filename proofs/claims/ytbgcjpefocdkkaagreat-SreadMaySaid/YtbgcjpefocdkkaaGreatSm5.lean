/- A reader in memory: what is left of its characters; walks of rxread's place: see, take, next · walks of rxread's place: take, next -/
import Derived.Test.YtbgcjpefocdkkaaGreatSm1
import Derived.Test.YtbgcjpefocdkkaaGreatSm2
import Derived.Test.YtbgcjpefocdkkaaGreatSm3
import Derived.Test.YtbgcjpefocdkkaaGreatSm4
set_option maxRecDepth 100000
namespace Go.Proofs.YtbgcjpefocdkkaaGreat
open Go.RowKit
def RdT (T:TypeId) (x:List Value) (w:World) (g:Nat) (r:List Str):Prop :=
 ∃(a:Option Addr) (c:Nat) (l:List Str) (i:Nat),w.heap[g]?=some (.cells (.slice a l.length c::.int .i64 i::x).toArray T (0,0))∧SlS w (fun b=>b<g) a 1 l.length (scells l)∧l.length≤200000∧i≤l.length ∧
  (∀p∈l,p≠[]∧p.length≤1000000)∧l.drop i=r
def hdS:List Str→Str|[]=>[]|c::_=>c
theorem RdT.cells {T:TypeId} {x:List Value} {w:World} {g:Nat} {r:List Str} (h:RdT T x w g r):∃a c l i,w.cell? ⟨g,0,none⟩=some (.slice a (l:List Str).length c)∧w.cell? ⟨g,1,none⟩=some (.int .i64 (i:Nat)) ∧
  (∀j,j<2+x.length→w.frozen? ⟨g,j,none⟩=false)∧SlS w (fun b=>b<g) a 1 l.length (scells l)∧l.length≤200000∧i≤l.length∧(∀p∈l,p≠[]∧p.length≤1000000)∧l.drop i=r∧g<w.heap.size:=by
 obtain⟨a,c,l,i,h1,h2,h3,h4,h5,h6⟩:=h;refine⟨a,c,l,i,?_,?_,?_,h2,h3,h4,h5,h6,heap_lt h1⟩
 ·rw [Lib.cell_of_heap h1];rfl
 ·rw [Lib.cell_of_heap h1];rfl
 ·intro j hj;unfold World.frozen?;rw [h1];rfl
theorem RdT.cell2 {T:TypeId} {u:Value} {w:World} {g:Nat} {r:List Str} (h:RdT T [u] w g r):w.cell? ⟨g,2,none⟩=some u:=by
 obtain⟨a,c,l,i,h1,_⟩:=h;rw [Lib.cell_of_heap h1];rfl
theorem RdT.lt {T:TypeId} {x:List Value} {w:World} {g:Nat} {r:List Str} (h:RdT T x w g r):g<w.heap.size:=by
 obtain⟨a,c,l,i,h1,_⟩:=h;exact heap_lt h1
def Still (w w':World):Prop:=w'.heap=w.heap∧w'.os=w.os∧w'.tape=w.tape∧w'.output=w.output
theorem Still.drewN (w:World) (n:Nat):Still w (w.drewN n):=⟨rfl,rfl,rfl,rfl⟩
theorem Still.trans {a b c:World} (h1:Still a b) (h2:Still b c):Still a c:=⟨h2.1.trans h1.1,h2.2.1.trans h1.2.1,h2.2.2.1.trans h1.2.2.1,h2.2.2.2.trans h1.2.2.2⟩
theorem Still.below {w w':World} (h:Still w w') (B:Nat):Below B w w':=⟨h.2.1,h.2.2.1,h.2.2.2,by rw [h.1];exact Nat.le_refl _,fun _ _=>by rw [h.1]⟩
theorem Still.size {w w':World} (h:Still w w'):w'.heap.size=w.heap.size:=by rw [h.1]
theorem Still.grown {w w':World} (h:Still w w') (g:Option Nat):w.grownBy w' g:=⟨h.2.1,h.2.2.1,h.2.2.2,by rw [h.1];exact Nat.le_refl _,fun _ _ _=>by rw [h.1]⟩
theorem RdT.later {T:TypeId} {x:List Value} {w w':World} {g:Nat} {r:List Str} (hr:RdT T x w g r) (h:Below w.heap.size w w'):RdT T x w' g r:=by
 obtain⟨a,c,l,i,h1,h2,h3⟩:=hr;exact⟨a,c,l,i,(h.block g (heap_lt h1)).trans h1,h2.keep ⟨h.size,fun b _ hlt=>h.block b hlt⟩,h3⟩
theorem Still.rd {T:TypeId} {x:List Value} {w w':World} (h:Still w w') {g:Nat} {r:List Str} (hr:RdT T x w g r):RdT T x w' g r:=hr.later (h.below _)
abbrev Rd (w:World) (g:Nat) (r:List Str) (d:Nat):Prop:=RdT 132 [.int .i64 d] w g r
theorem ldrop_none {α:Type} {l:List α} {i:Nat} (h:l.drop i=[]):l.length≤i:=by simpa using h
theorem RdT.pos {T:TypeId} {x:List Value} {w:World} {g:Nat} {c:Str} {r:List Str} (h:RdT T x w g (c::r)):c≠[]∧c.length≤1000000:=by
 obtain⟨a,k,l,i,_,_,_,_,h5,h6⟩:=h;have:=(ldrop_cons h6).2.1
 exact h5 c (List.mem_of_getElem? this)
set_option maxHeartbeats 400000 in
theorem see_any {T:TypeId} {x:List Value} {g:Nat} {r:List Str} (w:World) (h:RdT T x w g r) :
  Calls Tryz.prog 90 #[.pointer (some ⟨g,0,none⟩)] w fun e w'=>e=.returned (.string ⟨(hdS r).toArray⟩)∧Still w w':=by
 obtain⟨a,c,l,i,c0,c1,hf,hs,hl,hi,hp,hd,hg⟩:=h.cells;clear h hf;cases r with
 | nil =>
  have h2:l.length≤i:=ldrop_none hd;show Calls Tryz.prog 90 #[.pointer (some ⟨g,0,none⟩)] w fun e w'=>e=.returned (.string ⟨(([]:Str)).toArray⟩)∧Still w w'
  clear hd hs;go_enter Tryz.func90,Tryz.ntmps90
  go_wp2
  go_quiet (fail)
  go_wp2
  go_ret
  exact⟨rfl,Still.drewN _ _⟩
 | cons p r =>
  obtain⟨h2,hx,_⟩:=ldrop_cons hd;obtain⟨b,o,rfl,hb,k0⟩:=hs.sl.str hx;show Calls Tryz.prog 90 #[.pointer (some ⟨g,0,none⟩)] w fun e w'=>e=.returned (.string ⟨(p).toArray⟩)∧Still w w'
  clear hx hs hd;go_enter Tryz.func90,Tryz.ntmps90
  go_wp2
  go_quiet (fail)
  go_wp2
  obtain⟨w1,hw1⟩:∃w1,w1=w.drewN nq:=⟨_,rfl⟩;have hbq:Below w.heap.size w w1:=by rw [hw1];exact below_drewN (Below.refl _ _) _
  rw [←hw1];have e0:=cell_kept hbq _ _ c0;have e1:=cell_kept hbq _ _ c1;have e2:=cell_kept hbq _ _ k0;have HW:=Lib.hid hw1;clear c0 c1 k0 hw1;go_quiet (fail)
  go_wp2
  go_ret
  refine⟨rfl,?_⟩;rw [HW.out];exact(Still.drewN _ _).trans (Still.drewN _ _)
end Go.Proofs.YtbgcjpefocdkkaaGreat
namespace Go.Proofs.YtbgcjpefocdkkaaGreat
open Go.RowKit
theorem heap_set_at {w:World} {g:Nat} {y z u:Value} {x:List Value} {t:TypeId} (h:w.heap[g]?=some (.cells (y::z::x).toArray t (0,0))):(w.setCell ⟨g,1,none⟩ u).heap[g]?=some (.cells (y::u::x).toArray t (0,0)):=by
 simp [World.setCell,Array.getElem?_modify,h]
theorem RdT.setAt {T:TypeId} {x:List Value} {w:World} {g:Nat} {r r':List Str} {a:Option Addr} {c:Nat} {l:List Str} (h:RdT T x w g r)
  (h0:w.cell? ⟨g,0,none⟩=some (.slice a l.length c)) (h2:SlS w (fun b=>b<g) a 1 l.length (scells l)) (h3:l.length≤200000) (h5:∀p∈l,p≠[]∧p.length≤1000000) (j:Nat) (hj:j≤l.length) (hd:l.drop j=r') :
  RdT T x (w.setCell ⟨g,1,none⟩ (.int .i64 j)) g r':=by
 obtain⟨a',c',l',i',h1,_⟩:=h;rw [Lib.cell_of_heap h1] at h0;have e:(Value.slice a' l'.length c')=.slice a l.length c:=by simpa using h0
 rw [e] at h1;exact⟨a,c,l,j,heap_set_at h1,h2.keep (Kept.setLow _ fun b hb=>Nat.ne_of_lt hb),h3,hj,h5,hd⟩
theorem drop_two {l r:List Str} {i:Nat} {c:Str} (h:l.drop i=c::r):i+1≤l.length∧l.drop (i+1)=r:=⟨(ldrop_cons h).1,(ldrop_cons h).2.2⟩
theorem RdT.step {T:TypeId} {x:List Value} {w:World} {g:Nat} {c:Str} {r:List Str} (h:RdT T x w g (c::r)):∃i:Nat,i<1000000∧w.cell? ⟨g,1,none⟩=some (.int .i64 i)∧w.frozen? ⟨g,1,none⟩=false∧RdT T x (w.setCell ⟨g,1,none⟩ (.int .i64 ((i:Int)+1))) g r:=by
 obtain⟨a,k,l,i,c0,c1,hf,hs,hl,hi,hp,hd,hg⟩:=h.cells;obtain⟨h1,h2⟩:=drop_two hd;exact⟨i,by omega,c1,hf 1 (by omega),h.setAt (l:=l) c0 hs hl hp (i+1) h1 h2⟩
theorem RdT.step2 {T:TypeId} {x:List Value} {w:World} {g:Nat} {c c2:Str} {r:List Str} (h:RdT T x w g (c::c2::r)):∃i:Nat,i<1000000∧w.cell? ⟨g,1,none⟩=some (.int .i64 i)∧w.frozen? ⟨g,1,none⟩=false∧RdT T x (w.setCell ⟨g,1,none⟩ (.int .i64 ((i:Int)+2))) g r:=by
 obtain⟨a,k,l,i,c0,c1,hf,hs,hl,hi,hp,hd,hg⟩:=h.cells;obtain⟨h1,h2⟩:=drop_two hd;obtain⟨h3,h4⟩:=drop_two h2;exact⟨i,by omega,c1,hf 1 (by omega),h.setAt (l:=l) c0 hs hl hp (i+2) h3 h4⟩
theorem grown_still {w w1 w2:World} {g:Option Nat} (h1:Still w w1) (h2:w1.grownBy w2 g):w.grownBy w2 g:=grown_trans (h1.grown g) h2
set_option maxHeartbeats 400000 in
theorem take_yes {T:TypeId} {x:List Value} {g:Nat} {r:List Str} (c:Str) (w:World) (h:RdT T x w g (c::r)) :
  Calls Tryz.prog 134 #[.pointer (some ⟨g,0,none⟩),.string ⟨(c).toArray⟩] w fun e w'=>e=.returned (.bool true)∧RdT T x w' g r∧w.grownBy w' (some g):=by
 have HS:=Lib.hid (see_any w h);have HR:=Lib.hid h;clear h;go_enter Tryz.func134,Tryz.ntmps134
 go_wp2_with (go_at_call 90;refine HS.out.mono ?_)
 rintro e w1 ⟨rfl,hst⟩;obtain⟨i,hi,c1,hf,hr⟩:=(hst.rd HR.out).step;have HR1:=Lib.hid hr;clear hr;unfold hdS;go_wp2
 go_ret
 exact⟨rfl,HR1.out,grown_still hst (grown_set (grown_refl _ _) _ _)⟩
theorem take_no {T:TypeId} {x:List Value} {g:Nat} {r:List Str} (c:Str) (w:World) (h:RdT T x w g r) (hc:takeM c r=none) (hc0:c≠[]) :
  Calls Tryz.prog 134 #[.pointer (some ⟨g,0,none⟩),.string ⟨(c).toArray⟩] w fun e w'=>e=.returned (.bool false)∧Still w w':=by
 have HS:=Lib.hid (see_any w h);obtain⟨u,hu⟩:∃u,hdS r=u:=⟨_,rfl⟩;have hne:u≠c:=by
  rw [←hu];cases r with
  | nil=>exact fun e=>hc0 e.symm
  | cons p r=>intro e;simp only [hdS] at e;rw [takeM,if_pos e] at hc;cases hc
 have h1:(u==c)=false:=beq_eq_false_iff_ne.2 hne;have h2:(u != c)=true:=by simp [bne,h1]
 rw [hu] at HS;clear h hc hc0 hu;go_enter Tryz.func134,Tryz.ntmps134
 go_wp2_with (go_at_call 90;refine HS.out.mono ?_)
 rintro e w1 ⟨rfl,hst⟩;go_wp2
 go_ret
 exact⟨rfl,hst⟩
set_option maxHeartbeats 400000 in
theorem next_nil {T:TypeId} {x:List Value} {g:Nat} (w:World) (h:RdT T x w g []) :
  Calls Tryz.prog 129 #[.pointer (some ⟨g,0,none⟩)] w fun e w'=>e=.returned (.string ⟨(([]:Str)).toArray⟩)∧Still w w':=by
 have HS:=Lib.hid (see_any w h);clear h;go_enter Tryz.func129,Tryz.ntmps129
 go_wp2_with (go_at_call 90;refine HS.out.mono ?_)
 rintro e w1 ⟨rfl,hst⟩;unfold hdS;go_wp2
 go_ret
 exact⟨rfl,hst⟩
set_option maxHeartbeats 400000 in
theorem next_cons {T:TypeId} {x:List Value} {g:Nat} {c:Str} {r:List Str} (w:World) (h:RdT T x w g (c::r)) :
  Calls Tryz.prog 129 #[.pointer (some ⟨g,0,none⟩)] w fun e w'=>e=.returned (.string ⟨(c).toArray⟩)∧RdT T x w' g r∧w.grownBy w' (some g):=by
 have HS:=Lib.hid (see_any w h);have hc:=h.pos.1;have HR:=Lib.hid h;cases c with
 | nil=>exact absurd rfl hc
 | cons b c =>
  clear h hc;go_enter Tryz.func129,Tryz.ntmps129
  go_wp2_with (go_at_call 90;refine HS.out.mono ?_)
  rintro e w1 ⟨rfl,hst⟩;obtain⟨i,hi,c1,hf,hr⟩:=(hst.rd HR.out).step;have HR1:=Lib.hid hr;clear hr;unfold hdS;go_wp2
  go_ret
  exact⟨rfl,HR1.out,grown_still hst (grown_set (grown_refl _ _) _ _)⟩
end Go.Proofs.YtbgcjpefocdkkaaGreat
set_option maxRecDepth 100000
namespace Go.Proofs.YtbgcjpefocdkkaaGreat
open Go.RowKit
def PlainPost (c:Str) (w:World) (e:Ending) (w':World):Prop:=w=w'∧match plainM c with
 | some t=>e=.returned (.tuple #[.string ⟨(t).toArray⟩,.bool true])
 | none=>∃t:Str,e=.returned (.tuple #[.string ⟨(t).toArray⟩,.bool false])
set_option maxHeartbeats 400000 in
theorem plain_any (c:Str) (w:World) (hs:c.length≤100000000) :
  Calls Tryz.prog 140 #[.string ⟨(c).toArray⟩] w fun e w'=>PlainPost c w e w':=by
 by_cases h0:c=[]
 ·subst h0
  go_enter Tryz.func140,Tryz.ntmps140
  go_wp2
  go_ret2
  exact⟨rfl,[],rfl⟩
 have g0:List.isEmpty c=false:=by cases c<;>simp at h0 ⊢
 by_cases h110:c=[110]
 ·subst h110
  go_enter Tryz.func140,Tryz.ntmps140
  go_wp2
  go_ret2
  exact⟨rfl,rfl⟩
 have g110:(c==[110])=false:=beq_eq_false_iff_ne.2 h110;by_cases h114:c=[114]
 ·subst h114
  go_enter Tryz.func140,Tryz.ntmps140
  go_wp2
  go_ret2
  exact⟨rfl,rfl⟩
 have g114:(c==[114])=false:=beq_eq_false_iff_ne.2 h114;by_cases h116:c=[116]
 ·subst h116
  go_enter Tryz.func140,Tryz.ntmps140
  go_wp2
  go_ret2
  exact⟨rfl,rfl⟩
 have g116:(c==[116])=false:=beq_eq_false_iff_ne.2 h116;by_cases h102:c=[102]
 ·subst h102
  go_enter Tryz.func140,Tryz.ntmps140
  go_wp2
  go_ret2
  exact⟨rfl,rfl⟩
 have g102:(c==[102])=false:=beq_eq_false_iff_ne.2 h102;by_cases h118:c=[118]
 ·subst h118
  go_enter Tryz.func140,Tryz.ntmps140
  go_wp2
  go_ret2
  exact⟨rfl,rfl⟩
 have g118:(c==[118])=false:=beq_eq_false_iff_ne.2 h118;have hM:plainM c=if c=[95]∨wordB c=false then some c else none:=by
  unfold plainM;rw [if_neg h0,if_neg h110,if_neg h114,if_neg h116,if_neg h102,if_neg h118]
 have HW:=Lib.hid (Word_any c w hs);by_cases h95:c=[95]
 ·subst h95
  clear HW hM;go_enter Tryz.func140,Tryz.ntmps140
  go_wp2
  go_ret2
  exact⟨rfl,rfl⟩
 have g95:(c==[95])=false:=beq_eq_false_iff_ne.2 h95;cases hw:wordB c with
 | true =>
  rw [if_neg (by rw [hw];simp [h95])] at hM;rw [hw] at HW;have HM:=Lib.hid hM;clear hM hw h0 h110 h114 h116 h102 h118 h95;go_enter Tryz.func140,Tryz.ntmps140
  go_wp2_with (go_at_call 146;refine HW.out.mono ?_;rintro e w1 ⟨rfl,rfl⟩)
  go_ret2
  exact⟨rfl,by rw [HM.out];exact⟨c,rfl⟩⟩
 | false =>
  rw [if_pos (.inr hw)] at hM;rw [hw] at HW;have HM:=Lib.hid hM;clear hM hw h0 h110 h114 h116 h102 h118 h95;go_enter Tryz.func140,Tryz.ntmps140
  go_wp2_with (go_at_call 146;refine HW.out.mono ?_;rintro e w1 ⟨rfl,rfl⟩)
  go_ret2
  exact⟨rfl,by rw [HM.out];rfl⟩
def NumPost (g d:Nat) (w:World) (R:Option (Nat × List Str)) (e:Ending) (w':World):Prop:=w.grownBy w' (some g)∧match R with
 | some (n,r)=>e=.returned (.tuple #[.int .i64 n,.bool true])∧n≤255∧Rd w' g r d
 | none=>(∃v:Int,e=.returned (.tuple #[.int .i64 v,.bool false]))∧∃r,Rd w' g r d
def NumRel (g d:Nat) (w:World) (R:Option (Nat × List Str)) (vn vk vc:Value) (wr:World):Prop :=
 ∃(n k:Nat) (r:List Str),vn=.int .i64 n∧vk=.int .i64 k∧vc=.string ⟨(hdS r).toArray⟩∧Rd wr g r d∧w.grownBy wr (some g)∧k≤3∧n≤999∧Hid (k=0∧n=0∨k=1∧n≤9∨k=2∧n≤99∨k=3)∧Hid (numL k n r=R)
theorem hdS_cons (c:Str) (r:List Str):hdS (c::r)=c:=rfl
set_option maxHeartbeats 1000000 in
theorem number_any {g d:Nat} {r:List Str} (w:World) (h:Rd w g r d) :
  Calls Tryz.prog 141 #[.pointer (some ⟨g,0,none⟩)] w fun e w'=>NumPost g d w (numL 0 0 r) e w':=by
 obtain⟨R,hR⟩:∃R,numL 0 0 r=R:=⟨_,rfl⟩;rw [hR];have HR:=Lib.hid hR;have HRD:=Lib.hid h;clear hR h;go_enter Tryz.func141,Tryz.ntmps141
 go_wp2_with (go_at_call 90;refine(see_any _ HRD.out).mono ?_)
 rintro e w1 ⟨rfl,hst⟩;have HRD1:=Lib.hid (hst.rd HRD.out);have hg1:=hst.grown (some g);clear hst HRD;go_wp2
 go_loopw [4,5,6] (fun vn vk vc wr=>NumRel g d w R vn vk vc wr) (fun _ vk _ _=>4-(intOf vk).toNat)
 case atStart=>exact⟨0,0,r,rfl,rfl,rfl,HRD1.out,hg1,by omega,by omega,Lib.hid (.inl ⟨rfl,rfl⟩),HR⟩
 case round =>
  clear HR HRD1 hg1;obtain⟨n,k,r,rfl,rfl,rfl,hrd,hg,hk,hn,HB,HF⟩:=hrel;have HRD:=Lib.hid hrd;cases r with
  | nil =>
   have HF2:Hid ((if 0<k∧n≤255 then some (n,[]) else none)=R):=HF;clear HF hrd;generalize hr:([]:List Str)=r at *
   have hh:hdS r=[]:=by rw [←hr];rfl
   rw [hh];clear hr hh;by_cases hk0:0<k
   ·by_cases hn:n≤255
    ·have HF3:Hid (some (n,r)=R):=Lib.hid (by rw [←HF2.out,if_pos ⟨hk0,hn⟩])
     have hnb:decide ((n:Int)≤255)=true:=by simp;omega
     clear HF2;go_wp2
     go_ret2
     exact⟨hg,by rw [←HF3.out];exact⟨rfl,hn,HRD.out⟩⟩
    ·have HF3:Hid (none=R):=Lib.hid (by rw [←HF2.out,if_neg (fun q=>hn q.2)])
     have hnb:decide ((n:Int)≤255)=false:=by simp;omega
     clear HF2;go_wp2
     go_ret2
     exact⟨hg,by rw [←HF3.out];exact⟨⟨_,rfl⟩,_,HRD.out⟩⟩
   ·have HF3:Hid (none=R):=Lib.hid (by rw [←HF2.out,if_neg (fun q=>hk0 q.1)])
    clear HF2;go_wp2
    go_ret2
    exact⟨hg,by rw [←HF3.out];exact⟨⟨_,rfl⟩,_,HRD.out⟩⟩
  | cons c r' =>
   have hp:=hrd.pos;obtain⟨i,hi,c1,hf,hr1⟩:=hrd.step;have HR1:=Lib.hid hr1;clear hrd hr1;rw [hdS_cons];match c,hp with
   | [b],_ =>
    by_cases hb1:48≤b.toNat
    ·by_cases hb2:b.toNat≤57
     ·have hdg:digS [b]=some (b.toNat-48):=by simp only [digS,if_pos (And.intro hb1 hb2)]
      by_cases hk3:k=3
      ·have HF2:Hid (none=R):=Lib.hid (by rw [←HF.out,numL,hdg];simp [hk3])
       clear HF hdg;go_wp2
       go_ret2
       exact⟨hg,by rw [←HF2.out];exact⟨⟨_,rfl⟩,_,HRD.out⟩⟩
      ·have HF2:Hid (numL (k+1) (10*n+(b.toNat-48)) r'=R):=Lib.hid (by rw [←HF.out,numL,hdg];simp [hk3])
       have hn99:n≤99:=by have:=HB.out;omega
       have HB2:Hid (k+1=0∧10*n+(b.toNat-48)=0∨k+1=1∧10*n+(b.toNat-48)≤9∨k+1=2∧10*n+(b.toNat-48)≤99∨k+1=3):=Lib.hid (by have:=HB.out;omega);clear HF hdg;have hg2:w.grownBy (wr.setCell ⟨g,1,none⟩ (.int .i64 ((i:Int)+1))) (some g):=grown_set hg _ _;go_wp2_with (go_at_call 90;refine(see_any _ HR1.out).mono ?_)
       rintro e w3 ⟨rfl,hst⟩;have hrd3:=hst.rd HR1.out;have hg3:=grown_trans hg2 (hst.grown _);clear hst;go_wp2
       go_roundw
       case rel=>exact⟨10*n+(b.toNat-48),k+1,r',congrArg (Value.int .i64) (by omega),by go_num,rfl,hrd3,hg3,by omega,by omega,HB2,HF2⟩
       case measure=>simp [intOf];omega
     ·have HF2:Hid ((if 0<k∧n≤255 then some (n,[b]::r') else none)=R):=Lib.hid (by
       rw [←HF.out];simp only [numL,digS,if_neg (show ¬(48≤b.toNat∧b.toNat≤57) from fun q=>hb2 q.2)])
      clear HF;generalize hr:[b]::r'=r at *
      by_cases hk0:0<k
      ·by_cases hn:n≤255
       ·have HF3:Hid (some (n,r)=R):=Lib.hid (by rw [←HF2.out,if_pos ⟨hk0,hn⟩])
        have hnb:decide ((n:Int)≤255)=true:=by simp;omega
        clear HF2;go_wp2
        go_ret2
        exact⟨hg,by rw [←HF3.out];exact⟨rfl,hn,HRD.out⟩⟩
       ·have HF3:Hid (none=R):=Lib.hid (by rw [←HF2.out,if_neg (fun q=>hn q.2)])
        have hnb:decide ((n:Int)≤255)=false:=by simp;omega
        clear HF2;go_wp2
        go_ret2
        exact⟨hg,by rw [←HF3.out];exact⟨⟨_,rfl⟩,_,HRD.out⟩⟩
      ·have HF3:Hid (none=R):=Lib.hid (by rw [←HF2.out,if_neg (fun q=>hk0 q.1)])
       clear HF2;go_wp2
       go_ret2
       exact⟨hg,by rw [←HF3.out];exact⟨⟨_,rfl⟩,_,HRD.out⟩⟩
    ·have HF2:Hid ((if 0<k∧n≤255 then some (n,[b]::r') else none)=R):=Lib.hid (by
      rw [←HF.out];simp only [numL,digS,if_neg (show ¬(48≤b.toNat∧b.toNat≤57) from fun q=>hb1 q.1)])
     clear HF;generalize hr:[b]::r'=r at *
     by_cases hk0:0<k
     ·by_cases hn:n≤255
      ·have HF3:Hid (some (n,r)=R):=Lib.hid (by rw [←HF2.out,if_pos ⟨hk0,hn⟩])
       have hnb:decide ((n:Int)≤255)=true:=by simp;omega
       clear HF2;go_wp2
       go_ret2
       exact⟨hg,by rw [←HF3.out];exact⟨rfl,hn,HRD.out⟩⟩
      ·have HF3:Hid (none=R):=Lib.hid (by rw [←HF2.out,if_neg (fun q=>hn q.2)])
       have hnb:decide ((n:Int)≤255)=false:=by simp;omega
       clear HF2;go_wp2
       go_ret2
       exact⟨hg,by rw [←HF3.out];exact⟨⟨_,rfl⟩,_,HRD.out⟩⟩
     ·have HF3:Hid (none=R):=Lib.hid (by rw [←HF2.out,if_neg (fun q=>hk0 q.1)])
      clear HF2;go_wp2
      go_ret2
      exact⟨hg,by rw [←HF3.out];exact⟨⟨_,rfl⟩,_,HRD.out⟩⟩
   | [],hp=>exact absurd rfl hp.1
   | b::b2::t,hp =>
    have hlt:=hp.2;have HF2:Hid ((if 0<k∧n≤255 then some (n,(b::b2::t)::r') else none)=R):=Lib.hid (by
     rw [←HF.out];simp only [numL,digS])
    have hne:((t.length:Int)+1+1==1)=false:=by rw [beq_eq_false_iff_ne];omega
    clear HF;generalize hr:(b::b2::t)::r'=r at *
    by_cases hk0:0<k
    ·by_cases hn:n≤255
     ·have HF3:Hid (some (n,r)=R):=Lib.hid (by rw [←HF2.out,if_pos ⟨hk0,hn⟩])
      have hnb:decide ((n:Int)≤255)=true:=by simp;omega
      clear HF2;go_wp2
      go_ret2
      exact⟨hg,by rw [←HF3.out];exact⟨rfl,hn,HRD.out⟩⟩
     ·have HF3:Hid (none=R):=Lib.hid (by rw [←HF2.out,if_neg (fun q=>hn q.2)])
      have hnb:decide ((n:Int)≤255)=false:=by simp;omega
      clear HF2;go_wp2
      go_ret2
      exact⟨hg,by rw [←HF3.out];exact⟨⟨_,rfl⟩,_,HRD.out⟩⟩
    ·have HF3:Hid (none=R):=Lib.hid (by rw [←HF2.out,if_neg (fun q=>hk0 q.1)])
     clear HF2;go_wp2
     go_ret2
     exact⟨hg,by rw [←HF3.out];exact⟨⟨_,rfl⟩,_,HRD.out⟩⟩
end Go.Proofs.YtbgcjpefocdkkaaGreat
namespace Go.Proofs.YtbgcjpefocdkkaaGreat
open Go.RowKit
theorem takeM_some {c:Str} {r r1:List Str} (h:takeM c r=some r1):r=c::r1:=by
 cases r with
 | nil=>cases h
 | cons x r =>
  simp only [takeM] at h;by_cases hx:x=c
  ·rw [if_pos hx] at h;injection h with h;rw [hx,h]
  ·rw [if_neg hx] at h;cases h
theorem take_some {T:TypeId} {x:List Value} {g:Nat} {r r1:List Str} {c:Str} (w:World) (h:RdT T x w g r) (hc:takeM c r=some r1) :
  Calls Tryz.prog 134 #[.pointer (some ⟨g,0,none⟩),.string ⟨(c).toArray⟩] w fun e w'=>e=.returned (.bool true)∧RdT T x w' g r1∧w.grownBy w' (some g):=by
 have e:=takeM_some hc;subst e;exact take_yes c w h
theorem take_none {T:TypeId} {x:List Value} {g:Nat} {r:List Str} {c:Str} (w:World) (h:RdT T x w g r) (hc:takeM c r=none) (hc0:c≠[]) :
  Calls Tryz.prog 134 #[.pointer (some ⟨g,0,none⟩),.string ⟨(c).toArray⟩] w fun e w'=>e=.returned (.bool false)∧RdT T x w' g r∧w.grownBy w' (some g) :=
 (take_no c w h hc hc0).mono fun _ _ ⟨h1,h2⟩=>⟨h1,h2.rd h,h2.grown _⟩
theorem number_some {g d:Nat} {r r1:List Str} {n:Nat} (w:World) (h:Rd w g r d) (hn:numL 0 0 r=some (n,r1)) :
  Calls Tryz.prog 141 #[.pointer (some ⟨g,0,none⟩)] w fun e w'=>e=.returned (.tuple #[.int .i64 n,.bool true])∧Rd w' g r1 d∧w.grownBy w' (some g):=by
 refine(number_any w h).mono ?_
 rintro e w' ⟨h1,h2⟩;rw [hn] at h2;exact⟨h2.1,h2.2.2,h1⟩
def NumNo (w:World) (g d:Nat) (e:Ending) (w':World):Prop:=∃v:Int,e=.returned (.tuple #[.int .i64 v,.bool false])∧w.grownBy w' (some g)∧∃r,Rd w' g r d
theorem number_none {g d:Nat} {r:List Str} (w:World) (h:Rd w g r d) (hn:numL 0 0 r=none) :
  Calls Tryz.prog 141 #[.pointer (some ⟨g,0,none⟩)] w fun e w'=>NumNo w g d e w':=by
 refine(number_any w h).mono ?_
 rintro e w' ⟨h1,h2⟩;rw [hn] at h2;obtain⟨⟨v,h2⟩,h3⟩:=h2;exact⟨v,h2,h1,h3⟩
theorem numL_le:∀(r:List Str) (k n:Nat) {m:Nat} {r1:List Str},numL k n r=some (m,r1)→m≤255
 | [],k,n,m,r1,h=>by
  unfold numL at h;split at h
  ·rename_i q;injection h with h;injection h with h _;omega
  ·cases h
 | c::r,k,n,m,r1,h=>by
  unfold numL at h;split at h
  ·split at h
   ·cases h
   ·exact numL_le r _ _ h
  ·split at h
   ·rename_i q;injection h with h;injection h with h _;omega
   ·cases h
def BdPost (g d:Nat) (w:World) (R:Option (Int × Int × List Str)) (e:Ending) (w':World):Prop:=w.grownBy w' (some g)∧match R with
 | some (lo,hi,r)=>e=.returned (.tuple #[.int .i64 lo,.int .i64 hi,.bool true])∧Rd w' g r d
 | none=>(∃a b:Int,e=.returned (.tuple #[.int .i64 a,.int .i64 b,.bool false]))∧∃r,Rd w' g r d
set_option maxHeartbeats 2000000 in
theorem bounds_any {g d:Nat} {r:List Str} (w:World) (h:Rd w g r d) :
  Calls Tryz.prog 133 #[.pointer (some ⟨g,0,none⟩)] w fun e w'=>BdPost g d w (boundsM r) e w':=by
 obtain⟨R,hR⟩:∃R,boundsM r=R:=⟨_,rfl⟩;rw [hR];have HRD:=Lib.hid h;unfold boundsM at hR;clear h;cases h1:numL 0 0 r with
 | none =>
  rw [h1] at hR;have HR:=Lib.hid hR;have HC:=Lib.hid (number_none _ HRD.out h1);clear hR h1;go_enter Tryz.func133,Tryz.ntmps133
  go_wp2_with (go_at_call 141;refine HC.out.mono ?_)
  rintro e w1 hq1;obtain⟨v,rfl,hg1,r9,hrd9⟩:=hq1;have HRD9:=Lib.hid hrd9;clear hrd9;go_wp2
  go_ret3
  exact⟨hg1,by rw [←HR.out];exact⟨⟨_,_,rfl⟩,_,HRD9.out⟩⟩
 | some y =>
  obtain⟨lo,r1⟩:=y;have hlo:=numL_le _ _ _ h1;simp only [h1] at hR;have HC:=Lib.hid (number_some _ HRD.out h1);clear h1;cases h2:takeM [125] r1 with
  | some r2 =>
   simp only [h2] at hR;have HR:=Lib.hid hR;have H2:=Lib.hid h2;clear hR h2;go_enter Tryz.func133,Tryz.ntmps133
   go_wp2_with (go_at_call 141;refine(HC.out).mono ?_)
   rintro e w1 ⟨rfl,hrd1,hg1⟩;have HRD1:=Lib.hid hrd1;clear hrd1;go_wp2_with (go_at_call 134;refine(take_some _ HRD1.out H2.out).mono ?_)
   rintro e w2 ⟨rfl,hrd2,hq2⟩;have HRD2:=Lib.hid hrd2;have hg2:=grown_trans hg1 hq2;clear hrd2 hq2;go_wp2
   go_ret3
   exact⟨hg2,by rw [←HR.out];exact⟨rfl,HRD2.out⟩⟩
  | none =>
   simp only [h2] at hR;have H2:=Lib.hid h2;clear h2;cases h3:takeM [44] r1 with
   | none =>
    simp only [h3] at hR;have HR:=Lib.hid hR;have H3:=Lib.hid h3;clear hR h3;go_enter Tryz.func133,Tryz.ntmps133
    go_wp2_with (go_at_call 141;refine(HC.out).mono ?_)
    rintro e w1 ⟨rfl,hrd1,hg1⟩;have HRD1:=Lib.hid hrd1;clear hrd1;go_wp2_with (go_at_call 134;refine(take_none _ HRD1.out H2.out (by simp)).mono ?_)
    rintro e w2 ⟨rfl,hrd2,hq2⟩;have HRD2:=Lib.hid hrd2;have hg2:=grown_trans hg1 hq2;clear hrd2 hq2;go_wp2_with (go_at_call 134;refine(take_none _ HRD2.out H3.out (by simp)).mono ?_)
    rintro e w3 ⟨rfl,hrd3,hq3⟩;have HRD3:=Lib.hid hrd3;have hg3:=grown_trans hg2 hq3;clear hrd3 hq3;go_wp2
    go_ret3
    exact⟨hg3,by rw [←HR.out];exact⟨⟨_,_,rfl⟩,_,HRD3.out⟩⟩
   | some r2 =>
    simp only [h3] at hR;have H3:=Lib.hid h3;clear h3;cases h4:takeM [125] r2 with
    | some r3 =>
     simp only [h4] at hR;have HR:=Lib.hid hR;have H4:=Lib.hid h4;clear hR h4;go_enter Tryz.func133,Tryz.ntmps133
     go_wp2_with (go_at_call 141;refine(HC.out).mono ?_)
     rintro e w1 ⟨rfl,hrd1,hg1⟩;have HRD1:=Lib.hid hrd1;clear hrd1;go_wp2_with (go_at_call 134;refine(take_none _ HRD1.out H2.out (by simp)).mono ?_)
     rintro e w2 ⟨rfl,hrd2,hq2⟩;have HRD2:=Lib.hid hrd2;have hg2:=grown_trans hg1 hq2;clear hrd2 hq2;go_wp2_with (go_at_call 134;refine(take_some _ HRD2.out H3.out).mono ?_)
     rintro e w3 ⟨rfl,hrd3,hq3⟩;have HRD3:=Lib.hid hrd3;have hg3:=grown_trans hg2 hq3;clear hrd3 hq3;go_wp2_with (go_at_call 134;refine(take_some _ HRD3.out H4.out).mono ?_)
     rintro e w4 ⟨rfl,hrd4,hq4⟩;have HRD4:=Lib.hid hrd4;have hg4:=grown_trans hg3 hq4;clear hrd4 hq4;go_wp2
     go_ret3
     exact⟨hg4,by rw [←HR.out];exact⟨rfl,HRD4.out⟩⟩
    | none =>
     simp only [h4] at hR;have H4:=Lib.hid h4;clear h4;cases h5:numL 0 0 r2 with
     | none =>
      simp only [h5] at hR;have HR:=Lib.hid hR;have H5:=Lib.hid h5;clear hR h5;go_enter Tryz.func133,Tryz.ntmps133
      go_wp2_with (go_at_call 141;refine(HC.out).mono ?_)
      rintro e w1 ⟨rfl,hrd1,hg1⟩;have HRD1:=Lib.hid hrd1;clear hrd1;go_wp2_with (go_at_call 134;refine(take_none _ HRD1.out H2.out (by simp)).mono ?_)
      rintro e w2 ⟨rfl,hrd2,hq2⟩;have HRD2:=Lib.hid hrd2;have hg2:=grown_trans hg1 hq2;clear hrd2 hq2;go_wp2_with (go_at_call 134;refine(take_some _ HRD2.out H3.out).mono ?_)
      rintro e w3 ⟨rfl,hrd3,hq3⟩;have HRD3:=Lib.hid hrd3;have hg3:=grown_trans hg2 hq3;clear hrd3 hq3;go_wp2_with (go_at_call 134;refine(take_none _ HRD3.out H4.out (by simp)).mono ?_)
      rintro e w4 ⟨rfl,hrd4,hq4⟩;have HRD4:=Lib.hid hrd4;have hg4:=grown_trans hg3 hq4;clear hrd4 hq4;go_wp2_with (go_at_call 141;refine(number_none _ HRD4.out H5.out).mono ?_)
      rintro e w5 hn5;obtain⟨v,rfl,hq5,r9,hrd9⟩:=hn5;have HRD9:=Lib.hid hrd9;clear hrd9;have hg5:=grown_trans hg4 hq5;go_wp2
      go_ret3
      exact⟨hg5,by rw [←HR.out];exact⟨⟨_,_,rfl⟩,_,HRD9.out⟩⟩
     | some y =>
      obtain⟨hi,r3⟩:=y;have hhi:=numL_le _ _ _ h5;simp only [h5] at hR;have H5:=Lib.hid h5;clear h5;by_cases hle:lo≤hi
      ·rw [if_pos (by omega)] at hR
       have hle':decide ((lo:Int)≤(hi:Int))=true:=by simp;omega
       cases h6:takeM [125] r3 with
       | none =>
        simp only [h6] at hR;have HR:=Lib.hid hR;have H6:=Lib.hid h6;clear hR h6;go_enter Tryz.func133,Tryz.ntmps133
        go_wp2_with (go_at_call 141;refine(HC.out).mono ?_)
        rintro e w1 ⟨rfl,hrd1,hg1⟩;have HRD1:=Lib.hid hrd1;clear hrd1;go_wp2_with (go_at_call 134;refine(take_none _ HRD1.out H2.out (by simp)).mono ?_)
        rintro e w2 ⟨rfl,hrd2,hq2⟩;have HRD2:=Lib.hid hrd2;have hg2:=grown_trans hg1 hq2;clear hrd2 hq2;go_wp2_with (go_at_call 134;refine(take_some _ HRD2.out H3.out).mono ?_)
        rintro e w3 ⟨rfl,hrd3,hq3⟩;have HRD3:=Lib.hid hrd3;have hg3:=grown_trans hg2 hq3;clear hrd3 hq3;go_wp2_with (go_at_call 134;refine(take_none _ HRD3.out H4.out (by simp)).mono ?_)
        rintro e w4 ⟨rfl,hrd4,hq4⟩;have HRD4:=Lib.hid hrd4;have hg4:=grown_trans hg3 hq4;clear hrd4 hq4;go_wp2_with (go_at_call 141;refine(number_some _ HRD4.out H5.out).mono ?_)
        rintro e w5 ⟨rfl,hrd5,hq5⟩;have HRD5:=Lib.hid hrd5;have hg5:=grown_trans hg4 hq5;clear hrd5 hq5;go_wp2_with (go_at_call 134;refine(take_none _ HRD5.out H6.out (by simp)).mono ?_)
        rintro e w6 ⟨rfl,hrd6,hq6⟩;have HRD6:=Lib.hid hrd6;have hg6:=grown_trans hg5 hq6;clear hrd6 hq6;go_wp2
        go_ret3
        exact⟨hg6,by rw [←HR.out];exact⟨⟨_,_,rfl⟩,_,HRD6.out⟩⟩
       | some r4 =>
        simp only [h6] at hR;have HR:=Lib.hid hR;have H6:=Lib.hid h6;clear hR h6;go_enter Tryz.func133,Tryz.ntmps133
        go_wp2_with (go_at_call 141;refine(HC.out).mono ?_)
        rintro e w1 ⟨rfl,hrd1,hg1⟩;have HRD1:=Lib.hid hrd1;clear hrd1;go_wp2_with (go_at_call 134;refine(take_none _ HRD1.out H2.out (by simp)).mono ?_)
        rintro e w2 ⟨rfl,hrd2,hq2⟩;have HRD2:=Lib.hid hrd2;have hg2:=grown_trans hg1 hq2;clear hrd2 hq2;go_wp2_with (go_at_call 134;refine(take_some _ HRD2.out H3.out).mono ?_)
        rintro e w3 ⟨rfl,hrd3,hq3⟩;have HRD3:=Lib.hid hrd3;have hg3:=grown_trans hg2 hq3;clear hrd3 hq3;go_wp2_with (go_at_call 134;refine(take_none _ HRD3.out H4.out (by simp)).mono ?_)
        rintro e w4 ⟨rfl,hrd4,hq4⟩;have HRD4:=Lib.hid hrd4;have hg4:=grown_trans hg3 hq4;clear hrd4 hq4;go_wp2_with (go_at_call 141;refine(number_some _ HRD4.out H5.out).mono ?_)
        rintro e w5 ⟨rfl,hrd5,hq5⟩;have HRD5:=Lib.hid hrd5;have hg5:=grown_trans hg4 hq5;clear hrd5 hq5;go_wp2_with (go_at_call 134;refine(take_some _ HRD5.out H6.out).mono ?_)
        rintro e w6 ⟨rfl,hrd6,hq6⟩;have HRD6:=Lib.hid hrd6;have hg6:=grown_trans hg5 hq6;clear hrd6 hq6;go_wp2
        go_ret3
        exact⟨hg6,by rw [←HR.out];exact⟨rfl,HRD6.out⟩⟩
      ·rw [if_neg (by omega)] at hR
       have hle':decide ((lo:Int)≤(hi:Int))=false:=by simp;omega
       have HR:=Lib.hid hR;clear hR;go_enter Tryz.func133,Tryz.ntmps133
       go_wp2_with (go_at_call 141;refine(HC.out).mono ?_)
       rintro e w1 ⟨rfl,hrd1,hg1⟩;have HRD1:=Lib.hid hrd1;clear hrd1;go_wp2_with (go_at_call 134;refine(take_none _ HRD1.out H2.out (by simp)).mono ?_)
       rintro e w2 ⟨rfl,hrd2,hq2⟩;have HRD2:=Lib.hid hrd2;have hg2:=grown_trans hg1 hq2;clear hrd2 hq2;go_wp2_with (go_at_call 134;refine(take_some _ HRD2.out H3.out).mono ?_)
       rintro e w3 ⟨rfl,hrd3,hq3⟩;have HRD3:=Lib.hid hrd3;have hg3:=grown_trans hg2 hq3;clear hrd3 hq3;go_wp2_with (go_at_call 134;refine(take_none _ HRD3.out H4.out (by simp)).mono ?_)
       rintro e w4 ⟨rfl,hrd4,hq4⟩;have HRD4:=Lib.hid hrd4;have hg4:=grown_trans hg3 hq4;clear hrd4 hq4;go_wp2_with (go_at_call 141;refine(number_some _ HRD4.out H5.out).mono ?_)
       rintro e w5 ⟨rfl,hrd5,hq5⟩;have HRD5:=Lib.hid hrd5;have hg5:=grown_trans hg4 hq5;clear hrd5 hq5;go_wp2
       go_ret3
       exact⟨hg5,by rw [←HR.out];exact⟨⟨_,_,rfl⟩,_,HRD5.out⟩⟩
end Go.Proofs.YtbgcjpefocdkkaaGreat
