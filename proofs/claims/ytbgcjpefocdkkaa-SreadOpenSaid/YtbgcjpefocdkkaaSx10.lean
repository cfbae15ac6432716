/- walks of casing -/
import Derived.Test.YtbgcjpefocdkkaaSx1
set_option maxRecDepth 100000
namespace Go.Proofs.Ytbgcjpefocdkkaa
open Go.RowKit
theorem Name_any (n:Int) (w:World) :
  Calls Try.prog 80 #[.int .i64 n] w fun e w'=>e=.returned (.string ⟨(nameOf n).toArray⟩)∧Below w.heap.size w w':=by
 by_cases h:1≤n∧n≤5
 ·obtain⟨h1,h2⟩:=h
  have hn:n=1∨n=2∨n=3∨n=4∨n=5:=by omega
  rcases hn with rfl|rfl|rfl|rfl|rfl
  all_goals
   go_enter Try.func80,Try.ntmps80
   go_wp2
   go_ret
   exact⟨rfl,(Below.refl _ _).alloc (Nat.le_refl _) _⟩
 ·have hz:nameOf n=[]:=by
   unfold nameOf;rw [if_neg (by omega),if_neg (by omega),if_neg (by omega),if_neg (by omega),if_neg (by omega)]
  rw [hz];go_enter Try.func80,Try.ntmps80
  go_wp2
  all_goals
   first
   | (go_ret;exact⟨rfl,Below.refl _ _⟩)
   | (exfalso;omega)
theorem Way_any (s:Str) (w:World) :
  Calls Try.prog 72 #[.string ⟨(s).toArray⟩] w fun e w'=>e=.returned (.int .i64 (wayOf s))∧Below w.heap.size w w':=by
 generalize hR:wayOf s=R
 have HR:=Lib.hid hR;clear hR;go_enter Try.func72,Try.ntmps72
 go_wp2
 go_loopw [3] (fun q wr=>∃k:Int,1≤k∧k≤6∧q=.int .i64 k∧Below w.heap.size w wr∧Hid (∀j:Int,1≤j→j<k→nameOf j≠s)) (fun q _=>(6-intOf q).toNat)
 case atStart=>exact⟨1,by omega,by omega,rfl,Below.refl _ _,Lib.hid fun j h1 h2=>by omega⟩
 case round =>
  obtain⟨k,hk1,hk6,rfl,hb,HM⟩:=hrel;by_cases h5:k≤5
  ·by_cases hq:nameOf k=s
   ·have hbq:(nameOf k==s)=true:=by simp [hq]
    have Hq:=Lib.hid hq;clear hq;go_wp2_with (go_at_call 80;refine(Name_any _ _).mono ?_;rintro e w1 ⟨rfl,hb1⟩)
    go_ret
    exact⟨ret_int (by rw [←HR.out,wayOf_hit hk1 h5 Hq.out]),hb.trans (hb1.mono hb.size)⟩
   ·have hbq:(nameOf k==s)=false:=by simp [hq]
    have Hq:=Lib.hid hq;clear hq;go_wp2_with (go_at_call 80;refine(Name_any _ _).mono ?_;rintro e w1 ⟨rfl,hb1⟩)
    go_roundw
    case rel =>
     refine⟨k+1,by omega,by omega,rfl,hb.trans (hb1.mono hb.size),Lib.hid fun j h1 h2=>?_⟩;by_cases hj:j=k
     ·subst hj;exact Hq.out
     ·exact HM.out j h1 (by omega)
    case measure=>simp [intOf];omega
  ·go_wp2
   go_ret
   have:k=6:=by omega
   subst this;exact⟨ret_int (by rw [←HR.out,wayOf_miss HM.out]),hb⟩
end Go.Proofs.Ytbgcjpefocdkkaa
set_option maxRecDepth 100000
namespace Go.Proofs.Ytbgcjpefocdkkaa
open Go.RowKit
def Fm.cells (f:Fm):List Value:=[.int .i64 f.kind,.int .i64 f.n,.int .i64 f.cse,.string ⟨(f.thn).toArray⟩,.string ⟨(f.els).toArray⟩]
def fcells (fs:List Fm):List Value:=fs.flatMap Fm.cells
theorem fcells_length (fs:List Fm):(fcells fs).length=fs.length*5:=by
 induction fs with
 | nil=>rfl
 | cons f fs ih=>simp only [fcells,List.flatMap_cons,List.length_append] at *;rw [ih];simp [Fm.cells];omega
theorem fcells_at {fs:List Fm} {k:Nat} {f:Fm} (h:fs[k]?=some f) (j:Nat) (hj:j<5):(fcells fs)[k*5+j]?=f.cells[j]?:=by
 induction fs generalizing k with
 | nil=>simp at h
 | cons g fs ih =>
  cases k with
  | zero =>
   simp at h;subst h
   simp only [fcells,List.flatMap_cons,Nat.zero_mul,Nat.zero_add];rw [List.getElem?_append_left (by simp [Fm.cells];omega)]
  | succ k =>
   simp only [List.getElem?_cons_succ] at h;simp only [fcells,List.flatMap_cons];rw [List.getElem?_append_right (by simp [Fm.cells];omega)];rw [show (k+1)*5+j-g.cells.length=k*5+j by simp [Fm.cells];omega];exact ih h
theorem Sl.fm {w:World} {B:Nat} {a:Option Addr} {n:Nat} {fs:List Fm} (h:Sl w B a 5 n (fcells fs)) {k:Nat} {f:Fm} (hk:fs[k]?=some f) :
  ∃b o,a=some ⟨b,o,none⟩∧b<B∧w.cell? ⟨b,o+k*5,none⟩=some (.int .i64 f.kind)∧w.cell? ⟨b,o+k*5+1,none⟩=some (.int .i64 f.n)∧w.cell? ⟨b,o+k*5+2,none⟩=some (.int .i64 f.cse) ∧
   w.cell? ⟨b,o+k*5+3,none⟩=some (.string ⟨(f.thn).toArray⟩)∧w.cell? ⟨b,o+k*5+4,none⟩=some (.string ⟨(f.els).toArray⟩):=by
 have hlt:=(List.getElem?_eq_some_iff.1 hk).1;have hn:n=fs.length:=by have:=h.1;rw [fcells_length] at this;omega
 obtain⟨b,o,h1,h2,h3⟩:=h.2 (by omega);refine⟨b,o,h1,h2,?_,?_,?_,?_,?_⟩
 ·exact h3 (k*5+0) _ (fcells_at hk 0 (by omega))
 ·exact h3 (k*5+1) _ (fcells_at hk 1 (by omega))
 ·exact h3 (k*5+2) _ (fcells_at hk 2 (by omega))
 ·exact h3 (k*5+3) _ (fcells_at hk 3 (by omega))
 ·exact h3 (k*5+4) _ (fcells_at hk 4 (by omega))
def blankB (f:Fm) (n way thn els:Bool):Bool:=(n||decide (f.n=0))&&(way||decide (f.cse=0))&&(thn||decide (f.thn=[]))&&(els||decide (f.els=[]))
def mayF (f:Fm):Bool :=
 decide (0≤f.n∧f.n≤9999) &&
 (if f.kind=0 then blankB f false false true false&&decide (f.thn≠[])
  else if f.kind=1 then blankB f true false false false
  else if f.kind=2 then blankB f true true false false&&decide (nameOf f.cse≠[])
  else if f.kind=3 then blankB f true false true false
  else if f.kind=4 then blankB f true false false true
  else if f.kind=5 then blankB f true false true true
  else false)
def mayL:Bool→List Fm→Bool
 | _,[]=>true
 | pt,f::r=>mayF f&&!(decide (f.kind=0)&&pt)&&mayL (decide (f.kind=0)) r
def mayFs (fs:List Fm):Bool:=mayL false fs
end Go.Proofs.Ytbgcjpefocdkkaa
set_option maxRecDepth 100000
namespace Go.Proofs.Ytbgcjpefocdkkaa
open Go.RowKit
def UntilPost (l:Str) (i:Nat) (R:Option (Str × Str)) (e:Ending):Prop :=
 match R with
 | none=>e=.returned (.tuple #[.string ⟨([]).toArray⟩,.int .i64 0,.bool false])
 | some (t,r)=>t.length≤l.length∧∃j:Nat,i≤j∧j<l.length∧l.drop j=r∧e=.returned (.tuple #[.string ⟨(t).toArray⟩,.int .i64 j,.bool true])
set_option maxHeartbeats 1000000 in
theorem until_any (l:Str) (i one:Int) (w:World) (h0:0≤i) (h1:i≤1000000) (hs:l.length≤1000000) (ho:0≤one) :
  Calls Try.prog 73 #[.string ⟨(l).toArray⟩,.int .i64 i,.int .u8 one] w fun e w'=>Below w.heap.size w w'∧UntilPost l i.toNat (untilL one (l.drop i.toNat) []) e:=by
 obtain⟨i,rfl⟩:=Int.eq_ofNat_of_zero_le h0;rw [Int.toNat_natCast];generalize hR:untilL one (l.drop i) []=R
 have HR:=Lib.hid hR;clear hR;obtain⟨iu,hiu⟩:=info_parts u8_info;go_enter Try.func73,Try.ntmps73
 go_wp2
 go_loopw [1,9] (fun q t wr=>∃(j:Nat) (tx:Str),i≤j∧j≤2000000∧q=.int .i64 j∧wr.ownsRow w.heap.size 5 1 t tx.length (bcells tx)∧Below w.heap.size w wr∧tx.length≤l.length∧tx.length+i≤j∧Hid (untilL one (l.drop j) tx=R)) (fun q _ _=>l.length-(intOf q).toNat)
 case atStart=>exact⟨i,[],by omega,by omega,rfl,World.ownsRow_nil _ _ _ _,Below.refl _ _,by simp,by simp,HR⟩
 case round =>
  obtain⟨j,tx,hij,hj,rfl,hown,hb,htx,htj,HF⟩:=hrel;clear HR;have hB:=hb.size;have hcv:=conv_own (P:=Try.prog) (src:=61) (dst:=9) Try.underlying61 Try.underlying5 Try.underlying9 hown;cases hd:l.drop j with
  | nil =>
   have h2:=drop_nil hd;have HF':Hid (untilL one [] tx=R):=Lib.hid (by rw [←hd];exact HF.out);clear hd HF;go_wp2
   go_ret3
   refine⟨hb,?_⟩;rw [←HF'.out];rfl
  | cons c r =>
   obtain⟨h2,h3,hr⟩:=drop_cons hd;have HF':Hid (untilL one (c::r) tx=R):=Lib.hid (by rw [←hd];exact HF.out);have Hr:=Lib.hid hr;clear HF hr;by_cases hc:c.toNat=one.toNat
   ·have HD:=Lib.hid hd;clear hd
    have hbc:((c.toNat:Int)==one)=true:=by rw [beq_iff_eq];omega
    have Hc:=Lib.hid hc;clear hc;go_wp2
    go_ret3
    refine⟨hb,?_⟩;rw [←HF'.out];have:untilL one (c::r) tx=some (tx,c::r):=by cases r<;>simp [untilL,Hc.out]
    rw [this];exact⟨by omega,j,by omega,h2,HD.out,by simp⟩
   ·have hbc:((c.toNat:Int)==one)=false:=by rw [beq_eq_false_iff_ne];omega
    have Hc:=Lib.hid hc;clear hc hd;by_cases hA:c.toNat=92∧stands r five=true
    ·obtain⟨hA1,hA2⟩:=hA
     cases r with
     | nil=>simp [stands] at hA2
     | cons d r' =>
      obtain⟨k2,k3,kr⟩:=drop_cons Hr.out;have Hkr:=Lib.hid kr;clear kr;have HS:Hid (untilL one (c::d::r') tx=untilL one r' (tx++[d])):=Lib.hid (by
       conv=>lhs;unfold untilL
       rw [if_neg Hc.out,if_pos ⟨hA1,hA2⟩])
      have hst:stands (List.drop (j+1) l) [36,125,92,47,58]=true:=by rw [Hr.out];exact hA2
      have hA1':((c.toNat:Int)==92)=true:=by simp [hA1]
      clear hA1 hA2;go_wp2_with (first
       | (go_at_call 60;refine(stands_any _ _ _ _ (by omega) (by omega) (by omega) (by simp)).mono ?_;rintro e w1 ⟨rfl,rfl⟩)
       | (at_builtin;refine wpList_app1 w.heap.size 5 rfl _ _ 61 rfl Try.underlying61 hiu rfl (by decide) rfl hown rfl (by first|rfl|simp) rfl (by simp [Value.oneCell']) (by omega) (by decide) hB ?_;intro v1 w1 hown1 hg1 hb1 hne1))
      clear hst hA1';go_roundw
      case rel =>
       refine⟨j+2,tx++[d],by omega,by omega,by go_num,?_,hb.trans hb1,by simp;omega,by simp;omega,?_⟩
       ·simpa [bcells] using hown1
       ·exact Lib.hid (by rw [Hkr.out,←HS.out];exact HF'.out)
      case measure=>simp [intOf];omega
    ·have HS:Hid (untilL one (c::r) tx=untilL one r (tx++[c])):=Lib.hid (by
      cases r with
      | nil=>simp [untilL,Hc.out]
      | cons d r' =>
       conv=>lhs;unfold untilL
       rw [if_neg Hc.out];exact if_neg hA)
     by_cases h92:c.toNat=92
     ·have hst:stands (List.drop (j+1) l) [36,125,92,47,58]=false:=by rw [Hr.out];simpa [h92,five] using hA
      have hA1':((c.toNat:Int)==92)=true:=(by rw [beq_iff_eq];omega);clear hA h92;go_wp2_with (first
       | (go_at_call 60;refine(stands_any _ _ _ _ (by omega) (by omega) (by omega) (by simp)).mono ?_;rintro e w1 ⟨rfl,rfl⟩)
       | (at_builtin;refine wpList_app1 w.heap.size 5 rfl _ _ 61 rfl Try.underlying61 hiu rfl (by decide) rfl hown rfl (by first|rfl|simp) rfl (by simp [Value.oneCell']) (by omega) (by decide) hB ?_;intro v1 w1 hown1 hg1 hb1 hne1))
      clear hst hA1';go_roundw
      case rel =>
       refine⟨j+1,tx++[c],by omega,by omega,by go_num,?_,hb.trans hb1,by simp;omega,by simp;omega,?_⟩
       ·simpa [bcells] using hown1
       ·exact Lib.hid (by rw [Hr.out,←HS.out];exact HF'.out)
      case measure=>simp [intOf];omega
     ·have hA1':((c.toNat:Int)==92)=false:=(by rw [beq_eq_false_iff_ne];omega)
      clear hA h92;go_wp2_with (at_builtin;refine wpList_app1 w.heap.size 5 rfl _ _ 61 rfl Try.underlying61 hiu rfl (by decide) rfl hown rfl (by first|rfl|simp) rfl (by simp [Value.oneCell']) (by omega) (by decide) hB ?_;intro v1 w1 hown1 hg1 hb1 hne1)
      clear hA1';go_roundw
      case rel =>
       refine⟨j+1,tx++[c],by omega,by omega,by go_num,?_,hb.trans hb1,by simp;omega,by simp;omega,?_⟩
       ·simpa [bcells] using hown1
       ·exact Lib.hid (by rw [Hr.out,←HS.out];exact HF'.out)
      case measure=>simp [intOf];omega
end Go.Proofs.Ytbgcjpefocdkkaa
