/- walk of fmts.Apply -/
import Derived.Test.YtjggmmaojklmpaaGreatLb20
import Derived.Test.YtjggmmaojklmpaaGreatLb10
set_option maxRecDepth 100000
set_option maxHeartbeats 4000000
namespace Go.Proofs.YtjggmmaojklmpaaGreat
open Go.RowKit
def ApRel (fs:List Fm) (ps:List Str) (g m:Nat) (_w0 w:World) (R:Str) (q:Value) (wr:World):Prop :=
 ∃(k:Nat) (acc:Str),k≤fs.length∧q=.int .i64 k∧Bld w.heap.size g acc wr∧Below w.heap.size w wr∧Hid (acc.length≤k*m)∧Hid (acc++(fs.drop k).flatMap (lg ps)=R)
theorem Cf (a a':Option Addr) (c n' c' m:Nat) (fs:List Fm) (ps:List Str) (w:World) (h:Sl w w.heap.size a 5 fs.length (lA fs)) (h':Sl w w.heap.size a' 1 n' (kv ps))
  (hf:∀f∈fs,f.thn.length≤m∧f.els.length≤m) (hp:∀p∈ps,p.length≤m) (hm:m≤10000) (hn:fs.length≤1000) (_hn':n'≤1000000) :
  Calls Tryz.prog 18 #[.slice a fs.length c,.slice a' n' c'] w fun e w'=>e=.returned (.string ⟨(ld fs ps).toArray⟩)∧Below w.heap.size w w':=by
 have HSl:=ab h;have HSp:=ab h';have Hn':=ab h'.str_len;by_cases hmay:oe fs=true
 ·have HA:Hid (ld fs ps=fs.flatMap (lg ps)):=ab (Cl hmay)
  rw [HA.out];obtain⟨R,hR⟩:∃R,R=fs.flatMap (lg ps):=⟨_,rfl⟩;rw [←hR];have HR:=ab hR;have HF:=ab hf;have HP:=ab hp;have HM:=ab (qP _ _ hmay);clear hR hf hp h h';go_enter Tryz.func18,Tryz.ntmps18
  go_wp2_with (go_at_call 30;refine(v9 _ _ _ fs _ HSl.out gu).mono ?_;rintro e w0 ⟨rfl,hb0⟩)
  have hB0:=hb0.size;go_loopw [14] (fun q wr=>ApRel fs ps w0.heap.size m w0 w R q wr) (fun q _=>fs.length-(intOf q).toNat)
  case atStart=>exact⟨0,[],by omega,rfl,Bld.fresh _ _ hB0,hb0.alloc hB0 _,ab gF,ab it⟩
  case round =>
   obtain⟨k,acc,hk,rfl,hbl,hb,HL,HRR⟩:=hrel;clear HR;have hB:=hb.size;have hacc:acc.length≤10000000:=Ct HL.out (Nat.mul_le_mul (show k≤1000 by omega) hm);cases hd:fs.drop k with
   | nil =>
    have h2:fs.length≤k:=gU;have HR:Hid (R=acc):=ab (by rw [←HRR.out,hd];simp);clear hd HRR;go_wp2_with (go_at_call 35;refine(sY _ _ _ _ hbl hB).mono ?_;rintro e w1 ⟨rfl,hb1⟩)
    go_ret
    exact⟨wV HR.out.symm,hb.trans hb1⟩
   | cons f r =>
    obtain⟨h2,h3,hr⟩:=j6 hd;have HR:Hid (R=acc++(lg ps f++r.flatMap (lg ps))):=ab (by rw [←HRR.out,hd];rfl);have Hr:=ab hr;have hmem:=CF h3;have hmf:=HM.out f hmem;obtain⟨b,o,rfl,hbB,c0,c1,c2,c3,c4⟩:=(HSl.out.keep hb).fm h3;obtain⟨z1,z2⟩:=HF.out f hmem;have HPL:=ab (pL HP.out z1 z2);obtain⟨n0,n1⟩:=mayF_n hmf;have hkind:=uK hmf;clear hd HRR hr h3 hmem hmf;obtain⟨kind,fn,cse,thn,els⟩:=f;replace z1:thn.length≤m:=z1;replace z2:els.length≤m:=z2;obtain⟨fn,rfl⟩:=Int.eq_ofNat_of_zero_le n0;by_cases hlt:fn<ps.length
    ·obtain⟨p,hp⟩:∃p,ps[fn]?=some p:=⟨_,Cn hlt⟩
     have HPO:Hid (mP ps (fn:Int)=p):=ab (by simp [mP,List.getD_eq_getElem?_getD,hp]);have hpl:=HP.out p (CF hp);obtain⟨b',o',ha',hbb,p0⟩:=(HSp.out.keep hb).str hp;have hbb':b'<wr.heap.size:=gu;subst ha';have hlt':fn<n':=by have:=Hn'.out;omega
     clear hp hlt;rcases hkind with hkind|hkind|hkind|hkind|hkind|hkind
     ·exact fJ
     ·simp only at hkind;subst hkind
      have HPV:Hid (lg ps ⟨1,(fn:Int),cse,thn,els⟩=p):=ab iB;exact bA
     ·simp only at hkind;subst hkind
      have htl:=mS (p) cse;have HPV:Hid (lg ps ⟨2,(fn:Int),cse,thn,els⟩=(turn (p) cse).1):=ab iB;go_wp2_with (first|(go_at_call 34;refine(yg _ _ _ iv).mono ?_;rintro e w1 ⟨rfl,hb1⟩;have hz1:=hb1.size;simp only [CL] at hz1)|(go_at_call 33;refine(lq w.heap.size _ acc _ _ ((hbl.alloc _).below hb1) gu iv gu).mono ?_;rintro e w2 ⟨rfl,hbl2,hfr2⟩))
      go_roundw
      case rel =>
       refine⟨k+1,acc++(turn (p) cse).1,by omega,by go_num,hbl2,?_,ab ?_,ab ?_⟩
       ·exact dL
       ·exact fb
       ·exact fB
      case measure=>simp [intOf];omega
     ·simp only at hkind;subst hkind
      by_cases hp0:p=[]
      ·have HPV:Hid (lg ps ⟨3,(fn:Int),cse,thn,els⟩=els):=ab ie
       exact fH
      ·have HPV:Hid (lg ps ⟨3,(fn:Int),cse,thn,els⟩=thn):=ab ie
       exact f9
     ·simp only at hkind;subst hkind
      by_cases hp0:p=[]
      ·have HPV:Hid (lg ps ⟨4,(fn:Int),cse,thn,els⟩=els):=ab ie
       exact fH
      ·have HPV:Hid (lg ps ⟨4,(fn:Int),cse,thn,els⟩=p):=ab ie
       have he:List.isEmpty (p)=false:=by simpa using hp0
       have HP0:=ab hp0;clear hp0;exact bA
     ·simp only at hkind;subst hkind
      by_cases hp0:p=[]
      ·have HPV:Hid (lg ps ⟨5,(fn:Int),cse,thn,els⟩=els):=ab ie
       exact fH
      ·have HPV:Hid (lg ps ⟨5,(fn:Int),cse,thn,els⟩=thn):=ab ie
       exact f9
    ·have HPO:Hid (mP ps (fn:Int)=[]):=ab (by simp [mP,List.getD_eq_getElem?_getD,List.getElem?_eq_none (by omega:ps.length≤fn)])
     have hlt':n'≤fn:=by have:=Hn'.out;omega
     have hpl:([]:Str).length≤m:=gF;clear hlt;rcases hkind with hkind|hkind|hkind|hkind|hkind|hkind
     ·exact fJ
     ·simp only at hkind;subst hkind
      have HPV:Hid (lg ps ⟨1,(fn:Int),cse,thn,els⟩=([]:Str)):=ab iB;go_wp2_with (go_at_call 33;refine(lq w.heap.size _ acc _ _ il gu iv ju).mono ?_;rintro e w2 ⟨rfl,hbl2,hfr2⟩)
      go_roundw
      case rel =>
       refine⟨k+1,acc++([]:Str),by omega,by go_num,hbl2,?_,ab ?_,ab ?_⟩
       ·exact fz
       ·exact fb
       ·exact fB
      case measure=>simp [intOf];omega
     ·simp only at hkind;subst hkind
      have htl:=mS (([]:Str)) cse;have HPV:Hid (lg ps ⟨2,(fn:Int),cse,thn,els⟩=(turn (([]:Str)) cse).1):=ab iB;go_wp2_with (first|(go_at_call 34;refine(yg _ _ _ iv).mono ?_;rintro e w1 ⟨rfl,hb1⟩;have hz1:=hb1.size;simp only [CL] at hz1)|(go_at_call 33;refine(lq w.heap.size _ acc _ _ ((hbl.alloc _).below hb1) gu iv gu).mono ?_;rintro e w2 ⟨rfl,hbl2,hfr2⟩))
      go_roundw
      case rel =>
       refine⟨k+1,acc++(turn (([]:Str)) cse).1,by omega,by go_num,hbl2,?_,ab ?_,ab ?_⟩
       ·exact dL
       ·exact fb
       ·exact fB
      case measure=>simp [intOf];omega
     ·simp only at hkind;subst hkind
      have HPV:Hid (lg ps ⟨3,(fn:Int),cse,thn,els⟩=els):=ab gM;exact av
     ·simp only at hkind;subst hkind
      have HPV:Hid (lg ps ⟨4,(fn:Int),cse,thn,els⟩=els):=ab gM;exact av
     ·simp only at hkind;subst hkind
      have HPV:Hid (lg ps ⟨5,(fn:Int),cse,thn,els⟩=els):=ab gM;exact av
 ·have HA:Hid (ld fs ps=[]):=ab (Co hmay)
  rw [HA.out];have hm':oe fs=false:=by simpa using hmay
  clear hmay;go_enter Tryz.func18,Tryz.ntmps18
  go_wp2_with (go_at_call 30;refine(v9 _ _ _ fs _ HSl.out gu).mono ?_;rintro e w0 ⟨rfl,hb0⟩)
  go_ret
  exact⟨rfl,hb0⟩
open Go.RowKit
def AfRel (fs:List Fm) (ps:List Str) (m:Nat) (R:Str) (w:World) (s q:Value) (wr:World):Prop :=
 ∃(k:Nat) (acc:Str),k≤fs.length∧q=.int .i64 k∧s=.string ⟨acc.toArray⟩∧Below w.heap.size w wr∧Hid (acc.length≤k*m)∧Hid (acc++(fs.drop k).flatMap (lg ps)=R)
set_option maxRecDepth 100000 in
theorem zO (a a':Option Addr) (c n' c' m:Nat) (fs:List Fm) (ps:List Str) (w:World) (h:Sl w w.heap.size a 5 fs.length (lA fs)) (h':Sl w w.heap.size a' 1 n' (kv ps))
  (hf:∀f∈fs,f.thn.length≤m∧f.els.length≤m) (hp:∀p∈ps,p.length≤m) (hm:m≤10000) (hn:fs.length≤1000) (hn':n'≤1000000) :
  Calls Tryz.prog 42 #[.slice a fs.length c,.slice a' n' c'] w fun e w'=>e=.returned (.string ⟨(ld fs ps).toArray⟩)∧Below w.heap.size w w':=by
 have HSl:=ab h;have HSp:=ab h';obtain rfl:=h'.str_len;by_cases hmay:oe fs=true
 ·have HA:Hid (ld fs ps=fs.flatMap (lg ps)):=ab (Cl hmay)
  rw [HA.out];obtain⟨R,hR⟩:∃R,R=fs.flatMap (lg ps):=⟨_,rfl⟩;rw [←hR];have HR:=ab hR;have HF:=ab hf;have HP:=ab hp;have HMY:=ab hmay;have HM:=ab (qP _ _ hmay);clear hR hf hp h h' hmay;go_enter Tryz.func42,Tryz.ntmps42
  go_wp2_with (go_at_call 37;refine(tF _ _ _ fs _ HSl.out gu).mono ?_;rintro e w0 ⟨rfl,hb0⟩;rw [HMY.out])
  have hB0:=hb0.size;go_loopw [5,6] (fun s q wr=>AfRel fs ps m R w s q wr) (fun _ q _=>fs.length-(intOf q).toNat)
  case atStart=>exact⟨0,[],by omega,rfl,rfl,hb0,ab gF,ab it⟩
  case round =>
   obtain⟨k,acc,hk,rfl,rfl,hb,HL,HRR⟩:=hrel;clear HR;have hB:=hb.size;have hacc:acc.length≤10000000:=Ct HL.out (Ct (Nat.mul_le_mul (show k≤1000 by omega) (show m≤10000 by omega)) gD);cases hd:fs.drop k with
   | nil =>
    have h2:fs.length≤k:=gU;have HE:Hid (acc=R):=ab (by rw [←HRR.out,hd];simp);clear hd HRR;go_wp2
    go_ret
    exact⟨wV HE.out,hb⟩
   | cons f r =>
    obtain⟨h2,h3,hr⟩:=j6 hd;have Hr:=ab hr;have hfm:=CF h3;have hmf:=HM.out f hfm;obtain⟨f1,f2⟩:=HF.out f hfm;obtain⟨n0,n1⟩:=mayF_n hmf;have HRR2:Hid (acc++(lg ps f++r.flatMap (lg ps))=R):=ab (by rw [←HRR.out,hd];rfl);have HPL:=ab (pL (f:=f) HP.out f1 f2);have hpl:=sR HP.out f.n;have hkind:=uK hmf;obtain⟨b,o,rfl,hbB,c0,c1,c2,c3,c4⟩:=(HSl.out.keep hb).fm h3;obtain⟨kind,fn,cse,thn,els⟩:=f;replace f1:thn.length≤m:=f1;replace f2:els.length≤m:=f2;replace n0:0≤fn:=n0;replace n1:fn≤9999:=n1;replace hkind:kind=0∨kind=1∨kind=2∨kind=3∨kind=4∨kind=5:=hkind;obtain⟨fn,rfl⟩:=Int.eq_ofNat_of_zero_le n0;obtain⟨p,hpo⟩:∃p,mP ps (fn:Int)=p:=⟨_,rfl⟩;replace hpl:p.length≤m:=by rw [←hpo];exact hpl
    have HPO:=ab hpo;clear hd HRR hr h3 hfm hmf;by_cases hin:fn<ps.length
    ·have hget:ps[fn]?=some p:=by
      rw [←hpo,mP,Int.toNat_natCast,List.getD_eq_getElem?_getD,Cn hin];rfl
     obtain⟨b',o',rfl,hbB',d0⟩:=(HSp.out.keep hb).str hget;have d1:∀ob:Obj,(wr.alloc ob).cell? ⟨b',o'+fn,none⟩=some (.string ⟨p.toArray⟩):=fun ob=>by
      rw [World.cell?_alloc_lt _ _ _ gH];exact d0
     clear hpo hget d0;rcases hkind with rfl|rfl|rfl|rfl|rfl|rfl
     ·exact fP
     ·have HPV:Hid (lg ps ⟨1,(fn:Int),cse,thn,els⟩=p):=ab gM
      go_wp2
      go_roundw
      case rel =>
       refine⟨k+1,acc++p,by omega,by go_num,?_,hb.alloc hB _,ab ?_,ab ?_⟩
       ·simp
       ·exact eW
       ·exact fo
      case measure=>simp [intOf];omega
     ·have HPV:Hid (lg ps ⟨2,(fn:Int),cse,thn,els⟩=(turn p cse).1):=ab gM
      have htl:=mS p cse;go_wp2_with (go_at_call 72;refine(uS _ _ _ gu).mono ?_;rintro e w1 ⟨rfl,hb1⟩)
      go_roundw
      case rel =>
       refine⟨k+1,acc++(turn p cse).1,by omega,by go_num,?_,bel2 (hb.alloc hB _) hb1,ab ?_,ab ?_⟩
       ·simp
       ·exact eW
       ·exact fo
      case measure=>simp [intOf];omega
     ·cases p with
      | nil =>
       exact fQ
      | cons d ds =>
       have HPV:Hid (lg ps ⟨3,(fn:Int),cse,thn,els⟩=thn):=ab gM;simp only [Cr] at hpl;exact bg
     ·cases p with
      | nil =>
       exact fR
      | cons d ds =>
       have HPV:Hid (lg ps ⟨4,(fn:Int),cse,thn,els⟩=(d::ds)):=ab gM;simp only [Cr] at hpl;go_wp2
       go_roundw
       case rel =>
        refine⟨k+1,acc++(d::ds),by omega,by go_num,?_,hb.alloc hB _,ab ?_,ab ?_⟩
        ·simp
        ·exact eW
        ·exact fo
       case measure=>simp [intOf];omega
     ·cases p with
      | nil =>
       exact fS
      | cons d ds =>
       have HPV:Hid (lg ps ⟨5,(fn:Int),cse,thn,els⟩=thn):=ab gM;simp only [Cr] at hpl;exact bg
    ·have hp0:p=[]:=by
      rw [←hpo,mP,Int.toNat_natCast,List.getD_eq_getElem?_getD,List.getElem?_eq_none gu];rfl
     have hge:ps.length≤fn:=gu;clear hpo hin;subst hp0;rcases hkind with rfl|rfl|rfl|rfl|rfl|rfl
     ·exact fP
     ·have HPV:Hid (lg ps ⟨1,(fn:Int),cse,thn,els⟩=[]):=ab gM
      go_wp2
      go_roundw
      case rel =>
       refine⟨k+1,acc++[],by omega,by go_num,?_,hb.alloc hB _,ab ?_,ab ?_⟩
       ·simp
       ·exact eW
       ·exact fo
      case measure=>simp [intOf];omega
     ·have HPV:Hid (lg ps ⟨2,(fn:Int),cse,thn,els⟩=(turn [] cse).1):=ab gM
      have htl:=mS [] cse;go_wp2_with (go_at_call 72;refine(uS [] _ _ gF).mono ?_;rintro e w1 ⟨rfl,hb1⟩)
      go_roundw
      case rel =>
       refine⟨k+1,acc++(turn [] cse).1,by omega,by go_num,?_,bel2 (hb.alloc hB _) hb1,ab ?_,ab ?_⟩
       ·simp
       ·exact eW
       ·exact fo
      case measure=>simp [intOf];omega
     ·exact fQ
     ·exact fR
     ·exact fS
 ·have HA:Hid (ld fs ps=[]):=ab (Co hmay)
  have HN:Hid (oe fs=false):=ab (by simpa using hmay);rw [HA.out];clear hmay h h' hf hp;go_enter Tryz.func42,Tryz.ntmps42
  go_wp2_with (go_at_call 37;refine(tF _ _ _ fs _ HSl.out gu).mono ?_;rintro e w0 ⟨rfl,hb0⟩;rw [HN.out])
  go_ret
  exact⟨rfl,hb0⟩
structure Tf where
 rx:Rx
 fs:List Fm
 fold:Bool
 all:Bool
def tf0:Tf:=⟨rx0,[],false,false⟩
inductive Sn where
 | mk (kind:Int) (text:Str) (n:Int) (has turned:Bool) (form:Tf) (opts:List Str) (kids:List Sn)
namespace Sn
def kind:Sn→Int|mk k _ _ _ _ _ _ _=>k
def text:Sn→Str|mk _ t _ _ _ _ _ _=>t
def n:Sn→Int|mk _ _ n _ _ _ _ _=>n
def has:Sn→Bool|mk _ _ _ h _ _ _ _=>h
def turned:Sn→Bool|mk _ _ _ _ t _ _ _=>t
def form:Sn→Tf|mk _ _ _ _ _ f _ _=>f
def opts:Sn→List Str|mk _ _ _ _ _ _ o _=>o
def kids:Sn→List Sn|mk _ _ _ _ _ _ _ k=>k
mutual
def parts:Sn→Nat
 | mk _ _ _ _ _ _ _ ks=>1+partsL ks
def partsL:List Sn→Nat
 | []=>0
 | x::r=>parts x+partsL r
end
mutual
def deep:Sn→Nat
 | mk _ _ _ h _ _ _ ks=>deepL ks+(if h then 1 else 0)
def deepL:List Sn→Nat
 | []=>0
 | x::r=>max (deep x) (deepL r)
end
theorem parts_pos:∀x:Sn,1≤parts x
 | mk _ _ _ _ _ _ _ ks=>by simp only [parts];omega
theorem parts_mem:∀{ks:List Sn} {x:Sn},x∈ks→parts x≤partsL ks
 | [],_,h=>by simp at h
 | y::r,x,h=>by
  exact eA
theorem len_parts:∀ks:List Sn,ks.length≤partsL ks
 | []=>by simp
 | x::r=>by have:=parts_pos x;have:=len_parts r;simp only [partsL,Cr];omega
theorem lL:∀a b:List Sn,partsL (a++b)=partsL a+partsL b
 | [],b=>by simp [partsL]
 | x::a,b=>by simp only [CZ,partsL,lL a b];omega
end Sn
def Sn.turn:Sn→Tf→Sn|.mk k t n h _ _ o ks,f=>.mk k t n h true f o ks
def nameC (c:UInt8):Bool:=decide (97≤c.toNat∧c.toNat≤122)||decide (65≤c.toNat∧c.toNat≤90)||decide (48≤c.toNat∧c.toNat≤57)||decide (c.toNat=95)
def nameB:Str→Bool
 | []=>false
 | c::r=>decide ((c::r).length≤64)&&(c::r).all nameC&&decide (57<c.toNat)
def three:Str:=[36,125,92]
def rxSp:Str→Str→Str × Str
 | [],a=>(a,[])
 | [c],a=>if c.toNat=47 then(a,[c]) else(a++[c],[])
 | c::d::r,a=>if c.toNat=47 then(a,c::d::r) else if c.toNat=92 then rxSp r (if d.toNat=47 then a++[d] else a++[92,d]) else rxSp (d::r) (a++[c])
def qE (fl:Str):Option (Bool × Bool) :=
 if fl=[] then some (false,false) else if fl=[103] then some (true,false) else if fl=[105] then some (false,true) else if fl=[103,105]∨fl=[105,103] then some (true,true) else none
def BA (x:Rx) (fs:List Fm) (r:Str):Option (Tf × Str):=match r.dropWhile lR with
 | []=>none
 | _::r2=>match qE (r.takeWhile lR) with
  | none=>none
  | some (a,f)=>some (⟨x,fs,f,a⟩,r2)
def uJ:Str→Option (Tf × Str)
 | []=>none
 | c::r=>if c.toNat=47 then(match (rxSp r []).2 with
  | []=>none
  | _::r3=>match sy (rxSp r []).1 with
   | .error _=>none
   | .ok x=>match mU r3 [] [] with
    | none=>none
    | some (_,[])=>none
    | some (fs,_::r5)=>BA x fs r5) else none
open Go.RowKit
def TfV (w:World) (S:Nat→Prop) (cc:List Value) (f:Tf):Prop :=
 ∃(rc:List Value) (fa:Option Addr) (fc:Nat),RxV w S rc f.rx∧SlS w S fa 5 f.fs.length (lA f.fs)∧cc=rc++[.slice fa f.fs.length fc,.bool f.fold,.bool f.all]
theorem TfV.keep {w w':World} {S:Nat→Prop} (hk:Kept S w w') {c:List Value} {f:Tf} (h:TfV w S c f):TfV w' S c f:=by
 obtain⟨rc,fa,fc,h1,h2,h3⟩:=h;exact⟨rc,fa,fc,h1.keep hk,h2.keep hk,h3⟩
theorem TfV.mono {w:World} {S S':Nat→Prop} (hS:∀b,S b→b<w.heap.size→S' b) {c:List Value} {f:Tf} (h:TfV w S c f):TfV w S' c f:=by
 obtain⟨rc,fa,fc,h1,h2,h3⟩:=h;exact⟨rc,fa,fc,h1.mono hS,h2.mono hS,h3⟩
structure TfCells (fc:List Value) (f:Tf) (w:World) (S:Nat→Prop) (rk:Int) (rch:Str) (rng:Bool) (rrs:List Row) (rlo rhi:Int) (rlz:Bool) (rks:List Rx) (ra:Option Addr) (rcp:Nat) (rka:Option Addr) (rkc:Nat) (fa:Option Addr) (fcp:Nat):Prop where
 eq:fc=[.int .i64 rk,.string ⟨rch.toArray⟩,.bool rng,.slice ra rrs.length rcp,.int .i64 rlo,.int .i64 rhi,.bool rlz,.slice rka rks.length rkc,.slice fa f.fs.length fcp,.bool f.fold,.bool f.all]
 rx:f.rx=.mk rk rch rng rrs rlo rhi rlz rks
 rv:RxV w S (rxc rk rch rng ra rrs.length rcp rlo rhi rlz rka rks.length rkc) (.mk rk rch rng rrs rlo rhi rlz rks)
 fv:SlS w S fa 5 f.fs.length (lA f.fs)
theorem TfV.open_ {w:World} {S:Nat→Prop} {fc:List Value} {f:Tf} (h:TfV w S fc f):∃rk rch rng rrs rlo rhi rlz rks ra rcp rka rkc fa fcp,TfCells fc f w S rk rch rng rrs rlo rhi rlz rks ra rcp rka rkc fa fcp:=by
 obtain⟨rc,fa,fcp,h1,h2,rfl⟩:=h;obtain⟨rx,fs,fd,al⟩:=f;obtain⟨rk,rch,rng,rrs,rlo,rhi,rlz,rks⟩:=rx;have h0:=h1;obtain⟨ra,rcp,rka,rkc,rfl,_,_⟩:=h1.open_;exact⟨rk,rch,rng,rrs,rlo,rhi,rlz,rks,ra,rcp,rka,rkc,fa,fcp,rfl,rfl,h0,h2⟩
def sf (f:Tf):Bool:=mayB f.rx&&oe f.fs
def Tf.small (f:Tf):Prop:=f.rx.small∧f.rx.parts≤1000000∧f.fs.length≤1000000
def AskM (s:Str) (offs:List Nat) (ms:List Mt):Prop:=∀(k:Nat) (m:Mt),ms[k]?=some m→offs.getD m.1 0≤offs.getD m.2.1 0∧offs.getD m.2.1 0≤s.length ∧
 (∀v:Int × Int,v∈m.2.2→(v.1=-1∧v.2=-1)∨∃a b:Nat,a≤b∧b≤s.length∧v.1=(a:Int)∧v.2=(b:Int))∧∀m':Mt,ms[k+1]?=some m'→offs.getD m.2.1 0≤offs.getD m'.1 0
theorem uA {fold:Bool} {s:Str} {ms:List Mt} (h:Chain (rcM fold s) 0 ms):AskM s (rcM fold s).offs ms:=fun k m hk=>by
 obtain⟨_,h2,h3,h4,h5⟩:=h.at_ hk;refine⟨rl h2 h3,qQ s h3,fun v hv=>h4.took hv,fun m' hm'=>?_⟩;obtain⟨_,h7,h8,_⟩:=h.at_ hm';exact rl (h5 m' hm') (Ct h7 h8)
def endG (s:Str) (left:Nat):Option (Nat × Str)→Str × Int × Int
 | none=>([],0,4)
 | some (at_,out)=>if 65536<out.length+(s.length-at_) then([],0,4) else(out++s.drop at_,(left:Int),0)
theorem sg {fs:List Fm} {s:Str} {offs:List Nat} {ms:List Mt} {left:Nat} (h:ms≠[]):Bl fs s offs ms left=endG s left (goM s offs fs ms 0 []):=by
 unfold Bl endG;rw [Co h];rfl
section
variable {C:Rc} {x:Rx} {L B:Nat} {here:Nat→Bool}
end
section
variable {cs:List Str} {here:Nat→Bool} {F:Nat→Str} {L:Nat} {all:Bool}
end
def putF (ps:List Str) (fs:List Fm):Str:=fs.flatMap fun f=>ld [f] ps
theorem Ab (ps:List Str):∀(fs:List Fm) (out:Str),out.length+(putF ps fs).length≤65536→putM ps fs out=out++putF ps fs
 | [],out,_=>by simp [putM,putF]
 | f::r,out,h=>by
  have e:putF ps (f::r)=ld [f] ps++putF ps r:=by simp [putF]
  rw [e] at h ⊢;rw [Cy] at h;unfold putM;rw [Cl gu,Ab ps r _ iK,CU]
theorem mayL_one {f:Fm} (h:mayF f=true):oe [f]=true:=by
 unfold oe mayL;simp [h,mayL]
theorem yW {fs:List Fm} (h:oe fs=true) (ps:List Str):putF ps fs=ld fs ps:=by
 have hall:∀f∈fs,mayF f=true:=qP _ fs h;have key:∀gs:List Fm,(∀f∈gs,mayF f=true)→putF ps gs=gs.flatMap (lg ps):=by
  intro gs;induction gs with
  | nil=>intro _;rfl
  | cons g r ih =>
   intro hg;have e:putF ps (g::r)=ld [g] ps++putF ps r:=by simp [putF]
   rw [e,ih (fun f hf=>hg f (CC _ hf)),Cx];unfold ld;rw [Cl (mayL_one (hg g (CB ..)))];simp
 rw [key fs hall];unfold ld;rw [Cl h]
theorem sX (ps:List Str):∀(fs:List Fm) (out:Str),65536<out.length→putM ps fs out=out
 | [],_,_=>rfl
 | f::r,out,h=>by
  unfold putM;rw [Co gu,sX ps r out h]
theorem yJ (ps:List Str):∀(fs:List Fm) (out:Str),65536<out.length+(putF ps fs).length→65536<(putM ps fs out).length
 | [],out,h=>by simpa [putM,putF] using h
 | f::r,out,h=>by
  have e:putF ps (f::r)=ld [f] ps++putF ps r:=by simp [putF]
  rw [e,Cy] at h;by_cases ho:out.length≤65536
  ·unfold putM
   rw [Cl ho];exact yJ ps r _ iK
  ·rw [sX ps (f::r) out gu];omega
def goV (s:Str) (offs:List Nat) (fs:List Fm):List Mt→Nat→Str→Option (Nat × Str)
 | [],at_,out=>some (at_,out)
 | m::r,at_,out =>
  if 65536<((out++kZ s at_ (offs.getD m.1 0))++ld fs (lx s offs m)).length then none
  else goV s offs fs r (offs.getD m.2.1 0) ((out++kZ s at_ (offs.getD m.1 0))++ld fs (lx s offs m))
theorem A5 {fs:List Fm} (h:oe fs=true) (s:Str) (offs:List Nat):∀(ms:List Mt) (at_:Nat) (out:Str),goV s offs fs ms at_ out=goM s offs fs ms at_ out
 | [],_,_=>rfl
 | m::r,at_,out=>by
  unfold goV goM;have hp:=yW h (lx s offs m);by_cases hb:65536<((out++kZ s at_ (offs.getD m.1 0))++ld fs (lx s offs m)).length
  ·rw [Cl hb,Cl (yJ _ _ _ (by rw [hp];rw [Cy] at hb;omega))]
  ·have he:=Ab (lx s offs m) fs (out++kZ s at_ (offs.getD m.1 0)) (by rw [hp];rw [Cy] at hb;omega)
   rw [Co hb,he,hp,Co hb,A5 h s offs r]
open Go.RowKit
def TryC (R:Rn) (x:Rx):Prop:=∀(w:World) (st:Rst) (g k:Nat) (fv:Value) (f:Rk) (cc:List Value),PtV w R.S cc x g→g+x.groups≤R.n→RunI R w st→k≤R.C.cs.length→KW R w k fv f →
 Calls Tryz.prog 129 #[.pointer (some ⟨R.r,0,none⟩),.agg cc.toArray,.int .i64 k,fv] w (kW R (tryM R.C x g k f st) w)
def SeqC (R:Rn) (ks:List Rx):Prop:=∀(w:World) (st:Rst) (g k c:Nat) (fv:Value) (f:Rk) (a:Option Addr),PtSl w R.S a ks.length ks g→ks.length≤c→g+Rx.groupsL ks≤R.n→RunI R w st→k≤R.C.cs.length→KW R w k fv f →
 Calls Tryz.prog 154 #[.pointer (some ⟨R.r,0,none⟩),.slice a ks.length c,.int .i64 k,fv] w (kW R (seqM R.C ks g k f st) w)
theorem Fx.below {R:Rn} {w w':World} (h:Below w.heap.size w w'):Fx R w w':=Gx.of_below h
theorem Fx.heap {R:Rn} {w w':World} (h:Fx R w w') {b:Nat} {o:Obj} (hb:w.heap[b]?=some o) (hx:¬R.X b):w'.heap[b]?=some o:=Gx.heap h hb hx
theorem KW.call {R:Rn} {w:World} {k e:Nat} {fv:Value} {f:Rk} (h:KW R w k fv f) {st:Rst} (hr:RunI R w st) (hk:k≤e) (he:e≤R.C.cs.length) :
  ∃(j:FuncId) (caps:Array Value),fv=.func (.func j) #[] caps∧Enters Tryz.prog j∧Calls Tryz.prog j (#[.int .i64 (e:Int)]++caps) w (kW R (f e st) w):=by
 obtain⟨j,caps,e1,e2,hc⟩:=h;exact⟨j,caps,e1,e2,hc w st e (Gx.refl _ _) hr hk he⟩
theorem zy {S:Nat→Prop} {w0:World} {b o c n g:Nat} {r:List Rx} (hs:PtSl w0 S (some ⟨b,o+11,none⟩) n r g) (hn:n≤1000000) (hc:n+1≤c) :
  ∃a',PtSl w0 S a' n r g∧(∀w':World,(Instr.sliceAt 119 (.slice (some ⟨b,o,none⟩) (n+1) c) (some (.int .i64 1)) none none).run Tryz.prog w'=.ok (.slice a' n (c-1)) w'):=by
 have key:∀w':World,(Instr.sliceAt 119 (.slice (some ⟨b,o,none⟩) (n+1) c) (some (.int .i64 1)) none none).run Tryz.prog w'=.ok (.slice (if c=1 then some ⟨b,o,none⟩ else some ⟨b,o+11,none⟩) n (c-1)) w':=by
  intro w';go_simp
  by_cases h:c=1
  ·simp [h];intro h;omega
  ·simp [h];intro h;omega
 refine⟨_,?_,key⟩;by_cases h:c=1
 ·rw [Cl h]
  have h0:=hs.len;have h1:n=0:=gu;subst h1;have h2:r=[]:=Cm h0.symm;subst h2;exact PtSl.nil _ _ _ _
 ·rw [Co h];exact hs
theorem seqK {R:Rn} (ok:RnOk R) {r:List Rx} (IH:SeqC R r) {w0:World} {b1 b2 b3 b o c g k:Nat} {fv:Value} {f:Rk}
  (h1:w0.heap[b1]?=some (.cells #[.pointer (some ⟨R.r,0,none⟩)] 117 (0,0))) (h2:w0.heap[b2]?=some (.cells #[.slice (some ⟨b,o,none⟩) (r.length+1) c] 119 (0,0)))
  (h3:w0.heap[b3]?=some (.cells #[fv] 145 (0,0))) (x1:¬R.X b1) (x2:¬R.X b2) (x3:¬R.X b3) (hs:PtSl w0 R.S (some ⟨b,o+11,none⟩) r.length r g) (hc:r.length+1≤c) (hg:g+Rx.groupsL r≤R.n) (hf:KW R w0 k fv f) (hrl:r.length≤1000000) :
  KW R w0 k (.func (.func 177) #[] #[.pointer (some ⟨b1,0,none⟩),.pointer (some ⟨b2,0,none⟩),.pointer (some ⟨b3,0,none⟩)]) (fun e s2=>seqM R.C r g e f s2):=by
 refine⟨_,_,rfl,enters_of Tryz.func177 gE rfl,fun w st e hx hr hk he=>?_⟩;have c1:=jY (hx.heap h1 x1);have c2:=jY (hx.heap h2 x2);have c3:=jY (hx.heap h3 x3);have hrl:r.length≤1000000:=hrl;obtain⟨a',hs',hsl⟩:=zy hs hrl hc;have hC:=IH w.drew st g e (c-1) fv f a' ((hs'.keep (Fx.kept ok hx)).later ((Below.refl _ _).drew)) gu hg (hr.later ((Below.refl _ _).drew)) he (hf.later (hx.trans (Fx.below ((Below.refl _ _).drew))) hk);have HC:=ab hC;have hcs:=ok.cs;clear hC IH hf hs hs' hx hr ok h1 h2 h3;show Calls Tryz.prog 177 #[.int .i64 (e:Int),.pointer (some ⟨b1,0,none⟩),.pointer (some ⟨b2,0,none⟩),.pointer (some ⟨b3,0,none⟩)] w _
 go_enter Tryz.func177,Tryz.ntmps177
 go_upto_region 1 with fail
 go_still_tail 5,gE
 change wpList _ _ _ _ _ w.drew
 go_wp2_with (go_at_call 154;refine HC.out.mono ?_)
 rintro x w' ⟨rfl,hr,hx⟩;go_wp2
 go_ret
 exact⟨rfl,hr,(Fx.below ((Below.refl _ _).drew)).trans hx⟩
theorem kx {R:Rn} {w:World} {st:Rst} (h:RunI R w st) {b:Nat} (hb:w.heap.size≤b):¬R.X b:=fun e=>by have:=h.lt b e;omega
theorem seq_nil {R:Rn}:SeqC R []:=by
 intro w st g k c fv f a hs hc hg hr hk hf;obtain⟨W3,hW3⟩:∃W3,W3=((w.alloc (.cells #[.pointer (some ⟨R.r,0,none⟩)] 117)).alloc (.cells #[.slice a 0 c] 119)).alloc (.cells #[fv] 145):=⟨_,rfl⟩;have hb3:Below w.heap.size w W3:=by rw [hW3];exact(((Below.refl _ _).alloc (Cp _) _).alloc gF _).alloc gH _
 obtain⟨j,caps,rfl,he,hC⟩:=(hf.later (Fx.below hb3) (Cp _)).call (hr.later hb3) (Cp _) hk;unfold Enters at he;have HC:=ab hC;have HB:=ab hb3;have HW:=ab hW3;clear hC hf hs hr hb3 hW3;simp only [CW];go_enter Tryz.func154,Tryz.ntmps154
 go_upto_region 2 with fail
 rw [←HW.out];have c7:W3.cell? ⟨w.heap.size+1+1,0,none⟩=some (.func (.func j) #[] caps):=jY (t:=145) (by rw [HW.out];have:=heap_alloc_new ((w.alloc (.cells #[.pointer (some ⟨R.r,0,none⟩)] 117)).alloc (.cells #[.slice a 0 c] 119)) (.cells #[.func (.func j) #[] caps] 145);simpa using this);clear HW;go_wp2_with (go_at_fn j;refine HC.out.mono ?_)
 rintro x w' ⟨rfl,hr,hx⟩;go_wp2
 go_ret
 exact⟨rfl,hr,(Fx.below HB.out).trans hx⟩
theorem seq_cons {R:Rn} (ok:RnOk R) {x:Rx} {ks:List Rx} (hx:TryC R x) (IH:SeqC R ks) (hl:ks.length≤1000000):SeqC R (x::ks):=by
 intro w st g k c fv f a hs hc hg hr hk hf;simp only [Rx.groupsL] at hg;have hff:=hf;obtain⟨j,caps,rfl,_,_⟩:=hff;have h0:((ks.length:Int)+1==0)=false:=by rw [CM];omega
 obtain⟨W3,hW3⟩:∃W3,W3=((w.alloc (.cells #[.pointer (some ⟨R.r,0,none⟩)] 117)).alloc (.cells #[.slice a (ks.length+1) c] 119)).alloc (.cells #[.func (.func j) #[] caps] 145):=⟨_,rfl⟩;have hb3:Below w.heap.size w W3:=by rw [hW3];exact(((Below.refl _ _).alloc (Cp _) _).alloc gF _).alloc gH _
 have h1:W3.heap[w.heap.size]?=some (.cells #[.pointer (some ⟨R.r,0,none⟩)] 117 (0,0)):=by
  rw [hW3,Below.heap_alloc _ _ _ gH,Below.heap_alloc _ _ _ gF];exact heap_alloc_new w _
 have h2:W3.heap[w.heap.size+1]?=some (.cells #[.slice a (ks.length+1) c] 119 (0,0)):=by
  rw [hW3,Below.heap_alloc _ _ _ gF];have:=heap_alloc_new (w.alloc (.cells #[.pointer (some ⟨R.r,0,none⟩)] 117)) (.cells #[.slice a (ks.length+1) c] 119);simpa using this
 have h3:W3.heap[w.heap.size+1+1]?=some (.cells #[.func (.func j) #[] caps] 145 (0,0)):=by
  rw [hW3];have:=heap_alloc_new ((w.alloc (.cells #[.pointer (some ⟨R.r,0,none⟩)] 117)).alloc (.cells #[.slice a (ks.length+1) c] 119)) (.cells #[.func (.func j) #[] caps] 145);simpa using this
 obtain⟨b,o,cc,rfl,hSb,hlt,hv,hcc,htl⟩:=(hs.later hb3).head;have hK:=seqK ok IH h1 h2 h3 (kx hr (Cp _)) (kx hr gu) (kx hr gu) htl (by simpa using hc) gu (hf.later (Fx.below hb3) (Cp _)) hl;have hdr:Below W3.heap.size W3 W3.drew:=(Below.refl _ _).drew;have hC:=hx W3.drew st g k _ _ cc (hv.later hdr) gu ((hr.later hb3).later hdr) hk (hK.later (Fx.below hdr) (Cp _));obtain⟨kd,ch,ng,rs,lo,hi,lz,xs⟩:=x;obtain⟨ra,rc,ka,kn,kc,pa,pc,rfl,_,_,_⟩:=hv.open_;obtain⟨c0,c1,c2,c3,c4,c5,c6,c7,c8,c9,c10⟩:=kf hcc;have d1:=jY h1;have d2:=jY h2;have HC:=ab hC;have HB:=ab (Fx.below (R:=R) (hb3.trans (hdr.mono hb3.size)));have HW:=ab hW3;have HM:Hid (seqM R.C (.mk kd ch ng rs lo hi lz xs::ks) g k f st=tryM R.C (.mk kd ch ng rs lo hi lz xs) g k (fun e s2=>seqM R.C ks (g+(Rx.mk kd ch ng rs lo hi lz xs).groups) e f s2) st):=ab (by conv=>lhs;unfold seqM);rw [HM.out];clear hC hf hs hr ok hb3 hW3 hx IH h1 h2 h3 hv hcc htl hK hdr HM hSb;unfold ptc at HC;simp only [Cr] at hc ⊢;go_enter Tryz.func154,Tryz.ntmps154
 go_upto_region 3 with fail
 rw [←HW.out];clear HW;go_still_tail 6,gE
 change wpList _ _ _ _ _ W3.drew
 exact dA
theorem BD {R:Rn} (ok:RnOk R):∀ks:List Rx,(∀x∈ks,TryC R x)→ks.length≤1000000→SeqC R ks
 | [],_,_=>seq_nil
 | x::ks,h,hl=>seq_cons ok (h x (CB ..)) (BD ok ks (fun y hy=>h y (CC _ hy)) (by simp at hl;omega)) (by simp at hl;omega)
open Go.RowKit
theorem sn {α:Type} (l:List α) (i:Nat) (d:α) (h:i<l.length):l.getD i d∈l:=by
 rw [List.getD_eq_getElem?_getD,Cn h];exact List.getElem_mem h
theorem grpW {R:Rn} (ok:RnOk R) {w0:World} {b1 b2 b3 b4 g k:Nat} {fv:Value} {f:Rk} {kd:Int} {c:Str} {ng:Bool} {ra:Option Addr} {rn rc:Nat} {lo hi:Int} {lz:Bool} {ka:Option Addr} {kn kc:Nat} {pa:Option Addr} {pn pc h:Nat}
  (h1:w0.heap[b1]?=some (.cells #[.pointer (some ⟨R.r,0,none⟩)] 117 (0,0))) (h2:w0.heap[b2]?=some (.cells (ptc kd c ng ra rn rc lo hi lz ka kn kc pa pn pc g h).toArray 121 (0,0)))
  (h3:w0.heap[b3]?=some (.cells #[.int .i64 (k:Int)] 3 (0,0))) (h4:w0.heap[b4]?=some (.cells #[fv] 145 (0,0)))
  (x1:¬R.X b1) (x2:¬R.X b2) (x3:¬R.X b3) (x4:¬R.X b4) (hg:g<R.n) (hkn:k≤R.C.cs.length) (hf:KW R w0 k fv f) :
  KW R w0 k (.func (.func 179) #[] #[.pointer (some ⟨b1,0,none⟩),.pointer (some ⟨b2,0,none⟩),.pointer (some ⟨b3,0,none⟩),.pointer (some ⟨b4,0,none⟩)]) (grpK R.C g k f):=by
 refine⟨_,_,rfl,enters_of Tryz.func179 gE rfl,fun w st e hx hr hk he=>?_⟩;have hff:=hf;obtain⟨j,caps,rfl,hent,_⟩:=hff;unfold Enters at hent;have c1:=jY (hx.heap h1 x1);have c3:=jY (hx.heap h3 x3);have c4:=jY (hx.heap h4 x4);have p2:w.cell? ⟨b2,9,none⟩=some (.int .i64 (g:Int)):=by rw [Cv (hx.heap h2 x2)];rfl
 obtain⟨pb,hpb⟩:=hr.row gu;have c13:=hr.c13 ok;have c14:=hr.c14 ok;obtain⟨v1,v2,v3,v4⟩:=hr.part hg hpb;rw [hpb] at c14;obtain⟨ob,oo,hoa,o1⟩:=hr.off ok hkn;obtain⟨ob',oo',hoa',o2⟩:=hr.off ok he;rw [hoa] at hoa' c13;injection hoa' with hoa';injection hoa' with ha1 ha2;subst ha1;subst ha2
 have hcs:=ok.cs;have hn:=ok.n;obtain⟨wa,wb,hwas⟩:∃wa wb,st.ps.getD g (-1,-1)=(wa,wb):=⟨_,_,rfl⟩;rw [hwas] at v1 v2;simp only at v1 v2
 obtain⟨ka,hka⟩:∃n,R.C.offs.getD k 0=n:=⟨_,rfl⟩;obtain⟨ea,hea⟩:∃n,R.C.offs.getD e 0=n:=⟨_,rfl⟩;rw [hka] at o1;rw [hea] at o2;have hal:Below w.heap.size w (w.alloc (.cells #[.int .i64 0,.int .i64 0] 48)):=(Below.refl _ _).alloc (Cp _) _;have q1:=jP hal _ _ c1;have q2:=jP hal _ _ p2;have q3:=jP hal _ _ c14;have q4:=jP hal _ _ v1;have q5:=jP hal _ _ v2;obtain⟨W1,hW1⟩:∃W1,W1=(w.alloc (.cells #[.int .i64 wa,.int .i64 wb] 48)).drew:=⟨_,rfl⟩;have hb1:Below w.heap.size w W1:=by rw [hW1];exact((Below.refl _ _).alloc (Cp _) _).drew
 have hr1:=hr.later hb1;have hx1:=hx.trans (Fx.below hb1);have hwx:W1.heap[w.heap.size]?=some (.cells #[.int .i64 wa,.int .i64 wb] 48 (0,0)):=by rw [hW1];exact heap_alloc_new w _
 have hwn:¬R.X w.heap.size:=kx hr (Cp _);have HO:=ab ok;have HR1:=ab hr1;have HX1:=ab hx1;have HB1:=ab (Fx.below (R:=R) hb1);have HF:=ab hf;have HPB:=ab hpb;have H1:=ab h1;have H2:=ab h2;have H3:=ab h3;have H4:=ab h4;have HWX:=ab hwx;have HW1:=ab hW1;have HWAS:=ab hwas;have HKA:=ab hka;have HEA:=ab hea;have HGK:Hid (grpK R.C g k f e st=AT (wa,wb) g (f e { st with ps:=mG st.ps g ((ka:Int),(ea:Int)) })):=ab (by unfold grpK;rw [hwas,hka,hea]);rw [HGK.out];clear ok hr hr1 hx1 hb1 hx hf hpb hoa h1 h2 h3 h4 hal hwx hW1 hwas hka hea HGK;show Calls Tryz.prog 179 #[.int .i64 (e:Int),.pointer (some ⟨b1,0,none⟩),.pointer (some ⟨b2,0,none⟩),.pointer (some ⟨b3,0,none⟩),.pointer (some ⟨b4,0,none⟩)] w _
 go_enter Tryz.func179,Tryz.ntmps179
 go_upto_region 1 with fail
 go_region
 rw [←HW1.out];clear q1 q2 q3 q4 q5 c1 c3 c4 p2 c14 v1 v2 v3 v4 c13 o1 o2 HW1;have c1:=jY (HX1.out.heap H1.out x1);have c3:=jY (HX1.out.heap H3.out x3);have p2:W1.cell? ⟨b2,9,none⟩=some (.int .i64 (g:Int)):=by rw [Cv (HX1.out.heap H2.out x2)];rfl
 have c13:=HR1.out.c13 HO.out;have c14:=HR1.out.c14 HO.out;obtain⟨v1,v2,v3,v4⟩:=HR1.out.part hg HPB.out;rw [HWAS.out] at v1 v2;rw [HPB.out] at c14;simp only at v1 v2
 obtain⟨ob,oo,hoa,o1⟩:=HR1.out.off HO.out hkn;obtain⟨ob',oo',hoa',o2⟩:=HR1.out.off HO.out he;rw [hoa] at hoa' c13;injection hoa' with hoa';injection hoa' with ha1 ha2;subst ha1;subst ha2
 rw [HKA.out] at o1;rw [HEA.out] at o2;have hs:=HR1.out.setP HO.out hg HPB.out ((ka:Int),(ea:Int));simp only at hs
 obtain⟨W2,hW2⟩:∃W2,W2=((W1.setCell ⟨pb,g*2,none⟩ (.int .i64 (ka:Int))).setCell ⟨pb,g*2+1,none⟩ (.int .i64 (ea:Int))).drew:=⟨_,rfl⟩;have hd2:∀w:World,Below w.heap.size w w.drew:=fun w=>(Below.refl _ _).drew
 have HR2:Hid (RunI R W2 { st with ps:=mG st.ps g ((ka:Int),(ea:Int)) }):=ab (by rw [hW2];exact hs.1.later (hd2 _));have HX2:Hid (Fx R W1 W2):=ab (by rw [hW2];exact hs.2.trans (Fx.below (hd2 _)));have HW2:=ab hW2;clear hW2 hs hoa;have hk1:(k:Int)<(R.C.cs.length:Int)+1:=gu;have he1:(e:Int)<(R.C.cs.length:Int)+1:=gu;go_upto_region 2 with fail
 go_still_tail 22,gE
 change wpList _ _ _ _ _ W1.drew
 have s2:((W1.drew.setCell ⟨pb,g*2,none⟩ (.int .i64 (ka:Int))).setCell ⟨pb,g*2+1,none⟩ (.int .i64 (ea:Int)))=W2:=HW2.out.symm;have d4:W2.cell? ⟨b4,0,none⟩=some (.func (.func j) #[] caps):=jY ((HX1.out.trans HX2.out).heap H4.out x4);obtain⟨j',caps',hff',_,hC⟩:=(HF.out.later (HX1.out.trans HX2.out) hk).call HR2.out (Cp _) he;injection hff' with e1 _ e3
 injection e1 with e1
 subst e1;subst e3;have HC:=ab hC;have HS2:=ab s2;clear hC s2;go_upto_region 3 with fail
 have e0:∀a:Act,a=a:=fun _=>rfl
 change (Code.wp _ _ _ _ (((W1.drew.setCell ⟨pb,g*2,none⟩ (.int .i64 (ka:Int))).setCell ⟨pb,g*2+1,none⟩ (.int .i64 (ea:Int)))))
 rw [HS2.out];clear e0 HS2 HW2 c1 c3 p2 c13 c14 v1 v2 v3 v4 o1 o2 hk1 he1;go_wp2_with (go_at_fn j;refine HC.out.mono ?_)
 rintro x w3 ⟨rfl,hr3,hx3⟩;obtain⟨q,hq⟩:∃q,f e { st with ps:=mG st.ps g ((ka:Int),(ea:Int)) }=q:=⟨_,rfl⟩;rw [hq] at hr3 ⊢;have HQ:=ab hq;obtain⟨bo,s3⟩:=q;have HR3:=ab hr3;have HX3:=ab (HX2.out.trans hx3);clear hq hr3 hx3 HC d4;cases bo with
 | true =>
  go_wp2
  go_ret
  rw [HQ.out];exact⟨rfl,HR3.out,HB1.out.trans HX3.out⟩
 | false =>
  have hwx:=HX3.out.heap HWX.out hwn;have w1:w3.cell? ⟨w.heap.size,0,none⟩=some (.int .i64 wa):=by rw [Cv hwx];rfl
  have w2:w3.cell? ⟨w.heap.size,1,none⟩=some (.int .i64 wb):=by rw [Cv hwx];rfl
  have c1:=jY ((HX1.out.trans HX3.out).heap H1.out x1);have p2:w3.cell? ⟨b2,9,none⟩=some (.int .i64 (g:Int)):=by rw [Cv ((HX1.out.trans HX3.out).heap H2.out x2)];rfl
  have c14:=HR3.out.c14 HO.out;obtain⟨v1,v2,v3,v4⟩:=HR3.out.part hg HPB.out;rw [HPB.out] at c14;have hs:=HR3.out.setP HO.out hg HPB.out (wa,wb);simp only at hs
  have HS:=ab hs;clear hs hwx;go_upto_region 5 with fail
  go_still_tail 8,gE
  change wpList _ _ _ _ _ w3.drew
  go_wp2
  go_ret
  rw [HQ.out];exact⟨rfl,HS.out.1.later (hd2 _),(HB1.out.trans HX3.out).trans (HS.out.2.trans (Fx.below (hd2 _)))⟩
theorem ux {R:Rn} (ok:RnOk R) {y:Rx} (IH:TryC R y) (w:World) (st:Rst) (g k:Nat) (fv:Value) (f:Rk) (cc:List Value) {c:Str} {ng:Bool} {rs:List (Str × Str)} {lo hi:Int} {lz:Bool}
  (hv:PtV w R.S cc (.mk 5 c ng rs lo hi lz [y]) g) (hg:g+(Rx.mk 5 c ng rs lo hi lz [y]).groups≤R.n) (hr:RunI R w st) (hk:k≤R.C.cs.length) (hf:KW R w k fv f) :
  Calls Tryz.prog 157 #[.pointer (some ⟨R.r,0,none⟩),.agg cc.toArray,.int .i64 k,fv] w (kW R (kU R.C [y] (g+1) k (grpK R.C g k f) st) w):=by
 have hff:=hf;obtain⟨j,caps,rfl,_,_⟩:=hff;obtain⟨ra,rc,ka,kn,kc,pa,pc,rfl,hrs,hks,hpc⟩:=hv.open_;simp only [Rx.groups,Rx.groupsL,Cl,Nat.add_zero] at hg;obtain⟨W4,hW4⟩:∃W4,W4=(((w.alloc (.cells #[.pointer (some ⟨R.r,0,none⟩)] 117)).alloc (.cells (ptc 5 c ng ra rs.length rc lo hi lz ka kn kc pa [y].length pc g (g+own5 5+Rx.groupsL [y])).toArray 121)).alloc (.cells #[.int .i64 (k:Int)] 3)).alloc (.cells #[.func (.func j) #[] caps] 145):=⟨_,rfl⟩;have hb4:Below w.heap.size w W4:=by rw [hW4];exact((((Below.refl _ _).alloc (Cp _) _).alloc gF _).alloc gz _).alloc gz _
 have h1:W4.heap[w.heap.size]?=some (.cells #[.pointer (some ⟨R.r,0,none⟩)] 117 (0,0)):=by
  rw [hW4,Below.heap_alloc _ _ _ gz,Below.heap_alloc _ _ _ gz,Below.heap_alloc _ _ _ gF];exact heap_alloc_new w _
 have h2:W4.heap[w.heap.size+1]?=some (.cells (ptc 5 c ng ra rs.length rc lo hi lz ka kn kc pa [y].length pc g (g+own5 5+Rx.groupsL [y])).toArray 121 (0,0)):=by
  rw [hW4,Below.heap_alloc _ _ _ gz,Below.heap_alloc _ _ _ gF];have:=heap_alloc_new (w.alloc (.cells #[.pointer (some ⟨R.r,0,none⟩)] 117)) (.cells (ptc 5 c ng ra rs.length rc lo hi lz ka kn kc pa [y].length pc g (g+own5 5+Rx.groupsL [y])).toArray 121)
  rw [CL] at this;exact this
 have h3:W4.heap[w.heap.size+1+1]?=some (.cells #[.int .i64 (k:Int)] 3 (0,0)):=by
  rw [hW4,Below.heap_alloc _ _ _ gF];have:=heap_alloc_new ((w.alloc (.cells #[.pointer (some ⟨R.r,0,none⟩)] 117)).alloc (.cells (ptc 5 c ng ra rs.length rc lo hi lz ka kn kc pa [y].length pc g (g+own5 5+Rx.groupsL [y])).toArray 121)) (.cells #[.int .i64 (k:Int)] 3)
  rw [CL,CL] at this;exact this
 have h4:W4.heap[w.heap.size+1+1+1]?=some (.cells #[.func (.func j) #[] caps] 145 (0,0)):=by
  rw [hW4];have:=heap_alloc_new (((w.alloc (.cells #[.pointer (some ⟨R.r,0,none⟩)] 117)).alloc (.cells (ptc 5 c ng ra rs.length rc lo hi lz ka kn kc pa [y].length pc g (g+own5 5+Rx.groupsL [y])).toArray 121)).alloc (.cells #[.int .i64 (k:Int)] 3)) (.cells #[.func (.func j) #[] caps] 145)
  rw [CL,CL,CL] at this;exact this
 have hK:=grpW ok h1 h2 h3 h4 (kx hr (Cp _)) (kx hr gu) (kx hr gu) (kx hr gu) gu hk (hf.later (Fx.below hb4) (Cp _));obtain⟨b,o,cy,hpa,hSb,hlt,hvy,hcy,_⟩:=(hks.later hb4).head;have hdr:Below W4.heap.size W4 W4.drew:=(Below.refl _ _).drew;have hC:=IH W4.drew st (g+1) k _ _ cy (hvy.later hdr) gu ((hr.later hb4).later hdr) hk (hK.later (Fx.below hdr) (Cp _));obtain⟨kd,ch,ng',rs',lo',hi',lz',xs⟩:=y;obtain⟨ra',rc',ka',kn',kc',pa',pc',rfl,_,_,_⟩:=hvy.open_;obtain⟨c0,c1,c2,c3,c4,c5,c6,c7,c8,c9,c10⟩:=kf hcy;have d1:=jY h1;have d3:=jY h3;have d2:W4.cell? ⟨w.heap.size+1,8,none⟩=some (.slice pa 1 pc):=by rw [Cv h2];rfl
 rw [hpa] at d2;have HC:=ab hC;have HB:=ab (Fx.below (R:=R) (hb4.trans (hdr.mono hb4.size)));have HM:Hid (kU R.C [.mk kd ch ng' rs' lo' hi' lz' xs] (g+1) k (grpK R.C g k f) st=tryM R.C (.mk kd ch ng' rs' lo' hi' lz' xs) (g+1) k (grpK R.C g k f) st):=ab (by conv=>lhs;unfold kU);rw [HM.out];have HW:=ab hW4;clear hC hf hks hr ok hb4 hW4 IH h1 h2 h3 h4 hv hcy hK hdr HM hSb hrs hvy hpa;simp only [Cr,CW,Nat.zero_add] at HW ⊢;unfold ptc at HC HW ⊢;generalize g+own5 5+Rx.groupsL [.mk kd ch ng' rs' lo' hi' lz' xs]=gh at HW ⊢
 go_enter Tryz.func157,Tryz.ntmps157
 go_upto_region 1 with fail
 rw [←HW.out];clear HW;go_still_tail 7,gE
 change wpList _ _ _ _ _ W4.drew
 exact dA
open Go.RowKit
def AgC (R:Rn) (y:Rx) (c:Str) (ng:Bool) (rs:List (Str × Str)) (lo hi:Int) (lz:Bool) (N:Nat):Prop :=
 ∀(w:World) (st:Rst) (g k times:Nat) (fv:Value) (f:Rk) (cc:List Value),PtV w R.S cc (.mk 7 c ng rs lo hi lz [y]) g→g+Rx.groupsL [y]≤R.n→RunI R w st→k≤R.C.cs.length→KW R w k fv f →
  (R.C.cs.length-k)+(lo.toNat-times)<N→times+N≤2000000 →
  Calls Tryz.prog 155 #[.pointer (some ⟨R.r,0,none⟩),.agg cc.toArray,.int .i64 k,.int .i64 times,fv] w (kW R (lu (fun k f st=>kU R.C [y] g k f st) lo hi lz g (g+Rx.groupsL [y]) f N k times st) w)
theorem againW {R:Rn} (ok:RnOk R) {y:Rx} {c:Str} {ng:Bool} {rs:List (Str × Str)} {lo hi:Int} {lz:Bool} {N:Nat} (IH:AgC R y c ng rs lo hi lz N) {w0:World} {b1 b2 b3 b4 b5 g k times:Nat} {fv:Value} {f:Rk} {cc:List Value}
  (h1:w0.heap[b1]?=some (.cells #[.pointer (some ⟨R.r,0,none⟩)] 117 (0,0))) (h2:w0.heap[b2]?=some (.cells cc.toArray 121 (0,0)))
  (h3:w0.heap[b3]?=some (.cells #[.int .i64 (k:Int)] 3 (0,0))) (h4:w0.heap[b4]?=some (.cells #[.int .i64 (times:Int)] 3 (0,0))) (h5:w0.heap[b5]?=some (.cells #[fv] 145 (0,0)))
  (x1:¬R.X b1) (x2:¬R.X b2) (x3:¬R.X b3) (x4:¬R.X b4) (x5:¬R.X b5) (hv:PtV w0 R.S cc (.mk 7 c ng rs lo hi lz [y]) g) (hg:g+Rx.groupsL [y]≤R.n) (hkn:k≤R.C.cs.length) (hf:KW R w0 k fv f)
  (hl:0≤lo∧lo≤255) (hN:(R.C.cs.length-k)+(lo.toNat-times)<N+1) (hT:times+(N+1)≤2000000) :
  KW R w0 k (.func (.func 178) #[] #[.pointer (some ⟨b3,0,none⟩),.pointer (some ⟨b4,0,none⟩),.pointer (some ⟨b2,0,none⟩),.pointer (some ⟨b1,0,none⟩),.pointer (some ⟨b5,0,none⟩)])
   (fun e s2=>if k<e∨(times:Int)<lo then lu (fun k f st=>kU R.C [y] g k f st) lo hi lz g (g+Rx.groupsL [y]) f N e (times+1) s2 else(false,s2)):=by
 refine⟨_,_,rfl,enters_of Tryz.func178 gE rfl,fun w st e hx hr hk he=>?_⟩;have hff:=hf;obtain⟨j,caps,rfl,_,_⟩:=hff;have c1:=jY (hx.heap h1 x1);have c3:=jY (hx.heap h3 x3);have c4:=jY (hx.heap h4 x4);have c5:=jY (hx.heap h5 x5);have hcc:=kT (hx.heap h2 x2);have hvw:=hv.keep (Fx.kept ok hx);have hcs:=ok.cs;by_cases hyes:k<e∨(times:Int)<lo
 ·have hC:=IH w st g e (times+1) _ f cc hvw hg hr he (hf.later hx hk) gu gu
  have HQ:Hid ((if k<e∨(times:Int)<lo then lu (fun k f st=>kU R.C [y] g k f st) lo hi lz g (g+Rx.groupsL [y]) f N e (times+1) st else(false,st))=lu (fun k f st=>kU R.C [y] g k f st) lo hi lz g (g+Rx.groupsL [y]) f N e (times+1) st):=ab (Cl hyes);obtain⟨ra,rc,ka,kn,kc,pa,pc,rfl,_,_,_⟩:=hvw.open_;obtain⟨p0,p1,p2,p3,p4,p5,p6,p7,p8,p9,p10⟩:=kf hcc;have HC:=ab hC;simp only [Nat.zero_add] at p1 p2 p3 p4 p5 p6 p7 p8 p9 p10;unfold ptc at HC;show Calls Tryz.prog 178 _ w _
  simp only
  rw [HQ.out];by_cases hke:k<e
  ·clear hC IH hf hv hvw hx hr ok h1 h2 h3 h4 h5 hcc hyes HQ hN
   exact bZ
  ·have hte:(times:Int)<lo:=gu
   have hek:e=k:=gu;subst hek;clear hC IH hf hv hvw hx hr ok h1 h2 h3 h4 h5 hcc hyes HQ hN hk hke;exact bZ
 ·have HQ:Hid ((if k<e∨(times:Int)<lo then lu (fun k f st=>kU R.C [y] g k f st) lo hi lz g (g+Rx.groupsL [y]) f N e (times+1) st else(false,st))=(false,st)):=ab (Co hyes)
  obtain⟨ra,rc,ka,kn,kc,pa,pc,rfl,_,_,_⟩:=hvw.open_;obtain⟨p0,p1,p2,p3,p4,p5,p6,p7,p8,p9,p10⟩:=kf hcc;simp only [Nat.zero_add] at p1 p2 p3 p4 p5 p6 p7 p8 p9 p10;have hek:e=k:=gu;have hte:¬(times:Int)<lo:=gu;have HR:=ab hr;subst hek;show Calls Tryz.prog 178 _ w _
  simp only
  rw [HQ.out];clear IH hf hv hvw hx hr ok h1 h2 h3 h4 h5 hcc hyes HQ hN hk;show Calls Tryz.prog 178 #[.int .i64 (e:Int),.pointer (some ⟨b3,0,none⟩),.pointer (some ⟨b4,0,none⟩),.pointer (some ⟨b2,0,none⟩),.pointer (some ⟨b1,0,none⟩),.pointer (some ⟨b5,0,none⟩)] w _
  go_enter Tryz.func178,Tryz.ntmps178
  go_wp2
  go_ret
  exact⟨rfl,HR.out,Gx.refl _ _⟩
end Go.Proofs.YtjggmmaojklmpaaGreat
