/- Characters, rows, classes and numbers, told and read again. -/
import Derived.Test.YtdcnncgpomcaaaaGreatDoorRc26
set_option maxRecDepth 100000
set_option maxHeartbeats 4000000
namespace Go.Proofs.YtdcnncgpomcaaaaGreatDoor
theorem Gp:∀{r:Str},(∀x∈r,lf x=true)→r.takeWhile lf=r∧r.dropWhile lf=[]
 | [],_=>⟨rfl,rfl⟩
 | x::r,h=>by
  obtain⟨i1,i2⟩:=Gp (r:=r) (fun y hy=>h y (JF _ hy));have hx:=h x (JE ..);rw [List.takeWhile_cons_of_pos hx,List.dropWhile_cons_of_pos hx,i1,i2];exact⟨rfl,rfl⟩
theorem tK {c:Str} (h:l5 c=true):lA c=[c]:=by
 cases c with
 | nil=>cases h
 | cons b r =>
  have h2:r.all lf=true:=by
   have:(!lf b&&r.all lf)=true:=h
   exact(Bool.and_eq_true_iff.1 this).2
  have h3:∀x∈r,lf x=true:=List.all_eq_true.1 h2;rw [nh,(Gp h3).1,(Gp h3).2];rfl
theorem sK {c:Str} (h:l5 c=true):oe c∧c≠[]:=by
 cases c with
 | nil=>cases h
 | cons b r =>
  have h1:(!lf b&&r.all lf)=true:=h;exact⟨by show lf b=false;have:=(Bool.and_eq_true_iff.1 h1).1;simpa using this,by simp⟩
def escC (th c:Str):List Str :=
 if c=[10] then [[92],[110]] else if c=[13] then [[92],[114]] else if c=[9] then [[92],[116]] else if c=[12] then [[92],[102]] else if c=[11] then [[92],[118]]
 else if th.contains (c.headD 0)=true then [[92],c] else [c]
theorem xb (th:Str) {c:Str} (h:l5 c=true):lA (escL th c)=escC th c∧oe (escL th c):=by
 obtain⟨h1,h2⟩:=sK h;unfold escL escC;iterate 5 (split;· exact⟨rfl,show lf 92=false by decide⟩)
 split
 ·refine⟨?_,show lf 92=false by decide⟩
  rw [show (92:UInt8)::c=[92]++c from rfl,md _ [92] c (Ju _) h1,tK h];rfl
 ·exact⟨tK h,h1⟩
theorem escC_ok (th:Str) {c:Str} (h:c≠[]) (hl:c.length≤1000000):okC (escC th c):=by
 unfold escC;intro p hp
 (repeat' split at hp)<;>simp at hp<;>(try rcases hp with rfl|rfl)<;>(try subst hp)<;>first|exact⟨by simp,by simp⟩|exact⟨h,hl⟩
theorem pj {r:Row} (h:rowB r=true):l5 r.1=true∧l5 r.2=true∧leS r.1 r.2=true:=by
 unfold rowB at h;simp only [Jy] at h;exact⟨h.1.1,h.1.2,h.2⟩
theorem rP:∀{rs:List Row} {p:Option Str},oh p rs=true→∀r∈rs,rowB r=true
 | [],_,_,r,h=>by cases h
 | r0::rs,p,h,r,hr=>by
  simp only [oh,Jy] at h;rcases JC.1 hr with rfl|hr
  ·exact h.1.1
  ·exact rP h.2 r hr
theorem Gb {a b:Str} (h:leS a b=false):Op.bytesLess b a=true:=by
 unfold leS at h;simp only [Bool.or_eq_false_iff,JP] at h;rcases pi a b with h1|h1|h1
 ·rw [h1] at h;exact absurd h.1 gR
 ·exact absurd h1 h.2
 ·exact h1
theorem leS_ltS {a b c:Str} (h1:leS a b=true) (h2:Op.bytesLess b c=true):Op.bytesLess a c=true:=by
 unfold leS at h1;rw [Js,Ji] at h1;rcases h1 with h1|rfl
 ·exact n9 h1 h2
 ·exact h2
theorem zX {a b c:Str} (h1:Op.bytesLess a b=true) (h2:leS b c=true):Op.bytesLess a c=true:=by
 unfold leS at h2;rw [Js,Ji] at h2;rcases h2 with h2|rfl
 ·exact n9 h1 h2
 ·exact h1
theorem Ef:∀{rs:List Row} {t:Str},oh (some t) rs=true→∀r∈rs,Op.bytesLess t r.1=true
 | [],_,_,r,h=>by cases h
 | r0::rs,t,h,r,hr=>by
  simp only [oh,Jy,J9] at h;obtain⟨⟨h1,h2⟩,h3⟩:=h;have h4:=Gb h2;rcases JC.1 hr with rfl|hr
  ·exact h4
  ·exact n9 (zX h4 (pj h1).2.2) (Ef h3 r hr)
theorem A4:∀{rs:List Row} {p:Option Str},oh p rs=true→Srt rs
 | [],_,_=>List.Pairwise.nil
 | r0::rs,p,h=>by
  simp only [oh,Jy] at h;obtain⟨⟨h1,_⟩,h3⟩:=h;refine List.Pairwise.cons (fun r hr=>ru ?_) (A4 h3);unfold ltR;rw [vN];exact .inl (leS_ltS (pj h1).2.2 (Ef h3 r hr))
theorem Jd:∀(rs out:List Row) (p:Option Str),oh p rs=true→(p=out.getLast?.map (·.2))→rs.foldl mrgS out=out++rs
 | [],out,_,_,_=>by simp
 | r::rs,out,p,h,hp=>by
  simp only [oh,Jy] at h;obtain⟨⟨h1,h2⟩,h3⟩:=h;have e:mrgS out r=out++[r]:=by
   rcases List.eq_nil_or_concat out with rfl|⟨B,q,rfl⟩
   ·rfl
   ·rw [List.concat_eq_append] at hp ⊢
    rw [List.getLast?_concat,Option.map_some] at hp;subst hp;simp only [J9] at h2;exact vE h2
  rw [JQ,e,Jd rs (out++[r]) (some r.2) h3 (by rw [List.getLast?_concat];rfl)];simp
theorem Bw {rs:List Row} (h:oY rs=true):nk rs=rs:=by
 have h1:filR rs=rs:=List.filter_eq_self.2 (rP h);obtain⟨p1,s1⟩:=sa (filR rs);rw [h1] at p1 s1;have h2:stL rs=rs:=Es p1 s1 (A4 h);unfold nk mrgL;rw [h1,h2,Jd rs [] none h rfl];rfl
theorem zO (th:Str) (h0:th.contains 93=true∧th.contains 94=true∧th.contains 45=true) {c:Str} (h:l5 c=true):∃f r,escC th c=f::r∧f≠[93]∧f≠[94]∧f≠[45]:=by
 unfold escC;iterate 5 (split;· exact⟨_,_,rfl,by decide,by decide,by decide⟩)
 split
 ·exact⟨_,_,rfl,by decide,by decide,by decide⟩
 ·rename_i hn
  refine⟨_,_,rfl,?_,?_,?_⟩<;>rintro rfl
  ·exact hn h0.1
  ·exact hn h0.2.1
  ·exact hn h0.2.2
theorem Ez {c:Str} (h:xo c=true):∃b,c=[b]∧((97≤b.toNat∧b.toNat≤122)∨(65≤b.toNat∧b.toNat≤90)∨(48≤b.toNat∧b.toNat≤57)∨b.toNat=95):=by
 match c,h with
 | [b],h =>
  simp only [xo,Js,Jj] at h;exact⟨b,rfl,by rcases h with((h|h)|h)|h<;>simp [h]⟩
def noWd (b:UInt8):Prop:=¬((97≤b.toNat∧b.toNat≤122)∨(65≤b.toNat∧b.toNat≤90)∨(48≤b.toNat∧b.toNat≤57)∨b.toNat=95)
theorem xy {c:Str} (h0:c≠[]) (h:noWd (c.headD 0)):nF c=none∧bigS c=none∧mR c=some c∧c≠[98]∧c≠[66]:=by
 have ne:∀b:UInt8,¬noWd b→c≠[b]:=by rintro b hb rfl;exact hb h
 have l:∀b:UInt8,(97≤b.toNat∧b.toNat≤122)∨(65≤b.toNat∧b.toNat≤90)∨(48≤b.toNat∧b.toNat≤57)∨b.toNat=95→c≠[b]:=fun b hb=>ne b (fun q=>q hb)
 have hw:xo c=false:=by
  cases hw:xo c with
  | false=>rfl
  | true=>obtain⟨b,rfl,hb⟩:=Ez hw;exact absurd hb h
 refine⟨?_,?_,?_,l 98 gR,l 66 gR⟩
 ·unfold nF
  split
  ·rename_i b
   have:oD b=false:=by
    unfold oD;simp only [Bool.or_eq_false_iff,JP];refine⟨⟨?_,?_⟩,?_⟩<;>rintro rfl
    ·exact l 100 gR rfl
    ·exact l 119 gR rfl
    ·exact l 115 gR rfl
   rw [this];rfl
  ·rfl
 ·unfold bigS
  rw [Jo (l 68 gR),Jo (l 87 gR),Jo (l 83 gR)]
 ·unfold mR
  rw [Jo h0,Jo (l 110 gR),Jo (l 114 gR),Jo (l 116 gR),Jo (l 102 gR),Jo (l 118 gR),Jl (.inr hw)]
def okTh (th:Str):Prop:=(∀b∈th,noWd b)∧th.contains 92=true∧th.contains 93=true
theorem ux {th:Str} {b:UInt8} (h:th.contains b=true):b∈th:=by simpa using h
theorem Du {th:Str} (ht:okTh th) {c:Str} (h:l5 c=true) (z:List Str):og (escC th c++z)=some (c,[],z):=by
 obtain⟨_,h0⟩:=sK h;unfold escC;iterate 5 (split;· rename_i hc;rw [hc];rfl)
 split
 ·rename_i hs
  obtain⟨a1,a2,a3,_,_⟩:=xy h0 (ht.1 _ (ux hs));show og ([92]::c::z)=_
  simp only [og,Jo (show ¬([92]:Str)=[93] by decide),if_true,a1,a3]
 ·rename_i hs
  have h1:c≠[93]:=by rintro rfl;exact hs ht.2.2
  have h2:c≠[92]:=by rintro rfl;exact hs ht.2.1
  show og (c::z)=_
  simp only [og,Jo h1,Jo h2]
theorem DM {th:Str} (h:(th.all fun b=>!(decide (97≤b.toNat∧b.toNat≤122)||decide (65≤b.toNat∧b.toNat≤90)||decide (48≤b.toNat∧b.toNat≤57)||decide (b.toNat=95)))=true):∀b∈th,noWd b:=by
 intro b hb;have:=List.all_eq_true.1 h b hb
 simp only [J9,Bool.or_eq_false_iff,JJ] at this;unfold noWd;rintro(h|h|h|h)
 ·exact this.1.1.1 h
 ·exact this.1.1.2 h
 ·exact this.1.2 h
 ·exact this.2 h
theorem vp {c f:Str} {s:List Str} (h:f≠c):lq c (f::s)=none:=by simp only [lq,Jo h]
theorem EO {r z:List Str} {rows:List Row} (h:lV (r.length+1) [] r=some (rows,z)):mY ([94]::r)=.ok (setR (nk rows) true,z):=by
 unfold mY;have t:lq [94] ([94]::r)=some r:=rfl;simp only [t,Option.isSome,Option.getD,h]
theorem Hu {r z:List Str} {rows:List Row} (t:lq [94] r=none) (h:lV (r.length+1) [] r=some (rows,z)):mY r=.ok (setR (nk rows) false,z):=by
 unfold mY;simp only [t,Option.isSome,Option.getD,h]
def At (l:List Str) (y:Rx):Prop:=okC l∧(∃c r,l=c::r∧c≠[41]∧c≠[124])∧∀n z,okC z→(l++z).length≤n→n≤200000→lZ (patF n) (l++z) 0=ma y z
def Rd0 (l:List Str) (x:Rx):Prop:=okC l∧patF (l.length+1) l 0=.ok (x,[])
theorem term_rd {l:List Str} {x:Rx} {c:Str} {r:List Str} (e:l=c::r) (h1:c≠[41]) (h2:c≠[124]) (ho:okC l) (ht:lZ (patF l.length) l 0=.ok (x,[])) (hk:x.kind≠0∧x.kind≠1):Rd0 l x:=by
 subst e;refine⟨ho,?_⟩;have hT:InvT [x]:=fun y hy=>by rw [JY] at hy;rw [hy];exact hk
 have hseq:seqR [x]=x:=by unfold seqR;rw [mT (fun y hy=>(hT y hy).1)]
 show patL (fun r'=>lZ (patF (c::r).length) r' 0) (r.length+1+1) [] [] (c::r)=_
 simp only [patL,Jo h1,Jo h2,ht];rw [JV,JV,hseq,oS hk.2]
theorem At.quant {l q:List Str} {y x:Rx} (h:At l y) (ho:okC q) (hq:ma y q=.ok (x,[])) (hk:x.kind≠0∧x.kind≠1) (hl:(l++q).length≤200000):Rd0 (l++q) x:=by
 obtain⟨h1,⟨c,r,rfl,h2,h3⟩,h4⟩:=h;exact term_rd (c:=c) (r:=r++q) rfl h2 h3 (vG h1 ho) (by rw [h4 _ q ho (Ju _) hl,hq]) hk
theorem At.rd {l:List Str} {y:Rx} (h:At l y) (hk:y.kind≠0∧y.kind≠1) (hl:l.length≤200000):Rd0 l y:=by
 have:=h.quant (q:=[]) (fun p hp=>by cases hp) rfl hk jU
 simpa using this
theorem okC_one {c:Str} (h:c≠[]) (hl:c.length≤1000000):okC [c]:=fun p hp=>by rw [JY] at hp;rw [hp];exact⟨h,hl⟩
theorem tb {pat:List Str→Nat→Res} {l z:List Str} {y:Rx} (he:ni (l++z)=none) (ha:mj pat (l++z) 0=.ok (y,z)):lZ pat (l++z) 0=ma y z:=by
 unfold lZ;simp only [he,ha]
theorem At.any:At [[46]] (rxK 3) :=
 ⟨okC_one gR gR,⟨_,_,rfl,by decide,by decide⟩,fun n z _ _ _=>tb (l:=[[46]]) (by simp [ni]) (by simp [mj])⟩
theorem At.grp {l:List Str} {x:Rx} (h:Rd0 l x) (bare:Bool) (hd:x.deep+1≤16):At (wrp bare l) (grpR (gk bare) x):=by
 have hr:Rdg l x:=Rdg.of h.1 h.2;obtain⟨ro,hro⟩:=DX bare;refine⟨(hr.wrap bare).1,?_,fun n z hz h1 h2=>?_⟩
 ·unfold wrp;rw [hro];exact⟨_,_,rfl,by decide,by decide⟩
 ·have e1:wrp bare l++z=opn bare++(l++[41]::z):=by simp [wrp]
  rw [e1,hr.term (z:=z) bare n 0 hz gN (by rw [e1,hro] at h1;simp only [JW,Jr,JA] at h1 ⊢;omega) h2,Jl gN]
theorem Gz {lo hi:Int} (lz:Bool) (y:Rx) (h:0≤lo∧lo≤255∧(hi=-1∨lo≤hi∧hi≤255)) :
  ma y (lA (oftS lo hi++lzS lz))=.ok (repR lo hi lz y,[])∧oe (oftS lo hi++lzS lz):=by
 obtain⟨h1,h2,h3⟩:=h;have br:∀(B:Str) (a b:Int),(∀c∈B,lf c=false)→(∀z,mM (sgl B++z)=some (a,b,z))→ma y (lA (123::(B++lzS lz)))=.ok (repR a b lz y,[])∧oe (123::(B++lzS lz)):=by
  intro B a b hB hb;refine⟨?_,show lf 123=false by decide⟩;have e:lA (123::(B++lzS lz))=[123]::(sgl B++sgl (lzS lz)):=by
   rw [EU]
   ·simp [sgl]
   ·intro c hc
    rcases JC.1 hc with rfl|hc
    ·decide
    rcases JX.1 hc with hc|hc
    ·exact hB c hc
    ·cases lz
     ·simp [lzS] at hc
     ·simp [lzS] at hc;subst hc;decide
  rw [e];simp only [ma,Jo (show ¬([123]:Str)=[42] by decide),Jo (show ¬([123]:Str)=[43] by decide),Jo (show ¬([123]:Str)=[63] by decide),if_true,hb];cases lz<;>rfl
 unfold oftS;by_cases c1:lo=0∧hi=-1
 ·rw [Jl c1,c1.1,c1.2];cases lz<;>exact⟨rfl,show lf 42=false by decide⟩
 rw [Jo c1];by_cases c2:lo=1∧hi=-1
 ·rw [Jl c2,c2.1,c2.2];cases lz<;>exact⟨rfl,show lf 43=false by decide⟩
 rw [Jo c2];by_cases c3:lo=0∧hi=1
 ·rw [Jl c3,c3.1,c3.2];cases lz<;>exact⟨rfl,show lf 63=false by decide⟩
 rw [Jo c3];have da:=GE lo.toNat;have asc:∀(t:Str),(t.all fun c=>!lf c)=true→∀c∈Lib.decDigits lo.toNat++t,lf c=false:=by
  intro t ht c hc;rcases JX.1 hc with hc|hc
  ·exact da c hc
  ·have:=List.all_eq_true.1 ht c hc;simpa using this
 by_cases c4:lo=hi
 ·rw [Jl c4]
  exact br (Lib.decDigits lo.toNat++[125]) lo hi (asc _ gR) (fun z=>by rw [bounds_a,Jl gN,←c4,Int.toNat_of_nonneg h1])
 rw [Jo c4];by_cases c5:hi=-1
 ·rw [Jl c5]
  have:=br (Lib.decDigits lo.toNat++[44,125]) lo (-1) (asc _ gR) (fun z=>by rw [bounds_b,Jl gN,Int.toNat_of_nonneg h1])
  rw [c5];exact this
 rw [Jo c5];have hasc:∀c∈Lib.decDigits lo.toNat++44::(Lib.decDigits hi.toNat++[125]),lf c=false:=by
  intro c hc;rcases JX.1 hc with hc|hc
  ·exact da c hc
  rcases JC.1 hc with rfl|hc
  ·decide
  rcases JX.1 hc with hc|hc
  ·exact GE _ c hc
  ·rw [JY] at hc;subst hc;decide
 exact br (Lib.decDigits lo.toNat++44::(Lib.decDigits hi.toNat++[125])) lo hi hasc (fun z=>by
  rw [bounds_c,Jl ⟨by omega,by omega,by omega⟩,Int.toNat_of_nonneg h1,Int.toNat_of_nonneg gN])
theorem rd_nil:Rd0 [] (ow []):=⟨fun p hp=>(by cases hp),rfl⟩
theorem Hs {x:Rx} {ks:List Rx} (hx:x.kind≠0∧x.kind≠1) (hk:InvT ks):seqR [x,seqR ks]=seqR (x::ks):=by
 have h1:InvT [x]:=fun y hy=>by rw [JY] at hy;rw [hy];exact hx
 have:=DD h1 hk
 have e:seqR [x]=x:=by unfold seqR;rw [mT (fun y hy=>(h1 y hy).1)]
 rw [e] at this;exact this
theorem o8 {k:Int} {c:Str} {ng:Bool} {rs:List Row} {lo hi:Int} {lz:Bool} {ks:List Rx} (h:sL (.mk k c ng rs lo hi lz ks)=true):c=[]∧ng=false∧rs=[]∧lo=0∧hi=0∧lz=false:=by
 simp only [sL,Jy,J9,Rx.chr,Rx.neg,Rx.rows,Rx.lo,Rx.hi,Rx.lazy] at h;obtain⟨⟨⟨⟨⟨h1,h2⟩,h3⟩,h4⟩,h5⟩,h6⟩:=h;exact⟨of_decide_eq_true h1,h2,of_decide_eq_true h3,of_decide_eq_true h4,of_decide_eq_true h5,h6⟩
theorem AU:∀{ks:List Rx} {x:Rx},x∈ks→x.deep≤Rx.deepL ks
 | [],_,h=>by cases h
 | y::r,x,h=>by
  simp only [Rx.deepL];rcases JC.1 h with rfl|h
  ·omega
  ·have:=AU h;omega
def th1N:Str:=[94,36,92,46,42,43,63,40,41,91,93,123,125,124]
def th2N:Str:=[94,45,92,91,93]
def wG (r:Str × Str):Str:=escL th2N r.1++(if r.2=r.1 then [] else 45::escL th2N r.2)
def Bq (ng:Bool) (rs:List (Str × Str)):Str:=91::((if ng=true then [94] else [])++(rs.flatMap wG++[93]))
namespace Rx
mutual
def tellN:Rx→Str
 | mk k c ng rs lo hi lz ks =>
  if k=0 then tellNL ks
  else if k=1 then tellNA false ks
  else if k=2 then escL th1N c
  else if k=3 then [46]
  else if k=8 then [94]
  else if k=9 then [36]
  else if k=10 then [92,98]
  else if k=11 then [92,66]
  else if k=4 then Bq ng rs
  else if k=5 then 40::(tellNL ks++[41])
  else if k=6 then 40::63::58::(tellNL ks++[41])
  else tellNL ks++(oftS lo hi++(if lz=true then [63] else []))
def tellNL:List Rx→Str
 | []=>[]
 | x::r=>tellN x++tellNL r
def tellNA:Bool→List Rx→Str
 | _,[]=>[]
 | b,x::r=>(if b=true then [124] else [])++(tellN x++tellNA true r)
end
end Rx
def qI (r:Row):List Str:=escC th2N r.1++(if r.2=r.1 then [] else [45]::escC th2N r.2)
theorem Gw:okTh th2N:=⟨DM gR,by decide,by decide⟩
theorem th1_okN:okTh th1N:=⟨DM gR,by decide,by decide⟩
theorem xL {r:Row} (h:rowB r=true):∃f s,qI r=f::s∧f≠[93]∧f≠[94]∧f≠[45]:=by
 obtain⟨f,s,e,h1⟩:=zO th2N gR (pj h).1;unfold qI;rw [e];exact⟨f,_,rfl,h1⟩
theorem ye:∀(rs:List Row) (z:List Str),(∀r∈rs,rowB r=true)→∃f s,rs.flatMap qI++[93]::z=f::s∧(f=[93]∨f≠[93]∧f≠[94]∧f≠[45])
 | [],z,_=>⟨[93],z,rfl,.inl rfl⟩
 | r::rs,z,h=>by
  obtain⟨f,s,e,h1⟩:=xL (h r (JE ..));rw [Jz,e];exact⟨f,_,rfl,.inr h1⟩
theorem uy:∀(rs:List Row) (n:Nat) (acc:List Row) (z:List Str),(∀r∈rs,rowB r=true)→rs.length<n→lV n acc (rs.flatMap qI++[93]::z)=some (acc++rs,z)
 | [],n,acc,z,_,hn=>by
  obtain⟨n,rfl⟩:∃m,n=m+1:=⟨n-1,by simp at hn;omega⟩;rw [J5];simp only [List.flatMap_nil,JV,lV,lq,if_true]
 | r::rs,n,acc,z,h,hn=>by
  obtain⟨n,rfl⟩:∃m,n=m+1:=⟨n-1,by simp at hn;omega⟩;simp only [Jr] at hn;have hr:=h r (JE ..);have hrs:∀q∈rs,rowB q=true:=fun q hq=>h q (JF _ hq)
  obtain⟨p1,p2,p3⟩:=pj hr;have ih:=fun acc=>uy rs n acc z hrs gN
  obtain⟨g,t,ge,gh⟩:=ye rs z hrs;obtain⟨f,s,fe,f1,f2,f3⟩:=zO th2N gR p1;obtain⟨f',s',fe',f1',f2',f3'⟩:=zO th2N gR p2;have i1:=fun z=>Du Gw p1 z
  have i2:=fun z=>Du Gw p2 z
  have t1:∀z,lq [93] (escC th2N r.1++z)=none:=fun z=>by rw [fe];exact vp f1
  have t2:∀z,lq [93] (escC th2N r.2++z)=none:=fun z=>by rw [fe'];exact vp f1'
  by_cases he:r.2=r.1
  ·have e:(r::rs).flatMap qI++[93]::z=escC th2N r.1++(rs.flatMap qI++[93]::z):=by
    rw [Jz];unfold qI;rw [Jl he];simp
   have t45:lq [45] (rs.flatMap qI++[93]::z)=none:=by
    rw [ge];refine vp ?_;rcases gh with rfl|gh
    ·decide
    ·exact gh.2.2
   rw [e];simp only [lV,t1,i1,t45,ne_eq,not_true_eq_false,if_false];rw [ih,J3];have:((r.1,r.1):Row)=r:=by rw [←he];rw [he];exact Prod.ext rfl he.symm
   rw [this];rfl
  ·have e:(r::rs).flatMap qI++[93]::z=escC th2N r.1++[45]::(escC th2N r.2++(rs.flatMap qI++[93]::z)):=by
    rw [Jz];unfold qI;rw [Jo he];simp
   have t45:∀z:List Str,lq [45] ([45]::z)=some z:=fun z=>by simp only [lq,if_true]
   have hless:¬(Op.bytesLess r.2 r.1=true):=by
    intro hl;unfold leS at p3;rw [Js,Ji] at p3;rcases p3 with p3|p3
    ·rw [qp p3] at hl;cases hl
    ·exact he p3.symm
   rw [e];simp only [lV,t1,i1,t45,t2,i2,ne_eq,not_true_eq_false,if_false,if_true,false_or,Jo hless];rw [ih,J3];rfl
def Cn (ng:Bool) (rs:List Row):List Str:=[91]::((if ng=true then [[94]] else [])++(rs.flatMap qI++[[93]]))
theorem Fy {r:Row} (h:rowB r=true) (t:Str) (ht:oe t):lA (wG r++t)=qI r++lA t∧oe (wG r++t):=by
 obtain⟨p1,p2,p3⟩:=pj h;obtain⟨a1,a2⟩:=xb th2N p1;obtain⟨b1,b2⟩:=xb th2N p2;unfold wG qI;by_cases he:r.2=r.1
 ·rw [Jl he,Jl he,J5,J5]
  exact⟨by rw [md _ _ _ (Ju _) ht,a1],pL a2 ht⟩
 ·rw [Jo he,Jo he]
  have h45:oe (45::(escL th2N r.2++t)):=show lf 45=false by decide
  refine⟨?_,?_⟩
  ·rw [J3,JW,md _ _ _ (Ju _) h45,a1,show (45:UInt8)::(escL th2N r.2++t)=[45]++(escL th2N r.2++t) from rfl,md _ [45] _ (Ju _) (pL b2 ht),md _ _ _ (Ju _) ht,b1]
   simp [show lA [45]=[[45]] from rfl]
  ·rw [J3];exact pL a2 h45
theorem vI:∀(rs:List Row),(∀r∈rs,rowB r=true)→∀t:Str,oe t→lA (rs.flatMap wG++t)=rs.flatMap qI++lA t∧oe (rs.flatMap wG++t)
 | [],_,t,ht=>⟨rfl,ht⟩
 | r::rs,h,t,ht=>by
  obtain⟨i1,i2⟩:=vI rs (fun q hq=>h q (JF _ hq)) t ht;obtain⟨j1,j2⟩:=Fy (h r (JE ..)) _ i2;rw [Jz,Jz,J3,J3,j1,i1];exact⟨rfl,j2⟩
theorem E8 {ng:Bool} {rs:List Row} (h:oY rs=true):lA (Bq ng rs)=Cn ng rs∧oe (Bq ng rs):=by
 obtain⟨i1,i2⟩:=vI rs (rP h) [93] (show lf 93=false by decide);refine⟨?_,show lf 91=false by decide⟩;unfold Bq Cn;cases ng with
 | true =>
  show lA ([91,94]++(rs.flatMap wG++[93]))=_
  rw [md _ [91,94] _ (Ju _) i2,i1];rfl
 | false =>
  show lA ([91]++(rs.flatMap wG++[93]))=_
  rw [md _ [91] _ (Ju _) i2,i1];rfl
theorem E2 {ng:Bool} {rs:List Row} (h:oY rs=true) (z:List Str) (pat:List Str→Nat→Res) (d:Nat):mj pat (Cn ng rs++z) d=.ok (setR rs ng,z):=by
 have hal:=rP h;have e:Cn ng rs++z=[91]::((if ng=true then [[94]] else [])++(rs.flatMap qI++[93]::z)):=by unfold Cn;simp
 rw [e];have ha:∀r:List Str,mj pat ([91]::r) d=mY r:=fun r=>by simp [mj]
 rw [ha];obtain⟨f,s,fe,fh⟩:=ye rs z hal;have t94:lq [94] (rs.flatMap qI++[93]::z)=none:=by
  rw [fe];refine vp ?_;rcases fh with rfl|fh
  ·decide
  ·exact fh.2.1
 have hl:rs.length≤(rs.flatMap qI++[93]::z).length:=by
  clear fe fh t94 e h;induction rs with
  | nil=>simp
  | cons r rs ih =>
   obtain⟨f,s,fe,_⟩:=xL (hal r (JE ..));have:=ih (fun q hq=>hal q (JF _ hq))
   rw [Jz,fe];simp only [JA,Jr] at this ⊢;omega
 have run:∀k,rs.length<k→lV k [] (rs.flatMap qI++[93]::z)=some (rs,z):=fun k hk=>by rw [uy rs k [] z hal hk,JV]
 have hrun:=run _ (Nat.lt_succ_of_le hl);cases ng with
 | true =>
  have:=EO hrun
  rw [Bw h] at this;exact this
 | false =>
  have:=Hu t94 hrun
  rw [Bw h] at this;exact this
theorem At.charN {c:Str} (h:l5 c=true) (hl:c.length≤1000000):At (escC th1N c) (chrR c):=by
 obtain⟨_,h0⟩:=sK h;refine⟨escC_ok th1N h0 hl,?_,fun n z hz h1 h2=>?_⟩
 ·unfold escC
  iterate 5 (split;· exact⟨_,_,rfl,by decide,by decide⟩)
  split
  ·exact⟨_,_,rfl,by decide,by decide⟩
  ·rename_i hs
   exact⟨_,_,rfl,by rintro rfl;exact hs gR,by rintro rfl;exact hs gR⟩
 ·have esc:∀(c2:Str) (y:Rx),c2≠[98]→c2≠[66]→escM (c2::z)=.ok (y,z)→lZ (patF n) ([[92],c2]++z) 0=ma y z:=by
   intro c2 y h98 h66 he;refine tb ?_ ?_
   ·show ni ([92]::c2::z)=none
    simp [ni,lq,h98,h66]
   ·show mj (patF n) ([92]::c2::z) 0=_
    rw [←he];simp [mj]
  unfold escC;iterate 5 (split;· rename_i hc;rw [hc];exact esc _ _ gR gR rfl)
  split
  ·rename_i hs
   obtain⟨a1,a2,a3,a4,a5⟩:=xy h0 (th1_okN.1 _ (ux hs));exact esc c (chrR c) a4 a5 (by simp only [escM,a1,a2,a3])
  ·rename_i hs
   have ne:∀b:UInt8,th1N.contains b=true→c≠[b]:=by rintro b hb rfl;exact hs hb
   refine tb ?_ ?_
   ·show ni (c::z)=none
    simp only [ni,Jo (ne 94 gR),Jo (ne 36 gR),Jo (ne 92 gR)]
   ·show mj (patF n) (c::z) 0=_
    have hn:qZ c=false:=by
     unfold qZ;simp only [Bool.or_eq_false_iff,JJ];exact⟨⟨⟨⟨⟨⟨⟨ne 42 gR,ne 43 gR⟩,ne 63 gR⟩,ne 41 gR⟩,ne 123 gR⟩,ne 124 gR⟩,ne 94 gR⟩,ne 36 gR⟩
    simp only [mj,Jo (ne 46 gR),Jo (ne 40 gR),Jo (ne 91 gR),Jo (ne 92 gR),hn];rfl
theorem At.setN {ng:Bool} {rs:List Row} (h:oY rs=true) (ho:okC (Cn ng rs)):At (Cn ng rs) (setR rs ng):=by
 refine⟨ho,⟨_,_,rfl,by decide,by decide⟩,fun n z _ _ _=>tb ?_ (E2 h z _ 0)⟩;show ni ([91]::(_++z))=none
 simp [ni]
theorem Bk:∀(ks:List Rx),(∀x∈ks,oe x.tellN∧Rd0 (lA x.tellN) x∧x.kind≠0∧x.kind≠1)→(Rx.tellNL ks).length≤100000→oe (Rx.tellNL ks)∧Rd0 (lA (Rx.tellNL ks)) (seqR ks)
 | [],_,_=>⟨trivial,rd_nil⟩
 | x::r,h,hl=>by
  simp only [Rx.tellNL,JA] at hl ⊢;obtain⟨a1,a2,a3⟩:=h x (JE ..);have hr:=fun y hy=>h y (JF x hy)
  obtain⟨b1,b2⟩:=Bk r hr gN;have hT:InvT r:=fun y hy=>(hr y hy).2.2
  have l1:=oE x.tellN;have l2:=oE (Rx.tellNL r);refine⟨pL a1 b1,?_⟩;rw [md _ _ _ (Ju _) b1,←Hs a3 hT];exact⟨vG a2.1 b2.1,IN a2.1 b2.1 gN a2.2 b2.2 a3.2 (np hT).1⟩
theorem AR:∀(r:List Rx) (x:Rx),(∀y∈x::r,oe y.tellN∧Rd0 (lA y.tellN) y∧y.kind≠1)→(x.tellN++Rx.tellNA true r).length≤100000→oe (x.tellN++Rx.tellNA true r)∧Rd0 (lA (x.tellN++Rx.tellNA true r)) (altR (x::r))
 | [],x,h,_=>by
  obtain⟨a1,a2,a3⟩:=h x (JE ..);simp only [Rx.tellNA,J5];rw [oS a3];exact⟨a1,a2⟩
 | y::r,x,h,hl=>by
  obtain⟨a1,a2,a3⟩:=h x (JE ..);have hr:=fun z hz=>h z (JF x hz)
  have e:x.tellN++Rx.tellNA true (y::r)=x.tellN++124::(y.tellN++Rx.tellNA true r):=by simp [Rx.tellNA]
  rw [e] at hl ⊢;simp only [JA,Jr] at hl;obtain⟨b1,b2⟩:=AR r y hr iZ;have h124:oe (124::(y.tellN++Rx.tellNA true r)):=show lf 124=false by decide
  have l1:=oE x.tellN;have l2:=oE (y.tellN++Rx.tellNA true r);rw [JA] at l2;refine⟨pL a1 h124,?_⟩;have hA:InvA (y::r):=fun z hz=>(hr z hz).2.2
  have h1:InvA [x]:=fun z hz=>by rw [JY] at hz;rw [hz];exact a3
  have e2:altR [x,altR (y::r)]=altR (x::y::r):=by
   have:=Do h1 hA gU gU
   rw [oS a3] at this;exact this
  rw [md _ _ _ (Ju _) h124,show (124:UInt8)::(y.tellN++Rx.tellNA true r)=[124]++(y.tellN++Rx.tellNA true r) from rfl,md _ [124] _ (Ju _) b1,←e2];have e3:lA x.tellN++(lA [124]++lA (y.tellN++Rx.tellNA true r))=lA x.tellN++[124]::lA (y.tellN++Rx.tellNA true r):=rfl;rw [e3];refine⟨vG a2.1 ?_,Iy a2.1 b2.1 gN a2.2 b2.2⟩;intro p hp;rcases JC.1 hp with rfl|hp
  ·exact⟨by simp,by simp⟩
  ·exact b2.1 p hp
theorem vh {k:Int} (h:k=8∨k=9∨k=10∨k=11):oe (rxK k).tellN∧Rd0 (lA (rxK k).tellN) (rxK k):=by
 have ok1:∀l:List Str,(l.all fun p=>decide (p≠[]∧p.length≤1000))=true→okC l:=by
  intro l h p hp;have:=List.all_eq_true.1 h p hp
  simp only [Jj] at this;exact⟨this.1,by omega⟩
 rcases h with rfl|rfl|rfl|rfl
 ·exact⟨show lf 94=false by decide,ok1 [[94]] gR,rfl⟩
 ·exact⟨show lf 36=false by decide,ok1 [[36]] gR,rfl⟩
 ·exact⟨show lf 92=false by decide,ok1 [[92],[98]] gR,rfl⟩
 ·exact⟨show lf 92=false by decide,ok1 [[92],[66]] gR,rfl⟩
theorem yC:∀{ks:List Rx} {x:Rx},x∈ks→x.tellN.length≤(Rx.tellNL ks).length
 | [],_,h=>by cases h
 | y::r,x,h=>by
  simp only [Rx.tellNL,JA];rcases JC.1 h with rfl|h
  ·omega
  ·have:=yC h;omega
theorem yD:∀{ks:List Rx} {b:Bool} {x:Rx},x∈ks→x.tellN.length≤(Rx.tellNA b ks).length
 | [],_,_,h=>by cases h
 | y::r,b,x,h=>by
  simp only [Rx.tellNA,JA];rcases JC.1 h with rfl|h
  ·omega
  ·have:=yD (b:=true) h;omega
theorem zF:∀(N:Nat) (x:Rx),x.parts≤N→x.wf=true→x.deep≤16→x.tellN.length≤100000→oe x.tellN∧Rd0 (lA x.tellN) x∧(repB x.kind=true→At (lA x.tellN) x)
 | 0,x,h,_,_,_=>by have:=Rx.parts_pos x;omega
 | N+1,.mk k c ng rs lo hi lz ks,hp,hw,hd,hl=>by
  obtain⟨hf,hks⟩:=wf_mk hw;simp only [Rx.parts] at hp;have hdk:Rx.deepL ks≤16:=by simp only [Rx.deep] at hd;omega
  have IH:∀y∈ks,y.tellN.length≤100000→oe y.tellN∧Rd0 (lA y.tellN) y∧(repB y.kind=true→At (lA y.tellN) y):=fun y hy hyl=>by
   have:=Rx.parts_mem hy
   have:=AU hy
   exact zF N y gN (zu hks hy) gN hyl
  have fin:∀{l:List Str} {y:Rx},At l y→(y.kind≠0∧y.kind≠1)→l.length≤100000→Rd0 l y∧(repB y.kind=true→At l y):=fun h1 h2 h3=>⟨h1.rd h2 gN,fun _=>h1⟩
  have hsl:=oE (Rx.mk k c ng rs lo hi lz ks).tellN;rcases CV hf with rfl|rfl|rfl|rfl|rfl|rfl|rfl|rfl|rfl|rfl|rfl|rfl
  ·-- a sequence
   simp only [lI,Jo (show ¬(0:Int)=2 by decide),Jo (show ¬(0:Int)=4 by decide),Jo (show ¬(0:Int)=7 by decide),if_true,Jy,Jj] at hf;obtain⟨⟨hb,hn⟩,ha⟩:=hf;obtain⟨rfl,rfl,rfl,rfl,rfl,rfl⟩:=o8 hb;have hT:InvT ks:=fun y hy=>by have:=List.all_eq_true.1 ha y hy;simpa using this
   have e:(Rx.mk 0 [] false [] 0 0 false ks).tellN=Rx.tellNL ks:=by simp only [Rx.tellN,if_true]
   rw [e] at hl ⊢;obtain⟨g1,g2⟩:=Bk ks (fun y hy=>by obtain⟨i1,i2,_⟩:=IH y hy (by have:=yC hy;omega);exact⟨i1,i2,hT y hy⟩) hl;have e2:seqR ks=.mk 0 [] false [] 0 0 false ks:=by
    unfold seqR;rw [mT (fun y hy=>(hT y hy).1)];rcases ks with _|⟨a,_|⟨b,l⟩⟩
    ·rfl
    ·simp at hn
    ·rfl
   rw [e2] at g2;exact⟨g1,g2,fun h=>by cases h⟩
  ·-- alternatives
   simp only [lI,Jo (show ¬(1:Int)=2 by decide),Jo (show ¬(1:Int)=4 by decide),Jo (show ¬(1:Int)=7 by decide),Jo (show ¬(1:Int)=0 by decide),if_true,Jy,Jj] at hf;obtain⟨⟨hb,hn⟩,ha⟩:=hf;obtain⟨rfl,rfl,rfl,rfl,rfl,rfl⟩:=o8 hb;have hA:InvA ks:=fun y hy=>by have:=List.all_eq_true.1 ha y hy;simpa using this
   rcases ks with _|⟨a,_|⟨b,l⟩⟩
   ·simp at hn
   ·simp at hn
   ·have e:(Rx.mk 1 [] false [] 0 0 false (a::b::l)).tellN=a.tellN++Rx.tellNA true (b::l):=by simp only [Rx.tellN,Jo (show ¬(1:Int)=0 by decide),if_true,Rx.tellNA];simp
    have e0:(Rx.tellNA false (a::b::l)).length=(a.tellN++Rx.tellNA true (b::l)).length:=by simp only [Rx.tellNA];simp
    rw [e] at hl ⊢;obtain⟨g1,g2⟩:=AR (b::l) a (fun y hy=>by obtain⟨i1,i2,_⟩:=IH y hy (by have:=yD (b:=false) hy;omega);exact⟨i1,i2,hA y hy⟩) hl;have e2:altR (a::b::l)=.mk 1 [] false [] 0 0 false (a::b::l):=by
     unfold altR;rw [mT hA];rfl
    rw [e2] at g2;exact⟨g1,g2,fun h=>by cases h⟩
  ·-- a character
   simp only [lI,if_true,Jy,Jj] at hf;obtain⟨⟨hb,rfl⟩,hc⟩:=hf;obtain⟨_,rfl,rfl,rfl,rfl,rfl⟩:=o8 hb;have e:(Rx.mk 2 c false [] 0 0 false []).tellN=escL th1N c:=by simp only [Rx.tellN,Jo (show ¬(2:Int)=0 by decide),Jo (show ¬(2:Int)=1 by decide),if_true]
   rw [e] at hl hsl ⊢;obtain⟨s1,s2⟩:=xb th1N hc;rw [s1] at hsl ⊢;have hcl:c.length≤1000000:=by
    have:c.length≤(escL th1N c).length+1:=by unfold escL;(repeat' split)<;>simp_all<;>omega
    omega
   exact⟨s2,fin (At.charN hc hcl) ⟨by show (2:Int)≠0;decide,by show (2:Int)≠1;decide⟩ gN⟩
  ·-- any
   simp [lI] at hf
   obtain⟨hb,rfl⟩:=hf;obtain⟨rfl,rfl,rfl,rfl,rfl,rfl⟩:=o8 hb;exact⟨show lf 46=false by decide,fin At.any ⟨by show (3:Int)≠0;decide,by show (3:Int)≠1;decide⟩ gR⟩
  ·-- a class
   simp only [lI,Jo (show ¬(4:Int)=2 by decide),if_true,Jy,Jj] at hf;obtain⟨⟨hb,rfl⟩,hr⟩:=hf;obtain⟨rfl,_,_,rfl,rfl,rfl⟩:=o8 hb;have e:(Rx.mk 4 [] ng rs 0 0 false []).tellN=Bq ng rs:=by simp [Rx.tellN]
   rw [e] at hl hsl ⊢;obtain⟨s1,s2⟩:=E8 (ng:=ng) hr;have ho:okC (lA (Bq ng rs)):=tr gN;rw [s1] at hsl ho ⊢;exact⟨s2,fin (At.setN hr ho) ⟨by show (4:Int)≠0;decide,by show (4:Int)≠1;decide⟩ gN⟩
  ·-- a group
   simp [lI] at hf
   obtain⟨hb,hn⟩:=hf;obtain⟨rfl,rfl,rfl,rfl,rfl,rfl⟩:=o8 hb;rcases ks with _|⟨y,_|⟨b,l⟩⟩
   ·simp at hn
   ·have e:(Rx.mk 5 [] false [] 0 0 false [y]).tellN=opS false++(y.tellN++41::[]):=by simp [Rx.tellN,Rx.tellNL,opS]
    rw [e] at hl hsl ⊢;obtain⟨i1,i2,_⟩:=IH y (JE ..) jB;have s:=yi false i1 (t:=[]) trivial;rw [s] at hsl ⊢;have hyd:y.deep+1≤16:=by simp [Rx.deep,Rx.deepL] at hd;omega
    have hq:(wrp false (lA y.tellN)).length≤100000:=by
     have:(wrp false (lA y.tellN)).length=(opn false++(lA y.tellN++[41]::lA [])).length:=rfl
     rw [this];omega
    exact⟨show lf 40=false by decide,fin (At.grp i2 false hyd) ⟨by show (5:Int)≠0;decide,by show (5:Int)≠1;decide⟩ hq⟩
   ·simp at hn
  ·-- a bare group
   simp [lI] at hf
   obtain⟨hb,hn⟩:=hf;obtain⟨rfl,rfl,rfl,rfl,rfl,rfl⟩:=o8 hb;rcases ks with _|⟨y,_|⟨b,l⟩⟩
   ·simp at hn
   ·have e:(Rx.mk 6 [] false [] 0 0 false [y]).tellN=opS true++(y.tellN++41::[]):=by simp [Rx.tellN,Rx.tellNL,opS]
    rw [e] at hl hsl ⊢;obtain⟨i1,i2,_⟩:=IH y (JE ..) jB;have s:=yi true i1 (t:=[]) trivial;rw [s] at hsl ⊢;have hyd:y.deep+1≤16:=by simp [Rx.deep,Rx.deepL] at hd;omega
    have hq:(wrp true (lA y.tellN)).length≤100000:=by
     have:(wrp true (lA y.tellN)).length=(opn true++(lA y.tellN++[41]::lA [])).length:=rfl
     rw [this];omega
    exact⟨show lf 40=false by decide,fin (At.grp i2 true hyd) ⟨by show (6:Int)≠0;decide,by show (6:Int)≠1;decide⟩ hq⟩
   ·simp at hn
  ·-- a repeat
   simp only [lI,Jo (show ¬(7:Int)=2 by decide),Jo (show ¬(7:Int)=4 by decide),if_true,Jy,Jj] at hf;obtain⟨⟨hb,hk⟩,hbd⟩:=hf;obtain⟨rfl,rfl,rfl,_,_,_⟩:=o8 hb;rcases ks with _|⟨y,_|⟨b,l⟩⟩
   ·cases hk
   ·have e:(Rx.mk 7 [] false [] lo hi lz [y]).tellN=y.tellN++(oftS lo hi++lzS lz):=by simp [Rx.tellN,Rx.tellNL,lzS]
    rw [e] at hl hsl ⊢;obtain⟨i1,i2,i3⟩:=IH y (JE ..) jB;obtain⟨q1,q2⟩:=Gz lz y hbd;have s:=md _ y.tellN (oftS lo hi++lzS lz) (Ju _) q2;rw [s] at hsl ⊢;have ho:okC (lA (oftS lo hi++lzS lz)):=tr (by rw [JA] at hl;omega);exact⟨pL i1 q2,(i3 hk).quant ho q1 ⟨by show (7:Int)≠0;decide,by show (7:Int)≠1;decide⟩ gN,fun h=>by cases h⟩
   ·cases hk
  all_goals
   simp [lI] at hf
   obtain⟨hb,rfl⟩:=hf;obtain⟨rfl,rfl,rfl,rfl,rfl,rfl⟩:=o8 hb
  ·obtain⟨g1,g2⟩:=vh (k:=8) gR;exact⟨g1,g2,fun h=>by cases h⟩
  ·obtain⟨g1,g2⟩:=vh (k:=9) gR;exact⟨g1,g2,fun h=>by cases h⟩
  ·obtain⟨g1,g2⟩:=vh (k:=10) gR;exact⟨g1,g2,fun h=>by cases h⟩
  ·obtain⟨g1,g2⟩:=vh (k:=11) gR;exact⟨g1,g2,fun h=>by cases h⟩
def Sp (p q:Str):Prop:=∀z a,rxSp (p++z) a=rxSp z (a++q)
theorem uL:Sp [] []:=fun z a=>by simp
theorem m8 {p q p' q':Str} (h:Sp p q) (h':Sp p' q'):Sp (p++p') (q++q'):=fun z a=>by
 rw [J3,h,h',J3]
theorem uJ {c:UInt8} (h1:c.toNat≠47) (h2:c.toNat≠92):Sp [c] [c]:=fun z a=>by
 cases z with
 | nil=>simp [rxSp,h1]
 | cons d r=>simp [rxSp,h1,h2]
theorem Bt (d:UInt8):Sp [92,d] (if d.toNat=47 then [d] else [92,d]):=fun z a=>by
 show rxSp (92::d::z) a=_
 simp only [rxSp];rw [Jo gR,Jl gR];split<;>rfl
theorem uT:∀{p:Str},(∀c∈p,c.toNat≠47∧c.toNat≠92)→Sp p p
 | [],_=>uL
 | c::_,h=>m8 (p:=[c]) (q:=[c]) (uJ (h c (JE ..)).1 (h c (JE ..)).2) (uT fun d hd=>h d (JF _ hd))
theorem Co {th thN:Str} (h0:∀b:UInt8,th.contains b=(thN.contains b||decide (b.toNat=47))) (h1:thN.contains 47=false) (h2:thN.contains 92=true) {c:Str} (hc:l5 c=true):Sp (escL th c) (escL thN c):=by
 cases c with
 | nil=>cases hc
 | cons b r =>
  have hr:∀x∈r,lf x=true:=by
   have:(!lf b&&r.all lf)=true:=hc
   exact List.all_eq_true.1 (Bool.and_eq_true_iff.1 this).2
  have pr:Sp r r:=uT fun x hx=>by
   have:=hr x hx
   simp only [lf,Jj] at this;omega
  unfold escL;iterate 5 (split;· exact Bt _)
  by_cases h47:b.toNat=47
  ·have hb:b=47:=Jk.1 h47
   subst hb;have e1:th.contains (List.headD (47::r) 0)=true:=by rw [h0];simp
   have e2:¬thN.contains (List.headD (47::r) 0)=true:=fun e=>by rw [show List.headD (47::r) 0=(47:UInt8) from rfl,h1] at e;cases e
   rw [Jl e1,Jo e2];exact m8 (Bt 47) pr
  ·by_cases hN:thN.contains (List.headD (b::r) 0)=true
   ·have e1:th.contains (List.headD (b::r) 0)=true:=by rw [h0,hN];rfl
    rw [Jl e1,Jl hN];have:=Bt b
    rw [Jo h47] at this;exact m8 this pr
   ·have hN':thN.contains b=false:=Bool.eq_false_iff.2 hN
    have e1:¬th.contains (List.headD (b::r) 0)=true:=fun e=>by rw [show List.headD (b::r) 0=b from rfl,h0,hN',JT h47] at e;cases e
    rw [Jo e1,Jo hN];refine m8 (p:=[b]) (q:=[b]) (uJ h47 fun e=>?_) pr;rw [show b=92 from Jk.1 e,h2] at hN';cases hN'
theorem IG (b:UInt8):th1.contains b=(th1N.contains b||decide (b.toNat=47)):=by
 rw [Bool.eq_iff_iff];simp only [th1,th1N,List.contains_cons,Js,Ji,Jj,←Jk,List.contains_nil,J1,JL];simp;omega
theorem BS (b:UInt8):th2.contains b=(th2N.contains b||decide (b.toNat=47)):=by
 rw [Bool.eq_iff_iff];simp only [th2,th2N,List.contains_cons,Js,Ji,Jj,←Jk,List.contains_nil,J1,JL];simp;omega
theorem sp_row {r:Row} (h:rowB r=true):Sp (rowS r) (wG r):=by
 obtain⟨h1,h2,_⟩:=pj h;unfold rowS wG;refine m8 (Co BS gR gR h1) ?_;split
 ·exact uL
 ·exact m8 (p:=[45]) (q:=[45]) (uJ gR gR) (Co BS gR gR h2)
theorem F0:∀{rs:List Row},(∀r∈rs,rowB r=true)→Sp (rs.flatMap rowS) (rs.flatMap wG)
 | [],_=>uL
 | r::rs,h=>by
  simp only [Jz];exact m8 (sp_row (h r (JE ..))) (F0 fun x hx=>h x (JF _ hx))
theorem sp_set {ng:Bool} {rs:List Row} (h:oY rs=true):Sp (setS ng rs) (Bq ng rs):=by
 unfold setS Bq;refine m8 (p:=[91]) (q:=[91]) (uJ gR gR) (m8 ?_ (m8 (F0 (rP h)) (uJ gR gR)));split
 ·exact uJ gR gR
 ·exact uL
theorem Dg (n:Int):Sp (dec n) (dec n):=uT fun c hc=>by
 have h1:isD c:=(decD n.toNat).1 c hc;unfold isD at h1;omega
theorem sp_oft (lo hi:Int):Sp (oftS lo hi) (oftS lo hi):=by
 have o:∀c:UInt8,c.toNat≠47∧c.toNat≠92→Sp [c] [c]:=fun c h=>uJ h.1 h.2
 unfold oftS;split;· exact o _ gR
 split;· exact o _ gR
 split;· exact o _ gR
 split;· exact m8 (o 123 gR) (m8 (Dg _) (o 125 gR))
 split;· exact m8 (o 123 gR) (m8 (Dg _) (m8 (p:=[44]) (q:=[44]) (o 44 gR) (o 125 gR)))
 exact m8 (o 123 gR) (m8 (Dg _) (m8 (p:=[44]) (q:=[44]) (o 44 gR) (m8 (Dg _) (o 125 gR))))
theorem CM:∀(N:Nat) (x:Rx),x.parts≤N→x.wf=true→Sp x.tell x.tellN
 | 0,x,h,_=>by have:=Rx.parts_pos x;omega
 | N+1,.mk k c ng rs lo hi lz ks,hp,hw=>by
  have o:∀c:UInt8,c.toNat≠47∧c.toNat≠92→Sp [c] [c]:=fun c h=>uJ h.1 h.2
  obtain⟨hf,hks⟩:=wf_mk hw;simp only [Rx.parts] at hp;have IH:∀y∈ks,Sp y.tell y.tellN:=fun y hy=>by
   have:=Rx.parts_mem hy
   exact CM N y gN (zu hks hy)
  have L:∀l:List Rx,(∀y∈l,Sp y.tell y.tellN)→Sp (Rx.tellL l) (Rx.tellNL l):=by
   intro l;induction l with
   | nil=>intro _;simp only [Rx.tellL,Rx.tellNL];exact uL
   | cons y l ih =>
    intro h;simp only [Rx.tellL,Rx.tellNL];exact m8 (h y (JE ..)) (ih fun z hz=>h z (JF _ hz))
  have A:∀(l:List Rx) (b:Bool),(∀y∈l,Sp y.tell y.tellN)→Sp (Rx.tellA b l) (Rx.tellNA b l):=by
   intro l;induction l with
   | nil=>intro _ _;simp only [Rx.tellA,Rx.tellNA];exact uL
   | cons y l ih =>
    intro b h;simp only [Rx.tellA,Rx.tellNA];refine m8 ?_ (m8 (h y (JE ..)) (ih true fun z hz=>h z (JF _ hz)));split
    ·exact o _ gR
    ·exact uL
  have lL:=L ks IH;rw [Rx.tell,Rx.tellN];by_cases k0:k=0
  ·rw [Jl k0,Jl k0];exact lL
  rw [Jo k0,Jo k0];by_cases k1:k=1
  ·rw [Jl k1,Jl k1];exact A ks false IH
  rw [Jo k1,Jo k1];by_cases k2:k=2
  ·rw [Jl k2,Jl k2]
   subst k2;simp only [lI,if_true,Jy,Jj] at hf;exact Co IG gR gR hf.2
  rw [Jo k2,Jo k2];by_cases k3:k=3
  ·rw [Jl k3,Jl k3];exact o _ gR
  rw [Jo k3,Jo k3];by_cases k8:k=8
  ·rw [Jl k8,Jl k8];exact o _ gR
  rw [Jo k8,Jo k8];by_cases k9:k=9
  ·rw [Jl k9,Jl k9];exact o _ gR
  rw [Jo k9,Jo k9];by_cases k10:k=10
  ·rw [Jl k10,Jl k10];have:=Bt 98;rwa [Jo gR] at this
  rw [Jo k10,Jo k10];by_cases k11:k=11
  ·rw [Jl k11,Jl k11];have:=Bt 66;rwa [Jo gR] at this
  rw [Jo k11,Jo k11];by_cases k4:k=4
  ·rw [Jl k4,Jl k4]
   subst k4;simp only [lI,Jo (show ¬(4:Int)=2 by decide),if_true,Jy,Jj] at hf;exact sp_set hf.2
  rw [Jo k4,Jo k4];by_cases k5:k=5
  ·rw [Jl k5,Jl k5];exact m8 (p:=[40]) (q:=[40]) (o 40 gR) (m8 lL (o 41 gR))
  rw [Jo k5,Jo k5];by_cases k6:k=6
  ·rw [Jl k6,Jl k6];exact m8 (p:=[40,63,58]) (q:=[40,63,58]) (uT gR) (m8 lL (o 41 gR))
  rw [Jo k6,Jo k6];refine m8 lL (m8 (sp_oft _ _) ?_);split
  ·exact o _ gR
  ·exact uL
theorem s7:∀(r a:Str),(rxSp r a).1.length≤a.length+r.length
 | [],a=>by simp [rxSp]
 | [c],a=>by simp only [rxSp];split<;>simp
 | c::d::r,a=>by
  simp only [rxSp];split
  ·simp
  ·split
   ·have:=s7 r (if d.toNat=47 then a++[d] else a++[92,d])
    have e:(if d.toNat=47 then a++[d] else a++[92,d]).length≤a.length+2:=by split<;>simp
    simp only [Jr];omega
   ·have:=s7 (d::r) (a++[c])
    exact cC
theorem Sp.len {p q:Str} (h:Sp p q):q.length≤p.length:=by
 have h1:=h [] [];have h2:=s7 (p++[]) [];rw [h1] at h2;simpa [rxSp] using h2
theorem DA {p q:Str} (h:Sp p q) (z:Str):rxSp (p++47::z) []=(q,47::z):=by
 rw [h];cases z with
 | nil=>simp [rxSp]
 | cons d r=>simp [rxSp]
def vA (f:Tf):Str:=(if f.all=true then [103] else [])++(if f.fold=true then [105] else [])
def pH (f:Tf):Str:=47::(f.rx.tell++47::(mN f.fs++47::vA f))
theorem AM (f:Tf) (r:Str):tC f.rx f.fs (vA f++125::r)=some (f,r):=by
 obtain⟨x,fs,fd,al⟩:=f;unfold tC vA;have e:∀l:Str,(∀c∈l,mV c=true)→(l++125::r).takeWhile mV=l∧(l++125::r).dropWhile mV=125::r:=fun l h=>De h r
 cases al<;>cases fd
 ·obtain⟨a,b⟩:=e [] gR;simp only [J1,if_false,J5];rw [a,b];rfl
 ·obtain⟨a,b⟩:=e [105] gR;simp only [J1,if_false,if_true,JV];rw [a,b];rfl
 ·obtain⟨a,b⟩:=e [103] gR;simp only [J1,if_false,if_true,J5];rw [a,b];rfl
 ·obtain⟨a,b⟩:=e [103,105] gR;simp only [if_true,JW,JV] at a b ⊢;rw [a,b];rfl
def pK (k:Int) (t:Str) (n:Int):Str:=if k=3 then t else dec n
namespace Sn
mutual
def tell:Sn→Str
 | mk k t n h u f o ks =>
  if k=0 then quot three t
  else if k=2 then 36::123::(dec n++124::(pb o++[124,125]))
  else 36::123::(pK k t n++((if h=true then 58::tellL ks else [])++((if u=true then pH f else [])++[125])))
def tellL:List Sn→Str
 | []=>[]
 | x::r=>tell x++tellL r
end
mutual
def short:Sn→Bool
 | mk _ _ _ _ u f _ ks=>(!u||decide (f.rx.tell.length≤256))&&shortL ks
def shortL:List Sn→Bool
 | []=>true
 | x::r=>short x&&shortL r
end
end Sn
theorem rxZ_eq {x:Rx} (h:rxZ x=true):x=rx0:=by
 obtain⟨k,c,ng,rs,lo,hi,lz,ks⟩:=x;simp only [rxZ,Jy,Jj,List.isEmpty_iff,J9] at h;obtain⟨rfl,rfl,rfl,rfl,rfl,rfl,rfl,rfl⟩:=h;rfl
theorem Dw {f:Tf} (h:tfZ f=true):f=tf0:=by
 obtain⟨x,fs,fd,al⟩:=f;simp only [tfZ,Jy,List.isEmpty_iff,J9] at h;obtain⟨h1,rfl,rfl,rfl⟩:=h;rw [rxZ_eq h1];rfl
theorem xJ (k:Int) (t:Str) (n:Int) (h u:Bool) (f:Tf) (o:List Str) (ks:List Sn):lT (.mk k t n h u f o ks)=if h=true then(if u=true then false else tfZ f) else if u=true then ks.isEmpty&&oZ f else(!h&&(!u&&(ks.isEmpty&&tfZ f))):=rfl
theorem wN (k:Int) (t:Str) (n:Int) (h u:Bool) (f:Tf) (o:List Str) (ks:List Sn):mB (.mk k t n h u f o ks) =
  if k=0 then !t.isEmpty&&(decide (n=0)&&(o.isEmpty&&(!h&&(!u&&(ks.isEmpty&&tfZ f)))))
  else if k=1 then t.isEmpty&&(decide (0≤n∧n≤9999)&&(o.isEmpty&&lT (.mk k t n h u f o ks)))
  else if k=2 then t.isEmpty&&(decide (0≤n∧n≤9999)&&(!o.isEmpty&&(!h&&(!u&&(ks.isEmpty&&tfZ f)))))
  else if k=3 then oR t&&(decide (n=0)&&(o.isEmpty&&lT (.mk k t n h u f o ks)))
  else false:=rfl
theorem text_of {x:Sn} (h:x.wf=true) (hk:x.kind=0):x=pM x.text∧x.text≠[]:=by
 obtain⟨k,t,n,hs,u,f,o,ks⟩:=x;simp only [Sn.kind] at hk;subst hk;rw [Sn.wf,wN,Jl rfl] at h;simp only [Jy,Jj,List.isEmpty_iff,J9] at h;obtain⟨⟨h1,rfl,rfl,rfl,rfl,rfl,h2⟩,_⟩:=h;rw [Dw h2];refine⟨rfl,fun e=>?_⟩;rw [show t=[] from e] at h1;cases h1
theorem Ic {x:Sn} (h:x.wf=true) (hk:x.kind≠0):(∃y,Hd y∧(x=y∨(∃ks,adjS false ks=true∧Sn.wfL ks=true∧x=y.give ks)∨∃f,oZ f=true∧x=y.turn f))∨∃n o l,n≤9999∧x=(no n).choose (o::l):=by
 obtain⟨k,t,n,hs,u,f,o,ks⟩:=x;simp only [Sn.kind] at hk;rw [Sn.wf,Jy,wN,Jo hk] at h;obtain⟨h1,h2⟩:=h;have bes:∀{y:Sn},(y=.mk k t n false false tf0 [] [])→Hd y→o=[]→lT (.mk k t n hs u f o ks)=true →
   Sn.mk k t n hs u f o ks=y∨(∃ks',adjS false ks'=true∧Sn.wfL ks'=true∧Sn.mk k t n hs u f o ks=y.give ks')∨∃f',oZ f'=true∧Sn.mk k t n hs u f o ks=y.turn f':=by
  intro y hy hd ho hb;subst ho;rw [xJ] at hb;cases hs<;>cases u
  ·simp only [J1,if_false,Bool.not_false,JG,Jy,List.isEmpty_iff] at hb
   obtain⟨rfl,hz⟩:=hb;exact .inl (by rw [hy,Dw hz])
  ·simp only [J1,if_false,if_true,Jy,List.isEmpty_iff] at hb
   obtain⟨rfl,hz⟩:=hb;exact .inr (.inr ⟨f,hz,by rw [hy];rfl⟩)
  ·simp only [J1,if_false,if_true] at hb
   simp only [Bool.not_true,Bool.false_or,Jy] at h2;exact .inr (.inl ⟨ks,h2.1,h2.2,by rw [hy,Dw hb];rfl⟩)
  ·simp at hb
 by_cases k1:k=1
 ·subst k1
  rw [Jl rfl] at h1;simp only [Jy,List.isEmpty_iff,Jj] at h1;obtain⟨rfl,hn,rfl,hb⟩:=h1;have hd:Hd (no n.toNat):=.inl ⟨n.toNat,by omega,rfl⟩;exact .inl ⟨_,hd,bes (by unfold no;rw [Int.toNat_of_nonneg hn.1]) hd rfl hb⟩
 rw [Jo k1] at h1;by_cases k2:k=2
 ·subst k2
  rw [Jl rfl] at h1;simp only [Jy,List.isEmpty_iff,Jj,J9] at h1;obtain⟨rfl,hn,ho,rfl,rfl,rfl,hz⟩:=h1;cases o with
  | nil=>cases ho
  | cons a l=>exact .inr ⟨n.toNat,a,l,by omega,by rw [Dw hz];unfold no;rw [Int.toNat_of_nonneg hn.1];rfl⟩
 rw [Jo k2] at h1;by_cases k3:k=3
 ·subst k3
  rw [Jl rfl] at h1;simp only [Jy,List.isEmpty_iff,Jj] at h1;obtain⟨hn,rfl,rfl,hb⟩:=h1;have hd:Hd (varS t):=.inr ⟨t,hn,rfl⟩;exact .inl ⟨_,hd,bes rfl hd rfl hb⟩
 ·rw [Jo k3] at h1;cases h1
def tT (p:List Sn × Str) (x:Sn):List Sn × Str:=if x.kind=0 then(p.1,p.2++x.text) else(lO p.1 p.2++[x],[])
def nI (p:List Sn × Str) (l:List Sn):List Sn × Str:=l.foldl tT p
theorem sv:∀(l:List Sn) (out:List Sn) (text:Str),adjS (!text.isEmpty) l=true→Sn.wfL l=true→lO (nI (out,text) l).1 (nI (out,text) l).2=lO out text++l
 | [],out,text,_,_=>by simp [nI]
 | x::r,out,text,ha,hw=>by
  simp only [adjS,Jy] at ha;simp only [Sn.wfL,Jy] at hw;simp only [nI,JQ];by_cases hk:x.kind=0
  ·obtain⟨hx,hne⟩:=text_of hw.1 hk
   have ht:text=[]:=by
    have:=ha.1
    simp [hk] at this
    exact this
   subst ht;have he:tT (out,[]) x=(out,x.text):=by simp [tT,hk]
   rw [he];have ih:=sv r out x.text (by
    have h2:=ha.2;rw [JR hk] at h2;have:x.text.isEmpty=false:=by cases hc:x.text with|nil=>exact absurd hc hne|cons a b=>rfl
    rw [this];exact h2) hw.2
   unfold nI at ih;rw [ih];unfold lO;rw [Jo hne,Jl rfl,J3];conv=>rhs;rw [hx]
   rfl
  ·have he:tT (out,text) x=(lO out text++[x],[]):=by simp [tT,hk]
   rw [he];have ih:=sv r (lO out text++[x]) [] (by have h2:=ha.2;rw [JT hk] at h2;exact h2) hw.2;unfold nI at ih;rw [ih];simp [lO]
theorem Gy {y:Sn} (h:Hd y) {c:UInt8} (h1:ny c=false) (r:Str):nD (pK y.kind y.text y.n++c::r)=some (y,c::r):=by
 have hd:¬digU8 c:=by
  intro hd;unfold ny at h1;simp only [Bool.or_eq_false_iff,JJ] at h1;exact h1.1.2 hd
 rcases h with⟨n,hn,rfl⟩|⟨t,ht,rfl⟩
 ·exact yR hn (by rintro c' t e;injection e with e _;subst e;exact hd)
 ·have e:pK (varS t).kind (varS t).text (varS t).n=t:=rfl
  rw [e];cases t with
  | nil=>cases ht
  | cons a b =>
   have ht':=ht;simp only [oR,Jy,Jj] at ht';rw [GY (List.all_eq_true.1 ht'.1.2) (by unfold digU8;omega) (by rintro c' t e;injection e with e _;subst e;exact h1),Jl ht]
theorem qL:∀{l:List Sn},Sn.wfL l=true→∀x∈l,x.wf=true
 | [],_,x,h=>by simp at h
 | y::r,hs,x,h=>by
  simp only [Sn.wfL,Jy] at hs;rcases JC.1 h with rfl|h
  ·exact hs.1
  ·exact qL hs.2 x h
theorem FV {x:Sn} (hk:x.kind=0):x.tell=quot three x.text:=by
 obtain⟨k,t,n,hs,u,f,o,ks⟩:=x;simp only [Sn.kind] at hk;subst hk;simp [Sn.tell,Sn.text]
open Go.RowKit
def SqRel (B g:Nat) (th l acc0:Str) (w0:World) (R:Str) (q:Value) (wr:World):Prop :=
 ∃(i:Nat) (acc:Str),i≤l.length∧q=.int .i64 i∧Bld B g acc wr∧Fr B [g] [5] w0 wr∧acc.length≤acc0.length+2*i∧Hid (acc++quot th (l.drop i)=R)
theorem tY (B g:Nat) (l th acc0:Str) (w:World) (hbl0:Bld B g acc0 w) (hs:l.length≤1000000) (ha:acc0.length≤20000000) (hB0:B≤w.heap.size) :
  Calls Tryz.prog 31 #[.pointer (some ⟨g,0,none⟩),.string ⟨l.toArray⟩,.string ⟨th.toArray⟩] w fun e w'=>e=.returned (.tuple #[])∧Bld B g (acc0++quot th l) w'∧Fr B [g] [5] w w':=by
 obtain⟨R,hR⟩:∃R,acc0++quot th l=R:=⟨_,rfl⟩;rw [hR];have HR0:Hid (acc0++quot th (l.drop 0)=R):=ab hR;have HBL0:=ab hbl0;clear hR hbl0;go_enter Tryz.func31,Tryz.ntmps31
 go_wp2
 go_loopw [6] (fun q wr=>SqRel B g th l acc0 w R q wr) (fun q _=>l.length-(intOf q).toNat)
 case atStart=>exact⟨0,acc0,by omega,rfl,HBL0.out,Fr.refl _ _ _ _,by omega,HR0⟩
 case round =>
  obtain⟨i,acc,hi,rfl,hbl,hfr,hacc,HF⟩:=hrel;clear HR0 HBL0;have hBr:B≤wr.heap.size:=Jv hB0 hfr.size;cases hd:l.drop i with
  | nil =>
   have h2:=ms hd;have HF':Hid (acc=R):=ab (by rw [←HF.out,hd];simp [quot]);exact dN
  | cons c r =>
   obtain⟨h2,h3,hr⟩:=lG hd;have HF':Hid (acc++((if th.contains c=true then [92,c] else [c])++quot th r)=R):=ab iE;have Hr:=ab hr;have hc256:=u8_lt c;have HFR:=ab hfr;clear hd HF hr hfr;by_cases hc:th.contains c=true
   ·obtain⟨k,hk⟩:=zn hc
    have HK:=ab hk;have HC:=ab hc;clear hk hc;go_wp2_with (first|(go_at_call 47;refine(lX _ HK.out).mono ?_;rintro e w1 ⟨rfl,rfl⟩)|(go_at_call 34;refine(lv B _ (acc) (92) _ hbl ia gN gN gN).mono ?_))
    first|rintro e w2 rfl hbl2 hfr2|rintro e w2 ⟨rfl,hbl2,hfr2⟩
    have hB2:B≤w2.heap.size:=Jv hBr hfr2.size;go_wp2_with (go_at_call 34;refine(lv B _ (acc++[92]) ((c.toNat:Int)) _ hbl2 ia gN gN gN).mono ?_)
    first|rintro e w3 rfl hbl3 hfr3|rintro e w3 ⟨rfl,hbl3,hfr3⟩
    go_wp2_with fail
    go_roundw
    case rel =>
     refine⟨i+1,acc++[92,c],by omega,by go_num,?_,(HFR.out.trans hfr2).trans hfr3,by simp;omega,ab ?_⟩
     ·simpa using hbl3
     ·rw [Hr.out,←HF'.out,Jl HC.out];simp
    case measure=>simp [intOf];omega
   ·have hk:=vq hc
    have HK:=ab hk;have HC:=ab hc;clear hk hc;go_wp2_with (first|(go_at_call 47;refine(lX _ HK.out).mono ?_;rintro e w1 ⟨rfl,rfl⟩)|(go_at_call 34;refine(lv B _ (acc) ((c.toNat:Int)) _ hbl ia gN gN gN).mono ?_))
    first|rintro e w2 rfl hbl2 hfr2|rintro e w2 ⟨rfl,hbl2,hfr2⟩
    go_wp2_with fail
    go_roundw
    case rel =>
     refine⟨i+1,acc++[c],by omega,by go_num,?_,HFR.out.trans hfr2,by simp;omega,ab ?_⟩
     ·simpa using hbl2
     ·rw [Hr.out,←HF'.out,Jo HC.out];simp
    case measure=>simp [intOf];omega
def Tf.tiny (f:Tf):Prop:=f.small∧f.fs.length≤1000∧(∀g∈f.fs,g.thn.length≤10000∧g.els.length≤10000)∧f.rx.tell.length≤1000000∧(mN f.fs).length≤1000000
theorem GL (S:Nat→Prop) (f:Tf) (hti:f.tiny) (hm:oZ f=true) (fc:List Value) (w:World) (hv:TfV w S fc f) (ht:Tab w) :
  Calls Tryz.prog 50 #[.agg fc.toArray] w fun e w'=>e=.returned (.tuple #[.string ⟨(pH f).toArray⟩,.int .i64 0])∧Below w.heap.size w w':=by
 obtain⟨rk,rch,rng,rrs,rlo,rhi,rlz,rks,ra,rcp,rka,rkc,fa,fcp,hc⟩:=hv.open_;obtain⟨W0,hW0⟩:∃W0,W0=w.alloc (.cells fc.toArray 41):=⟨_,rfl⟩;have hb0:Below w.heap.size w W0:=by rw [hW0];exact(Below.refl _ _).alloc (Ju _) _
 have HB1:Hid (W0.heap[w.heap.size]?=some (.cells fc.toArray 41 (0,0))):=ab iy;have HFL:=ab hv.len;have HMY:=ab (Dp S f hti.1 fc W0 (hv.keep (Kept.all hb0)));rw [hm] at HMY;have HT0:=ab (ht.keep hb0);have HW0:=ab hW0;obtain⟨X,fs,fd,al⟩:=f;obtain⟨⟨hx,hp,hfs⟩,t2,t3,t4,t5⟩:=hti;have hx1:X=.mk rk rch rng rrs rlo rhi rlz rks:=hc.rx;have hfce:fc=[.int .i64 rk,.string ⟨rch.toArray⟩,.bool rng,.slice ra rrs.length rcp,.int .i64 rlo,.int .i64 rhi,.bool rlz,.slice rka rks.length rkc,.slice fa fs.length fcp,.bool fd,.bool al]:=hc.eq;have HXV:Hid (RxV W0 S [.int .i64 rk,.string ⟨rch.toArray⟩,.bool rng,.slice ra rrs.length rcp,.int .i64 rlo,.int .i64 rhi,.bool rlz,.slice rka rks.length rkc] X):=ab (hx1▸hc.rv.later hb0);have HFS:Hid (SlS W0 S fa 5 fs.length (mu fs)):=ab (hc.fv.keep (Kept.all hb0));have hm2:(mayB X&&uN fs)=true:=hm;rw [Jy] at hm2;have HMX:=ab hm2.1;have HMF:=ab hm2.2;have HPP:=ab hp;have HXS:=ab hx;have hTL:X.tell.length≤1000000:=t4;have hTF:(mN fs).length≤1000000:=t5;have HTL:Hid (X.tell.length≤10000000):=ab gN;have HG:Hid (∀g∈fs,g.thn.length≤10000∧g.els.length≤10000):=ab t3;have HFN:Hid (fs.length≤1000):=ab t2;have HFO:Hid (pH ⟨X,fs,fd,al⟩=47::(X.tell++47::(mN fs++47::((if al=true then [103] else [])++(if fd=true then [105] else []))))):=ab rfl;have HFCE:=ab hfce;clear hv hc hx hx1 hW0 hp hfs hm hm2 t2 t3 t4 t5 ht hfce;cases al with
 | true =>
  cases fd with
  | true =>
   go_enter Tryz.func50,Tryz.ntmps50
   go_upto_region 1 with fail
   rw [←HW0.out];clear HW0;go_wp2_with (first
    | (refine kV rfl 41 (.tmp 1) rfl w.heap.size 0 rfl fc _ (lc (ds:=[]) iQ) mG rfl kz ?_)
    | (go_at_call 67;refine HMY.out.mono ?_))
   first|rintro e w1 rfl hb1|rintro e w1 ⟨rfl,hb1⟩
   have HX1:=ab ((hb1.block _ (kT HB1.out)).trans HB1.out);have HRX:=ab (s9 S X _ w1 HPP.out HXS.out (HXV.out.later hb1) (HT0.out.keep hb1) HMX.out HTL.out);go_wp2_with (first
    | (refine kV rfl 38 (.tmp 13) rfl w.heap.size 0 rfl [.int .i64 rk,.string ⟨rch.toArray⟩,.bool rng,.slice ra rrs.length rcp,.int .i64 rlo,.int .i64 rhi,.bool rlz,.slice rka rks.length rkc] _ (lc (ds:=[.slice fa fs.length fcp,.bool true,.bool true]) (HFCE.out▸HX1.out)) mb rfl iB ?_)
    | (go_at_call 23;refine HRX.out.mono ?_))
   exact aH
  | false =>
   go_enter Tryz.func50,Tryz.ntmps50
   go_upto_region 1 with fail
   rw [←HW0.out];clear HW0;go_wp2_with (first
    | (refine kV rfl 41 (.tmp 1) rfl w.heap.size 0 rfl fc _ (lc (ds:=[]) iQ) mG rfl kz ?_)
    | (go_at_call 67;refine HMY.out.mono ?_))
   first|rintro e w1 rfl hb1|rintro e w1 ⟨rfl,hb1⟩
   have HX1:=ab ((hb1.block _ (kT HB1.out)).trans HB1.out);have HRX:=ab (s9 S X _ w1 HPP.out HXS.out (HXV.out.later hb1) (HT0.out.keep hb1) HMX.out HTL.out);go_wp2_with (first
    | (refine kV rfl 38 (.tmp 13) rfl w.heap.size 0 rfl [.int .i64 rk,.string ⟨rch.toArray⟩,.bool rng,.slice ra rrs.length rcp,.int .i64 rlo,.int .i64 rhi,.bool rlz,.slice rka rks.length rkc] _ (lc (ds:=[.slice fa fs.length fcp,.bool false,.bool true]) (HFCE.out▸HX1.out)) mb rfl iB ?_)
    | (go_at_call 23;refine HRX.out.mono ?_))
   exact aH
 | false =>
  cases fd with
  | true =>
   go_enter Tryz.func50,Tryz.ntmps50
   go_upto_region 1 with fail
   rw [←HW0.out];clear HW0;go_wp2_with (first
    | (refine kV rfl 41 (.tmp 1) rfl w.heap.size 0 rfl fc _ (lc (ds:=[]) iQ) mG rfl kz ?_)
    | (go_at_call 67;refine HMY.out.mono ?_))
   first|rintro e w1 rfl hb1|rintro e w1 ⟨rfl,hb1⟩
   have HX1:=ab ((hb1.block _ (kT HB1.out)).trans HB1.out);have HRX:=ab (s9 S X _ w1 HPP.out HXS.out (HXV.out.later hb1) (HT0.out.keep hb1) HMX.out HTL.out);go_wp2_with (first
    | (refine kV rfl 38 (.tmp 13) rfl w.heap.size 0 rfl [.int .i64 rk,.string ⟨rch.toArray⟩,.bool rng,.slice ra rrs.length rcp,.int .i64 rlo,.int .i64 rhi,.bool rlz,.slice rka rks.length rkc] _ (lc (ds:=[.slice fa fs.length fcp,.bool true,.bool false]) (HFCE.out▸HX1.out)) mb rfl iB ?_)
    | (go_at_call 23;refine HRX.out.mono ?_))
   exact aH
  | false =>
   go_enter Tryz.func50,Tryz.ntmps50
   go_upto_region 1 with fail
   rw [←HW0.out];clear HW0;go_wp2_with (first
    | (refine kV rfl 41 (.tmp 1) rfl w.heap.size 0 rfl fc _ (lc (ds:=[]) iQ) mG rfl kz ?_)
    | (go_at_call 67;refine HMY.out.mono ?_))
   first|rintro e w1 rfl hb1|rintro e w1 ⟨rfl,hb1⟩
   have HX1:=ab ((hb1.block _ (kT HB1.out)).trans HB1.out);have HRX:=ab (s9 S X _ w1 HPP.out HXS.out (HXV.out.later hb1) (HT0.out.keep hb1) HMX.out HTL.out);go_wp2_with (first
    | (refine kV rfl 38 (.tmp 13) rfl w.heap.size 0 rfl [.int .i64 rk,.string ⟨rch.toArray⟩,.bool rng,.slice ra rrs.length rcp,.int .i64 rlo,.int .i64 rhi,.bool rlz,.slice rka rks.length rkc] _ (lc (ds:=[.slice fa fs.length fcp,.bool false,.bool false]) (HFCE.out▸HX1.out)) mb rfl iB ?_)
    | (go_at_call 23;refine HRX.out.mono ?_))
   exact aH
open Go.RowKit
def p1 (x:Rx):Bool:=decide (x.kind≠1)
end Go.Proofs.YtdcnncgpomcaaaaGreatDoor
