/- What a snippet is told as, and how that is read: plain laws. -/
import Derived.Test.YtdcnncgpomcaaaaGreatDoorSc27
set_option maxRecDepth 100000
set_option maxHeartbeats 4000000
namespace Go.Proofs.YtdcnncgpomcaaaaGreatDoor
def Sp (p q:Str):Prop:=∀z a,rxSp (p++z) a=rxSp z (a++q)
theorem tG:Sp [] []:=fun z a=>by simp
theorem mu {p q p' q':Str} (h:Sp p q) (h':Sp p' q'):Sp (p++p') (q++q'):=fun z a=>by
 rw [II,h,h',II]
theorem tK {c:UInt8} (h1:c.toNat≠47) (h2:c.toNat≠92):Sp [c] [c]:=fun z a=>by
 cases z with
 | nil=>simp [rxSp,h1]
 | cons d r=>simp [rxSp,h1,h2]
theorem zq (d:UInt8):Sp [92,d] (if d.toNat=47 then [d] else [92,d]):=fun z a=>by
 show rxSp (92::d::z) a=_
 simp only [rxSp];rw [Hx gv,Hu gv];split<;>rfl
theorem t6:∀{p:Str},(∀c∈p,c.toNat≠47∧c.toNat≠92)→Sp p p
 | [],_=>tG
 | c::_,h=>mu (p:=[c]) (q:=[c]) (tK (h c (Ik ..)).1 (h c (Ik ..)).2) (t6 fun d hd=>h d (Il _ hd))
theorem BK {th thN:Str} (h0:∀b:UInt8,th.contains b=(thN.contains b||decide (b.toNat=47))) (h1:thN.contains 47=false) (h2:thN.contains 92=true) {c:Str} (hc:lG c=true):Sp (escL th c) (escL thN c):=by
 cases c with
 | nil=>cases hc
 | cons b r =>
  have hr:∀x∈r,kI x=true:=by
   have:(!kI b&&r.all kI)=true:=hc
   exact List.all_eq_true.1 (Bool.and_eq_true_iff.1 this).2
  have pr:Sp r r:=t6 fun x hx=>by
   have:=hr x hx
   simp only [kI,Hs] at this;omega
  unfold escL;iterate 5 (split;· exact zq _)
  by_cases h47:b.toNat=47
  ·have hb:b=47:=Ht.1 h47
   subst hb;have e1:th.contains (List.headD (47::r) 0)=true:=by rw [h0];simp
   have e2:¬thN.contains (List.headD (47::r) 0)=true:=fun e=>by rw [show List.headD (47::r) 0=(47:UInt8) from rfl,h1] at e;cases e
   rw [Hu e1,Hx e2];exact mu (zq 47) pr
  ·by_cases hN:thN.contains (List.headD (b::r) 0)=true
   ·have e1:th.contains (List.headD (b::r) 0)=true:=by rw [h0,hN];rfl
    rw [Hu e1,Hu hN];have:=zq b
    rw [Hx h47] at this;exact mu this pr
   ·have hN':thN.contains b=false:=Bool.eq_false_iff.2 hN
    have e1:¬th.contains (List.headD (b::r) 0)=true:=fun e=>by rw [show List.headD (b::r) 0=b from rfl,h0,hN',Ix h47] at e;cases e
    rw [Hx e1,Hx hN];refine mu (p:=[b]) (q:=[b]) (tK h47 fun e=>?_) pr;rw [show b=92 from Ht.1 e,h2] at hN';cases hN'
theorem G9 (b:UInt8):th1.contains b=(th1N.contains b||decide (b.toNat=47)):=by
 rw [Bool.eq_iff_iff];simp only [th1,th1N,List.contains_cons,H8,Hp,Hs,←Ht,List.contains_nil,IF,Iq];simp;omega
theorem zS (b:UInt8):th2.contains b=(th2N.contains b||decide (b.toNat=47)):=by
 rw [Bool.eq_iff_iff];simp only [th2,th2N,List.contains_cons,H8,Hp,Hs,←Ht,List.contains_nil,IF,Iq];simp;omega
theorem sp_row {r:Row} (h:rowB r=true):Sp (rowS r) (vg r):=by
 obtain⟨h1,h2,_⟩:=oM h;unfold rowS vg;refine mu (BK zS gv gv h1) ?_;split
 ·exact tG
 ·exact mu (p:=[45]) (q:=[45]) (tK gv gv) (BK zS gv gv h2)
theorem Hk:∀{rs:List Row},(∀r∈rs,rowB r=true)→Sp (rs.flatMap rowS) (rs.flatMap vg)
 | [],_=>tG
 | r::rs,h=>by
  simp only [If];exact mu (sp_row (h r (Ik ..))) (Hk fun x hx=>h x (Il _ hx))
theorem sp_set {ng:Bool} {rs:List Row} (h:oF rs=true):Sp (setS ng rs) (yU ng rs):=by
 unfold setS yU;refine mu (p:=[91]) (q:=[91]) (tK gv gv) (mu ?_ (mu (Hk (qH h)) (tK gv gv)));split
 ·exact tK gv gv
 ·exact tG
theorem B9 (n:Int):Sp (dec n) (dec n):=t6 fun c hc=>by
 have h1:isD c:=(decD n.toNat).1 c hc;unfold isD at h1;omega
theorem sp_oft (lo hi:Int):Sp (oftS lo hi) (oftS lo hi):=by
 have o:∀c:UInt8,c.toNat≠47∧c.toNat≠92→Sp [c] [c]:=fun c h=>tK h.1 h.2
 unfold oftS;split;· exact o _ gv
 split;· exact o _ gv
 split;· exact o _ gv
 split;· exact mu (o 123 gv) (mu (B9 _) (o 125 gv))
 split;· exact mu (o 123 gv) (mu (B9 _) (mu (p:=[44]) (q:=[44]) (o 44 gv) (o 125 gv)))
 exact mu (o 123 gv) (mu (B9 _) (mu (p:=[44]) (q:=[44]) (o 44 gv) (mu (B9 _) (o 125 gv))))
theorem G7:∀(N:Nat) (x:Rx),x.parts≤N→x.wf=true→Sp x.tell x.tellN
 | 0,x,h,_=>by have:=Rx.parts_pos x;omega
 | N+1,.mk k c ng rs lo hi lz ks,hp,hw=>by
  have o:∀c:UInt8,c.toNat≠47∧c.toNat≠92→Sp [c] [c]:=fun c h=>tK h.1 h.2
  obtain⟨hf,hks⟩:=wf_mk hw;simp only [Rx.parts] at hp;have IH:∀y∈ks,Sp y.tell y.tellN:=fun y hy=>by
   have:=Rx.parts_mem hy
   exact G7 N y gj (xY hks hy)
  have L:∀l:List Rx,(∀y∈l,Sp y.tell y.tellN)→Sp (Rx.tellL l) (Rx.tellNL l):=by
   intro l;induction l with
   | nil=>intro _;simp only [Rx.tellL,Rx.tellNL];exact tG
   | cons y l ih =>
    intro h;simp only [Rx.tellL,Rx.tellNL];exact mu (h y (Ik ..)) (ih fun z hz=>h z (Il _ hz))
  have A:∀(l:List Rx) (b:Bool),(∀y∈l,Sp y.tell y.tellN)→Sp (Rx.tellA b l) (Rx.tellNA b l):=by
   intro l;induction l with
   | nil=>intro _ _;simp only [Rx.tellA,Rx.tellNA];exact tG
   | cons y l ih =>
    intro b h;simp only [Rx.tellA,Rx.tellNA];refine mu ?_ (mu (h y (Ik ..)) (ih true fun z hz=>h z (Il _ hz)));split
    ·exact o _ gv
    ·exact tG
  have lL:=L ks IH;rw [Rx.tell,Rx.tellN];by_cases k0:k=0
  ·rw [Hu k0,Hu k0];exact lL
  rw [Hx k0,Hx k0];by_cases k1:k=1
  ·rw [Hu k1,Hu k1];exact A ks false IH
  rw [Hx k1,Hx k1];by_cases k2:k=2
  ·rw [Hu k2,Hu k2]
   subst k2;simp only [lf,if_true,Ie,Hs] at hf;exact BK G9 gv gv hf.2
  rw [Hx k2,Hx k2];by_cases k3:k=3
  ·rw [Hu k3,Hu k3];exact o _ gv
  rw [Hx k3,Hx k3];by_cases k8:k=8
  ·rw [Hu k8,Hu k8];exact o _ gv
  rw [Hx k8,Hx k8];by_cases k9:k=9
  ·rw [Hu k9,Hu k9];exact o _ gv
  rw [Hx k9,Hx k9];by_cases k10:k=10
  ·rw [Hu k10,Hu k10];have:=zq 98;rwa [Hx gv] at this
  rw [Hx k10,Hx k10];by_cases k11:k=11
  ·rw [Hu k11,Hu k11];have:=zq 66;rwa [Hx gv] at this
  rw [Hx k11,Hx k11];by_cases k4:k=4
  ·rw [Hu k4,Hu k4]
   subst k4;simp only [lf,Hx (show ¬(4:Int)=2 by decide),if_true,Ie,Hs] at hf;exact sp_set hf.2
  rw [Hx k4,Hx k4];by_cases k5:k=5
  ·rw [Hu k5,Hu k5];exact mu (p:=[40]) (q:=[40]) (o 40 gv) (mu lL (o 41 gv))
  rw [Hx k5,Hx k5];by_cases k6:k=6
  ·rw [Hu k6,Hu k6];exact mu (p:=[40,63,58]) (q:=[40,63,58]) (t6 gv) (mu lL (o 41 gv))
  rw [Hx k6,Hx k6];refine mu lL (mu (sp_oft _ _) ?_);split
  ·exact o _ gv
  ·exact tG
theorem uu:∀(r a:Str),(rxSp r a).1.length≤a.length+r.length
 | [],a=>by simp [rxSp]
 | [c],a=>by simp only [rxSp];split<;>simp
 | c::d::r,a=>by
  simp only [rxSp];split
  ·simp
  ·split
   ·have:=uu r (if d.toNat=47 then a++[d] else a++[92,d])
    have e:(if d.toNat=47 then a++[d] else a++[92,d]).length≤a.length+2:=by split<;>simp
    simp only [H7];omega
   ·have:=uu (d::r) (a++[c])
    exact db
theorem Sp.len {p q:Str} (h:Sp p q):q.length≤p.length:=by
 have h1:=h [] [];have h2:=uu (p++[]) [];rw [h1] at h2;simpa [rxSp] using h2
theorem sp_slash {p q:Str} (h:Sp p q) (z:Str):rxSp (p++47::z) []=(q,47::z):=by
 rw [h];cases z with
 | nil=>simp [rxSp]
 | cons d r=>simp [rxSp]
def zh (f:Tf):Str:=(if f.all=true then [103] else [])++(if f.fold=true then [105] else [])
def qK (f:Tf):Str:=47::(f.rx.tell++47::(mt f.fs++47::zh f))
theorem F4 (f:Tf) (r:Str):sZ f.rx f.fs (zh f++125::r)=some (f,r):=by
 obtain⟨x,fs,fd,al⟩:=f;unfold sZ zh;have e:∀l:Str,(∀c∈l,mo c=true)→(l++125::r).takeWhile mo=l∧(l++125::r).dropWhile mo=125::r:=fun l h=>C1 h r
 cases al<;>cases fd
 ·obtain⟨a,b⟩:=e [] gv;simp only [IF,if_false,IK];rw [a,b];rfl
 ·obtain⟨a,b⟩:=e [105] gv;simp only [IF,if_false,if_true,Iz];rw [a,b];rfl
 ·obtain⟨a,b⟩:=e [103] gv;simp only [IF,if_false,if_true,IK];rw [a,b];rfl
 ·obtain⟨a,b⟩:=e [103,105] gv;simp only [if_true,IA,Iz] at a b ⊢;rw [a,b];rfl
theorem Hi {f:Tf} (hm:oY f=true) (hl:f.rx.tell.length≤256) (r:Str):nO (qK f++125::r)=some (f,r):=by
 unfold oY at hm;rw [Ie] at hm;have hw:=hm.1;unfold mayB okB at hw;simp only [Ie,Hs] at hw;have hsp:=G7 _ f.rx (Ia _) hw.1.1;have e:qK f++125::r=47::(f.rx.tell++47::(mt f.fs++47::(zh f++125::r))):=by unfold qK;simp
 have h2:=vF (zh f++125::r) f.fs [] false [] hm.2 (fun _=>rfl);rw [e];simp only [nO];rw [Hu gv,sp_slash hsp];simp only [DL hm.1 (Ib hsp.len hl)];rw [h2];simp only [mB,if_true,Iz];exact F4 f r
def qg (k:Int) (t:Str) (n:Int):Str:=if k=3 then t else dec n
namespace Sn
mutual
def tell:Sn→Str
 | mk k t n h u f o ks =>
  if k=0 then quot three t
  else if k=2 then 36::123::(dec n++124::(oZ o++[124,125]))
  else 36::123::(qg k t n++((if h=true then 58::tellL ks else [])++((if u=true then qK f else [])++[125])))
def tellL:List Sn→Str
 | []=>[]
 | x::r=>tell x++tellL r
end
mutual
def short:Sn→Bool
 | mk _ _ _ _ u f _ ks=>(!u||decide (f.rx.tell.length≤256))&&shortL ks
def shortL:List Sn→Bool
 | []=>true
 | x::r=>short x&&shortL r
end
end Sn
theorem rxZ_eq {x:Rx} (h:rxZ x=true):x=rx0:=by
 obtain⟨k,c,ng,rs,lo,hi,lz,ks⟩:=x;simp only [rxZ,Ie,Hs,List.isEmpty_iff,IP] at h;obtain⟨rfl,rfl,rfl,rfl,rfl,rfl,rfl,rfl⟩:=h;rfl
theorem Cz {f:Tf} (h:tfZ f=true):f=tf0:=by
 obtain⟨x,fs,fd,al⟩:=f;simp only [tfZ,Ie,List.isEmpty_iff,IP] at h;obtain⟨h1,rfl,rfl,rfl⟩:=h;rw [rxZ_eq h1];rfl
theorem wm (k:Int) (t:Str) (n:Int) (h u:Bool) (f:Tf) (o:List Str) (ks:List Sn):lv (.mk k t n h u f o ks)=if h=true then(if u=true then false else tfZ f) else if u=true then ks.isEmpty&&oY f else(!h&&(!u&&(ks.isEmpty&&tfZ f))):=rfl
theorem ve (k:Int) (t:Str) (n:Int) (h u:Bool) (f:Tf) (o:List Str) (ks:List Sn):l6 (.mk k t n h u f o ks) =
  if k=0 then !t.isEmpty&&(decide (n=0)&&(o.isEmpty&&(!h&&(!u&&(ks.isEmpty&&tfZ f)))))
  else if k=1 then t.isEmpty&&(decide (0≤n∧n≤9999)&&(o.isEmpty&&lv (.mk k t n h u f o ks)))
  else if k=2 then t.isEmpty&&(decide (0≤n∧n≤9999)&&(!o.isEmpty&&(!h&&(!u&&(ks.isEmpty&&tfZ f)))))
  else if k=3 then od t&&(decide (n=0)&&(o.isEmpty&&lv (.mk k t n h u f o ks)))
  else false:=rfl
theorem text_of {x:Sn} (h:x.wf=true) (hk:x.kind=0):x=o7 x.text∧x.text≠[]:=by
 obtain⟨k,t,n,hs,u,f,o,ks⟩:=x;simp only [Sn.kind] at hk;subst hk;rw [Sn.wf,ve,Hu rfl] at h;simp only [Ie,Hs,List.isEmpty_iff,IP] at h;obtain⟨⟨h1,rfl,rfl,rfl,rfl,rfl,h2⟩,_⟩:=h;rw [Cz h2];refine⟨rfl,fun e=>?_⟩;rw [show t=[] from e] at h1;cases h1
theorem part_of {x:Sn} (h:x.wf=true) (hk:x.kind≠0):(∃y,Hd y∧(x=y∨(∃ks,adjS false ks=true∧Sn.wfL ks=true∧x=y.give ks)∨∃f,oY f=true∧x=y.turn f))∨∃n o l,n≤9999∧x=(mT n).choose (o::l):=by
 obtain⟨k,t,n,hs,u,f,o,ks⟩:=x;simp only [Sn.kind] at hk;rw [Sn.wf,Ie,ve,Hx hk] at h;obtain⟨h1,h2⟩:=h;have bes:∀{y:Sn},(y=.mk k t n false false tf0 [] [])→Hd y→o=[]→lv (.mk k t n hs u f o ks)=true →
   Sn.mk k t n hs u f o ks=y∨(∃ks',adjS false ks'=true∧Sn.wfL ks'=true∧Sn.mk k t n hs u f o ks=y.give ks')∨∃f',oY f'=true∧Sn.mk k t n hs u f o ks=y.turn f':=by
  intro y hy hd ho hb;subst ho;rw [wm] at hb;cases hs<;>cases u
  ·simp only [IF,if_false,Bool.not_false,Im,Ie,List.isEmpty_iff] at hb
   obtain⟨rfl,hz⟩:=hb;exact .inl (by rw [hy,Cz hz])
  ·simp only [IF,if_false,if_true,Ie,List.isEmpty_iff] at hb
   obtain⟨rfl,hz⟩:=hb;exact .inr (.inr ⟨f,hz,by rw [hy];rfl⟩)
  ·simp only [IF,if_false,if_true] at hb
   simp only [Bool.not_true,Bool.false_or,Ie] at h2;exact .inr (.inl ⟨ks,h2.1,h2.2,by rw [hy,Cz hb];rfl⟩)
  ·simp at hb
 by_cases k1:k=1
 ·subst k1
  rw [Hu rfl] at h1;simp only [Ie,List.isEmpty_iff,Hs] at h1;obtain⟨rfl,hn,rfl,hb⟩:=h1;have hd:Hd (mT n.toNat):=.inl ⟨n.toNat,by omega,rfl⟩;exact .inl ⟨_,hd,bes (by unfold mT;rw [Int.toNat_of_nonneg hn.1]) hd rfl hb⟩
 rw [Hx k1] at h1;by_cases k2:k=2
 ·subst k2
  rw [Hu rfl] at h1;simp only [Ie,List.isEmpty_iff,Hs,IP] at h1;obtain⟨rfl,hn,ho,rfl,rfl,rfl,hz⟩:=h1;cases o with
  | nil=>cases ho
  | cons a l=>exact .inr ⟨n.toNat,a,l,by omega,by rw [Cz hz];unfold mT;rw [Int.toNat_of_nonneg hn.1];rfl⟩
 rw [Hx k2] at h1;by_cases k3:k=3
 ·subst k3
  rw [Hu rfl] at h1;simp only [Ie,List.isEmpty_iff,Hs] at h1;obtain⟨hn,rfl,rfl,hb⟩:=h1;have hd:Hd (varS t):=.inr ⟨t,hn,rfl⟩;exact .inl ⟨_,hd,bes rfl hd rfl hb⟩
 ·rw [Hx k3] at h1;cases h1
def uv (p:List Sn × Str) (x:Sn):List Sn × Str:=if x.kind=0 then(p.1,p.2++x.text) else(lw p.1 p.2++[x],[])
def n6 (p:List Sn × Str) (l:List Sn):List Sn × Str:=l.foldl uv p
theorem t8:∀(l:List Sn) (out:List Sn) (text:Str),adjS (!text.isEmpty) l=true→Sn.wfL l=true→lw (n6 (out,text) l).1 (n6 (out,text) l).2=lw out text++l
 | [],out,text,_,_=>by simp [n6]
 | x::r,out,text,ha,hw=>by
  simp only [adjS,Ie] at ha;simp only [Sn.wfL,Ie] at hw;simp only [n6,Iv];by_cases hk:x.kind=0
  ·obtain⟨hx,hne⟩:=text_of hw.1 hk
   have ht:text=[]:=by
    have:=ha.1
    simp [hk] at this
    exact this
   subst ht;have he:uv (out,[]) x=(out,x.text):=by simp [uv,hk]
   rw [he];have ih:=t8 r out x.text (by
    have h2:=ha.2;rw [Iw hk] at h2;have:x.text.isEmpty=false:=by cases hc:x.text with|nil=>exact absurd hc hne|cons a b=>rfl
    rw [this];exact h2) hw.2
   unfold n6 at ih;rw [ih];unfold lw;rw [Hx hne,Hu rfl,II];conv=>rhs;rw [hx]
   rfl
  ·have he:uv (out,text) x=(lw out text++[x],[]):=by simp [uv,hk]
   rw [he];have ih:=t8 r (lw out text++[x]) [] (by have h2:=ha.2;rw [Ix hk] at h2;exact h2) hw.2;unfold n6 at ih;rw [ih];simp [lw]
theorem head_of {y:Sn} (h:Hd y) {c:UInt8} (h1:mW c=false) (r:Str):ni (qg y.kind y.text y.n++c::r)=some (y,c::r):=by
 have hd:¬digU8 c:=by
  intro hd;unfold mW at h1;simp only [Bool.or_eq_false_iff,Io] at h1;exact h1.1.2 hd
 rcases h with⟨n,hn,rfl⟩|⟨t,ht,rfl⟩
 ·exact CT hn (by rintro c' t e;injection e with e _;subst e;exact hd)
 ·have e:qg (varS t).kind (varS t).text (varS t).n=t:=rfl
  rw [e];cases t with
  | nil=>cases ht
  | cons a b =>
   have ht':=ht;simp only [od,Ie,Hs] at ht';rw [Gy (List.all_eq_true.1 ht'.1.2) (by unfold digU8;omega) (by rintro c' t e;injection e with e _;subst e;exact h1),Hu ht]
theorem rS {y:Sn} (h:Hd y) (c:UInt8) (h1:mW c=false) (r:Str):lI (123::(qg y.kind y.text y.n++c::r))=lc (kP true [] []) y (c::r):=by
 rw [rR,head_of h h1]
theorem tn:∀{l:List Sn},Sn.shortL l=true→∀x∈l,x.short=true
 | [],_,x,h=>by simp at h
 | y::r,hs,x,h=>by
  simp only [Sn.shortL,Ie] at hs;rcases Ii.1 h with rfl|h
  ·exact hs.1
  ·exact tn hs.2 x h
theorem r8:∀{l:List Sn},Sn.wfL l=true→∀x∈l,x.wf=true
 | [],_,x,h=>by simp at h
 | y::r,hs,x,h=>by
  simp only [Sn.wfL,Ie] at hs;rcases Ii.1 h with rfl|h
  ·exact hs.1
  ·exact r8 hs.2 x h
theorem CQ (l:List Sn) (hx:∀x∈l,x.kind=0∧x.tell=quot three x.text∨x.kind≠0∧∃t,x.tell=36::t∧∀r,lI (t++r)=some (x,r)) :
  ∀(ins:Bool) (out:List Sn) (text r:Str),kP ins out text (Sn.tellL l++r)=kP ins (n6 (out,text) l).1 (n6 (out,text) l).2 r:=by
 induction l with
 | nil=>intro ins out text r;simp [Sn.tellL,n6]
 | cons x l ih =>
  intro ins out text r;have ih':=ih fun y hy=>hx y (Il _ hy)
  simp only [Sn.tellL,II,n6,Iv];rcases hx x (Ik ..) with⟨hk,e⟩|⟨hk,t,e,hp⟩
  ·rw [e,ti,ih']
   simp [uv,hk,n6]
  ·rw [e,IA,Dx ins out text _ (hp _),ih']
   simp [uv,hk,n6]
theorem zJ {x:Sn} (hk:x.kind=0):x.tell=quot three x.text:=by
 obtain⟨k,t,n,hs,u,f,o,ks⟩:=x;simp only [Sn.kind] at hk;subst hk;simp [Sn.tell,Sn.text]
theorem AK:∀(N:Nat) (x:Sn),x.parts≤N→x.wf=true→x.short=true→x.kind≠0→∃t,x.tell=36::t∧∀r,lI (t++r)=some (x,r)
 | 0,x,h,_,_,_=>by have:=Sn.parts_pos x;omega
 | N+1,x,hp,hw,hs,hk=>by
  rcases part_of hw hk with⟨y,hd,rfl|⟨ks,h1,h2,rfl⟩|⟨f,hf,rfl⟩⟩|⟨n,o,l,hn,rfl⟩
  ·refine⟨123::(qg x.kind x.text x.n++[125]),?_,fun r=>?_⟩
   ·rcases hd with⟨n,_,rfl⟩|⟨t,_,rfl⟩<;>simp [mT,varS,Sn.tell,Sn.kind,Sn.text,Sn.n]
   ·rw [IA,II,IA,Iz,rS hd 125 gv];exact tA _ _
  ·have hs':Sn.shortL ks=true:=by
    rcases hd with⟨n,_,rfl⟩|⟨t,_,rfl⟩<;>(simp only [mT,varS,Sn.give,Sn.short,Ie] at hs;exact hs.2)
   have hpk:Sn.partsL ks≤N:=by
    have:=(hd.give h1 h2).2.2.1
    omega
   have hin:∀r,kP true [] [] (Sn.tellL ks++125::r)=(ks,125::r):=fun r=>by
    rw [CQ ks (fun z hz=>by
     by_cases hz0:z.kind=0
     ·exact .inl ⟨hz0,zJ hz0⟩
     ·exact .inr ⟨hz0,AK N z (by have:=Sn.parts_mem hz;omega) (r8 h2 z hz) (tn hs' z hz) hz0⟩),AZ]
    have:=t8 ks [] [] h1 h2
    rw [this];simp [lw]
   refine⟨123::(qg y.kind y.text y.n++58::(Sn.tellL ks++[125])),?_,fun r=>?_⟩
   ·rcases hd with⟨n,_,rfl⟩|⟨t,_,rfl⟩<;>simp [mT,varS,Sn.give,Sn.tell,Sn.kind,Sn.text,Sn.n]
   ·rw [IA,II,IA,II,IA,Iz,rS hd 58 gv]
    exact zK _ (hin r)
  ·have hl:f.rx.tell.length≤256:=by
    rcases hd with⟨n,_,rfl⟩|⟨t,_,rfl⟩<;>(simp [mT,varS,Sn.turn,Sn.short,Sn.shortL] at hs;exact hs)
   refine⟨123::(qg y.kind y.text y.n++(qK f++[125])),?_,fun r=>?_⟩
   ·rcases hd with⟨n,_,rfl⟩|⟨t,_,rfl⟩<;>simp [mT,varS,Sn.turn,Sn.tell,Sn.kind,Sn.text,Sn.n]
   ·have hft:=Hi hf hl r
    have e:qK f++125::r=47::(f.rx.tell++47::(mt f.fs++47::zh f)++125::r):=by unfold qK;simp
    rw [IA,II,II,IA,Iz];rw [e] at hft ⊢;rw [rS hd 47 gv];simp only [lc];rw [Hx gv,Hx gv,Hx (fun h=>absurd h.1 gv),hft]
  ·refine⟨123::(dec n++124::(oZ (o::l)++[124,125])),by simp [mT,Sn.choose,Sn.tell],fun r=>?_⟩
   have:=BC hn o l r
   have e:dec (n:Int)=Lib.decDigits n:=rfl;rw [IA,II,IA,II,e];exact this
theorem Cs {l:List Sn} (hw:Sn.wfL l=true) (hs:Sn.shortL l=true) (ins:Bool) (out:List Sn) (text r:Str):kP ins out text (Sn.tellL l++r)=kP ins (n6 (out,text) l).1 (n6 (out,text) l).2 r :=
 CQ l (fun z hz=>by
  by_cases hz0:z.kind=0
  ·exact .inl ⟨hz0,zJ hz0⟩
  ·exact .inr ⟨hz0,AK _ z (Ia _) (r8 hw z hz) (tn hs z hz) hz0⟩) ins out text r
open Go.RowKit
def SqRel (B g:Nat) (th l acc0:Str) (w0:World) (R:Str) (q:Value) (wr:World):Prop :=
 ∃(i:Nat) (acc:Str),i≤l.length∧q=.int .i64 i∧Bld B g acc wr∧Fr B [g] [5] w0 wr∧acc.length≤acc0.length+2*i∧Hid (acc++quot th (l.drop i)=R)
theorem sS (B g:Nat) (l th acc0:Str) (w:World) (hbl0:Bld B g acc0 w) (hs:l.length≤1000000) (ha:acc0.length≤20000000) (hB0:B≤w.heap.size) :
  Calls Tryz.prog 31 #[.pointer (some ⟨g,0,none⟩),.string ⟨l.toArray⟩,.string ⟨th.toArray⟩] w fun e w'=>e=.returned (.tuple #[])∧Bld B g (acc0++quot th l) w'∧Fr B [g] [5] w w':=by
 obtain⟨R,hR⟩:∃R,acc0++quot th l=R:=⟨_,rfl⟩;rw [hR];have HR0:Hid (acc0++quot th (l.drop 0)=R):=ab hR;have HBL0:=ab hbl0;clear hR hbl0;go_enter Tryz.func31,Tryz.ntmps31
 go_wp2
 go_loopw [6] (fun q wr=>SqRel B g th l acc0 w R q wr) (fun q _=>l.length-(intOf q).toNat)
 case atStart=>exact⟨0,acc0,by omega,rfl,HBL0.out,Fr.refl _ _ _ _,by omega,HR0⟩
 case round =>
  obtain⟨i,acc,hi,rfl,hbl,hfr,hacc,HF⟩:=hrel;clear HR0 HBL0;have hBr:B≤wr.heap.size:=Ib hB0 hfr.size;cases hd:l.drop i with
  | nil =>
   have h2:=lX hd;have HF':Hid (acc=R):=ab (by rw [←HF.out,hd];simp [quot]);exact dF
  | cons c r =>
   obtain⟨h2,h3,hr⟩:=kY hd;have HF':Hid (acc++((if th.contains c=true then [92,c] else [c])++quot th r)=R):=ab ic;have Hr:=ab hr;have hc256:=u8_lt c;have HFR:=ab hfr;clear hd HF hr hfr;by_cases hc:th.contains c=true
   ·obtain⟨k,hk⟩:=yK hc
    have HK:=ab hk;have HC:=ab hc;clear hk hc;go_wp2_with (first|(go_at_call 47;refine(lB _ HK.out).mono ?_;rintro e w1 ⟨rfl,rfl⟩)|(go_at_call 34;refine(kQ B _ (acc) (92) _ hbl gK gj gj gj).mono ?_))
    first|rintro e w2 rfl hbl2 hfr2|rintro e w2 ⟨rfl,hbl2,hfr2⟩
    have hB2:B≤w2.heap.size:=Ib hBr hfr2.size;go_wp2_with (go_at_call 34;refine(kQ B _ (acc++[92]) ((c.toNat:Int)) _ hbl2 gK gj gj gj).mono ?_)
    first|rintro e w3 rfl hbl3 hfr3|rintro e w3 ⟨rfl,hbl3,hfr3⟩
    go_wp2_with fail
    go_roundw
    case rel =>
     refine⟨i+1,acc++[92,c],by omega,by go_num,?_,(HFR.out.trans hfr2).trans hfr3,by simp;omega,ab ?_⟩
     ·simpa using hbl3
     ·rw [Hr.out,←HF'.out,Hu HC.out];simp
    case measure=>simp [intOf];omega
   ·have hk:=um hc
    have HK:=ab hk;have HC:=ab hc;clear hk hc;go_wp2_with (first|(go_at_call 47;refine(lB _ HK.out).mono ?_;rintro e w1 ⟨rfl,rfl⟩)|(go_at_call 34;refine(kQ B _ (acc) ((c.toNat:Int)) _ hbl gK gj gj gj).mono ?_))
    first|rintro e w2 rfl hbl2 hfr2|rintro e w2 ⟨rfl,hbl2,hfr2⟩
    go_wp2_with fail
    go_roundw
    case rel =>
     refine⟨i+1,acc++[c],by omega,by go_num,?_,HFR.out.trans hfr2,by simp;omega,ab ?_⟩
     ·simpa using hbl2
     ·rw [Hr.out,←HF'.out,Hx HC.out];simp
    case measure=>simp [intOf];omega
def Tf.tiny (f:Tf):Prop:=f.small∧f.fs.length≤1000∧(∀g∈f.fs,g.thn.length≤10000∧g.els.length≤10000)∧f.rx.tell.length≤1000000∧(mt f.fs).length≤1000000
theorem EH (S:Nat→Prop) (f:Tf) (hti:f.tiny) (hm:oY f=true) (fc:List Value) (w:World) (hv:TfV w S fc f) (ht:Tab w) :
  Calls Tryz.prog 50 #[.agg fc.toArray] w fun e w'=>e=.returned (.tuple #[.string ⟨(qK f).toArray⟩,.int .i64 0])∧Below w.heap.size w w':=by
 obtain⟨rk,rch,rng,rrs,rlo,rhi,rlz,rks,ra,rcp,rka,rkc,fa,fcp,hc⟩:=hv.open_;obtain⟨W0,hW0⟩:∃W0,W0=w.alloc (.cells fc.toArray 41):=⟨_,rfl⟩;have hb0:Below w.heap.size w W0:=by rw [hW0];exact(Below.refl _ _).alloc (Ia _) _
 have HB1:Hid (W0.heap[w.heap.size]?=some (.cells fc.toArray 41 (0,0))):=ab g7;have HFL:=ab hv.len;have HMY:=ab (Cu S f hti.1 fc W0 (hv.keep (Kept.all hb0)));rw [hm] at HMY;have HT0:=ab (ht.keep hb0);have HW0:=ab hW0;obtain⟨X,fs,fd,al⟩:=f;obtain⟨⟨hx,hp,hfs⟩,t2,t3,t4,t5⟩:=hti;have hx1:X=.mk rk rch rng rrs rlo rhi rlz rks:=hc.rx;have hfce:fc=[.int .i64 rk,.string ⟨rch.toArray⟩,.bool rng,.slice ra rrs.length rcp,.int .i64 rlo,.int .i64 rhi,.bool rlz,.slice rka rks.length rkc,.slice fa fs.length fcp,.bool fd,.bool al]:=hc.eq;have HXV:Hid (RxV W0 S [.int .i64 rk,.string ⟨rch.toArray⟩,.bool rng,.slice ra rrs.length rcp,.int .i64 rlo,.int .i64 rhi,.bool rlz,.slice rka rks.length rkc] X):=ab (hx1▸hc.rv.later hb0);have HFS:Hid (SlS W0 S fa 5 fs.length (l5 fs)):=ab (hc.fv.keep (Kept.all hb0));have hm2:(mayB X&&tO fs)=true:=hm;rw [Ie] at hm2;have HMX:=ab hm2.1;have HMF:=ab hm2.2;have HPP:=ab hp;have HXS:=ab hx;have hTL:X.tell.length≤1000000:=t4;have hTF:(mt fs).length≤1000000:=t5;have HTL:Hid (X.tell.length≤10000000):=ab gj;have HG:Hid (∀g∈fs,g.thn.length≤10000∧g.els.length≤10000):=ab t3;have HFN:Hid (fs.length≤1000):=ab t2;have HFO:Hid (qK ⟨X,fs,fd,al⟩=47::(X.tell++47::(mt fs++47::((if al=true then [103] else [])++(if fd=true then [105] else []))))):=ab rfl;have HFCE:=ab hfce;clear hv hc hx hx1 hW0 hp hfs hm hm2 t2 t3 t4 t5 ht hfce;cases al with
 | true =>
  cases fd with
  | true =>
   go_enter Tryz.func50,Tryz.ntmps50
   go_upto_region 1 with fail
   rw [←HW0.out];clear HW0;go_wp2_with (first
    | (refine kA rfl 41 (.tmp 1) rfl w.heap.size 0 rfl fc _ (kG (ds:=[]) iv) ma rfl jZ ?_)
    | (go_at_call 67;refine HMY.out.mono ?_))
   first|rintro e w1 rfl hb1|rintro e w1 ⟨rfl,hb1⟩
   have HX1:=ab ((hb1.block _ (ky HB1.out)).trans HB1.out);have HRX:=ab (sM S X _ w1 HPP.out HXS.out (HXV.out.later hb1) (HT0.out.keep hb1) HMX.out HTL.out);go_wp2_with (first
    | (refine kA rfl 38 (.tmp 13) rfl w.heap.size 0 rfl [.int .i64 rk,.string ⟨rch.toArray⟩,.bool rng,.slice ra rrs.length rcp,.int .i64 rlo,.int .i64 rhi,.bool rlz,.slice rka rks.length rkc] _ (kG (ds:=[.slice fa fs.length fcp,.bool true,.bool true]) (HFCE.out▸HX1.out)) lK rfl g8 ?_)
    | (go_at_call 23;refine HRX.out.mono ?_))
   exact aH
  | false =>
   go_enter Tryz.func50,Tryz.ntmps50
   go_upto_region 1 with fail
   rw [←HW0.out];clear HW0;go_wp2_with (first
    | (refine kA rfl 41 (.tmp 1) rfl w.heap.size 0 rfl fc _ (kG (ds:=[]) iv) ma rfl jZ ?_)
    | (go_at_call 67;refine HMY.out.mono ?_))
   first|rintro e w1 rfl hb1|rintro e w1 ⟨rfl,hb1⟩
   have HX1:=ab ((hb1.block _ (ky HB1.out)).trans HB1.out);have HRX:=ab (sM S X _ w1 HPP.out HXS.out (HXV.out.later hb1) (HT0.out.keep hb1) HMX.out HTL.out);go_wp2_with (first
    | (refine kA rfl 38 (.tmp 13) rfl w.heap.size 0 rfl [.int .i64 rk,.string ⟨rch.toArray⟩,.bool rng,.slice ra rrs.length rcp,.int .i64 rlo,.int .i64 rhi,.bool rlz,.slice rka rks.length rkc] _ (kG (ds:=[.slice fa fs.length fcp,.bool false,.bool true]) (HFCE.out▸HX1.out)) lK rfl g8 ?_)
    | (go_at_call 23;refine HRX.out.mono ?_))
   exact aH
 | false =>
  cases fd with
  | true =>
   go_enter Tryz.func50,Tryz.ntmps50
   go_upto_region 1 with fail
   rw [←HW0.out];clear HW0;go_wp2_with (first
    | (refine kA rfl 41 (.tmp 1) rfl w.heap.size 0 rfl fc _ (kG (ds:=[]) iv) ma rfl jZ ?_)
    | (go_at_call 67;refine HMY.out.mono ?_))
   first|rintro e w1 rfl hb1|rintro e w1 ⟨rfl,hb1⟩
   have HX1:=ab ((hb1.block _ (ky HB1.out)).trans HB1.out);have HRX:=ab (sM S X _ w1 HPP.out HXS.out (HXV.out.later hb1) (HT0.out.keep hb1) HMX.out HTL.out);go_wp2_with (first
    | (refine kA rfl 38 (.tmp 13) rfl w.heap.size 0 rfl [.int .i64 rk,.string ⟨rch.toArray⟩,.bool rng,.slice ra rrs.length rcp,.int .i64 rlo,.int .i64 rhi,.bool rlz,.slice rka rks.length rkc] _ (kG (ds:=[.slice fa fs.length fcp,.bool true,.bool false]) (HFCE.out▸HX1.out)) lK rfl g8 ?_)
    | (go_at_call 23;refine HRX.out.mono ?_))
   exact aH
  | false =>
   go_enter Tryz.func50,Tryz.ntmps50
   go_upto_region 1 with fail
   rw [←HW0.out];clear HW0;go_wp2_with (first
    | (refine kA rfl 41 (.tmp 1) rfl w.heap.size 0 rfl fc _ (kG (ds:=[]) iv) ma rfl jZ ?_)
    | (go_at_call 67;refine HMY.out.mono ?_))
   first|rintro e w1 rfl hb1|rintro e w1 ⟨rfl,hb1⟩
   have HX1:=ab ((hb1.block _ (ky HB1.out)).trans HB1.out);have HRX:=ab (sM S X _ w1 HPP.out HXS.out (HXV.out.later hb1) (HT0.out.keep hb1) HMX.out HTL.out);go_wp2_with (first
    | (refine kA rfl 38 (.tmp 13) rfl w.heap.size 0 rfl [.int .i64 rk,.string ⟨rch.toArray⟩,.bool rng,.slice ra rrs.length rcp,.int .i64 rlo,.int .i64 rhi,.bool rlz,.slice rka rks.length rkc] _ (kG (ds:=[.slice fa fs.length fcp,.bool false,.bool false]) (HFCE.out▸HX1.out)) lK rfl g8 ?_)
    | (go_at_call 23;refine HRX.out.mono ?_))
   exact aH
open Go.RowKit
def p1 (x:Rx):Bool:=decide (x.kind≠1)
open Go.RowKit
namespace Sn
mutual
def tiny:Sn→Prop
 | mk _ t _ _ _ f o ks=>f.tiny∧t.length≤1000000∧o.length≤1000000∧(∀s∈o,s.length≤1000000)∧ks.length≤1000000∧tinyL ks
def tinyL:List Sn→Prop
 | []=>True
 | x::r=>tiny x∧tinyL r
end
end Sn
theorem qE:∀{l:List Sn},Sn.tinyL l→∀x∈l,x.tiny
 | [],_,x,h=>by cases h
 | y::r,hl,x,h=>by
  simp only [Sn.tinyL] at hl;rcases Ii.1 h with rfl|h
  ·exact hl.1
  ·exact qE hl.2 x h
mutual
theorem D4:∀x:Sn,x.tiny→x.small
 | .mk k t n h u f o ks,hx=>by
  simp only [Sn.tiny] at hx;obtain⟨h1,h2,h3,_,h5,h6⟩:=hx;exact⟨h1.1,h3,h5,h2,oQ ks h6⟩
theorem oQ:∀l:List Sn,Sn.tinyL l→Sn.smallL l
 | [],_=>trivial
 | x::r,hl=>by
  simp only [Sn.tinyL] at hl;exact⟨D4 x hl.1,oQ r hl.2⟩
end
def brT (h u:Bool) (f:Tf) (ks:List Sn):Str:=(if h=true then 58::Sn.tellL ks else [])++((if u=true then qK f else [])++[125])
def ShwC (B g:Nat) (ks:List Sn):Prop:=∀(S:Nat→Prop) (a:Option Addr) (c:Nat) (acc:Str) (w:World),Bld B g acc w→Tab w→B≤w.heap.size→(∀b,S b→b<B)→SnSl w S a ks.length ks→acc.length+(Sn.tellL ks).length≤10000000 →
 Calls Tryz.prog 20 #[.pointer (some ⟨g,0,none⟩),.slice a ks.length c] w fun e w'=>e=.returned (.tuple #[])∧Bld B g (acc++Sn.tellL ks) w'∧Fr B [g] [5] w w'
theorem Fr.box {B g b:Nat} {w w':World} (h:Fr B [g] [5] w w') {cs:Array Value} {t:TypeId} {m:Nat × Nat} (hb:w.heap[b]?=some (.cells cs t m)) (hne:b≠g) (ht:t≠5):w'.heap[b]?=some (.cells cs t m) :=
 (h.block b (ky hb) (by simpa using hne) (.inr fun e he=>by
  rw [IC] at he;subst he;unfold xB;rw [hb];intro e;injection e with e;exact ht e)).trans hb
theorem Fr.keepS {B g:Nat} {S:Nat→Prop} {w w':World} (h:Fr B [g] [5] w w') (hB:B≤w.heap.size) (hg:B≤g) (hS:∀b,S b→b<B):Kept S w w' :=
 ⟨h.size,fun b hb _=>(h.below hB (by simpa using hg)).block b (hS b hb)⟩
theorem Bld.ge {B g:Nat} {l:Str} {w:World} (h:Bld B g l w):B≤g:=by obtain⟨_,_,_,h,_⟩:=h;exact h
theorem Tab.fr {B g:Nat} {w w':World} (h:Tab w) (hf:Fr B [g] [5] w w') (hB:B≤w.heap.size) (hg:B≤g) (ht:1<B):Tab w':=h.keepB ht (hf.below hB (by simpa using hg))
theorem uP (B g:Nat) (k:Int) (t:Str) (n:Int) (h u:Bool) (f:Tf) (o:List Str) (ks:List Sn) (nm acc:Str) (hft:f.tiny) (hu:u=true→oY f=true) (hhu:h=true→u=false) (HK0:h=true→ShwC B g ks) (S:Nat→Prop) (cc:List Value) (w:World) (hv:SnV w S cc (.mk k t n h u f o ks))
  (hS:∀b,S b→b<B) (hbl:Bld B g acc w) (ht:Tab w) (htb:1<B) (_hB:B≤w.heap.size) (hl:acc.length+(nm.length+(brT h u f ks).length+2)≤10000000) :
  Calls Tryz.prog 35 #[.pointer (some ⟨g,0,none⟩),.agg cc.toArray,.string ⟨nm.toArray⟩] w fun e w'=>e=.returned (.tuple #[])∧Bld B g (acc++36::123::(nm++brT h u f ks)) w'∧Fr B [g] [5] w w':=by
 have hgB:=hbl.ge;have hgl:=hbl.lt;obtain⟨W0,hW0⟩:∃W0,W0=w.alloc (.cells cc.toArray 44):=⟨_,rfl⟩;have hb0:Below w.heap.size w W0:=by rw [hW0];exact(Below.refl _ _).alloc (Ia _) _
 have HB1:Hid (W0.heap[w.heap.size]?=some (.cells cc.toArray 44 (0,0))):=ab g7;have HF0:Hid (Fr B [g] [5] w W0):=ab (Fr.of_below hb0 (Ia _));have HW0:=ab hW0;have hz0:=hb0.size;obtain⟨fc,oa,oc,ka,kc,A⟩:=hv.at_;have HA:=ab A;have HFC:=ab A.fl;have HFV:=ab (A.fv.keep (Kept.all hb0));have HKV:=ab (A.kv.later hb0);have HBL0:=ab (hbl.below hb0);have HT0:=ab (ht.keep hb0);have HS:=ab hS;have hB0:B≤W0.heap.size:=gj;have hne:w.heap.size≠g:=gj;clear hW0 A hv hbl ht hS;cases h with
 | true =>
  obtain rfl:u=false:=hhu rfl;have HK:=ab (HK0 rfl);have hbr:(brT true false f ks).length=(Sn.tellL ks).length+2:=by simp [brT]
  clear HK0 hhu hu;go_enter Tryz.func35,Tryz.ntmps35
  go_upto_region 1 with fail
  rw [←HW0.out];clear HW0;go_wp2_with (go_at_call 32;refine(kU B g (acc) (36::123::nm) _ HBL0.out gK gK gj).mono ?_)
  first|rintro e w1 rfl hbl1 hfr1|rintro e w1 ⟨rfl,hbl1,hfr1⟩
  have hx1:=hfr1.box HB1.out hne gv;have HX1:=ab hx1;have hsz1:B≤w1.heap.size:=by have:=hfr1.size;omega
  obtain⟨q0,q1,q2,q3,q4,q16,q17,qr⟩:=HA.out.box (hx1);go_wp2_with (go_at_call 34;refine(kQ B g (acc++36::123::nm) (58) _ hbl1 gK gj gj gj).mono ?_)
  first|rintro e w2 rfl hbl2 hfr2|rintro e w2 ⟨rfl,hbl2,hfr2⟩
  clear q0 q1 q2 q3 q4 q16 q17 qr;have hx2:=hfr2.box HX1.out hne gv;have HX2:=ab hx2;have hsz2:B≤w2.heap.size:=by have:=hfr2.size;omega
  obtain⟨q0,q1,q2,q3,q4,q16,q17,qr⟩:=HA.out.box (hx2);have HKV2:=ab ((HKV.out.keep (hfr1.keepS hB0 hgB HS.out)).keep (hfr2.keepS hsz1 hgB HS.out));have HT2:=ab ((HT0.out.fr hfr1 hB0 hgB htb).fr hfr2 hsz1 hgB htb);have HSH:=ab (HK.out S ka kc _ w2 hbl2 HT2.out hsz2 HS.out HKV2.out gK);go_wp2_with (go_at_call 20;refine HSH.out.mono ?_)
  first|rintro e w3 rfl hbl3 hfr3|rintro e w3 ⟨rfl,hbl3,hfr3⟩
  clear q0 q1 q2 q3 q4 q16 q17 qr;have hx3:=hfr3.box HX2.out hne gv;have hsz3:B≤w3.heap.size:=by have:=hfr3.size;omega
  obtain⟨q0,q1,q2,q3,q4,q16,q17,qr⟩:=HA.out.box (hx3);exact bN
 | false =>
  cases u with
  | true =>
   have hbr:(brT false true f ks).length=(qK f).length+1:=by simp [brT]
   have HXS:=ab (fun w' (hk:Kept S W0 w') (ht':Tab w')=>EH S f hft (hu rfl) fc w' (HFV.out.keep hk) ht');clear HK0 hhu hu;go_enter Tryz.func35,Tryz.ntmps35
   go_upto_region 1 with fail
   rw [←HW0.out];clear HW0;go_wp2_with (go_at_call 32;refine(kU B g (acc) (36::123::nm) _ HBL0.out gK gK gj).mono ?_)
   first|rintro e w1 rfl hbl1 hfr1|rintro e w1 ⟨rfl,hbl1,hfr1⟩
   have hx1:=hfr1.box HB1.out hne gv;have HX1:=ab hx1;have hsz1:B≤w1.heap.size:=by have:=hfr1.size;omega
   obtain⟨q0,q1,q2,q3,q4,q16,q17,qr⟩:=HA.out.box (hx1);have HXS1:=ab (HXS.out w1 (hfr1.keepS hB0 hgB HS.out) (HT0.out.fr hfr1 hB0 hgB htb));go_wp2_with (first
    | (refine kA rfl 41 (.tmp 23) rfl w.heap.size 5 rfl fc _ qr ma rfl jY ?_)
    | (go_at_call 50;refine HXS1.out.mono ?_))
   first|rintro e w2 rfl hb2|rintro e w2 ⟨rfl,hb2⟩
   have hfr2:Fr B [g] [5] w1 w2:=Fr.of_below hb2 (Ia _);have hbl2:=hbl1.below hb2;have hsz2:B≤w2.heap.size:=by have:=hfr2.size;omega
   clear q0 q1 q2 q3 q4 q16 q17 qr;go_wp2_with (go_at_call 32;refine(kU B g (acc++36::123::nm) (qK f) _ hbl2 gK gK gj).mono ?_)
   first|rintro e w3 rfl hbl3 hfr3|rintro e w3 ⟨rfl,hbl3,hfr3⟩
   have hsz3:B≤w3.heap.size:=by have:=hfr3.size;omega
   exact bN
  | false =>
   have hbr:(brT false false f ks).length=1:=by simp [brT]
   clear HK0 hhu hu;go_enter Tryz.func35,Tryz.ntmps35
   go_upto_region 1 with fail
   rw [←HW0.out];clear HW0;go_wp2_with (go_at_call 32;refine(kU B g (acc) (36::123::nm) _ HBL0.out gK gK gj).mono ?_)
   first|rintro e w1 rfl hbl1 hfr1|rintro e w1 ⟨rfl,hbl1,hfr1⟩
   have hx1:=hfr1.box HB1.out hne gv;have hsz1:B≤w1.heap.size:=by have:=hfr1.size;omega
   obtain⟨q0,q1,q2,q3,q4,q16,q17,qr⟩:=HA.out.box (hx1);go_wp2_with (go_at_call 34;refine(kQ B g (acc++36::123::nm) (125) _ hbl1 gK gj gj gj).mono ?_)
   first|rintro e w4 rfl hbl4 hfr4|rintro e w4 ⟨rfl,hbl4,hfr4⟩
   have HBL4:=ab hbl4;have HFR4:=ab ((HF0.out.trans hfr1).trans hfr4);clear hbl1 hbl4 hfr1 hfr4;go_wp2
   go_end0
   refine⟨rfl,?_,HFR4.out⟩;have h:=HBL4.out;simpa [brT] using h
open Go.RowKit
def jt:Bool→List Str→Str
 | _,[]=>[]
 | true,a::l=>quot fiveS a++jt false l
 | false,a::l=>44::(quot fiveS a++jt false l)
theorem C4:∀(l:List Str) (a:Str),jt false (a::l)=44::oZ (a::l)
 | [],a=>by simp [jt,oZ]
 | b::l,a=>by
  have ih:=C4 l b;simp only [jt,oZ] at ih ⊢;rw [ih]
theorem jt_join:∀(l:List Str),jt true l=oZ l
 | []=>rfl
 | [a]=>by simp [jt,oZ]
 | a::b::l=>by
  have:=C4 l b
  simp only [jt,oZ] at this ⊢;rw [this]
open Go.RowKit
def SFs (g bx:Nat) (cc:List Value) (n:Int):List (Value→World→Prop) :=
 [eqP (.pointer (some ⟨g,0,none⟩)),eqP (.agg cc.toArray),eqP (.pointer (some ⟨bx,2,none⟩)),eqP (.int .i64 n),eqP (.string ⟨(dec n).toArray⟩)]
theorem SFs_mono (g bx:Nat) (cc:List Value) (n:Int):MonoF (SFs g bx cc n):=.eq (.eq (.eq (.eq (.eq .nil))))
def RSI (g bx:Nat) (cc:List Value) (n:Int) (A0:Act) (W0:World) (L:Nat→Bool) (a:Act) (w':World):Prop :=
 ∃V:Nat→Value,Fm2 [51,52,53,54,55] V A0 a∧BelI W0 (SFs g bx cc n) V L w'
def SnwRel (B g:Nat) (ks:List Sn) (w:World) (R:Str) (q:Value) (wr:World):Prop :=
 ∃(i:Nat) (acc:Str),q=.int .i64 i∧i≤ks.length∧Bld B g acc wr∧Fr B [g] [5] w wr∧Hid (acc++Sn.tellL (ks.drop i)=R)
def SoRel (B g:Nat) (o:List Str) (w:World) (R:Str) (q:Value) (wr:World):Prop :=
 ∃(j:Nat) (acc:Str),q=.int .i64 j∧j≤o.length∧Bld B g acc wr∧Fr B [g] [5] w wr∧Hid (acc++jt (decide (j=0)) (o.drop j)=R)
theorem Ds (x:Sn) (r:List Sn):Sn.tellL (x::r)=x.tell++Sn.tellL r:=by rw [Sn.tellL]
theorem rN (k:Int) (t:Str) (n:Int) (h u:Bool) (f:Tf) (o:List Str) (ks:List Sn):(Sn.mk k t n h u f o ks).tell=if k=0 then quot three t else if k=2 then 36::123::(dec n++124::(oZ o++[124,125])) else 36::123::(qg k t n++brT h u f ks):=by
 rw [Sn.tell];rfl
theorem wf_kind {k:Int} {t:Str} {n:Int} {h u:Bool} {f:Tf} {o:List Str} {ks:List Sn} (hf:l6 (.mk k t n h u f o ks)=true) :
  k=0∨(k=1∧0≤n∧n≤9999∧lv (.mk k t n h u f o ks)=true)∨(k=2∧0≤n∧n≤9999)∨(k=3∧t.length≤64∧lv (.mk k t n h u f o ks)=true):=by
 have hf':(if k=0 then !t.isEmpty&&(decide (n=0)&&(o.isEmpty&&nk (.mk k t n h u f o ks))) else if k=1 then t.isEmpty&&(decide (0≤n∧n≤9999)&&(o.isEmpty&&lv (.mk k t n h u f o ks))) else if k=2 then t.isEmpty&&(decide (0≤n∧n≤9999)&&(!o.isEmpty&&nk (.mk k t n h u f o ks))) else if k=3 then od t&&(decide (n=0)&&(o.isEmpty&&lv (.mk k t n h u f o ks))) else false)=true:=hf;split at hf'
 ·exact .inl ‹_›
 split at hf'
 ·rw [Ie,Ie,Ie,Hs] at hf'
  exact .inr (.inl ⟨‹_›,hf'.2.1.1,hf'.2.1.2,hf'.2.2.2⟩)
 split at hf'
 ·rw [Ie,Ie,Hs] at hf'
  exact .inr (.inr (.inl ⟨‹_›,hf'.2.1.1,hf'.2.1.2⟩))
 split at hf'
 ·rw [Ie,Ie,Ie] at hf'
  refine .inr (.inr (.inr ⟨‹_›,?_,hf'.2.2.2⟩));have h1:=hf'.1;cases t with
  | nil=>simp
  | cons c t =>
   simp only [od,Ie,Hs] at h1;exact h1.1.1
 ·cases hf'
theorem Ak {k:Int} {t:Str} {n:Int} {h u:Bool} {f:Tf} {o:List Str} {ks:List Sn} (hb:lv (.mk k t n h u f o ks)=true):(u=true→oY f=true)∧(h=true→u=false):=by
 cases h with
 | true =>
  cases u with
  | true=>cases hb
  | false=>exact⟨(fun e=>by cases e),fun _=>rfl⟩
 | false =>
  cases u with
  | true =>
   have hb':(ks.isEmpty&&oY f)=true:=hb;rw [Ie] at hb';exact⟨fun _=>hb'.2,(fun e=>by cases e)⟩
  | false=>exact⟨(fun e=>by cases e),(fun e=>by cases e)⟩
theorem jt_snoc (b:Bool) (a:Str) (r:List Str):jt b (a::r)=(if b=true then [] else [44])++quot fiveS a++jt false r:=by cases b<;>simp [jt]
theorem DI (B g:Nat) (ks:List Sn) (hti:Sn.tinyL ks) (hkl:ks.length≤1000000) (hwf:Sn.wfL ks=true) (htb:1<B) (IH0:∀y∈ks,y.has=true→ShwC B g y.kids):ShwC B g ks:=by
 intro S a c acc0 w hbl0 ht hB hS hx hlen;obtain⟨R,hR⟩:∃R,acc0++Sn.tellL ks=R:=⟨_,rfl⟩;have hRl:R.length≤10000000:=by rw [←hR,Ig];exact hlen
 rw [hR];have hgB:=hbl0.ge;have hgl:=hbl0.lt;have HRR:Hid (acc0++Sn.tellL (ks.drop 0)=R):=ab hR;have HX:=ab hx;have HBL0:=ab hbl0;have HT:=ab ht;have HS:=ab hS;have HTI:=ab (fun y hy=>qE hti y hy);have HWF:=ab (fun y hy=>xR hwf y hy);have IH:=ab IH0;clear hx hti hwf IH0 hR hbl0 ht hS hlen;go_enter Tryz.func20,Tryz.ntmps20
 go_wp2
 go_loopw [10] (fun q wr=>SnwRel B g ks w R q wr) (fun q _=>ks.length-(intOf q).toNat)
 case atStart=>exact⟨0,acc0,rfl,by omega,HBL0.out,Fr.refl _ _ _ _,HRR⟩
 case round =>
  obtain⟨i,acc,rfl,hi,hbl,hfr,HF⟩:=hrel;clear HRR HBL0;have hBr:B≤wr.heap.size:=Ib hB hfr.size;cases hd:ks.drop i with
  | nil =>
   have h2:ks.length≤i:=gX;have HF':Hid (acc=R):=ab (by rw [←HF.out,hd];simp [Sn.tellL]);exact dF
  | cons y r =>
   obtain⟨h2,h3,hr⟩:=kV hd;have hym:=In h3;have hty:=HTI.out y hym;have hwy:=HWF.out y hym;have hih:=IH.out y hym;obtain⟨yk,yt,yn,yh,yu,yf,yo,ys⟩:=y;rw [Sn.wf,Ie] at hwy;simp only [Sn.tiny] at hty;obtain⟨ty1,ty2,ty3,ty4,ty5,ty6⟩:=hty;have HF2:Hid (acc++((Sn.mk yk yt yn yh yu yf yo ys).tell++Sn.tellL (ks.drop (i+1)))=R):=ab (by rw [hr,←HF.out,hd,Ds]);have htl:acc.length+((Sn.mk yk yt yn yh yu yf yo ys).tell.length+(Sn.tellL (ks.drop (i+1))).length)≤10000000:=by
    have h:=Hy List.length HF2.out;rw [Ig,Ig] at h;omega
   have hkept:=hfr.keepS hB hgB HS.out;obtain⟨b,o,cc,rfl,hSb,hbB,hyv,hcc⟩:=(HX.out.keep hkept).at_ h3;have hrg:wr.rangeAt b (o+i*18) cc:=fun j v hj=>by rw [IJ];exact hcc j v hj
   have hcl:=hyv.len;obtain⟨fc,oa,oc,ka,kc,hA⟩:=hyv.at_;obtain⟨W5,hW5⟩:∃W5,W5=wr.alloc (.cells cc.toArray 44):=⟨_,rfl⟩;have HW5:Hid ((wr.alloc (.cells #[.int .i64 0,.string ⟨#[]⟩,.int .i64 0,.bool false,.bool false,.int .i64 0,.string ⟨#[]⟩,.bool false,.slice none 0 0,.int .i64 0,.int .i64 0,.bool false,.slice none 0 0,.slice none 0 0,.bool false,.bool false,.slice none 0 0,.slice none 0 0] 44)).setRow wr.heap.size cc.toArray=W5):=ab gS;have hb5:Below wr.heap.size wr W5:=by rw [hW5];exact(Below.refl _ _).alloc (Ia _) _
   have HBX:Hid (W5.heap[wr.heap.size]?=some (.cells cc.toArray 44 (0,0))):=ab iK;have hz5:=hb5.size;have HF5:Hid (Fr B [g] [5] w W5):=ab (hfr.trans (Fr.of_below hb5 (Ia _)));have HBL5:=ab (hbl.below hb5);have HT5:=ab ((HT.out.fr hfr hB hgB htb).keep hb5);have HYV:=ab (hyv.later hb5);have HOV:=ab (hA.ov.keep (Kept.all hb5));have hB5:B≤W5.heap.size:=gj;have hne:wr.heap.size≠g:=by have:=hfr.size;omega
   obtain⟨q0,q1,q2,q3,q4,q16,q17,qr⟩:=hA.box HBX.out;have HONE:Hid (∀u∈cc.toArray.toList,u.oneCell'=true):=ab (fun u hu=>hyv.one u iD);have hkk:=wf_kind hwy.1;have HA:=ab hA;have HIH:=ab hih;clear hd hr h3 hyv hcc hW5 hA hym hih HF hkept hbl hfr hb5 hwy qr;rcases hkk with hk|⟨hk,hn0,hn9,hbs⟩|⟨hk,hn0,hn9⟩|⟨hk,ht64,hbs⟩
   ·subst hk
    have HTE:Hid (acc++quot three yt++Sn.tellL (ks.drop (i+1))=R):=ab (by rw [←HF2.out,rN,Hu rfl,II]);rw [rN,Hu rfl] at htl;have HQ:=ab (sS B g yt three acc W5 HBL5.out ty2 gj hB5);unfold three at HQ;clear HF2;go_wp2_with (first
     | (first
      | (refine kA rfl 44 (.tmp 12) rfl b (o+(i)*18) rfl cc _ hrg kC rfl gG ?_)
      | (refine kK rfl 44 (.tmp 5) (.tmp 13) rfl (wr.heap.size) (cc.toArray) rfl rfl 44 (#[.int .i64 0,.string ⟨#[]⟩,.int .i64 0,.bool false,.bool false,.int .i64 0,.string ⟨#[]⟩,.bool false,.slice none 0 0,.int .i64 0,.int .i64 0,.bool false,.slice none 0 0,.slice none 0 0,.bool false,.bool false,.slice none 0 0,.slice none 0 0]) (heap_alloc_new wr _) (kF) ii rfl (HONE.out) (W:=W5) (HW5.out) ?_))
     | (go_at_call 31;refine HQ.out.mono ?_))
    exact cn
   ·subst hk
    have HTE:Hid (acc++36::123::(dec yn++brT yh yu yf ys)++Sn.tellL (ks.drop (i+1))=R):=ab iW;rw [rN,Hx gv,Hx gv,show qg 1 yt yn=dec yn from rfl] at htl;simp only [H7,Ig] at htl;obtain⟨bf1,bf2⟩:=Ak hbs;have HBR:=ab (fun(w':World) (hb':Below W5.heap.size W5 w')=>uP B g 1 yt yn yh yu yf yo ys (dec yn) acc ty1 bf1 bf2 (fun e=>HIH.out e) S cc w' (HYV.out.later hb') HS.out (HBL5.out.below hb') (HT5.out.keep hb') htb (Ib hB5 hb'.size) gj);clear HF2 hbs bf1 bf2 HIH;go_upto_region 17 with(first
     | (refine kA rfl 44 (.tmp 12) rfl b (o+(i)*18) rfl cc _ hrg kC rfl gG ?_)
     | (refine kK rfl 44 (.tmp 5) (.tmp 13) rfl (wr.heap.size) (cc.toArray) rfl rfl 44 (#[.int .i64 0,.string ⟨#[]⟩,.int .i64 0,.bool false,.bool false,.int .i64 0,.string ⟨#[]⟩,.bool false,.slice none 0 0,.int .i64 0,.int .i64 0,.bool false,.slice none 0 0,.slice none 0 0,.bool false,.bool false,.slice none 0 0,.slice none 0 0]) (heap_alloc_new wr _) (kF) ii rfl (HONE.out) (W:=W5) (HW5.out) ?_))
    refine lT 5 gC gC (fun A0 W0 L a w'=>RSI g wr.heap.size cc yn A0 W0 L a w') ?_;intro A0 HAA;have hsz:A0.tmps.size=65:=by rw [HAA.out];rfl
    have hnd:[51,52,53,54,55].Nodup:=gv;have hbd:∀d∈[51,52,53,54,55],d<A0.tmps.size:=by rw [hsz];decide
    have e0:A0.tmps[0]?=some (.pointer (some ⟨g,0,none⟩)):=by rw [HAA.out];rfl
    have e5:A0.tmps[5]?=some (.pointer (some ⟨wr.heap.size,0,none⟩)):=by rw [HAA.out];rfl
    have hM:=SFs_mono g wr.heap.size cc yn;have hbx:∀w',Below W5.heap.size W5 w'→w'.heap[wr.heap.size]?=some (.cells cc.toArray 44 (0,0)):=fun w' h=>(h.block _ (ky HBX.out)).trans HBX.out
    refine⟨?_,?_,?_⟩
    ·obtain⟨V,hV⟩:=nd A0 [51,52,53,54,55]
     exact⟨V,⟨hV⟩,BelI.start _ _ _⟩
    ·refine⟨?_,?_,?_,?_,?_,trivial⟩
     ·intro L a w' hL hd hI
      obtain⟨V,hf,hB⟩:=hI;simp [kL,Region.binds] at hd
      have e:=lx ((hf.out (t:=0) gv).trans e0);refine lr (kH rfl) (nn (.inl rfl)) ?_;rw [e];exact ei
     ·intro L a w' hL hd hI
      obtain⟨V,hf,hB⟩:=hI;simp [kL,Region.binds] at hd
      refine kA rfl 44 (.tmp 5) rfl wr.heap.size 0 (lx ((hf.out (t:=5) gv).trans e5)) cc _ (kG (ds:=[]) (by simpa using hbx w' hB.ext)) kC rfl gG ?_;exact dn
     ·intro L a w' hL hd hI
      obtain⟨V,hf,hB⟩:=hI;simp [kL,Region.binds] at hd
      have e:=lx ((hf.out (t:=5) gv).trans e5);refine lr (kH rfl) (v:=.pointer (some ⟨wr.heap.size,2,none⟩)) (w':=w') gO ?_;exact⟨_,hf.put hnd hbd 2 rfl _,hB.same hM 2 rfl⟩
     ·intro L a w' hL hd hI
      obtain⟨V,hf,hB⟩:=hI;simp [kL,Region.binds] at hd
      have q2':=lp hB.ext _ _ q2;refine lr (kH rfl) (pU rfl ((hf.ins hnd hbd 2 rfl).trans (Hy some (show V 2=.pointer (some ⟨wr.heap.size,2,none⟩) from hB.at_ 2 gE))) (u:=.int .i64 yn) kq) ?_;exact el
     ·intro L a w' hL hd hI
      obtain⟨V,hf,hB⟩:=hI;simp [kL,Region.binds] at hd
      have e:=(lx ((hf.ins hnd hbd 3 rfl).trans (Hy some (show V 3=.int .i64 yn from hB.at_ 3 gE))));refine pP (kH rfl) (pS (vs:=#[.int .i64 yn]) rfl Tryz.func33 gC gT) ((rH yn w' hn0 gj (HT5.out.keep hB.ext)).mono ?_);rintro e9 w9 ⟨rfl,hb9⟩;refine⟨_,rfl,?_⟩;exact⟨_,hf.put hnd hbd 4 rfl _,hB.step hM 4 hb9 rfl⟩
    ·intro L a w' hL hI
     obtain⟨V,hf,hB⟩:=hI;have hv0:V 0=.pointer (some ⟨g,0,none⟩):=hB.at_ 0 (hL 0 gv);have hv1:V 1=.agg cc.toArray:=hB.at_ 1 (hL 1 gv);have hv4:V 4=.string ⟨(dec yn).toArray⟩:=hB.at_ 4 (hL 4 gv);have ha:=hf.eq;have hA:=HAA.out;have HEX:=ab hB.ext;subst ha;subst hA;simp only [ms,hv0,hv1,hv4];have HC:=ab (HBR.out w' HEX.out);clear hf hB hM hbd hsz e0 e5 HAA hv0 hv1 hv4 hL hbx hnd;go_wp2_with (go_at_call 35;refine HC.out.mono ?_)
     first|rintro e w1 rfl hbl1 hfr1|rintro e w1 ⟨rfl,hbl1,hfr1⟩
     have HBL1:=ab hbl1;have HFR1:=ab ((HF5.out.trans (Fr.of_below HEX.out (Ia _))).trans hfr1);clear hbl1 hfr1;go_wp2
     go_roundw
     case rel=>exact⟨i+1,_,by go_num,by omega,HBL1.out,HFR1.out,HTE⟩
     case measure=>simp [intOf];omega
   ·subst hk
    have HTE:Hid (acc++36::123::(dec yn++124::(oZ yo++[124,125]))++Sn.tellL (ks.drop (i+1))=R):=ab (by rw [←HF2.out,rN,Hx gv,Hu rfl,II]);rw [rN,Hx gv,Hu rfl] at htl;simp only [H7,Ig,IE] at htl;obtain⟨J,hJ⟩:∃J,oZ yo=J:=⟨_,rfl⟩;have HJ0:Hid (jt true yo=J):=ab (by rw [jt_join,hJ]);rw [hJ] at HTE htl;have HTY4:=ab ty4;clear HF2 HIH hJ ty4;go_wp2_with (first
     | (first
      | (refine kA rfl 44 (.tmp 12) rfl b (o+(i)*18) rfl cc _ hrg kC rfl gG ?_)
      | (refine kK rfl 44 (.tmp 5) (.tmp 13) rfl (wr.heap.size) (cc.toArray) rfl rfl 44 (#[.int .i64 0,.string ⟨#[]⟩,.int .i64 0,.bool false,.bool false,.int .i64 0,.string ⟨#[]⟩,.bool false,.slice none 0 0,.int .i64 0,.int .i64 0,.bool false,.slice none 0 0,.slice none 0 0,.bool false,.bool false,.slice none 0 0,.slice none 0 0]) (heap_alloc_new wr _) (kF) ii rfl (HONE.out) (W:=W5) (HW5.out) ?_))
     | (go_at_call 33;refine(rH yn W5 hn0 gj HT5.out).mono ?_))
    first|rintro e w1 rfl hb1|rintro e w1 ⟨rfl,hb1⟩
    have hfr1:Fr B [g] [5] W5 w1:=Fr.of_below hb1 (Ia _);have hbl1:=HBL5.out.below hb1;have hsz1:B≤w1.heap.size:=by have:=hb1.size;omega
    have HX1:=ab ((hb1.block _ (ky HBX.out)).trans HBX.out);clear q0 q1 q2 q3 q4 q16 q17;go_wp2_with (go_at_call 32;refine(kU B g (acc) (36::123::(dec yn++[124])) _ hbl1 gq gq gj).mono ?_)
    first|rintro e w2 rfl hbl2 hfr2|rintro e w2 ⟨rfl,hbl2,hfr2⟩
    obtain⟨_,_,_,_,_,q16,_,_⟩:=HA.out.box (hfr2.box HX1.out hne gv);obtain⟨A2,hA2⟩:∃A2,acc++36::123::(dec yn++[124])=A2:=⟨_,rfl⟩;have hA2l:A2.length=acc.length+(dec yn).length+3:=by rw [←hA2];simp;omega
    have HA2:=ab hA2;rw [hA2] at hbl2;have HBL2:=ab hbl2;have HFR2:=ab (hfr1.trans hfr2);have HJ1:Hid (A2++jt (decide ((0:Nat)=0)) (yo.drop 0)=A2++J):=ab (by rw [ID];exact Hy (A2++·) HJ0.out);clear hA2 hbl1 hbl2 hfr1 hfr2 HJ0 hb1;go_wp2
    obtain⟨wo,rfl⟩:∃wo:World,wo=wr:=⟨_,rfl⟩;go_loopw [34] (fun q wr2=>SoRel B g yo W5 (A2++J) q wr2) (fun q _=>yo.length-(intOf q).toNat)
    case atStart=>exact⟨0,A2,rfl,by omega,HBL2.out,HFR2.out,HJ1⟩
    case round =>
     obtain⟨j,acj,rfl,hj,hblj,hfrj,HFJ⟩:=hrel;clear HJ1 HBL2 HFR2;have hBj:B≤wr.heap.size:=Ib hB5 hfrj.size;have hacj:acj.length≤10000000:=by
      have h:=Hy List.length HFJ.out;rw [Ig,Ig] at h;omega
     have HBLJ:=ab hblj;have HFRJ:=ab hfrj;cases hd2:yo.drop j with
     | nil =>
      have h4:yo.length≤j:=by simpa using hd2
      have HE2:Hid (acj=A2++J):=ab (by rw [←HFJ.out,hd2];simp [jt]);clear hd2 HFJ hblj hfrj;go_wp2_with (go_at_call 32;refine(kU B g (acj) ([124,125]) _ HBLJ.out gq gq gj).mono ?_)
      first|rintro e w3 rfl hbl3 hfr3|rintro e w3 ⟨rfl,hbl3,hfr3⟩
      have HBL3:=ab hbl3;have HFR3:=ab ((HF5.out.trans HFRJ.out).trans hfr3);have HEQ3:Hid (acj++[124,125]++Sn.tellL (ks.drop (i+1))=R):=ab (by rw [HE2.out,←HTE.out,←HA2.out];simp);clear hbl3 hfr3;go_wp2
      exact⟨⟨i+1,_,by go_num,by omega,HBL3.out,HFR3.out,HEQ3⟩,by simp [intOf];omega⟩
     | cons s r2 =>
      obtain⟨h4,h5,hr2⟩:=kV hd2;have hsl:=HTY4.out s (In h5);obtain⟨ob,oo,rfl,hoB,c0⟩:=(HOV.out.keep (hfrj.keepS hB5 hgB HS.out)).sl.str h5;have HF3:Hid (acj++((if decide (j=0)=true then [] else [44])++quot fiveS s++jt false r2)=A2++J):=ab (by rw [←HFJ.out,hd2,jt_snoc]);have HR3:=ab hr2;have e10:decide (j+1=0)=false:=gz;have E10:=ab e10;clear hd2 HFJ hblj hfrj hr2 h5 e10;by_cases hj0:j=0
      ·have gi:decide ((0:Int)<(j:Int))=false:=Ix gj
       have gin:decide (0<j)=false:=Ix gj;have HF4:Hid (acj++quot fiveS s++jt false r2=A2++J):=ab (by rw [←HF3.out,hj0];simp);have HQ:=ab (sS B g s fiveS acj wr HBLJ.out hsl gj hBj);unfold fiveS at HQ;clear HF3 hj0;go_wp2_with (go_at_call 31;refine HQ.out.mono ?_)
       first|rintro e w3 rfl hbl3 hfr3|rintro e w3 ⟨rfl,hbl3,hfr3⟩
       have HBL3:=ab hbl3;have HFR3:=ab (HFRJ.out.trans hfr3);have HEQ3:Hid (acj++quot fiveS s++jt (decide (j+1=0)) (yo.drop (j+1))=A2++J):=ab (by rw [E10.out,HR3.out];exact HF4.out);exact dm
      ·have gi:decide ((0:Int)<(j:Int))=true:=Iw gj
       have gin:decide (0<j)=true:=Iw gj;have HF4:Hid (acj++[44]++quot fiveS s++jt false r2=A2++J):=ab (by rw [←HF3.out,Ix hj0];simp);clear HF3 hj0;go_wp2_with (go_at_call 34;refine(kQ B g (acj) (44) _ HBLJ.out gq gj gj gj).mono ?_)
       first|rintro e w4 rfl hbl4 hfr4|rintro e w4 ⟨rfl,hbl4,hfr4⟩
       have hB4:B≤w4.heap.size:=Ib hBj hfr4.size;have HQ:=ab (sS B g s fiveS (acj++[44]) w4 (by simpa using hbl4) hsl gD hB4);unfold fiveS at HQ;have HFR4:=ab (HFRJ.out.trans hfr4);clear hbl4 hfr4;go_wp2_with (go_at_call 31;refine HQ.out.mono ?_)
       first|rintro e w3 rfl hbl3 hfr3|rintro e w3 ⟨rfl,hbl3,hfr3⟩
       have HBL3:=ab hbl3;have HFR3:=ab (HFR4.out.trans hfr3);have HEQ3:Hid (acj++[44]++quot fiveS s++jt (decide (j+1=0)) (yo.drop (j+1))=A2++J):=ab (by rw [E10.out,HR3.out];exact HF4.out);exact dm
   ·subst hk
    have HTE:Hid (acc++36::123::(yt++brT yh yu yf ys)++Sn.tellL (ks.drop (i+1))=R):=ab iW;rw [rN,Hx gv,Hx gv,show qg 3 yt yn=yt from rfl] at htl;simp only [H7,Ig] at htl;obtain⟨bf1,bf2⟩:=Ak hbs;have HBR:=ab (uP B g 3 yt yn yh yu yf yo ys yt acc ty1 bf1 bf2 (fun e=>HIH.out e) S cc W5 HYV.out HS.out HBL5.out HT5.out htb hB5 gj);clear HF2 hbs bf1 bf2 HIH;go_wp2_with (first
     | (first
      | (refine kA rfl 44 (.tmp 12) rfl b (o+(i)*18) rfl cc _ hrg kC rfl gG ?_)
      | (refine kK rfl 44 (.tmp 5) (.tmp 13) rfl (wr.heap.size) (cc.toArray) rfl rfl 44 (#[.int .i64 0,.string ⟨#[]⟩,.int .i64 0,.bool false,.bool false,.int .i64 0,.string ⟨#[]⟩,.bool false,.slice none 0 0,.int .i64 0,.int .i64 0,.bool false,.slice none 0 0,.slice none 0 0,.bool false,.bool false,.slice none 0 0,.slice none 0 0]) (heap_alloc_new wr _) (kF) ii rfl (HONE.out) (W:=W5) (HW5.out) ?_))
     | (refine kA rfl 44 (.tmp 5) rfl wr.heap.size 0 rfl cc _ (kG (ds:=[]) je) kC rfl gG ?_)
     | (go_at_call 35;refine HBR.out.mono ?_))
    exact cn
end Go.Proofs.YtdcnncgpomcaaaaGreatDoor
