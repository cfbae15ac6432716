/- The reference's run (gimletref16), as plain functions, and that it answers as rxrun's does. -/
import Derived.Test.YtjggmmaojklmpaaGreatLb3
set_option maxRecDepth 100000
set_option maxHeartbeats 4000000
namespace Go.Proofs.YtjggmmaojklmpaaGreat
structure Nx where
 kind:Int
 x:Rx
 g:Nat
 many:Nat
 fr:Nat
abbrev Ps:=List (Int × Int)
abbrev Ro:=Option (Nat × Ps) × Nat × Bool
abbrev OnF:=List Nx→Nat→Ps→Nat→Option Ro
def nx0 (x:Rx) (g:Nat):Nx:=⟨0,x,g,0,0⟩
def orR (a:Option Ro) (h:Nat→Option Ro):Option Ro :=
 match a with
 | none=>none
 | some r=>if r.1.isSome=true∨r.2.2=true then some r else h r.2.1
def altL (on:OnF):List Rx→Nat→List Nx→Nat→Ps→Nat→Option Ro
 | [],_,_,_,_,fu=>some (none,fu,false)
 | x::r,g,K,i,ps,fu=>orR (on (nx0 x g::K) i ps fu) fun fu'=>altL on r (g+x.groups) K i ps fu'
def seqN:List Rx→Nat→List Nx→List Nx
 | [],_,K=>K
 | x::r,g,K=>nx0 x g::seqN r (g+x.groups) K
def kid0 (x:Rx):Rx:=x.kids.headD (.mk 0 [] false [] 0 0 false [])
def oH (on:OnF) (k:Nx) (K:List Nx) (i:Nat) (ps:Ps) (fu:Nat):Option Ro :=
 on (nx0 (kid0 k.x) k.g::⟨2,k.x,k.g,k.many+1,i⟩::K) i (kA ps k.g (k.g+k.x.groups)) fu
def repL (on:OnF) (k:Nx) (K:List Nx) (i:Nat) (ps:Ps) (fu:Nat):Option Ro :=
 if (k.many:Int)<k.x.lo then oH on k K i ps fu
 else if k.x.lazy=true then
  (if k.x.hi=-1∨(k.many:Int)<k.x.hi then orR (on K i ps fu) fun fu'=>oH on k K i ps fu' else on K i ps fu)
 else if k.x.hi=-1∨(k.many:Int)<k.x.hi then orR (oH on k K i ps fu) fun fu'=>on K i ps fu'
 else on K i ps fu
def nZ (C:Rc) (on:OnF) (k:Nx) (K:List Nx) (i:Nat) (ps:Ps) (fu:Nat):Option Ro :=
 if fu=0 then some (none,0,true)
 else if k.x.kind=5 then on (nx0 (kid0 k.x) (k.g+1)::⟨1,.mk 0 [] false [] 0 0 false [],k.g,0,i⟩::K) i ps (fu-1)
 else if k.x.kind=6 then on (nx0 (kid0 k.x) k.g::K) i ps (fu-1)
 else if k.x.kind=2∨k.x.kind=3∨k.x.kind=4 then
  (if i<C.cs.length∧lf C k.x.kind k.x.chr k.x.neg k.x.rows (C.cs.getD i [])=true then on K (i+1) ps (fu-1) else some (none,fu-1,false))
 else if ki C k.x.kind i=true then on K i ps (fu-1) else some (none,fu-1,false)
def onR (C:Rc):Nat→OnF
 | 0=>fun _ _ _ _=>none
 | N+1=>fun K i ps fu =>
  match K with
  | []=>some (some (i,ps),fu,false)
  | k::K =>
   if k.kind=1 then onR C N K i (mG ps k.g ((C.offs.getD k.fr 0:Int),(C.offs.getD i 0:Int))) fu
   else if k.kind=2 then(if k.x.lo<(k.many:Int)∧i=k.fr then some (none,fu,false) else repL (onR C N) k K i ps fu)
   else if k.x.kind=0 then onR C N (seqN k.x.kids k.g K) i ps fu
   else if k.x.kind=1 then altL (onR C N) k.x.kids k.g K i ps fu
   else if k.x.kind=7 then repL (onR C N) (nx0 k.x k.g) K i ps fu
   else nZ C (onR C N) k K i ps fu
def Le (a b:OnF):Prop:=∀K i ps fu r,a K i ps fu=some r→b K i ps fu=some r
theorem tN {a b:Option Ro} {h h':Nat→Option Ro} (h1:∀r,a=some r→b=some r) (h2:∀fu r,h fu=some r→h' fu=some r):∀r,orR a h=some r→orR b h'=some r:=by
 intro r hr;cases ha:a with
 | none=>rw [ha] at hr;cases hr
 | some q =>
  rw [ha] at hr;rw [h1 q ha];unfold orR at hr ⊢;simp only at hr ⊢
  split
  ·rename_i hc;rw [Cl hc] at hr;exact hr
  ·rename_i hc;rw [Co hc] at hr;exact h2 _ _ hr
theorem sd {a b:OnF} (h:Le a b):∀(ks:List Rx) (g:Nat) (K:List Nx) (i:Nat) (ps:Ps) (fu:Nat) (r:Ro),altL a ks g K i ps fu=some r→altL b ks g K i ps fu=some r
 | [],_,_,_,_,_,_,hr=>hr
 | _::ks,_,K,i,ps,_,r,hr=>tN (fun q hq=>h _ _ _ _ q hq) (fun fu' q hq=>sd h ks _ K i ps fu' q hq) r hr
theorem nu {a b:OnF} (h:Le a b) {k:Nx} {K:List Nx} {i:Nat} {ps:Ps} {fu:Nat} {r:Ro} (hr:oH a k K i ps fu=some r):oH b k K i ps fu=some r:=h _ _ _ _ r hr
theorem vA {a b:OnF} (h:Le a b) {k:Nx} {K:List Nx} {i:Nat} {ps:Ps} {fu:Nat} {r:Ro} (hr:repL a k K i ps fu=some r):repL b k K i ps fu=some r:=by
 unfold repL at hr ⊢;split
 ·rename_i hc;rw [Cl hc] at hr;exact nu h hr
 ·rename_i hc
  rw [Co hc] at hr;split
  ·rename_i hz
   rw [Cl hz] at hr;split
   ·rename_i hm;rw [Cl hm] at hr;exact tN (fun q hq=>h _ _ _ _ q hq) (fun _ q hq=>nu h hq) r hr
   ·rename_i hm;rw [Co hm] at hr;exact h _ _ _ _ r hr
  ·rename_i hz
   rw [Co hz] at hr;split
   ·rename_i hm;rw [Cl hm] at hr;exact tN (fun q hq=>nu h hq) (fun _ q hq=>h _ _ _ _ q hq) r hr
   ·rename_i hm;rw [Co hm] at hr;exact h _ _ _ _ r hr
theorem oV {c:Prop} [Decidable c] {a a' b b':Option Ro} {r:Ro} (h1:a=some r→a'=some r) (h2:b=some r→b'=some r):(if c then a else b)=some r→(if c then a' else b')=some r:=by
 split
 ·exact h1
 ·exact h2
theorem vR {C:Rc} {a b:OnF} (h:Le a b) {k:Nx} {K:List Nx} {i:Nat} {ps:Ps} {fu:Nat} {r:Ro} (hr:nZ C a k K i ps fu=some r):nZ C b k K i ps fu=some r :=
 oV id (oV (h _ _ _ _ r) (oV (h _ _ _ _ r) (oV (oV (h _ _ _ _ r) id) (oV (h _ _ _ _ r) id)))) hr
theorem onR_le (C:Rc):∀N,Le (onR C N) (onR C (N+1))
 | 0=>fun _ _ _ _ _ h=>by cases h
 | N+1=>by
  have ih:=onR_le C N;intro K i ps fu r hr;unfold onR at hr ⊢;cases K with
  | nil=>exact hr
  | cons k K =>
   simp only at hr ⊢
   split
   ·rename_i hc;rw [Cl hc] at hr;exact ih _ _ _ _ r hr
   ·rename_i hc
    rw [Co hc] at hr;split
    ·rename_i h2
     rw [Cl h2] at hr;split
     ·rename_i h3;rw [Cl h3] at hr;exact hr
     ·rename_i h3;rw [Co h3] at hr;exact vA ih hr
    ·rename_i h2
     rw [Co h2] at hr;split
     ·rename_i h3;rw [Cl h3] at hr;exact ih _ _ _ _ r hr
     ·rename_i h3
      rw [Co h3] at hr;split
      ·rename_i h4;rw [Cl h4] at hr;exact sd ih _ _ _ _ _ _ r hr
      ·rename_i h4
       rw [Co h4] at hr;split
       ·rename_i h5;rw [Cl h5] at hr;exact vA ih hr
       ·rename_i h5;rw [Co h5] at hr;exact vR ih hr
theorem oR (C:Rc) {N M:Nat} (h:N≤M):Le (onR C N) (onR C M):=by
 induction h with
 | refl=>exact fun _ _ _ _ _ h=>h
 | step _ ih=>exact fun K i ps fu r hr=>onR_le C _ K i ps fu r (ih K i ps fu r hr)
def denX (C:Rc) (k:Nx) (T:Nat) (f:Rk):Rk:=fun e st =>
 if k.kind=1 then grpK C k.g k.fr f e st
 else if k.kind=2 then(if k.fr<e∨((k.many-1:Nat):Int)<k.x.lo then lu (fun k' f' st'=>kU C k.x.kids k.g k' f' st') k.x.lo k.x.hi k.x.lazy k.g (k.g+Rx.groupsL k.x.kids) f (T-k.many) e k.many st else(false,st))
 else tryM C k.x k.g e f st
def den (C:Rc):List (Nx × Nat)→Rk
 | []=>fun e s=>(true,{ s with en:=(e:Int) })
 | k::K=>denX C k.1 k.2 (den C K)
structure Agr (ps:Ps) (t:Bool × Rst) (r:Ro):Prop where
 eq:r=(if t.1=true then some (t.2.en.toNat,t.2.ps) else none,t.2.fuel,t.2.out)
 yes:t.1=true→t.2.out=false∧0≤t.2.en
 no:t.1=false→t.2.ps=ps∧t.2.en=-1
def st0 (ps:Ps) (fu:Nat):Rst:=⟨ps,fu,false,-1⟩
def EqF (C:Rc) (G lb:Nat) (K:List (Nx × Nat)):Prop :=
 ∀e ps fu,lb≤e→e≤C.cs.length→ps.length=G→∃N r,onR C N (K.map Prod.fst) e ps fu=some r∧Agr ps (den C K e (st0 ps fu)) r
section
variable {C:Rc} {G lb:Nat}
theorem EqF.le {lb':Nat} {K:List (Nx × Nat)} (h:EqF C G lb K) (hl:lb≤lb'):EqF C G lb' K:=fun e ps fu h1 h2 h3=>h e ps fu gu h2 h3
theorem eqF_nil:EqF C G lb []:=by
 intro e ps fu _ _ _;refine⟨1,(some (e,ps),fu,false),rfl,?_⟩;have e1:den C [] e (st0 ps fu)=(true,⟨ps,fu,false,(e:Int)⟩):=rfl;rw [e1];exact { eq:=by simp,yes:=fun _=>⟨rfl,Int.natCast_nonneg e⟩,no:=fun h=>by cases h }
theorem Agr.fail (ps:Ps) (fu:Nat) (o:Bool):Agr ps (false,⟨ps,fu,o,-1⟩) (none,fu,o):=⟨rfl,(fun h=>by cases h),fun _=>⟨rfl,rfl⟩⟩
theorem Agr.stays {ps:Ps} {t:Bool × Rst} {r:Ro} (h:Agr ps t r) (hf:t.1=false):t=(false,⟨ps,t.2.fuel,t.2.out,-1⟩)∧r=(none,t.2.fuel,t.2.out):=by
 obtain⟨h1,h2⟩:=h.no hf;obtain⟨b,ps',fu,o,en⟩:=t;simp only at hf h1 h2
 subst hf h1 h2;exact⟨rfl,h.eq⟩
theorem set_back (ps:Ps) (g:Nat) (v:Int × Int):mG (mG ps g v) g (ps.getD g (-1,-1))=ps:=by
 unfold mG;rw [List.set_set];by_cases h:g<ps.length
 ·rw [List.getD_eq_getElem?_getD,Cn h]
  exact List.set_getElem_self h
 ·exact List.set_eq_of_length_le gu
theorem eqF_end {K:List (Nx × Nat)} (h:EqF C G lb K) (x:Rx) (g m fr T:Nat):EqF C G lb ((⟨1,x,g,m,fr⟩,T)::K):=by
 intro e ps fu h1 h2 h3;obtain⟨N,r,h4,h5⟩:=h e (mG ps g ((C.offs.getD fr 0:Int),(C.offs.getD e 0:Int))) fu h1 h2 (by unfold mG;rw [List.length_set];exact h3);refine⟨N+1,r,?_,?_⟩
 ·rw [Cw]
  unfold onR;simp only
  rw [Cl trivial];exact h4
 ·have e1:den C ((⟨1,x,g,m,fr⟩,T)::K) e (st0 ps fu)=AT (ps.getD g (-1,-1)) g (den C K e (st0 (mG ps g ((C.offs.getD fr 0:Int),(C.offs.getD e 0:Int))) fu)):=rfl
  rw [e1];obtain⟨t,ht⟩:∃t,den C K e (st0 (mG ps g ((C.offs.getD fr 0:Int),(C.offs.getD e 0:Int))) fu)=t:=⟨_,rfl⟩;rw [ht] at h5 ⊢;unfold AT;cases hb:t.1 with
  | true=>rw [Cl rfl];exact⟨h5.eq,h5.yes,fun h=>by rw [hb] at h;cases h⟩
  | false =>
   rw [Co gD];obtain⟨h6,h7⟩:=h5.stays hb;rw [h7,h6];simp only
   rw [set_back];exact Agr.fail ps _ _
theorem yd {x:Rx} {g k:Nat} {f:Rk} {st:Rst} (h:st.out=true):tryM C x g k f st=(false,st):=by
 obtain⟨kd,c,ng,rs,lo,hi,lz,ks⟩:=x;unfold tryM;rw [Cl h]
theorem xK:∀{ks:List Rx} {g k:Nat} {f:Rk} {st:Rst},st.out=true→altM C ks g k f st=(false,st)
 | [],_,_,_,_,_=>rfl
 | x::r,g,k,f,st,h=>by
  rw [altM,yd h];unfold orE;rw [Co gF];exact xK h
theorem B8 {K:List (Nx × Nat)} {e:Nat} {ps:Ps}:∀(ks:List Rx) (g fu:Nat),(∀x∈ks,∀g' fu',g≤g'→g'+x.groups≤g+Rx.groupsL ks→∃N r,onR C N (nx0 x g'::K.map Prod.fst) e ps fu'=some r∧Agr ps (tryM C x g' e (den C K) (st0 ps fu')) r) →
  ∃N r,altL (onR C N) ks g (K.map Prod.fst) e ps fu=some r∧Agr ps (altM C ks g e (den C K) (st0 ps fu)) r
 | [],g,fu,_=>⟨0,_,rfl,Agr.fail ps fu false⟩
 | x::ks,g,fu,h=>by
  obtain⟨N1,r1,h1,h2⟩:=h x (CB ..) g fu (Cp _) (by simp only [Rx.groupsL];omega);rw [altM];obtain⟨t,ht⟩:∃t,tryM C x g e (den C K) (st0 ps fu)=t:=⟨_,rfl⟩;rw [ht] at h2 ⊢;cases hb:t.1 with
  | true =>
   refine⟨N1,r1,?_,?_⟩
   ·unfold altL orR
    rw [h1];simp only
    rw [Cl (.inl (by rw [h2.eq,Cl hb];rfl))]
   ·unfold orE
    rw [Cl hb];exact⟨h2.eq,h2.yes,fun h=>by rw [hb] at h;cases h⟩
  | false =>
   obtain⟨h3,h4⟩:=h2.stays hb;have eo:orE t (fun s=>altM C ks (g+x.groups) e (den C K) s)=altM C ks (g+x.groups) e (den C K) t.2:=by unfold orE;rw [Co (by rw [hb];decide)]
   rw [eo];cases ho:t.2.out with
   | true =>
    refine⟨N1,r1,?_,?_⟩
    ·unfold altL orR
     rw [h1];simp only
     rw [Cl (.inr (by rw [h4];exact ho))]
    ·rw [xK ho,h4,h3,ho]
     exact Agr.fail ps _ _
   | false =>
    obtain⟨N2,r2,h5,h6⟩:=B8 ks (g+x.groups) t.2.fuel (fun y hy g' fu' hg1 hg2=>h y (CC _ hy) g' fu' gu (by simp only [Rx.groupsL];omega));refine⟨max N1 N2,r2,?_,?_⟩
    ·unfold altL orR
     rw [oR C (Nat.le_max_left N1 N2) _ _ _ _ r1 h1];simp only
     rw [Co (by rw [h4,ho];simp),h4];exact sd (oR C (Nat.le_max_right N1 N2)) _ _ _ _ _ _ r2 h5
    ·have e2:t.2=st0 ps t.2.fuel:=by
      have:=CR Prod.snd h3
      rw [ho] at this;exact this
     rw [e2];exact h6
end
section
variable {C:Rc} {G lb:Nat}
theorem agr_or {ps:Ps} {o1:Nat→Option Ro} {o2:Nat→Nat→Option Ro} {t:Bool × Rst} {h:Rst→Bool × Rst}
  (m1:∀N M,N≤M→∀r,o1 N=some r→o1 M=some r) (m2:∀N M,N≤M→∀fu r,o2 N fu=some r→o2 M fu=some r)
  (h1:∃N r,o1 N=some r∧Agr ps t r) (hout:∀fu,h ⟨ps,fu,true,-1⟩=(false,⟨ps,fu,true,-1⟩)) (h2:∀fu,∃N r,o2 N fu=some r∧Agr ps (h (st0 ps fu)) r) :
  ∃N r,orR (o1 N) (o2 N)=some r∧Agr ps (orE t h) r:=by
 obtain⟨N1,r1,e1,a1⟩:=h1;cases hb:t.1 with
 | true =>
  refine⟨N1,r1,?_,?_⟩
  ·unfold orR
   rw [e1];simp only
   rw [Cl (.inl (by rw [a1.eq,Cl hb];rfl))]
  ·unfold orE
   rw [Cl hb];exact a1
 | false =>
  obtain⟨h3,h4⟩:=a1.stays hb;have eo:orE t h=h t.2:=by unfold orE;rw [Co (by rw [hb];decide)]
  rw [eo];cases ho:t.2.out with
  | true =>
   refine⟨N1,r1,?_,?_⟩
   ·unfold orR
    rw [e1];simp only
    rw [Cl (.inr (by rw [h4];exact ho))]
   ·rw [h4,h3,ho,hout]
    exact Agr.fail ps _ _
  | false =>
   obtain⟨N2,r2,h5,h6⟩:=h2 t.2.fuel;refine⟨max N1 N2,r2,?_,?_⟩
   ·unfold orR
    rw [m1 N1 _ (Nat.le_max_left N1 N2) r1 e1];simp only
    rw [Co (by rw [h4,ho];simp),h4];exact m2 N2 _ (Nat.le_max_right N1 N2) _ _ h5
   ·rw [h3,ho]
    exact h6
theorem none_len {ps:Ps} {lo hi:Nat} (h1:lo≤hi) (h2:hi≤ps.length):(kA ps lo hi).length=ps.length:=by
 exact d9
theorem ut {ps:Ps} {lo hi:Nat} (h1:lo≤hi) (h2:hi≤ps.length):nX (kA ps lo hi) ps lo hi=ps:=by
 unfold nX kA;have l1:(ps.take lo).length=lo:=by rw [CK];omega
 have l2:(ps.take lo++List.replicate (hi-lo) ((-1:Int),(-1:Int))).length=hi:=by rw [Cy,l1,List.length_replicate];omega
 have t1:(ps.take lo++List.replicate (hi-lo) ((-1:Int),(-1:Int))++ps.drop hi).take lo=ps.take lo:=by rw [CU];exact List.take_left' l1
 have t2:(ps.take lo++List.replicate (hi-lo) ((-1:Int),(-1:Int))++ps.drop hi).drop hi=ps.drop hi:=List.drop_left' l2;rw [t1,t2];have:(ps.take hi).drop lo++ps.drop hi=ps.drop lo:=by
  conv=>rhs;rw [←List.take_append_drop hi ps]
  rw [List.drop_append_of_le_length (by rw [CK];omega)]
 rw [CU,this,List.take_append_drop]
theorem rW {y:Rx} {g k:Nat} {f:Rk} {st:Rst}:kU C [y] g k f st=tryM C y g k f st:=by unfold kU;rfl
theorem eqF_seq {K:List (Nx × Nat)}:∀(ks:List Rx) (g:Nat),(∀y∈ks,∀(lb g:Nat) (K:List (Nx × Nat)),g+y.groups≤G→EqF C G lb K→EqF C G lb ((nx0 y g,0)::K)) →
  g+Rx.groupsL ks≤G→EqF C G lb K →
  ∀e ps fu,lb≤e→e≤C.cs.length→ps.length=G→∃N r,onR C N (seqN ks g (K.map Prod.fst)) e ps fu=some r∧Agr ps (seqM C ks g e (den C K) (st0 ps fu)) r:=by
 have key:∀(ks:List Rx) (g:Nat),(∀y∈ks,∀(lb g:Nat) (K:List (Nx × Nat)),g+y.groups≤G→EqF C G lb K→EqF C G lb ((nx0 y g,0)::K)) →
   g+Rx.groupsL ks≤G→EqF C G lb K→∃K':List (Nx × Nat),K'.map Prod.fst=seqN ks g (K.map Prod.fst)∧(den C K'=fun e s=>seqM C ks g e (den C K) s)∧EqF C G lb K':=by
  intro ks;induction ks with
  | nil=>intro g _ _ h;exact⟨K,rfl,by funext e s;unfold seqM;rfl,h⟩
  | cons y r ih =>
   intro g hy hg h;simp only [Rx.groupsL] at hg;obtain⟨K',e1,e2,e3⟩:=ih (g+y.groups) (fun z hz=>hy z (CC _ hz)) gu h;refine⟨(nx0 y g,0)::K',?_,?_,hy y (CB ..) lb g K' gu e3⟩
   ·rw [Cw,e1];rfl
   ·funext e s
    have e4:den C ((nx0 y g,0)::K') e s=tryM C y g e (den C K') s:=rfl;rw [e4,e2];conv=>rhs;unfold seqM
 intro ks g hy hg h e ps fu h1 h2 h3;obtain⟨K',e1,e2,e3⟩:=key ks g hy hg h;obtain⟨N,r,h4,h5⟩:=e3 e ps fu h1 h2 h3;rw [e1] at h4;rw [e2] at h5;exact⟨N,r,h4,h5⟩
theorem tT:∀{ks:List Rx} {x:Rx},Rx.wfL ks=true→x∈ks→x.wf=true
 | [],_,_,h=>by simp at h
 | y::r,x,hw,h=>by
  simp only [Rx.wfL,Cs] at hw;rcases Cz.1 h with rfl|h
  ·exact hw.1
  ·exact tT hw.2 h
theorem eqF_time {K:List (Nx × Nat)} {x y:Rx} {g e many T:Nat} (hx:x.kids=[y]) (hxg:x.groups=y.groups) (hg:g+y.groups≤G) (he:e≤C.cs.length)
  (h:EqF C G e ((nx0 y g,0)::(⟨2,x,g,many+1,e⟩,T)::K)) (k:Nx) (hk:k.x=x∧k.g=g∧k.many=many) (ps:Ps) (fu:Nat) (hp:ps.length=G) :
  ∃N r,oH (onR C N) k (K.map Prod.fst) e ps fu=some r∧Agr ps (r7 ps g (g+y.groups) (tryM C y g e (den C ((⟨2,x,g,many+1,e⟩,T)::K)) { st0 ps fu with ps:=kA ps g (g+y.groups) })) r:=by
 obtain⟨e1,e2,e3⟩:=hk;obtain⟨N,r,h1,h2⟩:=h e (kA ps g (g+y.groups)) fu (Cp _) he (by rw [none_len gu gu,hp]);refine⟨N,r,?_,?_⟩
 ·unfold oH
  rw [e1,e2,e3,hxg];have:kid0 x=y:=by unfold kid0;rw [hx];rfl
  rw [this];exact h1
 ·have e4:den C ((nx0 y g,0)::(⟨2,x,g,many+1,e⟩,T)::K) e (st0 (kA ps g (g+y.groups)) fu)=tryM C y g e (den C ((⟨2,x,g,many+1,e⟩,T)::K)) { st0 ps fu with ps:=kA ps g (g+y.groups) }:=rfl
  rw [e4] at h2;obtain⟨t,ht⟩:∃t,tryM C y g e (den C ((⟨2,x,g,many+1,e⟩,T)::K)) { st0 ps fu with ps:=kA ps g (g+y.groups) }=t:=⟨_,rfl⟩;rw [ht] at h2 ⊢;unfold r7;cases hb:t.1 with
  | true=>rw [Cl rfl];exact { eq:=h2.eq,yes:=h2.yes,no:=fun h=>by rw [hb] at h;cases h }
  | false =>
   rw [Co gD];obtain⟨h6,h7⟩:=h2.stays hb;rw [h7,h6];simp only
   rw [ut gu gu];exact Agr.fail ps _ _
end
section
variable {C:Rc} {G:Nat}
theorem AN (s:Rst) (h:Rst→Bool × Rst):orE (false,s) h=h s:=rfl
theorem tW:∀(t:Bool × Rst),orE t (fun s=>(false,s))=t
 | (true,_)=>rfl
 | (false,_)=>rfl
def repX (c:Str) (ng:Bool) (rs:List (Str × Str)) (lo hi:Int) (lz:Bool) (y:Rx):Rx:=.mk 7 c ng rs lo hi lz [y]
def AgE (C:Rc) (G:Nat) (K:List (Nx × Nat)) (x y:Rx) (lo hi:Int) (lz:Bool) (g T many e:Nat):Prop :=
 ∀ps fu,ps.length=G→∀k:Nx,k.x=x∧k.g=g∧k.many=many→∃N r,repL (onR C N) k (K.map Prod.fst) e ps fu=some r ∧
  Agr ps (lu (fun k f st=>kU C [y] g k f st) lo hi lz g (g+Rx.groupsL [y]) (den C K) (T-many) e many (st0 ps fu)) r
theorem Bx {K:List (Nx × Nat)} {c:Str} {ng:Bool} {rs:List (Str × Str)} {lo hi:Int} {lz:Bool} {y:Rx} {g T many e:Nat}
  (hy:∀(lb g:Nat) (K:List (Nx × Nat)),g+y.groups≤G→EqF C G lb K→EqF C G lb ((nx0 y g,0)::K))
  (hK:EqF C G e K) (hg:g+y.groups≤G) (hh:hi=-1∨lo≤hi) (hl:0≤lo) (he:e≤C.cs.length) (hT:many<T)
  (ih:∀e',e≤e'→e'≤C.cs.length→e<e'∨(many:Int)<lo→AgE C G K (repX c ng rs lo hi lz y) y lo hi lz g T (many+1) e') :
  AgE C G K (repX c ng rs lo hi lz y) y lo hi lz g T many e:=by
 obtain⟨N',hN⟩:∃N',T-many=N'+1:=⟨T-many-1,by omega⟩;have hgl:Rx.groupsL [y]=y.groups:=by simp only [Rx.groupsL];omega
 have hxg:(repX c ng rs lo hi lz y).groups=y.groups:=by unfold repX;simp only [Rx.groups];rw [hgl,Co gD];omega
 have eD:∀e' s,den C ((⟨2,repX c ng rs lo hi lz y,g,many+1,e⟩,T)::K) e' s=if e<e'∨(many:Int)<lo then lu (fun k f st=>kU C [y] g k f st) lo hi lz g (g+Rx.groupsL [y]) (den C K) (T-(many+1)) e' (many+1) s else(false,s):=fun e' s=>rfl
 have hnode:EqF C G e ((⟨2,repX c ng rs lo hi lz y,g,many+1,e⟩,T)::K):=by
  intro e' ps fu h1 h2 h3;by_cases hc:e<e'∨(many:Int)<lo
  ·obtain⟨N,r,h4,h5⟩:=ih e' h1 h2 hc ps fu h3 ⟨2,repX c ng rs lo hi lz y,g,many+1,e⟩ ⟨rfl,rfl,rfl⟩
   refine⟨N+1,r,?_,?_⟩
   ·rw [Cw]
    unfold onR;simp only
    rw [Co gD,Cl trivial,Co]
    ·exact h4
    ·show ¬(lo<((many+1:Nat):Int)∧e'=e)
     omega
   ·rw [eD,Cl hc];exact h5
  ·refine⟨1,(none,fu,false),?_,?_⟩
   ·rw [Cw]
    unfold onR;simp only
    rw [Co gD,Cl trivial,Cl];show lo<((many+1:Nat):Int)∧e'=e
    omega
   ·rw [eD,Co hc];exact Agr.fail ps fu false
 have hB:=hy e g _ hg hnode;have eU:∀st,lu (fun k f st=>kU C [y] g k f st) lo hi lz g (g+Rx.groupsL [y]) (den C K) (N'+1) e many st
   = orE (if lo≤(many:Int)∧lz=true then den C K e st else(false,st)) (fun s1=>orE (if hi<0∨(many:Int)<hi then r7 s1.ps g (g+y.groups) (tryM C y g e (den C ((⟨2,repX c ng rs lo hi lz y,g,many+1,e⟩,T)::K)) { s1 with ps:=kA s1.ps g (g+y.groups) }) else(false,s1)) fun s2 =>
    if lo≤(many:Int)∧lz=false∧s2.out=false then den C K e s2 else(false,s2)):=by
  intro st;have e1:(den C ((⟨2,repX c ng rs lo hi lz y,g,many+1,e⟩,T)::K))=fun e' s=>if e<e'∨(many:Int)<lo then lu (fun k f st=>kU C [y] g k f st) lo hi lz g (g+Rx.groupsL [y]) (den C K) N' e' (many+1) s else(false,s):=by
   funext e' s
   rw [eD,show T-(many+1)=N' by omega]
  rw [e1,←hgl];conv=>lhs;unfold lu
  simp only [rW]
 intro ps fu hps k hk;have hTm:=fun fu=>eqF_time (x:=repX c ng rs lo hi lz y) rfl hxg hg he hB k hk ps fu hps
 obtain⟨kd,x',g',many',fr⟩:=k;obtain⟨rfl,rfl,rfl⟩:=hk;rw [hN,eU];have m1:∀N M,N≤M→∀r,onR C N (K.map Prod.fst) e ps fu=some r→onR C M (K.map Prod.fst) e ps fu=some r:=fun N M h r hr=>oR C h _ _ _ _ _ hr
 have hA:=fun fu=>hK e ps fu (Cp _) he hps
 have hcan:(hi<0∨(many':Int)<hi)↔(hi=-1∨(many':Int)<hi):=gu;have ho1:(repX c ng rs lo hi lz y).lo=lo:=rfl;have ho2:(repX c ng rs lo hi lz y).hi=hi:=rfl;have ho3:(repX c ng rs lo hi lz y).lazy=lz:=rfl;unfold repL;simp only [ho1,ho2,ho3];by_cases c1:(many':Int)<lo
 ·simp only [Cl c1,Co (show ¬(lo≤(many':Int)∧lz=true) by omega),AN,Cl (show hi<0∨(many':Int)<hi by omega)]
  obtain⟨N,r,h1,h2⟩:=hTm fu;refine⟨N,r,h1,?_⟩;rw [show (fun s2:Rst=>if lo≤(many':Int)∧lz=false∧s2.out=false then den C K e s2 else(false,s2))=fun s2=>(false,s2) from by funext s2;rw [Co gu],tW];exact h2
 ·simp only [Co c1]
  have c1':lo≤(many':Int):=gu;by_cases hz:lz=true
  ·have e5:(fun s2:Rst=>if lo≤(many':Int)∧lz=false∧s2.out=false then den C K e s2 else(false,s2))=fun s2=>(false,s2):=by funext s2;rw [Co (by rw [hz];simp)]
   simp only [e5,tW,Cl (show lo≤(many':Int)∧lz=true from⟨c1',hz⟩),Cl hz];by_cases c2:hi=-1∨(many':Int)<hi
   ·simp only [Cl c2,Cl (hcan.2 c2)]
    refine agr_or (o1:=fun N=>onR C N (K.map Prod.fst) e ps fu) (o2:=fun N fu'=>oH (onR C N) _ (K.map Prod.fst) e ps fu') m1 (fun N M h fu r hr=>nu (oR C h) hr) (hA fu) ?_ (fun fu=>hTm fu);intro fu;rw [yd rfl];unfold r7;rw [Co gF];simp only
    have hg':g'+y.groups≤G:=hg;rw [ut gu gu]
   ·simp only [Co c2,Co (fun h=>c2 (hcan.1 h)),tW]
    exact hA fu
  ·have hz':lz=false:=by simpa using hz
   simp only [Co (show ¬(lo≤(many':Int)∧lz=true) from fun h=>hz h.2),Co hz,AN];by_cases c2:hi=-1∨(many':Int)<hi
   ·simp only [Cl c2,Cl (hcan.2 c2)]
    refine agr_or (o1:=fun N=>oH (onR C N) _ (K.map Prod.fst) e ps fu) (o2:=fun N fu'=>onR C N (K.map Prod.fst) e ps fu') (fun N M h r hr=>nu (oR C h) hr) (fun N M h fu r hr=>oR C h _ _ _ _ _ hr) (hTm fu) ?_ ?_
    ·intro fu
     rw [Co gF]
    ·intro fu
     rw [Cl ⟨c1',hz',rfl⟩];exact hA fu
   ·simp only [Co c2,Co (fun h=>c2 (hcan.1 h)),AN]
    rw [Cl ⟨c1',hz',rfl⟩];exact hA fu
theorem rep_all {K:List (Nx × Nat)} {c:Str} {ng:Bool} {rs:List (Str × Str)} {lo hi:Int} {lz:Bool} {y:Rx} {g k0:Nat}
  (hy:∀(lb g:Nat) (K:List (Nx × Nat)),g+y.groups≤G→EqF C G lb K→EqF C G lb ((nx0 y g,0)::K))
  (hK:EqF C G k0 K) (hg:g+y.groups≤G) (hh:hi=-1∨lo≤hi) (hl:0≤lo) :
  ∀(m many e:Nat),(C.cs.length-e)+(lo.toNat-many)≤m→k0≤e→e≤C.cs.length→many≤lo.toNat+(e-k0) →
   AgE C G K (repX c ng rs lo hi lz y) y lo hi lz g (C.cs.length-k0+lo.toNat+1) many e:=by
 intro m;induction m with
 | zero =>
  intro many e h1 h2 h3 h4;exact Bx hy (hK.le h2) hg hh hl h3 gu (fun e' h5 h6 h7=>by omega)
 | succ m ih =>
  intro many e h1 h2 h3 h4;exact Bx hy (hK.le h2) hg hh hl h3 gu (fun e' h5 h6 h7=>ih (many+1) e' gu gu h6 gu)
end
section
variable {C:Rc} {G:Nat}
theorem BN:∀(M:Nat) (x:Rx),x.parts≤M→x.wf=true→∀(lb g:Nat) (K:List (Nx × Nat)),g+x.groups≤G→EqF C G lb K→EqF C G lb ((nx0 x g,0)::K)
 | 0,x,h,_=>by have:=Rx.parts_pos x;omega
 | M+1,.mk kd c ng rs lo hi lz ks,h,hw=>by
  intro lb g K hg hK e ps fu h1 h2 h3;simp only [Rx.wf,Cs] at hw;obtain⟨hfl,hwl⟩:=hw;simp only [Rx.parts] at h;have IH:∀y∈ks,∀(lb g:Nat) (K:List (Nx × Nat)),g+y.groups≤G→EqF C G lb K→EqF C G lb ((nx0 y g,0)::K):=fun y hy=>BN M y iG (tT hwl hy)
  simp only [Rx.groups] at hg;have eR:∀N,onR C (N+1) (nx0 (.mk kd c ng rs lo hi lz ks) g::K.map Prod.fst) e ps fu=if kd=0 then onR C N (seqN ks g (K.map Prod.fst)) e ps fu else if kd=1 then altL (onR C N) ks g (K.map Prod.fst) e ps fu else if kd=7 then repL (onR C N) (nx0 (.mk kd c ng rs lo hi lz ks) g) (K.map Prod.fst) e ps fu else nZ C (onR C N) (nx0 (.mk kd c ng rs lo hi lz ks) g) (K.map Prod.fst) e ps fu:=fun N=>rfl
  have eT:den C ((nx0 (.mk kd c ng rs lo hi lz ks) g,0)::K) e (st0 ps fu)=if kd=0 then seqM C ks g e (den C K) (st0 ps fu) else if kd=1 then altM C ks g e (den C K) (st0 ps fu)
    else if kd=7 then lu (fun k f st=>kU C ks g k f st) lo hi lz g (g+Rx.groupsL ks) (den C K) (C.cs.length-e+lo.toNat+1) e 0 (st0 ps fu)
    else if fu=0 then(false,{ st0 ps fu with out:=true })
    else if kd=5 then kU C ks (g+1) e (grpK C g e (den C K)) (st0 ps (fu-1))
    else if kd=6 then kU C ks g e (den C K) (st0 ps (fu-1))
    else if kd=2∨kd=3∨kd=4 then(if e<C.cs.length∧lf C kd c ng rs (C.cs.getD e [])=true then den C K (e+1) (st0 ps (fu-1)) else(false,st0 ps (fu-1)))
    else if ki C kd e=true then den C K e (st0 ps (fu-1)) else(false,st0 ps (fu-1)):=by
   show tryM C (.mk kd c ng rs lo hi lz ks) g e (den C K) (st0 ps fu)=_
   conv=>lhs;unfold tryM
   rw [Co (show ¬(st0 ps fu).out=true by simp [st0])];rfl
  have eB:∀on,nZ C on (nx0 (.mk kd c ng rs lo hi lz ks) g) (K.map Prod.fst) e ps fu=if fu=0 then some (none,0,true)
    else if kd=5 then on (nx0 (ks.headD (.mk 0 [] false [] 0 0 false [])) (g+1)::⟨1,.mk 0 [] false [] 0 0 false [],g,0,e⟩::K.map Prod.fst) e ps (fu-1)
    else if kd=6 then on (nx0 (ks.headD (.mk 0 [] false [] 0 0 false [])) g::K.map Prod.fst) e ps (fu-1)
    else if kd=2∨kd=3∨kd=4 then(if e<C.cs.length∧lf C kd c ng rs (C.cs.getD e [])=true then on (K.map Prod.fst) (e+1) ps (fu-1) else some (none,fu-1,false))
    else if ki C kd e=true then on (K.map Prod.fst) e ps (fu-1) else some (none,fu-1,false):=fun on=>rfl
  rw [eT];simp only [Cw];have K0:=hK.le h1;by_cases k0:kd=0
  ·subst k0
   rw [Co gD,Nat.zero_add] at hg;obtain⟨N,r,h4,h5⟩:=eqF_seq ks g IH hg K0 e ps fu (Cp _) h2 h3;exact⟨N+1,r,by rw [eR,Cl rfl];exact h4,by rw [Cl rfl];exact h5⟩
  by_cases k1:kd=1
  ·subst k1
   rw [Co gD,Nat.zero_add] at hg;obtain⟨N,r,h4,h5⟩:=B8 (C:=C) (K:=K) (e:=e) (ps:=ps) ks g fu (fun x hx g' fu' hg1 hg2=>IH x hx e g' K gu K0 e ps fu' (Cp _) h2 h3);exact⟨N+1,r,by rw [eR,Co k0,Cl rfl];exact h4,by rw [Co k0,Cl rfl];exact h5⟩
  by_cases k7:kd=7
  ·subst k7
   rw [Co gD,Nat.zero_add] at hg;simp only [kw] at hfl;rw [Co gD,Co gD,Cl gD] at hfl;simp only [Cs,Cj] at hfl;obtain⟨⟨_,hk1⟩,hl⟩:=hfl;match ks,hk1 with
   | [y],_ =>
    simp only [Rx.groupsL] at hg;obtain⟨N,r,h4,h5⟩:=rep_all (g:=g) (c:=c) (ng:=ng) (rs:=rs) (lz:=lz) (IH y (CV.2 rfl)) K0 gu (hl.2.2.imp id fun h=>h.1) hl.1 _ 0 e (Cp _) (Cp _) h2 gu ps fu h3 (nx0 (repX c ng rs lo hi lz y) g) ⟨rfl,rfl,rfl⟩;exact⟨N+1,r,by rw [eR,Co k0,Co k1,Cl rfl];exact h4,by rw [Co k0,Co k1,Cl rfl];exact h5⟩
  have eR2:∀N,onR C (N+1) (nx0 (.mk kd c ng rs lo hi lz ks) g::K.map Prod.fst) e ps fu=_:=fun N=>by rw [eR,Co k0,Co k1,Co k7,eB]
  rw [Co k0,Co k1,Co k7];by_cases hfu:fu=0
  ·refine⟨1,_,by rw [eR2,Cl hfu],?_⟩
   rw [Cl hfu,hfu];exact Agr.fail ps 0 true
  by_cases k5:kd=5
  ·subst k5
   rw [Cl rfl] at hg;have hone:ks.length=1:=by
    exact cI
   match ks,hone with
   | [y],_ =>
    simp only [Rx.groupsL] at hg;obtain⟨N,r,h4,h5⟩:=IH y (CV.2 rfl) e (g+1) _ gu (eqF_end K0 (.mk 0 [] false [] 0 0 false []) g 0 e 0) e ps (fu-1) (Cp _) h2 h3;exact⟨N+1,r,by rw [eR2,Co hfu,Cl rfl];exact h4,by rw [Co hfu,Cl rfl,rW];exact h5⟩
  by_cases k6:kd=6
  ·subst k6
   rw [Co gD] at hg;have hone:ks.length=1:=by
    exact cI
   match ks,hone with
   | [y],_ =>
    simp only [Rx.groupsL] at hg;obtain⟨N,r,h4,h5⟩:=IH y (CV.2 rfl) e g K gu K0 e ps (fu-1) (Cp _) h2 h3;exact⟨N+1,r,by rw [eR2,Co hfu,Co k5,Cl rfl];exact h4,by rw [Co hfu,Co k5,Cl rfl,rW];exact h5⟩
  by_cases k2:kd=2∨kd=3∨kd=4
  ·by_cases hc:e<C.cs.length∧lf C kd c ng rs (C.cs.getD e [])=true
   ·obtain⟨N,r,h4,h5⟩:=hK (e+1) ps (fu-1) gu gu h3
    exact⟨N+1,r,by rw [eR2,Co hfu,Co k5,Co k6,Cl k2,Cl hc];exact h4,by rw [Co hfu,Co k5,Co k6,Cl k2,Cl hc];exact h5⟩
   ·refine⟨1,_,by rw [eR2,Co hfu,Co k5,Co k6,Cl k2,Co hc],?_⟩
    rw [Co hfu,Co k5,Co k6,Cl k2,Co hc];exact Agr.fail ps _ false
  ·by_cases hc:ki C kd e=true
   ·obtain⟨N,r,h4,h5⟩:=hK e ps (fu-1) h1 h2 h3
    exact⟨N+1,r,by rw [eR2,Co hfu,Co k5,Co k6,Co k2,Cl hc];exact h4,by rw [Co hfu,Co k5,Co k6,Co k2,Cl hc];exact h5⟩
   ·refine⟨1,_,by rw [eR2,Co hfu,Co k5,Co k6,Co k2,Co hc],?_⟩
    rw [Co hfu,Co k5,Co k6,Co k2,Co hc];exact Agr.fail ps _ false
theorem one_eq {x:Rx} (hw:x.wf=true) {k fu:Nat} (hk:k≤C.cs.length) (ps0:Ps) (e0:Int) :
  ∃N r,onR C N [nx0 x 0] k (List.replicate x.groups (-1,-1)) fu=some r∧(oneM C x k ⟨ps0,fu,false,e0⟩).1=r.1∧(oneM C x k ⟨ps0,fu,false,e0⟩).2.fuel=r.2.1∧(oneM C x k ⟨ps0,fu,false,e0⟩).2.out=r.2.2:=by
 obtain⟨N,r,h1,h2⟩:=BN (C:=C) (G:=x.groups) x.parts x (Cp _) hw 0 0 [] gu eqF_nil k (List.replicate x.groups (-1,-1)) fu (Nat.zero_le _) hk gF;refine⟨N,r,h1,?_⟩;have e1:den C [(nx0 x 0,0)] k (st0 (List.replicate x.groups (-1,-1)) fu)=tryM C x 0 k (fun e s=>(true,{ s with en:=(e:Int) })) { (⟨ps0,fu,false,e0⟩:Rst) with ps:=List.replicate x.groups (-1,-1),en:=-1 }:=rfl;rw [e1] at h2;unfold oneM;obtain⟨t,ht⟩:∃t,tryM C x 0 k (fun e s=>(true,{ s with en:=(e:Int) })) { (⟨ps0,fu,false,e0⟩:Rst) with ps:=List.replicate x.groups (-1,-1),en:=-1 }=t:=⟨_,rfl⟩;rw [ht] at h2 ⊢;simp only
 cases hb:t.1 with
 | true =>
  obtain⟨y1,y2⟩:=h2.yes hb;rw [Co (by rw [y1];simp;exact y2),h2.eq,Cl hb];exact⟨rfl,rfl,rfl⟩
 | false =>
  obtain⟨h6,h7⟩:=h2.stays hb;rw [Cl (.inl (by rw [h6];show (-1:Int)<0;decide)),h7];exact⟨rfl,rfl,rfl⟩
end
def upB (c:UInt8):UInt8:=if 97≤c.toNat∧c.toNat≤122 then c-32 else c
def lowB (c:UInt8):UInt8:=if 65≤c.toNat∧c.toNat≤90 then c+32 else c
def mA (c:UInt8):Bool:=decide ((97≤c.toNat∧c.toNat≤122)∨(65≤c.toNat∧c.toNat≤90)∨(48≤c.toNat∧c.toNat≤57)∨128≤c.toNat)
def mi (small:Bool):Bool→Str→Str→Str
 | _,[],acc=>acc
 | pw,c::r,acc=>if mA c=true then(if pw=true then mi small true r (acc++[c]) else if small=true∧acc=[] then mi small true r (acc++[lowB c]) else mi small true r (acc++[upB c])) else mi small false r acc
def capB:Str→Str
 | []=>[]
 | c::r=>upB c::r
def turn (s:Str) (way:Int):Str × Int :=
 if way=1 then(s.map upB,0) else if way=2 then(s.map lowB,0) else if way=3 then(capB s,0) else if way=4 then(mi true false s [],0) else if way=5 then(mi false false s [],0) else([],2)
def n1:Str:=[117,112,99,97,115,101]
def n2:Str:=[100,111,119,110,99,97,115,101]
def n3:Str:=[99,97,112,105,116,97,108,105,122,101]
def n4:Str:=[99,97,109,101,108,99,97,115,101]
def n5:Str:=[112,97,115,99,97,108,99,97,115,101]
def mM (way:Int):Str:=if way=1 then n1 else if way=2 then n2 else if way=3 then n3 else if way=4 then n4 else if way=5 then n5 else []
def pz (s:Str):Int:=if s=n1 then 1 else if s=n2 then 2 else if s=n3 then 3 else if s=n4 then 4 else if s=n5 then 5 else 0
theorem lw (small:Bool):∀(s:Str) (pw:Bool) (acc:Str),(mi small pw s acc).length≤s.length+acc.length
 | [],pw,acc=>by simp [mi]
 | c::r,pw,acc=>by
  have h1:=lw small r true (acc++[c]);have h2:=lw small r true (acc++[lowB c]);have h3:=lw small r true (acc++[upB c]);have h4:=lw small r false acc;simp only [mi,Cr,Cy,CW] at *
  (repeat' split)<;>omega
theorem mS (s:Str) (way:Int):(turn s way).1.length≤s.length:=by
 unfold turn;have h1:=lw true s false [];have h2:=lw false s false []
 (repeat' split)<;>simp_all
 cases s<;>simp [capB]
theorem AI (c:UInt8):(upB c).toNat=if 97≤c.toNat∧c.toNat≤122 then c.toNat-32 else c.toNat:=by
 unfold upB;split
 ·rename_i h
  rw [UInt8.toNat_sub_of_le _ _ (by rw [UInt8.le_iff_toNat_le];have:(32:UInt8).toNat=32:=rfl;omega)];rfl
 ·rfl
theorem xI (c:UInt8):(lowB c).toNat=if 65≤c.toNat∧c.toNat≤90 then c.toNat+32 else c.toNat:=by
 unfold lowB;split
 ·rename_i h
  rw [UInt8.toNat_add];have:(32:UInt8).toNat=32:=rfl;omega
 ·rfl
theorem pN {c:Int} (h1:c<256):(UInt8.ofNat c.toNat).toNat=c.toNat:=by
 rw [UInt8.toNat_ofNat'];omega
theorem BH {s:Str} {k:Int} (h1:1≤k) (h5:k≤5) (h:mM k=s):pz s=k:=by
 have hk:k=1∨k=2∨k=3∨k=4∨k=5:=gu;subst h;rcases hk with rfl|rfl|rfl|rfl|rfl<;>decide
theorem zk {s:Str} (h:∀j:Int,1≤j→j<6→mM j≠s):pz s=0:=by
 unfold pz;rw [Co (fun e=>h 1 gu gu e.symm),Co (fun e=>h 2 gu gu e.symm),Co (fun e=>h 3 gu gu e.symm),Co (fun e=>h 4 gu gu e.symm),Co (fun e=>h 5 gu gu e.symm)]
open Go.RowKit
theorem pX (c:Int) (w:World) (h0:0≤c) (h1:c<256) :
  Calls Tryz.prog 63 #[.int .u8 c] w fun e w'=>e=.returned (.int .u8 (upB (UInt8.ofNat c.toNat)).toNat)∧w=w':=by
 obtain⟨R,hR⟩:∃R:Nat,R=(upB (UInt8.ofNat c.toNat)).toNat:=⟨_,rfl⟩;rw [←hR];rw [AI,pN h1] at hR;have HR:=ab hR;clear hR;go_enter Tryz.func63,Tryz.ntmps63
 exact dy
theorem vM (c:Int) (w:World) (h0:0≤c) (h1:c<256) :
  Calls Tryz.prog 64 #[.int .u8 c] w fun e w'=>e=.returned (.int .u8 (lowB (UInt8.ofNat c.toNat)).toNat)∧w=w':=by
 obtain⟨R,hR⟩:∃R:Nat,R=(lowB (UInt8.ofNat c.toNat)).toNat:=⟨_,rfl⟩;rw [←hR];rw [xI,pN h1] at hR;have HR:=ab hR;clear hR;go_enter Tryz.func64,Tryz.ntmps64
 exact dy
theorem qf (c:Int) (w:World) (h0:0≤c) (h1:c<256) :
  Calls Tryz.prog 100 #[.int .u8 c] w fun e w'=>e=.returned (.bool (mA (UInt8.ofNat c.toNat)))∧w=w':=by
 obtain⟨R,hR⟩:∃R:Bool,R=mA (UInt8.ofNat c.toNat):=⟨_,rfl⟩;rw [←hR];rw [mA,pN h1] at hR;have HR:=ab hR;clear hR;go_enter Tryz.func100,Tryz.ntmps100
 exact ee
theorem t9 (n:Int) (w:World) :
  Calls Tryz.prog 93 #[.int .i64 n] w fun e w'=>e=.returned (.string ⟨(mM n).toArray⟩)∧Below w.heap.size w w':=by
 by_cases h:1≤n∧n≤5
 ·obtain⟨h1,h2⟩:=h
  have hn:n=1∨n=2∨n=3∨n=4∨n=5:=gu;rcases hn with rfl|rfl|rfl|rfl|rfl
  all_goals
   go_enter Tryz.func93,Tryz.ntmps93
   go_wp2
   go_ret
   exact⟨rfl,(Below.refl _ _).alloc (Cp _) _⟩
 ·have hz:mM n=[]:=by
   exact dS
  rw [hz];go_enter Tryz.func93,Tryz.ntmps93
  go_wp2
  all_goals
   first
   | (go_ret;exact⟨rfl,Below.refl _ _⟩)
   | (exfalso;omega)
theorem Way_any (s:Str) (w:World) :
  Calls Tryz.prog 116 #[.string ⟨s.toArray⟩] w fun e w'=>e=.returned (.int .i64 (pz s))∧Below w.heap.size w w':=by
 generalize hR:pz s=R
 have HR:=ab hR;clear hR;go_enter Tryz.func116,Tryz.ntmps116
 go_wp2
 go_loopw [3] (fun q wr=>∃k:Int,1≤k∧k≤6∧q=.int .i64 k∧Below w.heap.size w wr∧Hid (∀j:Int,1≤j→j<k→mM j≠s)) (fun q _=>(6-intOf q).toNat)
 case atStart=>exact⟨1,by omega,by omega,rfl,Below.refl _ _,ab fun j h1 h2=>by omega⟩
 case round =>
  obtain⟨k,hk1,hk6,rfl,hb,HM⟩:=hrel;by_cases h5:k≤5
  ·by_cases hq:mM k=s
   ·have hbq:(mM k==s)=true:=by simp [hq]
    have Hq:=ab hq;clear hq;go_wp2_with (go_at_call 93;refine(t9 _ _).mono ?_;rintro e w1 ⟨rfl,hb1⟩)
    go_ret
    exact⟨lD (by rw [←HR.out,BH hk1 h5 Hq.out]),hb.trans (hb1.mono hb.size)⟩
   ·have hbq:(mM k==s)=false:=by simp [hq]
    have Hq:=ab hq;clear hq;go_wp2_with (go_at_call 93;refine(t9 _ _).mono ?_;rintro e w1 ⟨rfl,hb1⟩)
    go_roundw
    case rel =>
     refine⟨k+1,by omega,by omega,rfl,hb.trans (hb1.mono hb.size),ab fun j h1 h2=>?_⟩;by_cases hj:j=k
     ·subst hj;exact Hq.out
     ·exact HM.out j h1 gu
    case measure=>simp [intOf];omega
  ·go_wp2
   go_ret
   have:k=6:=gu
   subst this;exact⟨lD (by rw [←HR.out,zk HM.out]),hb⟩
theorem zD (l:Str) (small:Bool) (w:World) (hs:l.length≤1000000) :
  Calls Tryz.prog 65 #[.string ⟨l.toArray⟩,.bool small] w fun e w'=>e=.returned (.string ⟨(mi small false l []).toArray⟩)∧Below w.heap.size w w':=by
 generalize hR:mi small false l []=R
 have HR:=ab hR;clear hR;have HR0:Hid (mi small false (l.drop 0) []=R):=HR;clear HR;go_enter Tryz.func65,Tryz.ntmps65
 go_wp2
 go_loopw [6] (fun q wr=>∃(i:Nat) (acc:Str) (pw:Bool),i≤l.length∧q=.int .i64 i∧Bld w.heap.size w.heap.size acc wr∧Below w.heap.size w wr∧acc.length≤i∧Hid ((i=0→pw=false)∧(0<i→∀x,l[i-1]?=some x→mA x=pw))∧Hid (mi small pw (l.drop i) acc=R)) (fun q _=>l.length-(intOf q).toNat)
 case atStart=>exact⟨0,[],false,by omega,rfl,Bld.fresh _ _ (Cp _),(Below.refl _ _).alloc (Cp _) _,by simp,ab ⟨fun _=>rfl,fun h=>by omega⟩,HR0⟩
 case round =>
  obtain⟨i,acc,pw,hi,rfl,hbl,hb,hacc,HP,HF⟩:=hrel;clear HR0;have hB:=hb.size;cases hd:l.drop i with
  | nil =>
   have h2:=ll hd;have HF':Hid (mi small pw [] acc=R):=ab ij;clear hd HF;go_wp2_with (go_at_call 35;refine(sY _ _ _ _ hbl hB).mono ?_;rintro e w1 ⟨rfl,hb1⟩)
   go_ret
   exact⟨wV (by rw [←HF'.out];rfl),hb.trans hb1⟩
  | cons c r =>
   obtain⟨h2,h3,hr⟩:=ky hd;have HF':Hid (mi small pw (c::r) acc=R):=ab ij;have Hr:=ab hr;have hc256:=mE c;clear hd HF hr;by_cases hw:mA c=true
   ·have HW:=ab hw
    by_cases hpw:pw=true
    ·have hi0:0<i:=by
      rcases Nat.eq_zero_or_pos i with h|h
      ·have:=HP.out.1 h;rw [this] at hpw;cases hpw
      ·exact h
     obtain⟨x,hx⟩:∃x,l[i-1]?=some x:=⟨l[i-1],Cn gu⟩;have hxw:mA x=true:=by rw [HP.out.2 hi0 x hx,hpw]
     have hx3:∀h:i-1<l.length,l[i-1]'h=x:=fun h=>by rw [Cn h] at hx;injection hx
     have hx256:=mE x;have hgt:decide ((0:Int)<i)=true:=by simp;omega
     subst hpw;clear hx;go_wp2_with (first|(go_at_call 100;refine(qf _ _ gu gu).mono ?_;rintro e w1 ⟨rfl,rfl⟩)|(go_at_call 101;refine(mC w.heap.size _ acc _ _ hbl gu hB gu gu).mono ?_))
     rintro e w2 ⟨rfl,hbl2,hfr2⟩;rw [ud] at hbl2;clear hw hxw hx3;have hB3:=hbl2.lt;go_wp2_with fail
     go_roundw
     case rel =>
      refine⟨i+1,acc++[c],true,by omega,by go_num,hbl2,hb.trans (hfr2.below hB gF),?_,ab ⟨fun h=>by omega,fun _ x hx=>?_⟩,?_⟩
      ·exact ga
      ·exact fj
      ·refine ab ?_
       rw [Hr.out,←HF'.out];conv=>rhs;unfold mi;rw [Cl HW.out,Cl rfl]
     case measure=>simp [intOf];omega
    ·have hpf:pw=false:=by simpa using hpw
     subst hpf;clear hpw;rcases Nat.eq_zero_or_pos i with hi0|hi0
     ·have hgt:i≤0:=gu
      have HI0:=ab hi0;clear hi0;exact ar
     ·obtain⟨x,hx⟩:∃x,l[i-1]?=some x:=⟨l[i-1],Cn gu⟩
      have hxw:mA x=false:=HP.out.2 hi0 x hx;have hx3:∀h:i-1<l.length,l[i-1]'h=x:=fun h=>by rw [Cn h] at hx;injection hx
      have hx256:=mE x;have hgt:decide ((0:Int)<i)=true:=by simp;omega
      clear hx;exact ar
   ·have hw':mA c=false:=by simpa using hw
    have HW:=ab hw';have hbl2:=hbl;have hfr2:Fr w.heap.size [w.heap.size] [5] wr wr:=Fr.refl _ _ _ _;clear hw;go_wp2_with (go_at_call 100;refine(qf _ _ gu gu).mono ?_;rintro e w1 ⟨rfl,rfl⟩)
    go_roundw
    case rel =>
     refine⟨i+1,acc,false,by omega,by go_num,hbl2,hb,by omega,ab ⟨fun h=>by omega,fun _ x hx=>?_⟩,?_⟩
     ·exact gm
     ·refine ab ?_
      rw [Hr.out,←HF'.out];conv=>rhs;unfold mi;rw [Co (by rw [HW.out];simp)]
    case measure=>simp [intOf];omega
theorem pq (f:UInt8→UInt8) (l:Str) (k:Nat) (hk:k<l.length):((l.take k).map f++l.drop k).set k (f l[k])=(l.take (k+1)).map f++l.drop (k+1):=by
 apply List.ext_getElem?
 intro i;have e1:((l.take k).map f).length=k:=by simp;omega
 have e2:((l.take (k+1)).map f).length=k+1:=by simp;omega
 rw [List.getElem?_set];by_cases h:k=i
 ·subst h
  rw [Cl rfl,Cl gH,CA gu,List.getElem?_map,List.getElem?_take_of_lt gu,Cn hk];rfl
 ·rw [Co h]
  by_cases h2:i<k
  ·rw [CA gu,CA gu,List.getElem?_map,List.getElem?_map,List.getElem?_take_of_lt h2,List.getElem?_take_of_lt gu]
  ·rw [CD gu,CD gu,e1,e2,List.getElem?_drop,List.getElem?_drop]
   congr 1;omega
theorem Turn_up (l:Str) (w:World) (hs:l.length≤1000000) :
  Calls Tryz.prog 34 #[.string ⟨l.toArray⟩,.int .i64 1] w fun e w'=>e=.returned (.tuple #[.string ⟨(l.map upB).toArray⟩,.int .i64 0])∧Below w.heap.size w w':=by
 obtain⟨cap,w0,hcv,hrow,hb0,hsz⟩:=BRow.made (P:=Tryz.prog) w (src:=9) (dst:=46) l Tryz.underlying9 Tryz.underlying46 Tryz.underlying5;have HZ:=ab hsz;clear hsz;have hsz0:w.heap.size<w0.heap.size:=by have:=HZ.out;omega
 go_enter Tryz.func34,Tryz.ntmps34
 go_wp2_with (fail)
 go_loopw [18] (fun q wr=>∃k:Nat,k≤l.length∧q=.int .i64 k∧BRow wr w.heap.size ((l.take k).map upB++l.drop k)∧Below w.heap.size w wr∧w.heap.size<wr.heap.size) (fun q _=>l.length-(intOf q).toNat)
 case atStart=>exact b7
 case round =>
  obtain⟨k,hk,rfl,hr,hb,hlt⟩:=hrel;by_cases h2:k<l.length
  ·have hc:=hr.cell (j:=k) (c:=l[k]) (by rw [CD gH,List.getElem?_drop,CX,CK,show k+(k-min k l.length)=k by omega,Cn h2])
   have hf:=hr.free (j:=k) gH;have h256:=mE l[k];have HS:=hr.set (j:=k) (upB l[k]);rw [pq upB l k h2] at HS;have HS':=ab HS;clear HS;generalize hx:l[k]=x at *
   have Hx:=ab hx;clear hx;go_wp2_with (go_at_call 63;refine(pX _ _ gu gu).mono ?_;rintro e w1 ⟨rfl,rfl⟩)
   exact bJ
  ·exact bi
theorem Ax (l:Str) (w:World) (hs:l.length≤1000000) :
  Calls Tryz.prog 34 #[.string ⟨l.toArray⟩,.int .i64 2] w fun e w'=>e=.returned (.tuple #[.string ⟨(l.map lowB).toArray⟩,.int .i64 0])∧Below w.heap.size w w':=by
 obtain⟨cap,w0,hcv,hrow,hb0,hsz⟩:=BRow.made (P:=Tryz.prog) w (src:=9) (dst:=46) l Tryz.underlying9 Tryz.underlying46 Tryz.underlying5;have HZ:=ab hsz;clear hsz;have hsz0:w.heap.size<w0.heap.size:=by have:=HZ.out;omega
 go_enter Tryz.func34,Tryz.ntmps34
 go_wp2_with (fail)
 go_loopw [33] (fun q wr=>∃k:Nat,k≤l.length∧q=.int .i64 k∧BRow wr w.heap.size ((l.take k).map lowB++l.drop k)∧Below w.heap.size w wr∧w.heap.size<wr.heap.size) (fun q _=>l.length-(intOf q).toNat)
 case atStart=>exact b7
 case round =>
  obtain⟨k,hk,rfl,hr,hb,hlt⟩:=hrel;by_cases h2:k<l.length
  ·have hc:=hr.cell (j:=k) (c:=l[k]) (by rw [CD gH,List.getElem?_drop,CX,CK,show k+(k-min k l.length)=k by omega,Cn h2])
   have hf:=hr.free (j:=k) gH;have h256:=mE l[k];have HS:=hr.set (j:=k) (lowB l[k]);rw [pq lowB l k h2] at HS;have HS':=ab HS;clear HS;generalize hx:l[k]=x at *
   have Hx:=ab hx;clear hx;go_wp2_with (go_at_call 64;refine(vM _ _ gu gu).mono ?_;rintro e w1 ⟨rfl,rfl⟩)
   exact bJ
  ·exact bi
theorem Turn_cap (l:Str) (w:World) (hs:l.length≤1000000) :
  Calls Tryz.prog 34 #[.string ⟨l.toArray⟩,.int .i64 3] w fun e w'=>e=.returned (.tuple #[.string ⟨(capB l).toArray⟩,.int .i64 0])∧Below w.heap.size w w':=by
 obtain⟨cap,w0,hcv,hrow,hb0,hsz⟩:=BRow.made (P:=Tryz.prog) w (src:=9) (dst:=46) l Tryz.underlying9 Tryz.underlying46 Tryz.underlying5;have HZ:=ab hsz;clear hsz;have hsz0:w.heap.size<w0.heap.size:=by have:=HZ.out;omega
 cases l with
 | nil =>
  have hcv2:=hrow.back (P:=Tryz.prog) (src:=46) (dst:=9) Tryz.underlying46 Tryz.underlying5 Tryz.underlying9 cap;simp only [CW] at hcv hcv2;go_enter Tryz.func34,Tryz.ntmps34
  exact dI
 | cons c r =>
  have hc:=hrow.cell (j:=0) (c:=c) rfl;have hf:=hrow.free (j:=0) gF;have h256:=mE c;have HS:=hrow.set (j:=0) (upB c);have hcv2:=HS.back (P:=Tryz.prog) (src:=46) (dst:=9) Tryz.underlying46 Tryz.underlying5 Tryz.underlying9 cap;simp only [List.set_cons_zero,Cr] at hcv2;clear HS;go_enter Tryz.func34,Tryz.ntmps34
  go_wp2_with (go_at_call 63;refine(pX _ _ gu gu).mono ?_;rintro e w1 ⟨rfl,rfl⟩)
  exact eK
theorem yg (l:Str) (way:Int) (w:World) (hs:l.length≤1000000) :
  Calls Tryz.prog 34 #[.string ⟨l.toArray⟩,.int .i64 way] w fun e w'=>e=.returned (.tuple #[.string ⟨((turn l way).1).toArray⟩,.int .i64 (turn l way).2])∧Below w.heap.size w w':=by
 by_cases h1:way=1
 ·subst h1;exact Turn_up l w hs
 by_cases h2:way=2
 ·subst h2;exact Ax l w hs
 by_cases h3:way=3
 ·subst h3;exact Turn_cap l w hs
 obtain⟨cap,w0,hcv,hrow,hb0,hsz⟩:=BRow.made (P:=Tryz.prog) w (src:=9) (dst:=46) l Tryz.underlying9 Tryz.underlying46 Tryz.underlying5;have HZ:=ab hsz;clear hsz;by_cases h4:way=4
 ·subst h4
  exact cV
 by_cases h5:way=5
 ·subst h5
  exact cV
 have hT:turn l way=([],2):=by unfold turn;rw [Co h1,Co h2,Co h3,Co h4,Co h5]
 rw [hT];have e1:(way==1)=false:=by simpa using h1
 have e2:(way==2)=false:=by simpa using h2
 have e3:(way==3)=false:=by simpa using h3
 have e4:(way==4)=false:=by simpa using h4
 have e5:(way==5)=false:=by simpa using h5
 clear h1 h2 h3 h4 h5 hT;go_enter Tryz.func34,Tryz.ntmps34
 exact dI
structure Gx (X:Nat→Prop) (w w':World):Prop where
 os:w'.os=w.os
 tape:w'.tape=w.tape
 output:w'.output=w.output
 size:w.heap.size≤w'.heap.size
 block:∀k,k<w.heap.size→¬X k→w'.heap[k]?=w.heap[k]?
theorem Gx.refl (X:Nat→Prop) (w:World):Gx X w w:=⟨rfl,rfl,rfl,Cp _,fun _ _ _=>rfl⟩
theorem Gx.of_below {X:Nat→Prop} {w w':World} (h:Below w.heap.size w w'):Gx X w w':=⟨h.os,h.tape,h.output,h.size,fun k hk _=>h.block k hk⟩
theorem Gx.to {X Y:Nat→Prop} {a b c:World} (h:Gx X a b) (hk:Gx Y b c) (hY:∀k,k<a.heap.size→Y k→X k):Gx X a c :=
 ⟨hk.os.trans h.os,hk.tape.trans h.tape,hk.output.trans h.output,Ct h.size hk.size,fun k hlt hx=>(hk.block k (Cu hlt h.size) (fun hy=>hx (hY k hlt hy))).trans (h.block k hlt hx)⟩
theorem Gx.of_grown {X:Nat→Prop} {w w':World} {row:Option Nat} (h:w.grownBy w' row) (hr:∀k,row=some k→X k):Gx X w w':=⟨h.os,h.tape,h.output,h.size,fun k hk hx=>h.block k hk (fun e=>hx (hr k e.symm))⟩
theorem Gx.set {X:Nat→Prop} (w:World) {a:Addr} (u:Value) (ha:X a.block):Gx X w (w.setCell a u):=⟨rfl,rfl,rfl,by simp [World.setCell],fun k _ hx=>heap_setCell_other w a k u (fun e=>hx (e▸ha))⟩
theorem Gx.sets {X:Nat→Prop} {b:Nat} (hb:X b):∀(vs:List Value) (o:Nat) (w:World),Gx X w (w.setCells b o vs)
 | [],_,w=>Gx.refl X w
 | v::r,o,w=>(Gx.set w (a:=⟨b,o,none⟩) v hb).to (Gx.sets hb r (o+1) _) (fun _ _ h=>h)
theorem Gx.kept {X S:Nat→Prop} {w w':World} (h:Gx X w w') (hS:∀b,S b→¬X b):Kept S w w':=⟨h.size,fun b hb hlt=>h.block b hlt (hS b hb)⟩
theorem Gx.below {X:Nat→Prop} {w w':World} {B:Nat} (h:Gx X w w') (hB:B≤w.heap.size) (hX:∀k,X k→B≤k):Below B w w':=⟨h.os,h.tape,h.output,h.size,fun k hk=>h.block k gu (fun hx=>by have:=hX k hx;omega)⟩
theorem Gx.heap {X:Nat→Prop} {w w':World} (h:Gx X w w') {b:Nat} {o:Obj} (hb:w.heap[b]?=some o) (hx:¬X b):w'.heap[b]?=some o:=(h.block b (jO hb) hx).trans hb
theorem pe {X:Nat→Prop} {w w':World} {B:Nat} {e:TypeId} {sz n:Nat} {v:Value} {xs:List Value} (h:w.ownsRow B e sz v n xs) (hg:Gx X w w') (hv:∀k,v.ownBlock=some k→¬X k):w'.ownsRow B e sz v n xs:=by
 refine⟨h.1,?_⟩;rcases h.2 with h5|⟨g',cap,cur,hv',hB,hg',r⟩
 ·exact .inl h5
 ·exact .inr ⟨g',cap,cur,hv',hB,(hg.block g' (jO hg') (hv g' (by rw [hv'];rfl))).trans hg',r⟩
theorem uk {B:Nat} {e:TypeId} {sz n g cap:Nat}:∀(vs old pre post:List Value) {w:World},w.ownsRow B e sz (.slice (some ⟨g,0,none⟩) n cap) n (pre++(old++post))→old.length=vs.length→(w.setCells g pre.length vs).ownsRow B e sz (.slice (some ⟨g,0,none⟩) n cap) n (pre++(vs++post))
 | [],old,pre,post,w,h,hl=>by
  have h0:old=[]:=Cm hl;subst h0;exact h
 | v::vs,[],pre,post,w,h,hl=>by simp at hl
 | v::vs,u::old,pre,post,w,h,hl=>by
  have h1:=(h.stored pre.length v).1;have e1:(pre++(u::old++post)).set pre.length v=(pre++[v])++(old++post):=by
   rw [List.set_append_right _ _ (Cp _)];simp
  rw [e1] at h1;have h2:=uk vs old (pre++[v]) post h1 (by simpa using hl);exact dr
theorem jY {w:World} {b:Nat} {v:Value} {t:TypeId} (h:w.heap[b]?=some (.cells #[v] t (0,0))):w.cell? ⟨b,0,none⟩=some v:=by
 exact dg
theorem kT {w:World} {b:Nat} {cs:List Value} {t:TypeId} {m:Nat × Nat} (h:w.heap[b]?=some (.cells cs.toArray t m)) (j:Nat) (u:Value) (hj:cs[j]?=some u):w.cell? ⟨b,0+j,none⟩=some u:=by
 rw [Nat.zero_add,Cv h];simpa using hj
end Go.Proofs.YtjggmmaojklmpaaGreat
