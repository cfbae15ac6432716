/- A run of a tree that takes a fixed number of characters, told plainly. -/
import Derived.Test.YtbnkaecmgfolpaaGreatHb0d
import Derived.Test.YtbnkaecmgfolpaaGreatHb27
set_option maxRecDepth 100000
namespace Go.Proofs.YtbnkaecmgfolpaaGreat
def Pln (C:Rc) (x:Rx) (L B:Nat) (here:Nat→Bool):Prop :=
 ∀(k:Nat) (f:Rk) (st:Rst),st.out=false→B≤st.fuel→∃b,b≤B∧tryM C x 0 k f st=if here k=true then f (k+L) { st with fuel:=st.fuel-b } else(false,{ st with fuel:=st.fuel-b })
section
variable {C:Rc} {x:Rx} {L B:Nat} {here:Nat→Bool}
theorem Pln.one (h:Pln C x L B here) (hg:x.groups=0) (k:Nat) {st:Rst} (ho:st.out=false) (hf:B≤st.fuel) :
  ∃st',oneM C x k st=(if here k=true then some (k+L,[]) else none,st')∧st'.out=false∧st.fuel≤st'.fuel+B:=by
 obtain⟨b,hb,e⟩:=h k (fun e s=>(true,{ s with en:=(e:Int) })) { st with ps:=List.replicate x.groups (-1,-1),en:=-1 } ho hf;simp only at e
 by_cases hh:here k=true
 ·rw [zL hh] at e
  refine⟨⟨[],st.fuel-b,false,((k+L:Nat):Int)⟩,?_,rfl,by simp only;omega⟩;rw [zL hh];unfold oneM;rw [e];simp only
  rw [zO (by rw [ho];simp;omega)];simp [ho,hg]
  omega
 ·rw [zO hh] at e
  refine⟨⟨[],st.fuel-b,false,-1⟩,?_,rfl,by simp only;omega⟩;rw [zO hh];unfold oneM;rw [e];simp only
  rw [zL (.inl fo)];simp [ho,hg]
def fstF (n:Nat) (here:Nat→Bool):Nat→Nat→Option Nat
 | 0,_=>none
 | N+1,k=>if k<n then(if here k=true then some k else fstF n here N (k+1)) else none
theorem pJ {n:Nat}:∀{N k a:Nat},fstF n here N k=some a→k≤a∧a<n∧here a=true∧∀j,k≤j→j<a→here j=false
 | 0,_,_,h=>by simp [fstF] at h
 | N+1,k,a,h=>by
  unfold fstF at h;by_cases h1:k<n
  ·rw [zL h1] at h
   by_cases h2:here k=true
   ·rw [zL h2] at h;injection h with h;subst h
    exact⟨zP _,h1,h2,fun j h3 h4=>by omega⟩
   ·rw [zO h2] at h
    obtain⟨h3,h4,h5,h6⟩:=pJ h;refine⟨by omega,h4,h5,fun j h7 h8=>?_⟩;rcases Nat.eq_or_lt_of_le h7 with rfl|h7
    ·simpa using h2
    ·exact h6 j h7 h8
  ·rw [zO h1] at h;cases h
theorem pF {n:Nat}:∀{N k:Nat},n-k<N→fstF n here N k=none→∀j,k≤j→j<n→here j=false
 | 0,_,h,_=>by omega
 | N+1,k,h0,h=>by
  intro j h1 h2;unfold fstF at h;rw [zL (show k<n by omega)] at h;by_cases h3:here k=true
  ·rw [zL h3] at h;cases h
  ·rw [zO h3] at h
   rcases Nat.eq_or_lt_of_le h1 with rfl|h1
   ·simpa using h3
   ·exact pF fg h j h1 h2
theorem Pln.find (h:Pln C x L B here) (hg:x.groups=0):∀(N k:Nat) {st:Rst},st.out=false→B*(C.offs.length-k)≤st.fuel →
  ∃st',lD C x N k st=((fstF C.offs.length here N k).map (fun a=>(a,a+L,[])),st')∧st'.out=false∧∀a,fstF C.offs.length here N k=some a→B*(C.offs.length-(a+1))≤st'.fuel
 | 0,k,st,ho,_=>⟨st,rfl,ho,fun a h=>by simp [fstF] at h⟩
 | N+1,k,st,ho,hf=>by
  unfold lD fstF;by_cases h1:k<C.offs.length
  ·obtain⟨m,hm⟩:∃m,C.offs.length-k=m+1:=⟨C.offs.length-k-1,by omega⟩
   have hm2:C.offs.length-(k+1)=m:=fg;rw [hm,Nat.mul_succ] at hf;obtain⟨s1,e1,h2,h3⟩:=h.one hg k ho fg;rw [zL ⟨h1,ho⟩,zL h1];simp only [e1];by_cases hh:here k=true
   ·simp only [zL hh]
    refine⟨s1,rfl,h2,fun a ha=>?_⟩;injection ha with ha
    subst ha;rw [hm2];omega
   ·simp only [zO hh]
    obtain⟨s2,e2,h4,h5⟩:=h.find hg N (k+1) h2 (by rw [hm2];omega);exact⟨s2,e2,h4,h5⟩
  ·rw [zO (fun e=>h1 e.1),zO h1]
   exact⟨st,rfl,ho,fun a h=>by cases h⟩
end
def jE (cs:List Str) (here:Nat→Bool) (F:Nat→Str) (L:Nat) (all:Bool):Nat→Nat→Bool→Str
 | 0,_,_=>[]
 | N+1,i,done =>
  if i<cs.length then(if (here i&&(all||!done))=true then F i++jE cs here F L all N (i+L) true else cs.getD i []++jE cs here F L all N (i+1) done) else []
section
variable {cs:List Str} {here:Nat→Bool} {F:Nat→Str} {L:Nat} {all:Bool}
theorem lr (hL:1≤L):∀(N N' i:Nat) (d:Bool),cs.length-i<N→cs.length-i<N'→jE cs here F L all N i d=jE cs here F L all N' i d
 | 0,_,_,_,h,_=>by omega
 | _,0,_,_,_,h=>by omega
 | N+1,N'+1,i,d,h,h'=>by
  unfold jE;by_cases hi:i<cs.length
  ·rw [zL hi,zL hi,lr hL N N' (i+L) true fg fg,lr hL N N' (i+1) d fg fg]
  ·rw [zO hi,zO hi]
theorem sX {k:Nat} (h:k<cs.length):(cs.drop k).flatten=cs.getD k []++(cs.drop (k+1)).flatten:=by
 rw [List.drop_eq_getElem_cons h,List.flatten_cons];simp [List.getD_eq_getElem?_getD,zN h]
theorem nv:∀(N i:Nat) (d:Bool),cs.length-i<N→(∀j,i≤j→j<cs.length→(here j&&(all||!d))=false)→jE cs here F L all N i d=(cs.drop i).flatten
 | 0,_,_,h,_=>by omega
 | N+1,i,d,h,hh=>by
  unfold jE;by_cases hi:i<cs.length
  ·rw [zL hi,zO (by rw [hh i (zP _) hi];simp),nv N (i+1) d fg (fun j h1 h2=>hh j fg h2),sX hi]
  ·rw [zO hi,List.drop_eq_nil_of_le fg];rfl
theorem oQ (hL:1≤L):∀(m N i:Nat) (d:Bool),i+m<cs.length→cs.length-i<N→(∀j,i≤j→j<i+m→here j=false) →
  jE cs here F L all N i d=((cs.drop i).take m).flatten++jE cs here F L all N (i+m) d
 | 0,N,i,d,_,_,_=>by simp
 | m+1,0,i,d,_,h,_=>by omega
 | m+1,N+1,i,d,h1,h2,h3=>by
  have hi:i<cs.length:=fg;have e:jE cs here F L all (N+1) i d=cs.getD i []++jE cs here F L all N (i+1) d:=by
   conv=>lhs;unfold jE
   rw [zL hi,zO (by rw [h3 i (zP _) fg];simp)]
  rw [e,lr hL N (N+1) (i+1) d fg fg,oQ hL m (N+1) (i+1) d fg fg (fun j h4 h5=>h3 j fg fg),
   List.drop_eq_getElem_cons hi,List.take_succ_cons,List.flatten_cons,Az,show i+1+m=i+(m+1) by omega]
  simp [List.getD_eq_getElem?_getD,zN hi]
end
def futF (s:Str) (fs:List Fm) (L k:Nat):Str:=putF [(((iP s).drop k).take L).flatten] fs
theorem zC (s:Str) {a L:Nat} (h:a+L≤(iP s).length):kF s (jl (iP s) 0) (a,a+L,[])=[(((iP s).drop a).take L).flatten]:=by
 unfold kF;simp only [zV];rw [nk s (Nat.le_add_right _ _) h,Nat.add_sub_cancel_left]
section
variable {s:Str} {fs:List Fm} {L B:Nat} {here:Nat→Bool} {x:Rx} {fold:Bool}
theorem xi (ms:List Mt) {k a:Nat} {out:Str} (hka:k≤a) (ha:a+L≤(iP s).length) (h:(out++(((iP s).drop k).take (a-k)).flatten++futF s fs L a).length≤65536) :
  goM s (jl (iP s) 0) fs ((a,a+L,[])::ms) ((jl (iP s) 0).getD k 0) out=goM s (jl (iP s) 0) fs ms ((jl (iP s) 0).getD (a+L) 0) (out++(((iP s).drop k).take (a-k)).flatten++futF s fs L a):=by
 have e:putM (kF s (jl (iP s) 0) (a,a+L,[])) fs (out++jN s ((jl (iP s) 0).getD k 0) ((jl (iP s) 0).getD a 0))=out++(((iP s).drop k).take (a-k)).flatten++futF s fs L a:=by
  rw [zC s ha,nk s hka fg,uP]
  ·rfl
  ·rw [zX] at h;exact h
 rw [goM];simp only [e];rw [zO fg]
theorem uW (all:Bool) (hL:1≤L) {F:Nat→Str} {cs:List Str} {a:Nat} {d:Bool} (ha:a<cs.length) (hh:here a=true) (hd:all=true∨d=false) :
  jE cs here F L all (cs.length+1) a d=F a++jE cs here F L all (cs.length+1) (a+L) true:=by
 conv=>lhs;unfold jE
 rw [zL ha,zL (by rcases hd with rfl|rfl<;>simp [hh]),lr hL cs.length (cs.length+1) (a+L) true fg fg]
theorem all_go (hP:Pln (rcM fold s) x L B here) (hL:1≤L) (hg:x.groups=0) (hh:∀k,here k=true→k+L≤(iP s).length) :
  ∀(N k:Nat) {st:Rst} {out:Str} {d:Bool},(iP s).length+1-k<N→k≤(iP s).length→st.out=false→B*((iP s).length+1-k)≤st.fuel →
   out.length+(jE (iP s) here (futF s fs L) L true ((iP s).length+1) k d).length≤65536 →
   ∃ms st',allM (rcM fold s) x N k st=(ms,st')∧st'.out=false∧∃at_ out',goM s (jl (iP s) 0) fs ms ((jl (iP s) 0).getD k 0) out=some (at_,out')∧out'++s.drop at_=out++jE (iP s) here (futF s fs L) L true ((iP s).length+1) k d
 | 0,_,_,_,_,h,_,_,_,_=>by omega
 | N+1,k,st,out,d,h0,hk,ho,hf,hT=>by
  obtain⟨s1,e1,h1,h2⟩:=hP.find hg ((rcM fold s).offs.length+1) k ho (by rw [mA];exact hf);unfold allM;rw [zL gZ];simp only [e1];cases hc:fstF (rcM fold s).offs.length here ((rcM fold s).offs.length+1) k with
  | none =>
   refine⟨[],s1,rfl,h1,_,_,rfl,?_⟩;rw [oe s hk,nv _ _ _ fg fun j hj1 hj2=>?_];rw [pF gZ hc j hj1 gZ];rfl
  | some a =>
   obtain⟨h3,h4,h5,h6⟩:=pJ hc;have h7:=hh a h5;have h8:=h2 a hc;rw [mA] at h8;simp only [Option.map_some,h1,zO (show ¬a=a+L by omega)];have e2:jE (iP s) here (futF s fs L) L true ((iP s).length+1) k d=(((iP s).drop k).take (a-k)).flatten++(futF s fs L a++jE (iP s) here (futF s fs L) L true ((iP s).length+1) (a+L) true):=by
    rw [oQ hL (a-k) _ k d fg fg (fun j h9 h10=>h6 j h9 fg),show k+(a-k)=a by omega,uW true hL fg h5 (.inl rfl)]
   rw [e2] at hT ⊢;simp only [zX] at hT;have hB:B*((iP s).length+1-(a+L))≤s1.fuel:=zR (Nat.mul_le_mul (zP _) fg) h8;obtain⟨ms,s2,e3,h9,at_,out',e4,h10⟩:=all_go hP hL hg hh N (a+L) (st:=s1) (out:=out++(((iP s).drop k).take (a-k)).flatten++futF s fs L a) (d:=true) fg h7 h1 hB ie;refine⟨_,s2,by simp only [e3];rfl,h9,at_,out',?_,?_⟩
   ·rw [xi ms h3 h7 ie]
    exact e4
   ·rw [h10];simp only [Az]
theorem ud {all:Bool} {z:Int} (hP:Pln (rcM fold s) x L B here) (hL:1≤L) (hg:x.groups=0) (hh:∀k,here k=true→k+L≤(iP s).length) (hx:mayB x=true) (hf:lC fs=true)
  (hz:B*((iP s).length+1)≤sE z) (hT:(jE (iP s) here (futF s fs L) L all ((iP s).length+1) 0 false).length≤65536) :
  ∃left:Nat,lW x fs fold all s z=(jE (iP s) here (futF s fs L) L all ((iP s).length+1) 0 false,(left:Int),0):=by
 have h00:(jl (iP s) 0).getD 0 0=0:=by rw [jI _ 0 (Nat.zero_le _)];rfl
 have hmade:∀(ms:List Mt) (left:Nat) (W:Str),W.length≤65536→(∃at_ out',goM s (jl (iP s) 0) fs ms 0 []=some (at_,out')∧out'++s.drop at_=W)→ti fs s (jl (iP s) 0) ms left=(W,(left:Int),0):=by
  rintro ms left W hW ⟨at_,out',e1,rfl⟩;unfold ti;by_cases hm:ms=[]
  ·subst hm
   rw [zL rfl];simp only [goM] at e1;injection e1 with e1;injection e1 with e1 e2
   subst e1;subst e2;simp
  ·rw [zO hm,e1]
   simp only
   rw [zO (by rw [zX,Aw] at hW;omega)]
 unfold lW;rw [hx,hf,zH,zO fo];cases all with
 | true =>
  obtain⟨ms,st',e1,h1,h2⟩:=all_go (fs:=fs) hP hL hg hh ((rcM fold s).offs.length+1) 0 (st:=kH x.groups z) (out:=[]) (d:=false) gZ (Nat.zero_le _) rfl (by simpa [kH] using hz) (by simpa using hT);have e2:jy x fold true s z=(ms,st'):=by unfold jy;rw [zL rfl,e1]
  rw [e2];simp only
  rw [zO (by rw [h1];decide)];rw [h00] at h2;exact⟨st'.fuel,hmade ms st'.fuel _ hT (by simpa using h2)⟩
 | false =>
  obtain⟨s1,e1,h1,h2⟩:=hP.find hg ((rcM fold s).offs.length+1) 0 (st:=kH x.groups z) rfl (by rw [mA];simpa [kH] using hz);have e2:jy x fold false s z=((fstF (rcM fold s).offs.length here ((rcM fold s).offs.length+1) 0).toList.map (fun a=>(a,a+L,[])),s1):=by
   unfold jy;rw [zO fo,e1];cases fstF (rcM fold s).offs.length here ((rcM fold s).offs.length+1) 0<;>rfl
  rw [e2];simp only
  rw [zO (by rw [h1];decide)];refine⟨s1.fuel,hmade _ s1.fuel _ hT ?_⟩;cases hc:fstF (rcM fold s).offs.length here ((rcM fold s).offs.length+1) 0 with
  | none =>
   refine⟨0,[],rfl,?_⟩;rw [nv _ _ _ fg fun j hj1 hj2=>?_]
   ·simp [ke]
   ·rw [pF gZ hc j hj1 gZ]
    rfl
  | some a =>
   obtain⟨h3,h4,h5,h6⟩:=pJ hc;have h7:=hh a h5;have e3:jE (iP s) here (futF s fs L) L false ((iP s).length+1) 0 false=(((iP s).drop 0).take (a-0)).flatten++(futF s fs L a++((iP s).drop (a+L)).flatten):=by
    rw [oQ hL a _ 0 false fg fg (fun j h9 h10=>h6 j h9 fg),Nat.zero_add,uW false hL fg h5 (.inr rfl),nv _ (a+L) true fg (fun j _ _=>by simp)];rfl
   rw [e3] at hT ⊢;simp only [zX] at hT;refine⟨(jl (iP s) 0).getD (a+L) 0,[]++(((iP s).drop 0).take (a-0)).flatten++futF s fs L a,?_,?_⟩
   ·have:=xi (s:=s) (fs:=fs) (L:=L) [] (k:=0) (a:=a) (out:=[]) (Nat.zero_le _) h7 (by simp only [zX,zY];omega)
    rw [h00] at this;exact this
   ·rw [oe s h7];simp only [Ax,Az]
end
theorem try_char (C:Rc) {kd:Int} (hk:kd=2∨kd=3∨kd=4) (c:Str) (ng:Bool) (rs:List (Str × Str)) (lo hi:Int) (lz:Bool) (ks:List Rx) (g k:Nat) (f:Rk) (st:Rst) (ho:st.out=false) (hf:1≤st.fuel) :
  tryM C (.mk kd c ng rs lo hi lz ks) g k f st=if (decide (k<C.cs.length)&&kI C kd c ng rs (C.cs.getD k []))=true then f (k+1) { st with fuel:=st.fuel-1 } else(false,{ st with fuel:=st.fuel-1 }):=by
 unfold tryM;rw [zO fW,zO fg,zO fg,zO fg,zO fg,zO fg,zO fg,zL hk];by_cases h:k<C.cs.length∧kI C kd c ng rs (C.cs.getD k [])=true
 ·rw [zL h,zL fS];rfl
 ·rw [zO h,zO fS];rfl
theorem mB {cs:List Str} {here:Nat→Bool} {F:Nat→Str} {L:Nat} {all:Bool} {D:Nat} (hF:∀k,(F k).length≤D):∀(N i:Nat) (d:Bool),(jE cs here F L all N i d).length≤N*D+(cs.drop i).flatten.length
 | 0,_,_=>by simp [jE]
 | N+1,i,d=>by
  unfold jE;have h1:=hF i;have h2:=mB (cs:=cs) (here:=here) (L:=L) (all:=all) hF N (i+L) true;have h3:=mB (cs:=cs) (here:=here) (L:=L) (all:=all) hF N (i+1) d;have h4:((cs.drop (i+L)).flatten).length≤((cs.drop i).flatten).length:=by
   rw [show cs.drop (i+L)=(cs.drop i).drop L by rw [List.drop_drop]];have:=Ad List.flatten (List.take_append_drop L (cs.drop i))
   rw [List.flatten_append] at this;rw [←this,zX];omega
  rw [Nat.succ_mul];by_cases hi:i<cs.length
  ·rw [zL hi]
   split
   ·rw [zX];omega
   ·rw [zX,sX hi,zX];omega
  ·rw [zO hi];simp
def ko (c:UInt8):Rx:=.mk 2 [c] false [] 0 0 false []
def jD (cs:List Str):Str→Nat→Bool
 | [],_=>true
 | c::r,k=>decide (k<cs.length)&&(cs.getD k []==[c])&&jD cs r (k+1)
theorem qv (C:Rc) (hC:C.fold=false):∀(p:Str) (g k:Nat) (f:Rk) (st:Rst),st.out=false→p.length≤st.fuel →
  ∃b,b≤p.length∧seqM C (p.map ko) g k f st=if jD C.cs p k=true then f (k+p.length) { st with fuel:=st.fuel-b } else(false,{ st with fuel:=st.fuel-b })
 | [],g,k,f,st,_,_=>⟨0,zP _,by simp [seqM,jD]⟩
 | c::r,g,k,f,st,ho,hf=>by
  rw [zW] at hf;have et:∀d,kI C 2 [c] false [] d=(d==[c]):=fun d=>by unfold kI;rw [zL rfl,hC];simp
  rw [zU,seqM,ko,try_char C (.inl rfl) [c] false [] 0 0 false [] g k _ st ho fg,et];by_cases h:(decide (k<C.cs.length)&&(C.cs.getD k []==[c]))=true
  ·rw [zL h]
   obtain⟨b,hb,e⟩:=qv C hC r (g+Rx.groups (ko c)) (k+1) f { st with fuel:=st.fuel-1 } ho (by simp only;omega);refine⟨b+1,by rw [zW];omega,?_⟩;have e2:jD C.cs (c::r) k=jD C.cs r (k+1):=by rw [jD,h,Ag]
   rw [e2];refine e.trans ?_;rw [zW,show k+1+r.length=k+(r.length+1) by omega];simp only [Nat.sub_sub,Nat.add_comm 1 b]
  ·refine⟨1,by rw [zW];omega,?_⟩
   rw [zO h,zO (by rw [jD];simp only [Am] at h ⊢;exact fun e=>h e.1)]
theorem pp {cs:List Str}:∀{p:Str} {k:Nat},jD cs p k=true→p≠[]→k+p.length≤cs.length
 | [],_,_,h=>absurd rfl h
 | [c],k,h,_=>by simp only [jD,Am,zJ] at h;simp only [zW,zY];omega
 | c::d::r,k,h,_=>by
  rw [jD,Am] at h;have:=pp h.2 fq
  simp only [zW] at this ⊢;omega
def j0 (p:Str):Rx:=match p with
 | [c]=>ko c
 | p=>.mk 0 [] false [] 0 0 false (p.map ko)
theorem pln_seq (C:Rc) (hC:C.fold=false) {p:Str} (hp:p≠[]):Pln C (j0 p) p.length p.length (jD C.cs p):=by
 intro k f st ho hf;match p,hp with
 | [c],_ =>
  obtain⟨b,hb,e⟩:=qv C hC [c] 0 k f st ho hf;refine⟨b,hb,?_⟩;rw [←e];show tryM C (ko c) 0 k f st=seqM C [ko c] 0 k f st
  rw [seqM];rfl
 | c::d::r,_ =>
  obtain⟨b,hb,e⟩:=qv C hC (c::d::r) 0 k f st ho hf;refine⟨b,hb,?_⟩;rw [←e];show tryM C (.mk 0 [] false [] 0 0 false ((c::d::r).map ko)) 0 k f st=_
  rw [tryM,zO fW,zL rfl]
theorem oq:∀p:Str,Rx.groupsL (p.map ko)=0
 | []=>rfl
 | c::r=>by rw [zU,Rx.groupsL,oq r];rfl
theorem sq (p:Str):(j0 p).groups=0:=by
 match p with
 | []=>rfl
 | [c]=>rfl
 | c::d::r =>
  show Rx.groups (.mk 0 [] false [] 0 0 false ((c::d::r).map ko))=0
  rw [Rx.groups,oq];rfl
def byFs (by_:Str):List Fm:=if by_=[] then [] else [⟨0,0,0,by_,[]⟩]
theorem byFs_may (by_:Str):lC (byFs by_)=true:=by
 unfold byFs;split
 ·rfl
 ·rename_i h
  simp [lC,mayL,mayF,kl,h]
theorem byFs_put (by_:Str) (ps:List Str):putF ps (byFs by_)=by_:=by
 unfold byFs;split
 ·rename_i h;rw [h];rfl
 ·rename_i h
  have:lC [⟨0,0,0,by_,[]⟩]=true:=by simp [lC,mayL,mayF,kl,h]
  simp [putF,lx,this,kC]
theorem mC {p by_ s:Str} {all:Bool} {z:Int} (hp:p≠[]) (hx:mayB (j0 p)=true) (h1:p.length≤8) (h2:by_.length≤10) (hs:s.length≤60) (hz:488≤sE z) :
  ∃left:Nat,lW (j0 p) (byFs by_) false all s z=(jE (iP s) (jD (iP s) p) (fun _=>by_) p.length all ((iP s).length+1) 0 false,(left:Int),0):=by
 have hn:=kV s;have hp1:1≤p.length:=by cases p with|nil=>exact absurd rfl hp|cons c r=>simp
 have e:futF s (byFs by_) p.length=fun _=>by_:=by
  funext k;exact byFs_put by_ _
 have h3:p.length*((iP s).length+1)≤8*61:=Nat.mul_le_mul h1 fg;obtain⟨left,h4⟩:=ud (fs:=byFs by_) (s:=s) (fold:=false) (all:=all) (z:=z) (pln_seq (rcM false s) rfl hp) hp1 (sq p) (fun k hk=>pp hk hp) hx (byFs_may by_) fg (by
  rw [e];have:=mB (cs:=iP s) (here:=jD (rcM false s).cs p) (F:=fun _=>by_) (L:=p.length) (all:=all) (D:=10) (fun _=>h2) ((iP s).length+1) 0 false
  rw [AF,ke] at this;omega)
 exact⟨left,by rw [h4,e];rfl⟩
theorem qN:∀p:Str,jT 0 (p.map ko)=p.map ko
 | []=>rfl
 | c::r=>by
  have ih:=qN r;unfold jT at ih ⊢;rw [zU,Af,ih];rfl
theorem qX (p:Str):seqR (p.map ko)=j0 p:=by
 unfold seqR;rw [qN];match p with
 | []=>rfl
 | [c]=>rfl
 | c::d::r=>rfl
theorem vg {c:UInt8} (h:iU c=false):(ko c).wf=true:=by
 unfold ko Rx.wf jn nK jS;simp [h,Rx.wfL,Rx.chr,Rx.neg,Rx.rows,Rx.lo,Rx.hi,Rx.lazy]
theorem po:∀{p:Str},(∀c∈p,iU c=false)→Rx.wfL (p.map ko)=true∧Rx.partsL (p.map ko)=p.length∧Rx.deepL (p.map ko)=0∧(p.map ko).all (fun x=>decide (x.kind≠0∧x.kind≠1))=true∧Rx.smallL (p.map ko)
 | [],_=>⟨rfl,rfl,rfl,rfl,trivial⟩
 | c::r,h=>by
  obtain⟨h1,h2,h3,h4,h5⟩:=po (p:=r) (fun d hd=>h d (Ap _ hd));have hc:=vg (h c (Ao ..));rw [zU];refine⟨by rw [Rx.wfL,hc,h1];rfl,by rw [Rx.partsL,h2,zW];show 1+0+r.length=r.length+1;omega,by rw [Rx.deepL,h3];rfl,by rw [List.all_cons,h4];rfl,⟨⟨by simp,by simp,by simp,by simp⟩,trivial⟩,h5⟩
theorem kw {p:Str} (h:∀c∈p,iU c=false) (h1:p≠[]) (h8:p.length≤8):mayB (j0 p)=true∧(j0 p).small∧(j0 p).parts≤10:=by
 match p,h1 with
 | [c],_ =>
  have hc:=vg (h c (Ao ..));refine⟨?_,⟨⟨by simp,by simp,by simp,by simp⟩,trivial⟩,by show 1+0≤10;decide⟩;show okB (ko c) 512 16=true
  unfold okB;rw [hc];rfl
 | c::d::r,_ =>
  obtain⟨w1,w2,w3,w4,w5⟩:=po h;have hp:(j0 (c::d::r)).parts=1+(c::d::r).length:=by
   show 1+Rx.partsL ((c::d::r).map ko)=_
   rw [w2]
  refine⟨?_,⟨⟨by simp,by simp,by simp,by simp only [Ab];omega⟩,w5⟩,by rw [hp];omega⟩;show okB (j0 (c::d::r)) 512 16=true
  have hwf:(j0 (c::d::r)).wf=true:=by
   show (jn (.mk 0 [] false [] 0 0 false ((c::d::r).map ko))&&Rx.wfL ((c::d::r).map ko))=true
   rw [w1,zH];unfold jn;simp only
   rw [zO fo,zO fo,zO fo,zL trivial,w4,zH];simp [nK,Rx.chr,Rx.neg,Rx.rows,Rx.lo,Rx.hi,Rx.lazy]
  have hd:(j0 (c::d::r)).deep=0:=by
   show Rx.deepL ((c::d::r).map ko)+0=0
   rw [w3]
  unfold okB;rw [hwf,hp,hd];simp only [Ag,Am,zJ];exact⟨by omega,by decide⟩
def mL (cs:List Str) (p:Str) (i j:Nat):Bool:=decide (i+p.length≤cs.length)&&jD cs (p.take j) i
theorem qM (cs:List Str):∀(p q:Str) (i:Nat),jD cs (p++q) i=(jD cs p i&&jD cs q (i+p.length))
 | [],q,i=>by simp [jD]
 | c::r,q,i=>by
  rw [Ay,jD,jD,qM cs r q (i+1),zW,show i+1+r.length=i+(r.length+1) by omega];simp only [Bool.and_assoc]
theorem wy {cs:List Str} {p:Str} {i j:Nat} {c:UInt8} {d:Str} (h:mL cs p i j=true) (hc:p[j]?=some c) (hd:cs[i+j]?=some d):mL cs p i (j+1)=(d==[c]):=by
 unfold mL at h ⊢;simp only [Am] at h;have hjl:=(zQ.1 hc).1;have hil:=(zQ.1 hd).1;rw [h.1,List.take_add_one,hc,qM,h.2,Ac];have e:min j p.length=j:=fg;rw [e];have e2:cs.getD (i+j) []=d:=by rw [List.getD_eq_getElem?_getD,hd];rfl
 simp only [Option.toList,jD,e2,Av hil,Ag,zH]
theorem oy {cs:List Str} {p:Str} {i:Nat} (hp:p≠[]):mL cs p i p.length=jD cs p i:=by
 unfold mL;rw [List.take_length];cases h:jD cs p i with
 | false=>simp
 | true=>simp [pp h hp]
theorem nD {cs:List Str} {p:Str} {i j:Nat} (hp:p≠[]) (h:mL cs p i j=false):jD cs p i=false:=by
 cases h2:jD cs p i with
 | false=>rfl
 | true =>
  have h3:=pp h2 hp;have h4:jD cs (p.take j++p.drop j) i=true:=by rw [List.take_append_drop];exact h2
  rw [qM,Am] at h4;unfold mL at h;rw [h4.1,zH] at h;simp at h
  omega
theorem nY {cs:List Str} {here:Nat→Bool} {F:Nat→Str} {L:Nat} {all:Bool} (hL:1≤L) {i:Nat} {d:Bool} (hi:i<cs.length) (h:(here i&&(all||!d))=true) :
  jE cs here F L all (cs.length+1) i d=F i++jE cs here F L all (cs.length+1) (i+L) true:=by
 conv=>lhs;unfold jE
 rw [zL hi,zL h,lr hL cs.length (cs.length+1) (i+L) true fg fg]
theorem nC {cs:List Str} {here:Nat→Bool} {F:Nat→Str} {L:Nat} {all:Bool} (hL:1≤L) {i:Nat} {d:Bool} {c:Str} (hc:cs[i]?=some c) (h:(here i&&(all||!d))=false) :
  jE cs here F L all (cs.length+1) i d=c++jE cs here F L all (cs.length+1) (i+1) d:=by
 have hi:=(zQ.1 hc).1;conv=>lhs;unfold jE
 rw [zL hi,zO (by rw [h];decide),lr hL cs.length (cs.length+1) (i+1) d fg fg];rw [List.getD_eq_getElem?_getD,hc];rfl
theorem nX {cs:List Str} {here:Nat→Bool} {F:Nat→Str} {L:Nat} {all:Bool} (d:Bool):jE cs here F L all (cs.length+1) cs.length d=[]:=by
 unfold jE;rw [zO fg]
end Go.Proofs.YtbnkaecmgfolpaaGreat
