/- A run of a tree that takes a fixed number of characters, told plainly. -/
import Derived.Test.YtbnkaecmgfolpaaGreatJb23
import Derived.Deep.Slices
import Derived.OpenShut
set_option maxRecDepth 100000
set_option maxHeartbeats 4000000
namespace Go.Proofs.YtbnkaecmgfolpaaGreat
def Pln (C:Rc) (x:Rx) (L B:Nat) (here:Nat→Bool):Prop :=
 ∀(k:Nat) (f:Rk) (st:Rst),st.out=false→B≤st.fuel→∃b,b≤B∧tryM C x 0 k f st=if here k=true then f (k+L) { st with fuel:=st.fuel-b } else(false,{ st with fuel:=st.fuel-b })
section
variable {C:Rc} {x:Rx} {L B:Nat} {here:Nat→Bool}
theorem Pln.one (h:Pln C x L B here) (hg:x.groups=0) (k:Nat) {st:Rst} (ho:st.out=false) (hf:B≤st.fuel) :
  ∃st',oneM C x k st=(if here k=true then some (k+L,[]) else none,st')∧st'.out=false∧st.fuel≤st'.fuel+B:=by
 obtain⟨b,hb,e⟩:=h k (fun e s=>(true,{ s with en:=(e:Int) })) { st with ps:=List.replicate x.groups (-1,-1),en:=-1 } ho hf;simp only at e
 by_cases hh:here k=true
 ·rw [wU hh] at e
  refine⟨⟨[],st.fuel-b,false,((k+L:Nat):Int)⟩,?_,rfl,by simp only;omega⟩;rw [wU hh];unfold oneM;rw [e];simp only
  rw [wX (by rw [ho];simp;omega)];simp [ho,hg]
  omega
 ·rw [wX hh] at e
  refine⟨⟨[],st.fuel-b,false,-1⟩,?_,rfl,by simp only;omega⟩;rw [wX hh];unfold oneM;rw [e];simp only
  rw [wU (.inl ez)];simp [ho,hg]
def fstF (n:Nat) (here:Nat→Bool):Nat→Nat→Option Nat
 | 0,_=>none
 | N+1,k=>if k<n then(if here k=true then some k else fstF n here N (k+1)) else none
theorem oI {n:Nat}:∀{N k a:Nat},fstF n here N k=some a→k≤a∧a<n∧here a=true∧∀j,k≤j→j<a→here j=false
 | 0,_,_,h=>by simp [fstF] at h
 | N+1,k,a,h=>by
  unfold fstF at h;by_cases h1:k<n
  ·rw [wU h1] at h
   by_cases h2:here k=true
   ·rw [wU h2] at h;injection h with h;subst h
    exact⟨wY _,h1,h2,fun j h3 h4=>by omega⟩
   ·rw [wX h2] at h
    obtain⟨h3,h4,h5,h6⟩:=oI h;refine⟨by omega,h4,h5,fun j h7 h8=>?_⟩;rcases Nat.eq_or_lt_of_le h7 with rfl|h7
    ·simpa using h2
    ·exact h6 j h7 h8
  ·rw [wX h1] at h;cases h
theorem n8 {n:Nat}:∀{N k:Nat},n-k<N→fstF n here N k=none→∀j,k≤j→j<n→here j=false
 | 0,_,h,_=>by omega
 | N+1,k,h0,h=>by
  intro j h1 h2;unfold fstF at h;rw [wU (show k<n by omega)] at h;by_cases h3:here k=true
  ·rw [wU h3] at h;cases h
  ·rw [wX h3] at h
   rcases Nat.eq_or_lt_of_le h1 with rfl|h1
   ·simpa using h3
   ·exact n8 eu h j h1 h2
theorem Pln.find (h:Pln C x L B here) (hg:x.groups=0):∀(N k:Nat) {st:Rst},st.out=false→B*(C.offs.length-k)≤st.fuel →
  ∃st',kK C x N k st=((fstF C.offs.length here N k).map (fun a=>(a,a+L,[])),st')∧st'.out=false∧∀a,fstF C.offs.length here N k=some a→B*(C.offs.length-(a+1))≤st'.fuel
 | 0,k,st,ho,_=>⟨st,rfl,ho,fun a h=>by simp [fstF] at h⟩
 | N+1,k,st,ho,hf=>by
  unfold kK fstF;by_cases h1:k<C.offs.length
  ·obtain⟨m,hm⟩:∃m,C.offs.length-k=m+1:=⟨C.offs.length-k-1,by omega⟩
   have hm2:C.offs.length-(k+1)=m:=eu;rw [hm,Nat.mul_succ] at hf;obtain⟨s1,e1,h2,h3⟩:=h.one hg k ho eu;rw [wU ⟨h1,ho⟩,wU h1];simp only [e1];by_cases hh:here k=true
   ·simp only [wU hh]
    refine⟨s1,rfl,h2,fun a ha=>?_⟩;injection ha with ha
    subst ha;rw [hm2];omega
   ·simp only [wX hh]
    obtain⟨s2,e2,h4,h5⟩:=h.find hg N (k+1) h2 (by rw [hm2];omega);exact⟨s2,e2,h4,h5⟩
  ·rw [wX (fun e=>h1 e.1),wX h1]
   exact⟨st,rfl,ho,fun a h=>by cases h⟩
end
def jN (cs:List Str) (here:Nat→Bool) (F:Nat→Str) (L:Nat) (all:Bool):Nat→Nat→Bool→Str
 | 0,_,_=>[]
 | N+1,i,done =>
  if i<cs.length then(if (here i&&(all||!done))=true then F i++jN cs here F L all N (i+L) true else cs.getD i []++jN cs here F L all N (i+1) done) else []
section
variable {cs:List Str} {here:Nat→Bool} {F:Nat→Str} {L:Nat} {all:Bool}
theorem lx (hL:1≤L):∀(N N' i:Nat) (d:Bool),cs.length-i<N→cs.length-i<N'→jN cs here F L all N i d=jN cs here F L all N' i d
 | 0,_,_,_,h,_=>by omega
 | _,0,_,_,_,h=>by omega
 | N+1,N'+1,i,d,h,h'=>by
  unfold jN;by_cases hi:i<cs.length
  ·rw [wU hi,wU hi,lx hL N N' (i+L) true eu eu,lx hL N N' (i+1) d eu eu]
  ·rw [wX hi,wX hi]
theorem uP {k:Nat} (h:k<cs.length):(cs.drop k).flatten=cs.getD k []++(cs.drop (k+1)).flatten:=by
 rw [List.drop_eq_getElem_cons h,List.flatten_cons];simp [List.getD_eq_getElem?_getD,wW h]
theorem lC:∀(N i:Nat) (d:Bool),cs.length-i<N→(∀j,i≤j→j<cs.length→(here j&&(all||!d))=false)→jN cs here F L all N i d=(cs.drop i).flatten
 | 0,_,_,h,_=>by omega
 | N+1,i,d,h,hh=>by
  unfold jN;by_cases hi:i<cs.length
  ·rw [wU hi,wX (by rw [hh i (wY _) hi];simp),lC N (i+1) d eu (fun j h1 h2=>hh j eu h2),uP hi]
  ·rw [wX hi,List.drop_eq_nil_of_le eu];rfl
theorem mX (hL:1≤L):∀(m N i:Nat) (d:Bool),i+m<cs.length→cs.length-i<N→(∀j,i≤j→j<i+m→here j=false) →
  jN cs here F L all N i d=((cs.drop i).take m).flatten++jN cs here F L all N (i+m) d
 | 0,N,i,d,_,_,_=>by simp
 | m+1,0,i,d,_,h,_=>by omega
 | m+1,N+1,i,d,h1,h2,h3=>by
  have hi:i<cs.length:=eu;have e:jN cs here F L all (N+1) i d=cs.getD i []++jN cs here F L all N (i+1) d:=by
   conv=>lhs;unfold jN
   rw [wU hi,wX (by rw [h3 i (wY _) eu];simp)]
  rw [e,lx hL N (N+1) (i+1) d eu eu,mX hL m (N+1) (i+1) d eu eu (fun j h4 h5=>h3 j eu eu),
   List.drop_eq_getElem_cons hi,List.take_succ_cons,List.flatten_cons,xU,show i+1+m=i+(m+1) by omega]
  simp [List.getD_eq_getElem?_getD,wW hi]
end
def putF (ps:List Str) (fs:List Fm):Str:=fs.flatMap fun f=>kg [f] ps
theorem vy (ps:List Str):∀(fs:List Fm) (out:Str),out.length+(putF ps fs).length≤65536→putM ps fs out=out++putF ps fs
 | [],out,_=>by simp [putM,putF]
 | f::r,out,h=>by
  have e:putF ps (f::r)=kg [f] ps++putF ps r:=by simp [putF]
  rw [e] at h ⊢;rw [xm] at h;unfold putM;rw [wU eu,vy ps r _ fo,xU]
theorem qy (cs:List Str) (a:Nat):cs.flatten.drop (cs.take a).flatten.length=(cs.drop a).flatten:=by
 have h:cs.flatten=(cs.take a).flatten++(cs.drop a).flatten:=by rw [←List.flatten_append,List.take_append_drop]
 rw [h,List.drop_left]
theorem o6 (s:Str) {a b:Nat} (h:a≤b) (hb:b≤(gM s).length) :
  jv s ((iY (gM s) 0).getD a 0) ((iY (gM s) 0).getD b 0)=(((gM s).drop a).take (b-a)).flatten:=by
 rw [iZ _ a eu,iZ _ b hb];have:=tY (gM s) h
 rw [iX] at this;exact this
theorem rl (s:Str) {a:Nat} (ha:a≤(gM s).length):s.drop ((iY (gM s) 0).getD a 0)=((gM s).drop a).flatten:=by
 rw [iZ _ a ha];have:=qy (gM s) a
 rw [iX] at this;exact this
def futF (s:Str) (fs:List Fm) (L k:Nat):Str:=putF [(((gM s).drop k).take L).flatten] fs
theorem v9 (s:Str) {a L:Nat} (h:a+L≤(gM s).length):kO s (iY (gM s) 0) (a,a+L,[])=[(((gM s).drop a).take L).flatten]:=by
 unfold kO;simp only [List.map_nil];rw [o6 s (Nat.le_add_right _ _) h,Nat.add_sub_cancel_left]
section
variable {s:Str} {fs:List Fm} {L B:Nat} {here:Nat→Bool} {x:Rx} {fold:Bool}
theorem wy (ms:List Mt) {k a:Nat} {out:Str} (hka:k≤a) (ha:a+L≤(gM s).length) (h:(out++(((gM s).drop k).take (a-k)).flatten++futF s fs L a).length≤65536) :
  goM s (iY (gM s) 0) fs ((a,a+L,[])::ms) ((iY (gM s) 0).getD k 0) out=goM s (iY (gM s) 0) fs ms ((iY (gM s) 0).getD (a+L) 0) (out++(((gM s).drop k).take (a-k)).flatten++futF s fs L a):=by
 have e:putM (kO s (iY (gM s) 0) (a,a+L,[])) fs (out++jv s ((iY (gM s) 0).getD k 0) ((iY (gM s) 0).getD a 0))=out++(((gM s).drop k).take (a-k)).flatten++futF s fs L a:=by
  rw [v9 s ha,o6 s hka eu,vy]
  ·rfl
  ·rw [xm] at h;exact h
 rw [goM];simp only [e];rw [wX eu]
theorem sQ (all:Bool) (hL:1≤L) {F:Nat→Str} {cs:List Str} {a:Nat} {d:Bool} (ha:a<cs.length) (hh:here a=true) (hd:all=true∨d=false) :
  jN cs here F L all (cs.length+1) a d=F a++jN cs here F L all (cs.length+1) (a+L) true:=by
 conv=>lhs;unfold jN
 rw [wU ha,wU (by rcases hd with rfl|rfl<;>simp [hh]),lx hL cs.length (cs.length+1) (a+L) true eu eu]
theorem all_go (hP:Pln (rcM fold s) x L B here) (hL:1≤L) (hg:x.groups=0) (hh:∀k,here k=true→k+L≤(gM s).length) :
  ∀(N k:Nat) {st:Rst} {out:Str} {d:Bool},(gM s).length+1-k<N→k≤(gM s).length→st.out=false→B*((gM s).length+1-k)≤st.fuel →
   out.length+(jN (gM s) here (futF s fs L) L true ((gM s).length+1) k d).length≤65536 →
   ∃ms st',allM (rcM fold s) x N k st=(ms,st')∧st'.out=false∧∃at_ out',goM s (iY (gM s) 0) fs ms ((iY (gM s) 0).getD k 0) out=some (at_,out')∧out'++s.drop at_=out++jN (gM s) here (futF s fs L) L true ((gM s).length+1) k d
 | 0,_,_,_,_,h,_,_,_,_=>by omega
 | N+1,k,st,out,d,h0,hk,ho,hf,hT=>by
  obtain⟨s1,e1,h1,h2⟩:=hP.find hg ((rcM fold s).offs.length+1) k ho (by rw [lJ];exact hf);unfold allM;rw [wU fU];simp only [e1];cases hc:fstF (rcM fold s).offs.length here ((rcM fold s).offs.length+1) k with
  | none =>
   refine⟨[],s1,rfl,h1,_,_,rfl,?_⟩;rw [rl s hk,lC _ _ _ eu fun j hj1 hj2=>?_];rw [n8 fU hc j hj1 fU];rfl
  | some a =>
   obtain⟨h3,h4,h5,h6⟩:=oI hc;have h7:=hh a h5;have h8:=h2 a hc;rw [lJ] at h8;simp only [Option.map_some,h1,wX (show ¬a=a+L by omega)];have e2:jN (gM s) here (futF s fs L) L true ((gM s).length+1) k d=(((gM s).drop k).take (a-k)).flatten++(futF s fs L a++jN (gM s) here (futF s fs L) L true ((gM s).length+1) (a+L) true):=by
    rw [mX hL (a-k) _ k d eu eu (fun j h9 h10=>h6 j h9 eu),show k+(a-k)=a by omega,sQ true hL eu h5 (.inl rfl)]
   rw [e2] at hT ⊢;simp only [xm] at hT;have hB:B*((gM s).length+1-(a+L))≤s1.fuel:=xb (Nat.mul_le_mul (wY _) eu) h8;obtain⟨ms,s2,e3,h9,at_,out',e4,h10⟩:=all_go hP hL hg hh N (a+L) (st:=s1) (out:=out++(((gM s).drop k).take (a-k)).flatten++futF s fs L a) (d:=true) eu h7 h1 hB (by simp only [xm];omega);refine⟨_,s2,by simp only [e3];rfl,h9,at_,out',?_,?_⟩
   ·rw [wy ms h3 h7 (by simp only [xm];omega)]
    exact e4
   ·rw [h10];simp only [xU]
theorem rL {all:Bool} {z:Int} (hP:Pln (rcM fold s) x L B here) (hL:1≤L) (hg:x.groups=0) (hh:∀k,here k=true→k+L≤(gM s).length) (hx:mayB x=true) (hf:oP fs=true)
  (hz:B*((gM s).length+1)≤rg z) (hT:(jN (gM s) here (futF s fs L) L all ((gM s).length+1) 0 false).length≤65536) :
  ∃left:Nat,oq x fs fold all s z=(jN (gM s) here (futF s fs L) L all ((gM s).length+1) 0 false,(left:Int),0):=by
 have h00:(iY (gM s) 0).getD 0 0=0:=by rw [iZ _ 0 (Nat.zero_le _)];rfl
 have hmade:∀(ms:List Mt) (left:Nat) (W:Str),W.length≤65536→(∃at_ out',goM s (iY (gM s) 0) fs ms 0 []=some (at_,out')∧out'++s.drop at_=W)→ut fs s (iY (gM s) 0) ms left=(W,(left:Int),0):=by
  rintro ms left W hW ⟨at_,out',e1,rfl⟩;unfold ut;by_cases hm:ms=[]
  ·subst hm
   rw [wU rfl];simp only [goM] at e1;injection e1 with e1;injection e1 with e1 e2
   subst e1;subst e2;simp
  ·rw [wX hm,e1]
   simp only
   rw [wX (by rw [xm,xN] at hW;omega)]
 unfold oq;rw [hx,hf,wQ,wX ez];cases all with
 | true =>
  obtain⟨ms,st',e1,h1,h2⟩:=all_go (fs:=fs) hP hL hg hh ((rcM fold s).offs.length+1) 0 (st:=j9 x.groups z) (out:=[]) (d:=false) fU (Nat.zero_le _) rfl (by simpa [j9] using hz) (by simpa using hT);have e2:jk x fold true s z=(ms,st'):=by unfold jk;rw [wU rfl,e1]
  rw [e2];simp only
  rw [wX (by rw [h1];decide)];rw [h00] at h2;exact⟨st'.fuel,hmade ms st'.fuel _ hT (by simpa using h2)⟩
 | false =>
  obtain⟨s1,e1,h1,h2⟩:=hP.find hg ((rcM fold s).offs.length+1) 0 (st:=j9 x.groups z) rfl (by rw [lJ];simpa [j9] using hz);have e2:jk x fold false s z=((fstF (rcM fold s).offs.length here ((rcM fold s).offs.length+1) 0).toList.map (fun a=>(a,a+L,[])),s1):=by
   unfold jk;rw [wX ez,e1];cases fstF (rcM fold s).offs.length here ((rcM fold s).offs.length+1) 0<;>rfl
  rw [e2];simp only
  rw [wX (by rw [h1];decide)];refine⟨s1.fuel,hmade _ s1.fuel _ hT ?_⟩;cases hc:fstF (rcM fold s).offs.length here ((rcM fold s).offs.length+1) 0 with
  | none =>
   refine⟨0,[],rfl,?_⟩;rw [lC _ _ _ eu fun j hj1 hj2=>?_]
   ·simp [iX]
   ·rw [n8 fU hc j hj1 fU]
    rfl
  | some a =>
   obtain⟨h3,h4,h5,h6⟩:=oI hc;have h7:=hh a h5;have e3:jN (gM s) here (futF s fs L) L false ((gM s).length+1) 0 false=(((gM s).drop 0).take (a-0)).flatten++(futF s fs L a++((gM s).drop (a+L)).flatten):=by
    rw [mX hL a _ 0 false eu eu (fun j h9 h10=>h6 j h9 eu),Nat.zero_add,sQ false hL eu h5 (.inr rfl),lC _ (a+L) true eu (fun j _ _=>by simp)];rfl
   rw [e3] at hT ⊢;simp only [xm] at hT;refine⟨(iY (gM s) 0).getD (a+L) 0,[]++(((gM s).drop 0).take (a-0)).flatten++futF s fs L a,?_,?_⟩
   ·have:=wy (s:=s) (fs:=fs) (L:=L) [] (k:=0) (a:=a) (out:=[]) (Nat.zero_le _) h7 (by simp only [xm,xR];omega)
    rw [h00] at this;exact this
   ·rw [rl s h7];simp only [xO,xU]
end
theorem try_char (C:Rc) {kd:Int} (hk:kd=2∨kd=3∨kd=4) (c:Str) (ng:Bool) (rs:List (Str × Str)) (lo hi:Int) (lz:Bool) (ks:List Rx) (g k:Nat) (f:Rk) (st:Rst) (ho:st.out=false) (hf:1≤st.fuel) :
  tryM C (.mk kd c ng rs lo hi lz ks) g k f st=if (decide (k<C.cs.length)&&jC C kd c ng rs (C.cs.getD k []))=true then f (k+1) { st with fuel:=st.fuel-1 } else(false,{ st with fuel:=st.fuel-1 }):=by
 unfold tryM;rw [wX eZ,wX eu,wX eu,wX eu,wX eu,wX eu,wX eu,wU hk];by_cases h:k<C.cs.length∧jC C kd c ng rs (C.cs.getD k [])=true
 ·rw [wU h,wU eV];rfl
 ·rw [wX h,wX eV];rfl
theorem pln_char (C:Rc) {kd:Int} (hk:kd=2∨kd=3∨kd=4) (c:Str) (ng:Bool) (rs:List (Str × Str)) (lo hi:Int) (lz:Bool) (ks:List Rx) :
  Pln C (.mk kd c ng rs lo hi lz ks) 1 1 (fun k=>decide (k<C.cs.length)&&jC C kd c ng rs (C.cs.getD k [])) :=
 fun k f st ho hf=>⟨1,wY _,try_char C hk c ng rs lo hi lz ks 0 k f st ho hf⟩
def mG (fs:List Fm) (ng:Bool) (rs:List (Str × Str)) (s:Str):Str:=(gM s).flatMap fun c=>if hasS rs ng false c=true then putF [c] fs else c
theorem mO {cs:List Str} {has:Str→Bool} {G:Str→Str} {here:Nat→Bool} {F:Nat→Str} (hh:∀k,here k=(decide (k<cs.length)&&has (cs.getD k []))) (hF:∀k,k<cs.length→F k=G (cs.getD k [])) :
  ∀(N i:Nat) (d:Bool),cs.length-i<N→jN cs here F 1 true N i d=(cs.drop i).flatMap fun c=>if has c=true then G c else c
 | 0,_,_,h=>by omega
 | N+1,i,d,h=>by
  unfold jN;by_cases hi:i<cs.length
  ·have e:cs.drop i=cs.getD i []::cs.drop (i+1):=by
    rw [List.drop_eq_getElem_cons hi];simp [List.getD_eq_getElem?_getD,wW hi]
   rw [wU hi,e,xj,mO hh hF N (i+1) true eu,mO hh hF N (i+1) d eu,hh i,hF i hi];simp only [hi,decide_true,xy,Bool.true_or,wQ];split<;>rfl
  ·rw [wX hi,List.drop_eq_nil_of_le eu];rfl
theorem putF_le (fs:List Fm) (c:Str):(putF [c] fs).length≤(fs.length)*c.length+(fs.map fun f=>f.thn.length+f.els.length).sum:=by
 induction fs with
 | nil=>simp [putF]
 | cons f r ih =>
  have e:putF [c] (f::r)=kg [f] [c]++putF [c] r:=by simp [putF]
  have h1:(kg [f] [c]).length≤c.length+f.thn.length+f.els.length:=by
   unfold kg;split
   ·simp only [xj,List.flatMap_nil,xW]
    exact oz (m:=c.length+f.thn.length+f.els.length) (fun p hp=>by simp at hp;subst hp;omega) eu eu
   ·simp
  rw [e,xm,xf,List.sum_cons,xg,Nat.succ_mul];omega
theorem uV (fs:List Fm) {n A D:Nat} (h1:fs.length≤A) (h2:(fs.map fun f=>f.thn.length+f.els.length).sum≤D) (has:Str→Bool):∀cs:List Str,cs.length≤n→
  ((cs.flatMap fun c=>if has c=true then putF [c] fs else c)).length≤(A+1)*cs.flatten.length+n*D:=by
 have key:∀cs:List Str,((cs.flatMap fun c=>if has c=true then putF [c] fs else c)).length≤(A+1)*cs.flatten.length+cs.length*D:=by
  intro cs;induction cs with
  | nil=>simp
  | cons c r ih =>
   have h3:=putF_le fs c;have h4:fs.length*c.length≤A*c.length:=Nat.mul_le_mul h1 (wY _);rw [xj,xm,List.flatten_cons,xm,Nat.mul_add,xg,Nat.succ_mul r.length D];have h5:(A+1)*c.length=A*c.length+c.length:=by rw [Nat.succ_mul]
   split<;>omega
 intro cs hn;have h3:=key cs;have h4:cs.length*D≤n*D:=Nat.mul_le_mul hn (wY _);omega
theorem mW {fs:List Fm} {ng:Bool} {rs:List (Str × Str)} {s:Str} {z:Int} (hx:mayB (.mk 4 [] ng rs 0 0 false [])=true) (hf:oP fs=true) (h1:fs.length≤40) (h2:(fs.map fun f=>f.thn.length+f.els.length).sum≤40) (hs:s.length≤60) (hz:61≤rg z) :
  ∃left:Nat,oq (.mk 4 [] ng rs 0 0 false []) fs false true s z=(mG fs ng rs s,(left:Int),0):=by
 have hn:=kW s;have e:jN (gM s) (fun k=>decide (k<(rcM false s).cs.length)&&jC (rcM false s) 4 [] ng rs ((rcM false s).cs.getD k [])) (futF s fs 1) 1 true ((gM s).length+1) 0 false=mG fs ng rs s:=by
  rw [mO (has:=fun c=>hasS rs ng false c) (G:=fun c=>putF [c] fs) (fun k=>?_) (fun k hk=>?_) _ _ _ eu]
  ·rfl
  ·unfold jC
   rw [wX ez,wX ez];rfl
  ·unfold futF
   rw [List.drop_eq_getElem_cons hk,List.take_succ_cons,List.take_zero];simp [List.getD_eq_getElem?_getD,wW hk]
 obtain⟨left,h3⟩:=rL (fs:=fs) (s:=s) (fold:=false) (all:=true) (z:=z) (pln_char (rcM false s) (.inr (.inr rfl)) [] ng rs 0 0 false []) (wY _) rfl (fun k hk=>by
  simp only [xi,wS] at hk;exact hk.1) hx hf eu (by
   rw [e];have:=uV fs (n:=60) h1 h2 (fun c=>hasS rs ng false c) (gM s) eu
   rw [iX] at this;unfold mG;omega)
 exact⟨left,by rw [h3,e]⟩
theorem each_app {fs:List Fm} {ng:Bool} {rs:List (Str × Str)} {s t:Str} (h:gM (s++t)=gM s++gM t):mG fs ng rs (s++t)=mG fs ng rs s++mG fs ng rs t:=by
 unfold mG;rw [h,List.flatMap_append]
theorem uF {fs:List Fm} {ng:Bool} {rs:List (Str × Str)} {s:Str} (h:∀c∈gM s,hasS rs ng false c=false):mG fs ng rs s=s:=by
 have key:∀cs:List Str,(∀c∈cs,hasS rs ng false c=false)→(cs.flatMap fun c=>if hasS rs ng false c=true then putF [c] fs else c)=cs.flatten:=by
  intro cs;induction cs with
  | nil=>intro _;rfl
  | cons c r ih =>
   intro h;rw [xj,ih (fun d hd=>h d (xw _ hd)),wX (by rw [h c (xt ..)];decide),List.flatten_cons]
 unfold mG;rw [key _ h,iX]
open Go.RowKit
theorem nQ:∀(fs:List Fm) (n:Int),0≤jL fs n→(fs.length:Int)+((fs.map fun f=>f.thn.length+f.els.length).sum:Nat)≤n
 | [],n,h=>by simpa [jL] using h
 | f::r,n,h=>by
  unfold jL at h;split at h
  ·omega
  ·have:=nQ r _ h
   simp only [xg,xf,List.sum_cons];omega
theorem uK:∀{fs:List Fm} {g:Fm},g∈fs→g.thn.length+g.els.length≤(fs.map fun f=>f.thn.length+f.els.length).sum
 | [],_,h=>by simp at h
 | f::r,g,h=>by
  rw [xf,List.sum_cons];rcases xo.1 h with rfl|h
  ·omega
  ·have:=uK h;omega
def fstS (s:Str):Str:=s.take (jS s 0)
theorem oV {s:Str} (h:s≠[]):iW (fstS s)=true↔vQ s:=by
 cases s with
 | nil=>exact absurd rfl h
 | cons c r =>
  have e:fstS (c::r)=c::r.takeWhile gU:=by
   unfold fstS jS;simp only [Nat.zero_add,List.drop_succ_cons,xT];rw [Nat.add_comm,List.take_succ_cons];congr 1
   obtain⟨A,hA⟩:∃A,r.takeWhile gU=A:=⟨_,rfl⟩;have h1:=(xL (p:=gU) (l:=r));rw [hA] at h1 ⊢;rw [←h1,List.take_left]
  rw [e];have h2:(r.takeWhile gU).all gU=true:=by
   generalize hA:r=A
   clear hA e h r;induction A with
   | nil=>rfl
   | cons d A ih =>
    rw [List.takeWhile_cons];split
    ·rename_i hd;rw [List.all_cons,hd,ih];rfl
    ·rfl
  show (!gU c&&(r.takeWhile gU).all gU)=true↔gU c=false
  rw [h2,wQ];cases gU c<;>simp
theorem qV (s:Str) (w:World) (h0:s≠[]) (hs:s.length≤1000000):Calls Tryz.prog 23 #[.string ⟨s.toArray⟩] w fun e w'=>e=.returned (.string ⟨(fstS s).toArray⟩)∧w=w':=by
 have g1:(s==[])=false:=by rw [xH];exact h0
 have g3:List.isEmpty s=false:=by cases s with|nil=>exact absurd rfl h0|cons _ _=>rfl
 have hsp:jS s 0≤s.length:=by
  cases s with
  | nil=>exact absurd rfl h0
  | cons c r =>
   unfold jS;have:=(List.takeWhile_sublist (p:=gU) (l:=r)).length_le
   simp only [Nat.zero_add,List.drop_succ_cons,xT,xg];omega
 obtain⟨R,hR⟩:∃R,fstS s=R:=⟨_,rfl⟩;unfold fstS at hR;obtain⟨E,hE⟩:∃E,jS s 0=E:=⟨_,rfl⟩;have HE:=ab (hE▸qh s 0 w eu eu:Calls Tryz.prog 41 #[.string ⟨s.toArray⟩,.int .i64 (0:Nat)] w fun e w'=>e=.returned (.int .i64 (E:Int))∧w=w');rw [hE] at hR hsp;have HR:=ab hR;have HF:Hid (fstS s=R):=ab (by unfold fstS;rw [hE];exact hR);clear hR hE h0;rw [HF.out];go_enter Tryz.func23,Tryz.ntmps23
 go_wp2_with (go_at_call 41;refine HE.out.mono ?_;rintro e w1 ⟨rfl,rfl⟩)
 go_ret
 exact⟨rP HR.out,rfl⟩
def low (x n:Int):Int:=(x % 18446744073709551616) % n
theorem vA (x:Int) {n:Int} (h:1≤n):0≤low x n∧low x n<n:=⟨Int.emod_nonneg _ eu,Int.emod_lt_of_pos _ eu⟩
theorem low_eq (x n:Int) (h1:1≤n) (h2:n≤1000000):wrap64 ((IntKind.u64.wrap x).tmod n)=low x n:=by
 have hu:IntKind.u64.wrap x=x % 18446744073709551616:=by simp [IntKind.wrap,IntKind.signed,IntKind.bits]
 have hnn:0≤x % 18446744073709551616:=eu;rw [hu,Int.tmod_eq_emod_of_nonneg hnn];have:=vA x h1
 unfold low at *;unfold wrap64;omega
theorem Low_any (x n:Int) (w:World) (h1:1≤n) (h2:n≤1000000) :
  Calls Tryz.prog 16 #[.int .i64 x,.int .i64 n] w fun e w'=>e=.returned (.int .i64 (low x n))∧w=w':=by
 have HE:=ab (low_eq x n h1 h2);go_enter Tryz.func16,Tryz.ntmps16
 go_wp2
 go_ret
 exact⟨ke HE.out,rfl⟩
open Go.ChangeShapes Go.WideShapes Go.RowKit
section
variable {H:Type} {enc:TypeId × Value→H} {P:Program} {w:World} {spare:Nat→Bool} {held:Bool}
theorem nX {C:Nat}:∀{css:List (List Value)},(∀c∈css,c.length=C)→∀{j:Nat} {u:Value},css.flatten[j]?=some u→∃i k c,css[i]?=some c∧k<C∧j=i*C+k∧c[k]?=some u
 | [],_,j,u,h=>by simp at h
 | c::css,hC,j,u,h=>by
  have hc:=hC c (xt ..);rw [List.flatten_cons] at h;by_cases hj:j<c.length
  ·rw [xp hj] at h
   exact⟨0,j,c,rfl,by omega,by omega,h⟩
  ·rw [xx eu] at h
   obtain⟨i,k,c',h1,h2,h3,h4⟩:=nX (fun x hx=>hC x (xw _ hx)) h;exact⟨i+1,k,c',by simpa using h1,h2,by rw [Nat.succ_mul];omega,h4⟩
theorem nK {C:Nat}:∀{css:List (List Value)},(∀c∈css,c.length=C)→css.flatten.length=css.length*C
 | [],_=>by simp
 | c::css,hC=>by
  rw [List.flatten_cons,xm,nK (fun x hx=>hC x (xw _ hx)),hC c (xt ..),xg,Nat.succ_mul];omega
theorem sn {t e:TypeId} {C fuel:Nat} {cs:List Value} {x:DataW H × List MemPlace} (ht:P.underlying t=some (.slice e)) (hC:P.cellsOf e=C) (hC0:0<C)
  (h:DataW.trod enc P w 0 spare held fuel t cs=some x) (Q:List Value→Prop)
  (hQ:∀n c y,n<fuel→c.length=C→DataW.trod enc P w 0 spare held n e c=some y→Q c) :
  ∃(a:Option Addr) (len cap:Nat) (css:List (List Value)),cs=[.slice a len cap]∧len≤maxLen∧css.length=len∧(∀c∈css,Q c∧c.length=C)∧Sl w w.heap.size a C len css.flatten:=by
 rcases DataW.trod_slice ht h with⟨rfl,_⟩|⟨a,len,cap,elems,rest,n,hf,rfl,_,_,hl,hm,hlen,hel,_,_⟩
 ·exact⟨none,0,0,[],rfl,by simp [maxLen],rfl,by simp,Sl.none_ _ _ _ _⟩
 ·have each:∀i,i<len→∃c,c.length=C∧Q c∧∀j,j<C→w.cell? ((a.add (i*C)).add j)=c[j]?:=by
   intro i hi;have h1:=hel i hi;have hlt:i<elems.length:=eu;rw [wW hlt,Option.bind_eq_some_iff] at h1;obtain⟨c,hc,hy⟩:=h1;obtain⟨_,h2,h3⟩:=World.cells?_some hc;rw [hC] at h2 h3;exact⟨c,h2,hQ n c _ eu h2 hy,h3⟩
  have all:∃css:List (List Value),css.length=len∧∀i c,css[i]?=some c→c.length=C∧Q c∧∀j,j<C→w.cell? ((a.add (i*C)).add j)=c[j]?:=by
   have:∀m,m≤len→∃css:List (List Value),css.length=m∧∀i c,css[i]?=some c→c.length=C∧Q c∧∀j,j<C→w.cell? ((a.add (i*C)).add j)=c[j]?:=by
    intro m;induction m with
    | zero=>intro _;exact⟨[],rfl,by simp⟩
    | succ m ih =>
     intro hm;obtain⟨css,h1,h2⟩:=ih eu;obtain⟨c,hc⟩:=each m eu;refine⟨css++[c],by simp [h1],fun i d hd=>?_⟩;by_cases hi:i<css.length
     ·rw [xp hi] at hd;exact h2 i d hd
     ·rw [xx eu] at hd
      have hi0:i-css.length=0:=by
       rcases Nat.eq_zero_or_pos (i-css.length) with h0|h0
       ·exact h0
       ·rw [List.getElem?_eq_none eC] at hd;cases hd
      rw [hi0] at hd;simp at hd;subst hd
      rw [show i=m by omega];exact hc
   exact this len (wY _)
  obtain⟨css,h1,h2⟩:=all;have h3:∀c∈css,Q c∧c.length=C:=fun c hc=>by
   obtain⟨i,hi⟩:=List.getElem?_of_mem hc;exact⟨(h2 i c hi).2.1,(h2 i c hi).1⟩
  refine⟨some a,len,cap,css,rfl,by omega,h1,h3,by rw [nK (fun c hc=>(h3 c hc).2),h1],fun hn=>?_⟩;have h0:w.cell? a≠none:=by
   obtain⟨c,hc⟩:∃c,css[0]?=some c:=⟨_,wW eu⟩;obtain⟨hc1,_,hc2⟩:=h2 0 c hc;have:=hc2 0 hC0
   rw [show (a.add (0*C)).add 0=a by simp [Addr.add],wW eu] at this;rw [this];simp
  obtain⟨b,off,spot⟩:=a;have hspot:spot=none:=by
   cases spot with
   | none=>rfl
   | some s=>exfalso;apply h0;unfold World.cell?;split<;>simp
  subst hspot;have hb:b<w.heap.size:=by
   rcases Nat.lt_or_ge b w.heap.size with h4|h4
   ·exact h4
   ·exfalso;apply h0;simp [World.cell?,Array.getElem?_eq_none h4]
  refine⟨b,off,rfl,hb,fun j u hu=>?_⟩;obtain⟨i,k,c,g1,g2,rfl,g4⟩:=nX (fun c hc=>(h3 c hc).2) hu;have:=(h2 i c g1).2.2 k g2
  rw [g4] at this;rw [←this];congr 1;unfold Addr.add;(repeat' split)<;>simp_all<;>omega
theorem pi {X:Type} (f:X→List Value) (K:X→Prop):∀{css:List (List Value)},(∀c∈css,∃x,c=f x∧K x)→∃xs:List X,css=xs.map f∧∀x∈xs,K x
 | [],_=>⟨[],rfl,by simp⟩
 | c::css,h=>by
  obtain⟨x,rfl,hx⟩:=h c (xt ..);obtain⟨xs,rfl,hxs⟩:=pi f K (fun d hd=>h d (xw _ hd));exact⟨x::xs,rfl,fun y hy=>by
   rcases xo.1 hy with rfl|hy
   ·exact hx
   ·exact hxs y hy⟩
theorem rm {X:Type} (f:X→List Value) (K:X→Prop) {t e:TypeId} {C fuel:Nat} {cs:List Value} {x:DataW H × List MemPlace} (ht:P.underlying t=some (.slice e)) (hC:P.cellsOf e=C) (hC0:0<C)
  (h:DataW.trod enc P w 0 spare held fuel t cs=some x)
  (hQ:∀n c y,n<fuel→c.length=C→DataW.trod enc P w 0 spare held n e c=some y→∃x,c=f x∧K x) :
  ∃(a:Option Addr) (cap:Nat) (xs:List X),cs=[.slice a xs.length cap]∧xs.length≤maxLen∧(∀x∈xs,K x)∧Sl w w.heap.size a C xs.length (xs.flatMap f):=by
 obtain⟨a,len,cap,css,h1,h2,h3,h4,h5⟩:=sn ht hC hC0 h (fun c=>∃x,c=f x∧K x) hQ;obtain⟨xs,rfl,hx⟩:=pi f K (fun c hc=>(h4 c hc).1);rw [xS] at h3;subst h3;exact⟨a,cap,xs,h1,h2,hx,by rw [List.flatMap_def];exact h5⟩
end
section
variable {H:Type} {enc:TypeId × Value→H} {w:World} {base:Nat} {spare:Nat→Bool} {held:Bool}
theorem lR {P:Program} {t e:TypeId} (ht:P.underlying t=some (.slice e)) {r:Reach} {b0:Nat} {v:Value} (hval:Value.okWide P w r b0 t v):v.cells.toList=[v]:=by
 obtain⟨a,len,cap,rfl⟩:=okWide_slice ht hval;rfl
end
open Go.ChangeShapes Go.WideShapes Go.RowKit
def kJ (xs:List (Int × Int)):List Value:=xs.flatMap fun p=>[.int .i64 p.1,.int .i64 p.2]
theorem tS {xs:List (Int × Int)} {k:Nat} {p:Int × Int} (h:xs[k]?=some p):(kJ xs)[k*2]?=some (.int .i64 p.1)∧(kJ xs)[k*2+1]?=some (.int .i64 p.2):=by
 induction xs generalizing k with
 | nil=>simp at h
 | cons g xs ih =>
  cases k with
  | zero=>simp at h;subst h;simp [kJ]
  | succ k =>
   simp only [List.getElem?_cons_succ] at h;obtain⟨h1,h2⟩:=ih h;simp only [kJ,xj] at h1 h2 ⊢;exact bx
theorem Sl.pair {w:World} {B:Nat} {a:Option Addr} {n:Nat} {xs:List (Int × Int)} (h:Sl w B a 2 n (kJ xs)) {k:Nat} {p:Int × Int} (hk:xs[k]?=some p) (hn:n=xs.length) :
  ∃b o,a=some ⟨b,o,none⟩∧b<B∧w.cell? ⟨b,o+k*2,none⟩=some (.int .i64 p.1)∧w.cell? ⟨b,o+k*2+1,none⟩=some (.int .i64 p.2):=by
 have hlt:=(wZ.1 hk).1;obtain⟨b,o,h1,h2,h3⟩:=h.2 eu;obtain⟨c1,c2⟩:=tS hk;exact⟨b,o,h1,h2,h3 _ _ c1,h3 _ _ c2⟩
section
variable {H:Type} {enc:TypeId × Value→H} {w:World} {base:Nat} {spare:Nat→Bool} {held:Bool}
theorem t7 {r:Reach} {b0:Nat} {v:Value} {d:DataW H} {ps:List MemPlace} (hval:Value.okWide Tryz.prog w r b0 52 v) (h:DataW.Trod enc Tryz.prog w 0 spare held 52 v d ps) :
  ∃(a:Option Addr) (cap:Nat) (xs:List (Int × Int)),v=.slice a xs.length cap∧xs.length≤maxLen∧(∀x∈xs,x=x)∧Sl w w.heap.size a 2 xs.length (kJ xs):=by
 obtain⟨fuel,hf⟩:=h;rw [lR Tryz.underlying52 hval] at hf;obtain⟨a,cap,xs,h1,h2,h3,h4⟩:=rm (fun p:Int × Int=>[.int .i64 p.1,.int .i64 p.2]) (fun x=>x=x) Tryz.underlying52 (C:=2) eA ez hf (by
  intro n c y _ hc hy;obtain⟨ys,m,_,_,_,hl,hfs⟩:=DataW.trod_array Tryz.underlying56 hy;match c,hc with
  | [c0,c1],_ =>
   have k0:Tryz.prog.cellsOf 3=1:=eA;have f0:=hfs 0 eu;have f1:=hfs 1 eu;rw [k0] at f0 f1;simp only [List.drop,List.take] at f0 f1;rw [wW eu] at f0 f1;obtain⟨n0,e0,_⟩:=DataW.trod_int Tryz.underlying3 f0;obtain⟨n1,e1,_⟩:=DataW.trod_int Tryz.underlying3 f1;injection e0 with e0;injection e1 with e1
   subst e0 e1;exact⟨(n0,n1),rfl,rfl⟩)
 injection h1 with h1
 exact⟨a,cap,xs,h1,h2,h3,h4⟩
end
end Go.Proofs.YtbnkaecmgfolpaaGreat
