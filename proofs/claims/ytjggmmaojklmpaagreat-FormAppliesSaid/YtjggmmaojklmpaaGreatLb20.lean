/- What was found, in memory. -/
import Derived.Test.YtjggmmaojklmpaaGreatLb9
import Derived.Deep.AppendLies
set_option maxRecDepth 100000
set_option maxHeartbeats 4000000
namespace Go.Proofs.YtjggmmaojklmpaaGreat
open Go.RowKit
def MtV (w:World) (S:Nat→Prop) (offs:List Nat) (n:Nat) (c:List Value) (m:Mt):Prop :=
 ∃aa cp,c=[.int .i64 ((offs.getD m.1 0:Nat):Int),.int .i64 ((offs.getD m.2.1 0:Nat):Int),.slice aa n cp]∧SlS w S aa 2 n (jV m.2.2)∧m.2.2.length=n∧m.1≤m.2.1∧m.2.1+1≤offs.length
inductive MtVs (w:World) (S:Nat→Prop) (offs:List Nat) (n:Nat):List (List Value)→List Mt→Prop
 | nil:MtVs w S offs n [] []
 | cons {c:List Value} {m:Mt} {cs:List (List Value)} {ms:List Mt}:MtV w S offs n c m→MtVs w S offs n cs ms→MtVs w S offs n (c::cs) (m::ms)
theorem MtV.keep {w w':World} {S:Nat→Prop} {offs:List Nat} {n:Nat} {c:List Value} {m:Mt} (h:MtV w S offs n c m) (hk:Kept S w w'):MtV w' S offs n c m:=by
 obtain⟨aa,cp,h1,h2,h3⟩:=h;exact⟨aa,cp,h1,SlS.keep h2 hk,h3⟩
theorem MtV.mono {w:World} {S S':Nat→Prop} {offs:List Nat} {n:Nat} {c:List Value} {m:Mt} (h:MtV w S offs n c m) (hS:∀b,S b→b<w.heap.size→S' b):MtV w S' offs n c m:=by
 obtain⟨aa,cp,h1,h2,h3⟩:=h;exact⟨aa,cp,h1,SlS.mono h2 hS,h3⟩
theorem MtVs.keep {w w':World} {S:Nat→Prop} {offs:List Nat} {n:Nat} (hk:Kept S w w'):∀{cs:List (List Value)} {ms:List Mt},MtVs w S offs n cs ms→MtVs w' S offs n cs ms
 | _,_,.nil=>.nil
 | _,_,.cons h1 h2=>.cons (h1.keep hk) (h2.keep hk)
theorem MtVs.mono {w:World} {S S':Nat→Prop} {offs:List Nat} {n:Nat} (hS:∀b,S b→b<w.heap.size→S' b):∀{cs:List (List Value)} {ms:List Mt},MtVs w S offs n cs ms→MtVs w S' offs n cs ms
 | _,_,.nil=>.nil
 | _,_,.cons h1 h2=>.cons (h1.mono hS) (h2.mono hS)
theorem MtVs.snoc {w:World} {S:Nat→Prop} {offs:List Nat} {n:Nat} {c:List Value} {m:Mt}:∀{cs:List (List Value)} {ms:List Mt},MtVs w S offs n cs ms→MtV w S offs n c m→MtVs w S offs n (cs++[c]) (ms++[m])
 | _,_,.nil,h=>.cons h .nil
 | _,_,.cons h1 h2,h=>.cons h1 (h2.snoc h)
theorem MtVs.at_ {w:World} {S:Nat→Prop} {offs:List Nat} {n:Nat}:∀{cs:List (List Value)} {ms:List Mt},MtVs w S offs n cs ms→∀{k:Nat} {m:Mt},ms[k]?=some m→∃c,cs[k]?=some c∧MtV w S offs n c m
 | _,_,.nil,_,_,h=>by simp at h
 | _,_,.cons h1 _,0,_,h=>by simp at h;exact⟨_,rfl,h▸h1⟩
 | _,_,.cons _ h2,k+1,m,h=>h2.at_ (k:=k) ik
theorem SlP.at_ {w:World} {B:Nat} {a:Option Addr} {n:Nat} {ps:List (Int × Int)} (h:Sl w B a 2 n (jV ps)) {k:Nat} {v:Int × Int} (hk:ps[k]?=some v) :
  ∃b o,a=some ⟨b,o,none⟩∧b<B∧w.cell? ⟨b,o+k*2,none⟩=some (.int .i64 v.1)∧w.cell? ⟨b,o+k*2+1,none⟩=some (.int .i64 v.2):=by
 have hlt:=(Cq.1 hk).1;have hn:n=ps.length:=by have:=h.1;rw [kC] at this;omega
 obtain⟨b,o,h1,h2,h3⟩:=h.2 gu;obtain⟨e1,e2⟩:=oK hk;exact⟨b,o,h1,h2,h3 _ _ e1,h3 _ _ e2⟩
theorem MtVs.three {w:World} {S:Nat→Prop} {offs:List Nat} {n:Nat}:∀{cs:List (List Value)} {ms:List Mt},MtVs w S offs n cs ms→∀c∈cs,c.length=3
 | _,_,.nil=>by simp
 | _,_,.cons h1 h2=>by
  intro c hc;rcases Cz.1 hc with rfl|hc
  ·obtain⟨aa,cp,rfl,_⟩:=h1;rfl
  ·exact h2.three c hc
theorem rup_any (c:UInt8) (w:World):Calls Tryz.prog 109 #[.int .u8 c.toNat] w fun e w'=>e=.returned (.int .u8 (upB c).toNat)∧w=w':=by
 obtain⟨R,hR⟩:∃R:Nat,R=(upB c).toNat:=⟨_,rfl⟩;rw [←hR];rw [AI] at hR;have HR:=ab hR;clear hR;have h256:=mE c;go_enter Tryz.func109,Tryz.ntmps109
 exact dD
theorem AK (c:UInt8) (w:World):Calls Tryz.prog 110 #[.int .u8 c.toNat] w fun e w'=>e=.returned (.int .u8 (lowB c).toNat)∧w=w':=by
 obtain⟨R,hR⟩:∃R:Nat,R=(lowB c).toNat:=⟨_,rfl⟩;rw [←hR];rw [xI] at hR;have HR:=ab hR;clear hR;have h256:=mE c;go_enter Tryz.func110,Tryz.ntmps110
 exact dD
def letB (c:UInt8):Bool:=decide ((65≤c.toNat∧c.toNat≤90)∨(97≤c.toNat∧c.toNat≤122))
theorem wI (c:UInt8) (w:World):Calls Tryz.prog 163 #[.int .u8 c.toNat] w fun e w'=>e=.returned (.bool (letB c))∧w=w':=by
 obtain⟨R,hR⟩:∃R:Bool,R=letB c:=⟨_,rfl⟩;rw [←hR];unfold letB at hR;have HR:=ab hR;clear hR;have h256:=mE c;go_enter Tryz.func163,Tryz.ntmps163
 exact ee
theorem rin_any (c:UInt8) {b:Bool} (w:World) (h:mA c=b):Calls Tryz.prog 136 #[.int .u8 c.toNat] w fun e w'=>e=.returned (.bool b)∧w=w':=by
 obtain⟨lb,hlb⟩:∃lb,letB c=lb:=⟨_,rfl⟩;have HB:Hid (b=(lb||decide (48≤c.toNat∧c.toNat≤57)||decide (128≤c.toNat))):=ab (by
  rw [←h,←hlb];unfold mA letB;rw [Bool.eq_iff_iff];simp;omega)
 have HL:=ab hlb;have h256:=mE c;clear h hlb;cases lb
 all_goals
  go_enter Tryz.func136,Tryz.ntmps136
  go_wp2_with (go_at_call 163;refine(wI _ _).mono ?_;rintro e w1 ⟨rfl,rfl⟩;rw [HL.out])
  all_goals
   go_ret
   refine⟨jU ?_,rfl⟩;rw [HB.out,Bool.eq_iff_iff];simp;try omega
theorem uu (n:Int) (w:World) :
  Calls Tryz.prog 69 #[.int .i64 n] w fun e w'=>e=.returned (.string ⟨(mM n).toArray⟩)∧w=w':=by
 by_cases h:1≤n∧n≤5
 ·obtain⟨h1,h2⟩:=h
  have hn:n=1∨n=2∨n=3∨n=4∨n=5:=gu;rcases hn with rfl|rfl|rfl|rfl|rfl
  all_goals
   go_enter Tryz.func69,Tryz.ntmps69
   exact cw
 ·have hz:mM n=[]:=by
   exact dS
  have e1:(n==1)=false:=by rw [CM];omega
  have e2:(n==2)=false:=by rw [CM];omega
  have e3:(n==3)=false:=by rw [CM];omega
  have e4:(n==4)=false:=by rw [CM];omega
  have e5:(n==5)=false:=by rw [CM];omega
  rw [hz];go_enter Tryz.func69,Tryz.ntmps69
  exact cw
def addL (ws:List Str) (c:UInt8):List Str:=ws.set (ws.length-1) (ws.getD (ws.length-1) []++[c])
def ls:Bool→Str→List Str→List Str
 | _,[],ws=>ws
 | pw,c::r,ws=>if mA c=true then(if pw=true then ls true r (addL ws c) else ls true r (addL (ws++[[]]) c)) else ls false r ws
theorem oJ (ws:List Str) (l:Str) (c:UInt8):addL (ws++[l]) c=ws++[l++[c]]:=by
 unfold addL;rw [Cy,List.length_singleton,Nat.add_sub_cancel,List.getD_eq_getElem?_getD,CD (Cp _),Nat.sub_self];rw [List.set_append_right _ _ (Cp _),Nat.sub_self];rfl
def capW (f:UInt8→UInt8):Str→Str
 | []=>[]
 | c::r=>f c::r
def ql (small:Bool):List Str→Str
 | []=>[]
 | l::r=>capW (if small=true then lowB else upB) l++r.flatMap (capW upB)
theorem qx (small:Bool) (ws:List Str) (l:Str):ql small (ws++[l])=ql small ws++(if ws=[] then capW (if small=true then lowB else upB) l else capW upB l):=by
 cases ws with
 | nil=>simp [ql]
 | cons a r=>simp [ql]
theorem Bd (f:UInt8→UInt8) {l:Str} (h:l≠[]) (c:UInt8):capW f (l++[c])=capW f l++[c]:=by
 cases l with
 | nil=>exact absurd rfl h
 | cons a r=>rfl
theorem Bv {small:Bool} {ws:List Str} (h:∀x∈ws,x≠[]):ql small ws=[]↔ws=[]:=by
 cases ws with
 | nil=>simp [ql]
 | cons a r =>
  have:=h a (CB ..)
  cases a with
  | nil=>exact absurd rfl this
  | cons x y=>simp [ql,capW]
theorem qn {α:Type} {l:List α} (h:l≠[]):∃i a,l=i++[a]:=⟨l.dropLast,l.getLast h,(List.dropLast_concat_getLast h).symm⟩
theorem nl (small:Bool):∀(l:Str) (pw:Bool) (ws:List Str),(∀x∈ws,x≠[])→(pw=true→ws≠[])→mi small pw l (ql small ws)=ql small (ls pw l ws)
 | [],pw,ws,_,_=>by simp [mi,ls]
 | c::r,pw,ws,h1,h2=>by
  unfold mi ls;by_cases hw:mA c=true
  ·rw [Cl hw,Cl hw]
   by_cases hp:pw=true
   ·rw [Cl hp,Cl hp]
    obtain⟨i,a,rfl⟩:=qn (h2 hp);have ha:=h1 a gF;rw [oJ,←nl small r true (i++[a++[c]]) ?_ gF]
    ·congr 1
     rw [qx,qx];split<;>rw [Bd _ ha,CU]
    ·intro x hx
     rcases CI.1 hx with hx|hx
     ·exact h1 x (List.mem_append_left _ hx)
     ·simp at hx;subst hx;simp
   ·rw [Co hp,Co hp]
    rw [oJ,CT];have hn:∀x∈ws++[[c]],x≠[]:=by
     intro x hx;rcases CI.1 hx with hx|hx
     ·exact h1 x hx
     ·simp at hx;subst hx;simp
    rw [←nl small r true (ws++[[c]]) hn gF,qx];by_cases hws:ws=[]
    ·subst hws
     cases small<;>simp [ql,capW]
    ·have hj:=mt (Bv (small:=small) h1).1 hws
     rw [Co hws,Co (fun h=>hj h.2)];rfl
  ·rw [Co hw,Co hw]
   exact nl small r false ws h1 gF
theorem pG:∀(l:Str) (pw:Bool) (ws:List Str),(∀x∈ws,x≠[])→(pw=true→ws≠[])→∀x∈ls pw l ws,x≠[]
 | [],pw,ws,h,_=>by simpa [ls] using h
 | c::r,pw,ws,h,h2=>by
  unfold ls;split
  ·split
   ·rename_i hp
    obtain⟨i,a,rfl⟩:=qn (h2 hp);rw [oJ];exact pG r true _ (fun x hx=>by
     rcases CI.1 hx with hx|hx
     ·exact h x (List.mem_append_left _ hx)
     ·simp at hx;subst hx;simp) gF
   ·rw [oJ]
    exact pG r true _ (fun x hx=>by
     rcases CI.1 hx with hx|hx
     ·exact h x hx
     ·simp at hx;subst hx;simp) gF
  ·exact pG r false ws h gF
theorem Bn:(Tryz.prog.info? 9).map (fun i=>(i.zero,i.size,i.bytes))=some (some (.string ⟨#[]⟩),1,16):=by kernel_rfl
theorem wj (z:Int) (w:World) (h0:0≤z) (h1:z<256):Calls Tryz.prog 136 #[.int .u8 z] w fun e w'=>e=.returned (.bool (mA (UInt8.ofNat z.toNat)))∧w=w':=by
 have h:=rin_any (UInt8.ofNat z.toNat) w rfl;exact dd
def WdRel (l:Str) (T:List Str) (w:World) (v q:Value) (wr:World):Prop :=
 ∃(i:Nat) (ws:List Str) (pw:Bool),i≤l.length∧q=.int .i64 i∧wr.ownsRow w.heap.size 9 1 v ws.length (kv ws)∧Below w.heap.size w wr∧ws.length≤i ∧
  Hid (∀x∈ws,x.length≤i)∧Hid ((i=0→pw=false)∧(0<i→∀x,l[i-1]?=some x→mA x=pw))∧Hid (pw=true→ws≠[])∧Hid (ls pw (l.drop i) ws=T)
theorem uY {W:World} {B g cap:Nat} {ini:List Str} {lst:Str} (h:W.ownsRow B 9 1 (.slice (some ⟨g,0,none⟩) (ini.length+1) cap) (ini.length+1) (kv (ini++[lst]))) (s:Str) :
  (W.setCell ⟨g,ini.length,none⟩ (.string ⟨s.toArray⟩)).drew.ownsRow B 9 1 (.slice (some ⟨g,0,none⟩) (ini.length+1) cap) (ini++[s]).length (kv (ini++[s])):=by
 have h1:=(h.stored ini.length (.string ⟨s.toArray⟩)).1.drew;have h2:(kv (ini++[lst])).set ini.length (.string ⟨s.toArray⟩)=kv (ini++[s]):=by
  simp only [kv,List.map_append,Cw,List.map_nil];rw [List.set_append_right _ _ gF,CX,Nat.sub_self];rfl
 rw [h2] at h1;simpa using h1
theorem sW (l:Str) (w:World) (hs:l.length≤1000000) :
  Calls Tryz.prog 111 #[.string ⟨l.toArray⟩] w fun e w'=>∃(a:Option Addr) (c:Nat),e=.returned (.slice a (ls false l []).length c)∧w'.ownsRow w.heap.size 9 1 (.slice a (ls false l []).length c) (ls false l []).length (kv (ls false l []))∧Below w.heap.size w w'∧(ls false l []).length≤l.length∧∀x∈ls false l [],x.length≤l.length:=by
 obtain⟨T,hT⟩:∃T,ls false l []=T:=⟨_,rfl⟩;rw [hT];have HR0:Hid (ls false (l.drop 0) []=T):=ab hT;obtain⟨iu,hiu⟩:=info_parts Bn;clear hT;go_enter Tryz.func111,Tryz.ntmps111
 go_wp2
 go_loopw [3,4] (fun v q wr=>WdRel l T w v q wr) (fun _ q _=>l.length-(intOf q).toNat)
 case atStart=>exact⟨0,[],false,by omega,rfl,World.ownsRow_nil _ _ _ _,Below.refl _ _,by simp,ab gF,ab ⟨fun _=>rfl,fun h=>by omega⟩,ab gF,HR0⟩
 case round =>
  obtain⟨i,ws,pw,hik,rfl,hown,hb,hwl,HL,HP,HN,HF⟩:=hrel;clear HR0;have hB:=hb.size;cases hd:l.drop i with
  | nil =>
   have h2:=ll hd;have HE:Hid (ws=T):=ab gY;obtain⟨a,c,rfl⟩:=j7 hown;clear hd HF;go_wp2
   go_ret
   refine⟨a,c,by rw [←HE.out];rfl,by rw [←HE.out];exact hown,hb,by rw [←HE.out];omega,fun x hx=>?_⟩;rw [←HE.out] at hx;have:=HL.out x hx;omega
  | cons c r =>
   obtain⟨h2,h3,hr⟩:=ky hd;have Hr:=ab hr;have hc256:=mE c;cases hw:mA c with
   | false =>
    have HW:=ab hw;have HE:Hid (ls false r ws=T):=ab iO;obtain⟨a,cp,rfl⟩:=j7 hown;clear hd HF hr hw;go_wp2_with (go_at_call 136;refine(wj _ _ gu gu).mono ?_;rintro e w1 ⟨rfl,rfl⟩;rw [ud];first|rw [HW.out]|rw [HWP.out])
    go_roundw
    case rel =>
     refine⟨i+1,ws,false,by omega,by go_num,hown,hb,by omega,ab (fun x hx=>by have:=HL.out x hx;omega),ab ⟨fun h=>by omega,fun _ x hx=>?_⟩,ab gF,ab (by rw [Hr.out];exact HE.out)⟩;exact gm
    case measure=>simp [intOf];omega
   | true =>
    have HW:=ab hw;cases pw with
    | true =>
     have HE:Hid (ls true r (addL ws c)=T):=ab iO;have hi0:0<i:=by
      rcases Nat.eq_zero_or_pos i with h|h
      ·have:=HP.out.1 h;cases this
      ·exact h
     obtain⟨p,hp⟩:∃p,l[i-1]?=some p:=⟨_,Cn gu⟩;have HWP:=ab (HP.out.2 hi0 p hp);have hx3:∀h:i-1<l.length,l[i-1]'h=p:=fun h=>by rw [Cn h] at hp;injection hp
     have hp256:=mE p;have hi0':((i:Int)==0)=false:=by rw [CM];omega
     obtain⟨ini,lst,rfl⟩:=qn (HN.out rfl);have hln:(ini++[lst]).length=ini.length+1:=gF;rw [hln] at hown hwl;have HLN:=ab hln;clear hln;obtain⟨g,cap,rfl,hgB,hgl⟩:=World.ownsRow.form hown gu;have hce:=(hown).cellAt ini.length gu;have hfz:=(hown).frozenAt ini.length;rw [show (kv (ini++[lst]))[ini.length]?=some (.string ⟨lst.toArray⟩) by simp [kv]] at hce;have ho:=hown;have hbo:=hb;have HL2:Hid (∀x∈ini,x.length≤i):=ab (fun x hx=>HL.out x (List.mem_append_left _ hx));have HTK:Hid (List.take 1 (List.drop i l)=[c]):=ab (by rw [hd];rfl);clear hd HF hr hw hp;go_wp2_with (go_at_call 136;refine(wj _ _ gu gu).mono ?_;rintro e w1 ⟨rfl,rfl⟩;rw [ud];first|rw [HW.out]|rw [HWP.out])
     have hll:=HL.out lst gF;go_region
     go_wp2
     rw [HTK.out];go_roundw
     case rel =>
      exact eZ
     case measure=>simp [intOf];omega
    | false =>
     have HE:Hid (ls true r (addL (ws++[[]]) c)=T):=ab iO;have HTK:Hid (List.take 1 (List.drop i l)=[c]):=ab (by rw [hd];rfl);rcases Nat.eq_zero_or_pos i with hi0|hi0
     ·have hi0':((i:Int)==0)=true:=by rw [Ci];omega
      have HI0:=ab hi0;clear hd HF hr hw hi0;exact aL
     ·obtain⟨p,hp⟩:∃p,l[i-1]?=some p:=⟨_,Cn gu⟩
      have HWP:=ab (HP.out.2 hi0 p hp);have hx3:∀h:i-1<l.length,l[i-1]'h=p:=fun h=>by rw [Cn h] at hp;injection hp
      have hp256:=mE p;have hi0':((i:Int)==0)=false:=by rw [CM];omega
      clear hd HF hr hw hp;exact aL
theorem wG (z:Int) (w:World) (h0:0≤z) (h1:z<256):Calls Tryz.prog 109 #[.int .u8 z] w fun e w'=>e=.returned (.int .u8 (upB (UInt8.ofNat z.toNat)).toNat)∧w=w':=by
 have h:=rup_any (UInt8.ofNat z.toNat) w;exact dd
theorem vL (z:Int) (w:World) (h0:0≤z) (h1:z<256):Calls Tryz.prog 110 #[.int .u8 z] w fun e w'=>e=.returned (.int .u8 (lowB (UInt8.ofNat z.toNat)).toNat)∧w=w':=by
 have h:=AK (UInt8.ofNat z.toNat) w;exact dd
theorem rTurn_up (l:Str) (w:World) (hs:l.length≤1000000) :
  Calls Tryz.prog 72 #[.string ⟨l.toArray⟩,.int .i64 1] w fun e w'=>e=.returned (.tuple #[.string ⟨(l.map upB).toArray⟩,.int .i64 0])∧Below w.heap.size w w':=by
 obtain⟨cap,w0,hcv,hrow,hb0,hsz⟩:=BRow.made (P:=Tryz.prog) w (src:=9) (dst:=46) l Tryz.underlying9 Tryz.underlying46 Tryz.underlying5;have HZ:=ab hsz;clear hsz;have hsz0:w.heap.size<w0.heap.size:=by have:=HZ.out;omega
 go_enter Tryz.func72,Tryz.ntmps72
 go_wp2_with (fail)
 go_loopw [7] (fun q wr=>∃k:Nat,k≤l.length∧q=.int .i64 k∧BRow wr w.heap.size ((l.take k).map upB++l.drop k)∧Below w.heap.size w wr∧w.heap.size<wr.heap.size) (fun q _=>l.length-(intOf q).toNat)
 case atStart=>exact b7
 case round =>
  obtain⟨k,hk,rfl,hr,hb,hlt⟩:=hrel;by_cases h2:k<l.length
  ·have hc:=hr.cell (j:=k) (c:=l[k]) (by rw [CD gH,List.getElem?_drop,CX,CK,show k+(k-min k l.length)=k by omega,Cn h2])
   have hf:=hr.free (j:=k) gH;have h256:=mE l[k];have HS:=hr.set (j:=k) (upB l[k]);rw [pq upB l k h2] at HS;have HS':=ab HS;clear HS;generalize hx:l[k]=x at *
   have Hx:=ab hx;clear hx;go_wp2_with (go_at_call 109;refine(wG _ _ gu gu).mono ?_;rintro e w1 ⟨rfl,rfl⟩)
   exact bJ
  ·exact bi
theorem yV (l:Str) (w:World) (hs:l.length≤1000000) :
  Calls Tryz.prog 72 #[.string ⟨l.toArray⟩,.int .i64 2] w fun e w'=>e=.returned (.tuple #[.string ⟨(l.map lowB).toArray⟩,.int .i64 0])∧Below w.heap.size w w':=by
 obtain⟨cap,w0,hcv,hrow,hb0,hsz⟩:=BRow.made (P:=Tryz.prog) w (src:=9) (dst:=46) l Tryz.underlying9 Tryz.underlying46 Tryz.underlying5;have HZ:=ab hsz;clear hsz;have hsz0:w.heap.size<w0.heap.size:=by have:=HZ.out;omega
 go_enter Tryz.func72,Tryz.ntmps72
 go_wp2_with (fail)
 go_loopw [8] (fun q wr=>∃k:Nat,k≤l.length∧q=.int .i64 k∧BRow wr w.heap.size ((l.take k).map lowB++l.drop k)∧Below w.heap.size w wr∧w.heap.size<wr.heap.size) (fun q _=>l.length-(intOf q).toNat)
 case atStart=>exact b7
 case round =>
  obtain⟨k,hk,rfl,hr,hb,hlt⟩:=hrel;by_cases h2:k<l.length
  ·have hc:=hr.cell (j:=k) (c:=l[k]) (by rw [CD gH,List.getElem?_drop,CX,CK,show k+(k-min k l.length)=k by omega,Cn h2])
   have hf:=hr.free (j:=k) gH;have h256:=mE l[k];have HS:=hr.set (j:=k) (lowB l[k]);rw [pq lowB l k h2] at HS;have HS':=ab HS;clear HS;generalize hx:l[k]=x at *
   have Hx:=ab hx;clear hx;go_wp2_with (go_at_call 110;refine(vL _ _ gu gu).mono ?_;rintro e w1 ⟨rfl,rfl⟩)
   exact bJ
  ·exact bi
theorem Bq (l:Str) (w:World) (hs:l.length≤1000000) :
  Calls Tryz.prog 72 #[.string ⟨l.toArray⟩,.int .i64 3] w fun e w'=>e=.returned (.tuple #[.string ⟨(capB l).toArray⟩,.int .i64 0])∧Below w.heap.size w w':=by
 obtain⟨cap,w0,hcv,hrow,hb0,hsz⟩:=BRow.made (P:=Tryz.prog) w (src:=9) (dst:=46) l Tryz.underlying9 Tryz.underlying46 Tryz.underlying5;have HZ:=ab hsz;clear hsz;have hsz0:w.heap.size<w0.heap.size:=by have:=HZ.out;omega
 cases l with
 | nil =>
  have hcv2:=hrow.back (P:=Tryz.prog) (src:=46) (dst:=9) Tryz.underlying46 Tryz.underlying5 Tryz.underlying9 cap;simp only [CW] at hcv hcv2;go_enter Tryz.func72,Tryz.ntmps72
  exact dI
 | cons c r =>
  have hc:=hrow.cell (j:=0) (c:=c) rfl;have hf:=hrow.free (j:=0) gF;have h256:=mE c;have HS:=hrow.set (j:=0) (upB c);have hcv2:=HS.back (P:=Tryz.prog) (src:=46) (dst:=9) Tryz.underlying46 Tryz.underlying5 Tryz.underlying9 cap;simp only [List.set_cons_zero,Cr] at hcv2;clear HS;go_enter Tryz.func72,Tryz.ntmps72
  go_wp2_with (go_at_call 109;refine(wG _ _ gu gu).mono ?_;rintro e w1 ⟨rfl,rfl⟩)
  exact eK
def qL (small:Bool) (i:Nat) (ws:List Str):Str:=if i=0 then ql small ws else(ws.drop i).flatMap (capW upB)
theorem sI (small:Bool) {i:Nat} {ws r:List Str} {d:UInt8} {ds:Str} (h:ws.drop i=(d::ds)::r) (hr:ws.drop (i+1)=r) :
  qL small i ws=((if i=0∧small=true then lowB d else upB d)::ds)++qL small (i+1) ws:=by
 unfold qL;rw [Co (show ¬i+1=0 by omega),hr];by_cases h0:i=0
 ·subst h0
  rw [C0] at h;rw [h,Cl rfl];cases small<;>simp [ql,capW]
 ·rw [Co h0,h,Co (fun q=>h0 q.1)]
  simp [capW]
def CmRel (small:Bool) (ws:List Str) (R:Str) (w1:World) (o q:Value) (wr:World):Prop :=
 ∃(i:Nat) (acc:Str),i≤ws.length∧q=.int .i64 i∧o=.string ⟨acc.toArray⟩∧Below w1.heap.size w1 wr∧Hid (acc++qL small i ws=R)
theorem vZ (l:Str) (w:World) (hs:l.length≤1000000) :
  Calls Tryz.prog 72 #[.string ⟨l.toArray⟩,.int .i64 4] w fun e w'=>e=.returned (.tuple #[.string ⟨(mi true false l []).toArray⟩,.int .i64 0])∧Below w.heap.size w w':=by
 generalize hR:mi true false l []=R
 have HR:=ab hR;clear hR;go_enter Tryz.func72,Tryz.ntmps72
 obtain⟨cap0,w0,hcv0,_,hb0,_⟩:=BRow.made (P:=Tryz.prog) w (src:=9) (dst:=46) l Tryz.underlying9 Tryz.underlying46 Tryz.underlying5;have hz0:=hb0.size;go_wp2_with (go_at_call 111;refine(sW l _ hs).mono ?_)
 rintro e w1 ⟨a,cp,rfl,hown,hb1,hwl,hwx⟩;have hbw1:Below w.heap.size w w1:=hb0.trans (hb1.mono hz0);have hz1:=hbw1.size;have HSl:=ab (Sl.of_own hown);have HNE:=ab (pG l false [] gF gF);have HJ0:Hid (([]:Str)++qL true 0 (ls false l [])=R):=ab (by rw [←HR.out];exact(nl true l false [] gF gF).symm);have hRL:R.length≤1000000:=by rw [←HR.out];have:=lw true l false [];simp at this;omega
 generalize ls false l []=ws at *
 have HWX:=ab hwx;clear hown hb1 hcv0 hb0 hz0 hwx HR;go_wp2
 go_loopw [10,11] (fun o q wr=>CmRel true ws R w1 o q wr) (fun _ q _=>ws.length-(intOf q).toNat)
 case atStart=>exact⟨0,[],by omega,rfl,rfl,Below.refl _ _,HJ0⟩
 case round =>
  obtain⟨i,acc,hik,rfl,rfl,hb,HF⟩:=hrel;clear HJ0;have hB:=hb.size;have hbb:=hbw1.trans (hb.mono hz1);cases hd:ws.drop i with
  | nil =>
   exact cr
  | cons y r =>
   obtain⟨h2,h3,hr⟩:=j6 hd;have hyne:=HNE.out y (CF h3);have hyl:=HWX.out y (CF h3);cases y with
   | nil=>exact absurd rfl hyne
   | cons d ds =>
    have HE:Hid (acc++(((if i=0∧true=true then lowB d else upB d)::ds)++qL true (i+1) ws)=R):=ab (by rw [←HF.out,sI true hd hr]);have hal:acc.length+ds.length+1≤1000000:=by
     exact ep
    obtain⟨b,o,rfl,hbB,c0⟩:=(HSl.out.keep hb).str h3;simp only [Cr] at hyl;clear hd HF hr h3 hyne;rcases Nat.eq_zero_or_pos i with hi0|hi0
    ·have hi0':((i:Int)==0)=true:=by rw [Ci];omega
     have HE2:Hid (acc++((lowB d::ds)++qL true (i+1) ws)=R):=ab (by rw [←HE.out,Cl ⟨hi0,rfl⟩]);clear hi0 HE;obtain⟨cap,w2,hcv,hrow,hb2,hsz⟩:=BRow.made (P:=Tryz.prog) wr (src:=9) (dst:=46) (d::ds) Tryz.underlying9 Tryz.underlying46 Tryz.underlying5;have hc:=hrow.cell (j:=0) (c:=d) rfl;have hf:=hrow.free (j:=0) gF;have h256:=mE d;have HS:=hrow.set (j:=0) (lowB d);have hcv2:=HS.back (P:=Tryz.prog) (src:=46) (dst:=9) Tryz.underlying46 Tryz.underlying5 Tryz.underlying9 cap;simp only [List.set_cons_zero,Cr] at hcv hcv2;have hsz2:wr.heap.size<w2.heap.size:=gu;clear HS hsz hrow;go_wp2_with (go_at_call 110;refine(vL _ _ gu gu).mono ?_;rintro e w3 ⟨rfl,rfl⟩)
     go_roundw
     case rel=>exact⟨i+1,acc++(lowB d::ds),by omega,by go_num,by simp,hb.trans ((hb2.setCell (p:=⟨wr.heap.size,0,none⟩) (Cp _) _).mono hB),ab (by rw [←HE2.out];simp)⟩
     case measure=>simp [intOf];omega
    ·have hi0':((i:Int)==0)=false:=by rw [CM];omega
     have HE2:Hid (acc++((upB d::ds)++qL true (i+1) ws)=R):=ab (by rw [←HE.out,Co (fun q=>by omega)]);clear hi0 HE;exact aN
theorem uv (l:Str) (w:World) (hs:l.length≤1000000) :
  Calls Tryz.prog 72 #[.string ⟨l.toArray⟩,.int .i64 5] w fun e w'=>e=.returned (.tuple #[.string ⟨(mi false false l []).toArray⟩,.int .i64 0])∧Below w.heap.size w w':=by
 generalize hR:mi false false l []=R
 have HR:=ab hR;clear hR;go_enter Tryz.func72,Tryz.ntmps72
 obtain⟨cap0,w0,hcv0,_,hb0,_⟩:=BRow.made (P:=Tryz.prog) w (src:=9) (dst:=46) l Tryz.underlying9 Tryz.underlying46 Tryz.underlying5;have hz0:=hb0.size;go_wp2_with (go_at_call 111;refine(sW l _ hs).mono ?_)
 rintro e w1 ⟨a,cp,rfl,hown,hb1,hwl,hwx⟩;have hbw1:Below w.heap.size w w1:=hb0.trans (hb1.mono hz0);have hz1:=hbw1.size;have HSl:=ab (Sl.of_own hown);have HNE:=ab (pG l false [] gF gF);have HJ0:Hid (([]:Str)++qL false 0 (ls false l [])=R):=ab (by rw [←HR.out];exact(nl false l false [] gF gF).symm);have hRL:R.length≤1000000:=by rw [←HR.out];have:=lw false l false [];simp at this;omega
 generalize ls false l []=ws at *
 have HWX:=ab hwx;clear hown hb1 hcv0 hb0 hz0 hwx HR;go_wp2
 go_loopw [10,11] (fun o q wr=>CmRel false ws R w1 o q wr) (fun _ q _=>ws.length-(intOf q).toNat)
 case atStart=>exact⟨0,[],by omega,rfl,rfl,Below.refl _ _,HJ0⟩
 case round =>
  obtain⟨i,acc,hik,rfl,rfl,hb,HF⟩:=hrel;clear HJ0;have hB:=hb.size;have hbb:=hbw1.trans (hb.mono hz1);cases hd:ws.drop i with
  | nil =>
   exact cr
  | cons y r =>
   obtain⟨h2,h3,hr⟩:=j6 hd;have hyne:=HNE.out y (CF h3);have hyl:=HWX.out y (CF h3);cases y with
   | nil=>exact absurd rfl hyne
   | cons d ds =>
    have HE:Hid (acc++(((if i=0∧false=true then lowB d else upB d)::ds)++qL false (i+1) ws)=R):=ab (by rw [←HF.out,sI false hd hr]);have hal:acc.length+ds.length+1≤1000000:=by
     exact ep
    obtain⟨b,o,rfl,hbB,c0⟩:=(HSl.out.keep hb).str h3;simp only [Cr] at hyl;clear hd HF hr h3 hyne;have HE2:Hid (acc++((upB d::ds)++qL false (i+1) ws)=R):=ab (by rw [←HE.out,Co (fun q=>by simp at q)]);clear HE;rcases Nat.eq_zero_or_pos i with hi0|hi0
    ·have hi0':((i:Int)==0)=true:=by rw [Ci];omega
     clear hi0;exact aN
    ·have hi0':((i:Int)==0)=false:=by rw [CM];omega
     clear hi0;exact aN
theorem uS (l:Str) (way:Int) (w:World) (hs:l.length≤1000000) :
  Calls Tryz.prog 72 #[.string ⟨l.toArray⟩,.int .i64 way] w fun e w'=>e=.returned (.tuple #[.string ⟨((turn l way).1).toArray⟩,.int .i64 (turn l way).2])∧Below w.heap.size w w':=by
 by_cases h1:way=1
 ·subst h1;exact rTurn_up l w hs
 by_cases h2:way=2
 ·subst h2;exact yV l w hs
 by_cases h3:way=3
 ·subst h3;exact Bq l w hs
 by_cases h4:way=4
 ·subst h4;exact vZ l w hs
 by_cases h5:way=5
 ·subst h5;exact uv l w hs
 obtain⟨cap,w0,hcv,hrow,hb0,hsz⟩:=BRow.made (P:=Tryz.prog) w (src:=9) (dst:=46) l Tryz.underlying9 Tryz.underlying46 Tryz.underlying5;have HZ:=ab hsz;clear hsz;have hT:turn l way=([],2):=by unfold turn;rw [Co h1,Co h2,Co h3,Co h4,Co h5]
 rw [hT];have e1:(way==1)=false:=by simpa using h1
 have e2:(way==2)=false:=by simpa using h2
 have e3:(way==3)=false:=by simpa using h3
 have e4:(way==4)=false:=by simpa using h4
 have e5:(way==5)=false:=by simpa using h5
 clear h1 h2 h3 h4 h5 hT;go_enter Tryz.func72,Tryz.ntmps72
 exact dI
def MyRel (fs:List Fm) (R:Bool) (w:World) (q:Value) (wr:World):Prop :=
 ∃(k:Nat) (pt:Bool),k≤fs.length∧q=.int .i64 k∧Below w.heap.size w wr∧Hid ((k=0→pt=false)∧(0<k→∀g,fs[k-1]?=some g→decide (g.kind=0)=pt))∧Hid (mayL pt (fs.drop k)=R)
set_option maxRecDepth 100000 in
theorem tF (a:Option Addr) (n c:Nat) (fs:List Fm) (w:World) (h:Sl w w.heap.size a 5 n (lA fs)) (hn:n≤1000000) :
  Calls Tryz.prog 37 #[.slice a n c] w fun e w'=>e=.returned (.bool (oe fs))∧Below w.heap.size w w':=by
 generalize hR:oe fs=R
 have HR:=ab hR;clear hR;have HR0:Hid (mayL false (fs.drop 0)=R):=HR;obtain rfl:=h.fs_len;have HSl:=ab h;clear HR h;go_enter Tryz.func37,Tryz.ntmps37
 go_wp2
 go_loopw [3] (fun q wr=>MyRel fs R w q wr) (fun q _=>fs.length-(intOf q).toNat)
 case atStart=>exact ex
 case round =>
  obtain⟨k,pt,hk,rfl,hb,HP,HF⟩:=hrel;clear HR0;have hB:=hb.size;cases hd:fs.drop k with
  | nil =>
   have h2:fs.length≤k:=gU;have HF':Hid (R=true):=ab gY;clear hd HF;go_wp2
   go_ret
   exact⟨jU HF'.out.symm,hb⟩
  | cons f r =>
   obtain⟨h2,h3,hr⟩:=j6 hd;have HF':Hid (mayL pt (f::r)=R):=ab ij;have Hr:=ab hr;have HK:=ab h3;obtain⟨b,o,rfl,hbB,c0,c1,c2,c3,c4⟩:=(HSl.out.keep hb).fm h3;clear hd HF hr h3;obtain⟨kind,fn,cse,thn,els⟩:=f;have HQ:Hid (R=(mayF ⟨kind,fn,cse,thn,els⟩&&!(decide (kind=0)&&pt)&&mayL (decide (kind=0)) r)):=ab HF'.out.symm;by_cases hk0:kind=0
   ·subst hk0
    clear HF';by_cases hkk:k=0
    ·have hpt:=HP.out.1 hkk
     have hkk':((k:Int)==0)=true:=by rw [Ci];omega
     subst hpt;have HKK:=ab hkk;clear hkk;exact bD
    ·obtain⟨g,hg⟩:∃g,fs[k-1]?=some g:=⟨fs[k-1]' gu,Cn gu⟩
     have hpg:=HP.out.2 gu g hg;obtain⟨b',o',hab,_,g0,_⟩:=(HSl.out.keep hb).fm hg;have hbo:b'=b∧o'=o:=by simpa using hab.symm
     obtain⟨rfl,rfl⟩:=hbo;have ek:((k-1:Nat):Int)=(k:Int)-1:=gu;have e1:(k:Int)-1<fs.length∧0≤(k:Int)-1:=gu;have hkk':((k:Int)==0)=false:=by rw [CM];omega
     have hkp:0<k:=gu;obtain⟨gk,gn,gc,gt,ge⟩:=g;have HPG:Hid (pt=decide (gk=0)):=ab hpg.symm;have g1:∀ob:Obj,(wr.alloc ob).cell? ⟨b',o'+(k-1)*5,none⟩=some (.int .i64 gk):=fun ob=>by
      rw [World.cell?_alloc_lt _ _ _ gH];exact g0
     clear hab hpg hkk hg;by_cases hgk:gk=0
     ·have HQ2:Hid (R=false):=ab (by rw [HQ.out,HPG.out];simp [hgk])
      subst hgk;clear HQ;go_wp2
      all_goals (go_ret;exact⟨jU HQ2.out.symm,hb.alloc hB _⟩)
     ·have hpf:pt=false:=by rw [HPG.out];simp [hgk]
      have eg:(gk==0)=false:=by rw [CM];exact hgk
      subst hpf;clear hgk HPG;exact bD
   by_cases hk1:kind=1
   ·subst hk1
    exact aJ
   by_cases hk2:kind=2
   ·subst hk2
    clear HF';obtain⟨nm,hnm⟩:∃nm,mM cse=nm:=⟨_,rfl⟩;have HNM:=ab hnm;have HQ2:Hid (R=(decide (0≤fn∧fn≤9999)&&decide (nm≠[])&&decide (thn=[])&&decide (els=[])&&mayL false r)):=ab (by
     rw [HQ.out];simp only [mayF,ly];rw [Co gD,Co gD,Cl trivial,hnm,Bool.eq_iff_iff];simp;intro _;constructor<;>(intro h;simp_all))
    clear hnm HQ;have HQ:=HQ2;cases nm with
    | nil =>
     go_wp2_with (go_at_call 69;refine(uu _ _).mono ?_;rintro e w1 ⟨rfl,rfl⟩;rw [HNM.out])
     all_goals
      (go_ret;refine⟨jU ?_,hb.alloc hB _⟩;rw [HQ.out];clear HQ HK HSl Hr HP c0 c1 c2 c3 c4;(try unfold mayF ly);simp;first|done|omega|(simp_all;done)|(simp_all;omega))
    | cons n0 nr =>
     go_wp2_with (go_at_call 69;refine(uu _ _).mono ?_;rintro e w1 ⟨rfl,rfl⟩;rw [HNM.out])
     all_goals first
      | (go_ret;refine⟨jU ?_,hb.alloc hB _⟩;rw [HQ.out];clear HQ HK HSl Hr HP c0 c1 c2 c3 c4;(try unfold mayF ly);simp;first|done|omega|(simp_all;done)|(simp_all;omega))
      | (go_roundw;(case rel=>exact⟨k+1,false,by omega,by go_num,hb.alloc hB _,ab ⟨fun h=>by omega,fun _ g hg=>by rw [show k+1-1=k from rfl,HK.out] at hg;injection hg with hg;subst hg;rfl⟩,ab gS⟩);(case measure=>simp [intOf];omega))
   by_cases hk3:kind=3
   ·subst hk3
    exact aJ
   by_cases hk4:kind=4
   ·subst hk4
    exact aJ
   by_cases hk5:kind=5
   ·subst hk5
    exact aJ
   ·have HE:Hid (R=false):=ab (by
     rw [HQ.out];simp only [mayF];rw [Co hk0,Co hk1,Co hk2,Co hk3,Co hk4,Co hk5];simp)
    have g0:(kind==0)=false:=by simpa using hk0
    have g1:(kind==1)=false:=by simpa using hk1
    have g2:(kind==2)=false:=by simpa using hk2
    have g3:(kind==3)=false:=by simpa using hk3
    have g4:(kind==4)=false:=by simpa using hk4
    have g5:(kind==5)=false:=by simpa using hk5
    clear hk0 hk1 hk2 hk3 hk4 hk5 HQ HF';go_wp2
    all_goals (go_ret;exact⟨jU HE.out.symm,hb.alloc hB _⟩)
theorem rm (f:Fm) (w:World) :
  Calls Tryz.prog 57 #[.agg #[.int .i64 (f).kind,.int .i64 (f).n,.int .i64 (f).cse,.string ⟨((f).thn).toArray⟩,.string ⟨((f).els).toArray⟩]] w fun e w'=>e=.returned (.bool (mayF f))∧Below w.heap.size w w':=by
 obtain⟨kind,n,cse,thn,els⟩:=f;by_cases hn:0≤n∧n≤9999
 ·obtain⟨hn0,hn1⟩:=hn
  have hz:=fun(n:Int) (w:World)=>t9 n w
  generalize hR:mayF ⟨kind,n,cse,thn,els⟩=R
  have HR:=ab hR;clear hR;have HZ:=ab hz;clear hz;have hk:kind=0∨kind=1∨kind=2∨kind=3∨kind=4∨kind=5∨(¬kind=0∧¬kind=1∧¬kind=2∧¬kind=3∧¬kind=4∧¬kind=5):=gu;have HN:Hid (decide (0≤n∧n≤9999)=true):=ab gH;rcases hk with hk|hk|hk|hk|hk|hk|⟨k0,k1,k2,k3,k4,k5⟩
  ·subst hk
   have HS:Hid (R=(ly ⟨0,n,cse,thn,els⟩ false false true false&&decide (thn≠[]))):=ab (by rw [←HR.out,mayF,HN.out,CE,Cl rfl]);clear HR;by_cases hB:ly ⟨0,n,cse,thn,els⟩ false false true false=true
   ·go_enter Tryz.func57,Tryz.ntmps57
    go_wp2_with (go_at_call 92;refine(pJ ⟨_,n,cse,thn,els⟩ _ _ _ _ _).mono ?_)
    rintro e w1 ⟨rfl,hb1⟩;have c2:w1.cell? ⟨w.heap.size,3,none⟩=some (.string ⟨thn.toArray⟩):=by
     rw [hb1.cell (p:=⟨w.heap.size,3,none⟩) gF];simp
    go_wp2
    go_ret
    refine⟨jU ?_,((Below.refl _ _).alloc (Cp _) _).trans (hb1.mono gF)⟩;rw [HS.out,hB];cases thn<;>rfl
   ·have hB':ly ⟨0,n,cse,thn,els⟩ false false true false=false:=by simpa using hB
    exact cq
  ·subst hk
   have HS:Hid (R=(ly ⟨1,n,cse,thn,els⟩ true false false false)):=ab (by rw [←HR.out,mayF,HN.out,CE,Co gF,Cl rfl]);exact bj
  ·subst hk
   have HS:Hid (R=(ly ⟨2,n,cse,thn,els⟩ true true false false&&decide (mM cse≠[]))):=ab (by rw [←HR.out,mayF,HN.out,CE,Co gF,Co gF,Cl rfl]);clear HR;by_cases hB:ly ⟨2,n,cse,thn,els⟩ true true false false=true
   ·go_enter Tryz.func57,Tryz.ntmps57
    go_wp2_with (go_at_call 92;refine(pJ ⟨_,n,cse,thn,els⟩ _ _ _ _ _).mono ?_)
    rintro e w1 ⟨rfl,hb1⟩;have c2:w1.cell? ⟨w.heap.size,2,none⟩=some (.int .i64 cse):=by
     rw [hb1.cell (p:=⟨w.heap.size,2,none⟩) gF];simp
    go_wp2_with (go_at_call 93;refine(HZ.out _ _).mono ?_)
    rintro e w2 ⟨rfl,hb2⟩;go_wp2
    go_ret
    refine⟨jU ?_,(((Below.refl _ _).alloc (Cp _) _).trans (hb1.mono gF)).trans (hb2.mono js)⟩;rw [HS.out,hB];cases mM cse<;>rfl
   ·have hB':ly ⟨2,n,cse,thn,els⟩ true true false false=false:=by simpa using hB
    exact cq
  ·subst hk
   have HS:Hid (R=(ly ⟨3,n,cse,thn,els⟩ true false true false)):=ab (by rw [←HR.out,mayF,HN.out,CE,Co gF,Co gF,Co gF,Cl rfl]);exact bj
  ·subst hk
   have HS:Hid (R=(ly ⟨4,n,cse,thn,els⟩ true false false true)):=ab (by rw [←HR.out,mayF,HN.out,CE,Co gF,Co gF,Co gF,Co gF,Cl rfl]);exact bj
  ·subst hk
   have HS:Hid (R=(ly ⟨5,n,cse,thn,els⟩ true false true true)):=ab (by rw [←HR.out,mayF,HN.out,CE,Co gF,Co gF,Co gF,Co gF,Co gF,Cl rfl]);exact bj
  ·have HS:Hid (R=false):=ab (by rw [←HR.out,mayF,HN.out,CE,Co gu,Co gu,Co gu,Co gu,Co gu,Co gu])
   clear HR;have e0:(kind==0)=false:=by simpa using k0
   have e1:(kind==1)=false:=by simpa using k1
   have e2:(kind==2)=false:=by simpa using k2
   have e3:(kind==3)=false:=by simpa using k3
   have e4:(kind==4)=false:=by simpa using k4
   have e5:(kind==5)=false:=by simpa using k5
   clear k0 k1 k2 k3 k4 k5;go_enter Tryz.func57,Tryz.ntmps57
   go_wp2
   go_ret
   exact⟨jU HS.out.symm,(Below.refl _ _).alloc (Cp _) _⟩
 ·have HS:Hid (mayF ⟨kind,n,cse,thn,els⟩=false):=ab (by unfold mayF;rw [CP hn,Bool.false_and])
  rw [HS.out];go_enter Tryz.func57,Tryz.ntmps57
  go_wp2
  all_goals first
   | (exfalso;omega)
   | (go_ret;exact⟨rfl,(Below.refl _ _).alloc (Cp _) _⟩)
theorem v9 (a:Option Addr) (n c:Nat) (fs:List Fm) (w:World) (h:Sl w w.heap.size a 5 n (lA fs)) (hn:n≤1000000) :
  Calls Tryz.prog 30 #[.slice a n c] w fun e w'=>e=.returned (.bool (oe fs))∧Below w.heap.size w w':=by
 generalize hR:oe fs=R
 have HR:=ab hR;clear hR;have HR0:Hid (mayL false (fs.drop 0)=R):=HR;have Hn:=ab h.fs_len;have HSl:=ab h;clear HR h;go_enter Tryz.func30,Tryz.ntmps30
 go_wp2
 go_loopw [7] (fun q wr=>∃(k:Nat) (pt:Bool),k≤n∧q=.int .i64 k∧Below w.heap.size w wr∧Hid ((k=0→pt=false)∧(0<k→∀g,fs[k-1]?=some g→decide (g.kind=0)=pt))∧Hid (mayL pt (fs.drop k)=R)) (fun q _=>n-(intOf q).toNat)
 case atStart=>exact ex
 case round =>
  obtain⟨k,pt,hk,rfl,hb,HP,HF⟩:=hrel;clear HR0;have hB:=hb.size;cases hd:fs.drop k with
  | nil =>
   have h2:n≤k:=by have:=Hn.out;simp at hd;omega
   have HF':Hid (mayL pt []=R):=ab ij;clear hd HF;go_wp2
   go_ret
   exact⟨jU HF'.out,hb⟩
  | cons f r =>
   obtain⟨h2,h3,hr⟩:=j6 hd;have HF':Hid (mayL pt (f::r)=R):=ab ij;have Hr:=ab hr;have HK:=ab h3;have hkn:k<n:=by have:=Hn.out;omega
   obtain⟨b,o,rfl,hbB,c0,c1,c2,c3,c4⟩:=(HSl.out.keep hb).fm h3;clear hd HF hr h2 h3;obtain⟨kind,fn,cse,thn,els⟩:=f;by_cases hm:mayF ⟨kind,fn,cse,thn,els⟩=true
   ·have HM:=ab hm
    have c5:∀w1,Below (wr.heap.size+1) (wr.alloc (.cells #[.int .i64 kind,.int .i64 fn,.int .i64 cse,.string ⟨thn.toArray⟩,.string ⟨els.toArray⟩] 55)) w1→w1.cell? ⟨wr.heap.size,0,none⟩=some (.int .i64 kind):=fun w1 h1=>by
     rw [h1.cell (p:=⟨wr.heap.size,0,none⟩) gF];simp
    have C5:=ab c5;clear c5;by_cases hk0:kind=0
    ·subst hk0
     by_cases hkk:k=0
     ·have hpt:=HP.out.1 hkk
      have hkk':k≤0:=gu;subst hpt;have HKK:=ab hkk;clear hkk;go_wp2_with (go_at_call 57;refine(rm ⟨0,fn,cse,thn,els⟩ _).mono ?_;rintro e w1 ⟨rfl,hb1⟩;have d5:=C5.out w1 (by simpa using hb1);have hbw:Below w.heap.size wr w1:=((Below.refl _ _).alloc hB _).trans (hb1.mono gH))
      clear hm;go_roundw
      case rel =>
       refine⟨k+1,true,by omega,by go_num,hb.trans hbw,ab ⟨fun h=>by omega,fun _ g hg=>?_⟩,?_⟩
       ·exact cK
       ·refine ab ?_
        rw [Hr.out,←HF'.out];conv=>rhs;unfold mayL
        (rw [HM.out];rfl)
      case measure=>simp [intOf];omega
     ·obtain⟨g,hg⟩:∃g,fs[k-1]?=some g:=⟨fs[k-1]'(by have:=Hn.out;omega),Cn (by have:=Hn.out;omega)⟩
      have hpg:=HP.out.2 gu g hg;obtain⟨b',o',hab,_,g0,_⟩:=HSl.out.fm hg;have hbo:b'=b∧o'=o:=by simpa using hab.symm
      obtain⟨rfl,rfl⟩:=hbo;have hkp:0<k:=gu;have ek:((k-1:Nat):Int)=(k:Int)-1:=gu;have e1:(k:Int)-1<n∧0≤(k:Int)-1:=gu;obtain⟨gk,gn,gc,gt,ge⟩:=g;have G0:=ab g0;have HPG:=ab hpg;clear hab g0 hpg hkk hg;by_cases hgk:gk=0
      ·subst hgk
       go_wp2_with (go_at_call 57;refine(rm ⟨0,fn,cse,thn,els⟩ _).mono ?_;rintro e w1 ⟨rfl,hb1⟩;have d5:=C5.out w1 (by simpa using hb1);have hbw:Below w.heap.size wr w1:=((Below.refl _ _).alloc hB _).trans (hb1.mono gH);have g1:w1.cell? ⟨b',o'+(k-1)*5,none⟩=some (.int .i64 0):=((hb.trans hbw).cell (p:=⟨b',o'+(k-1)*5,none⟩) hbB).trans G0.out)
       go_ret
       refine⟨jU ?_,hb.trans hbw⟩;rw [←HF'.out,mayL,←HPG.out];simp
      ·have eg:(gk==0)=false:=by simpa using hgk
       have HGK:=ab hgk;clear hgk;go_wp2_with (go_at_call 57;refine(rm ⟨0,fn,cse,thn,els⟩ _).mono ?_;rintro e w1 ⟨rfl,hb1⟩;have d5:=C5.out w1 (by simpa using hb1);have hbw:Below w.heap.size wr w1:=((Below.refl _ _).alloc hB _).trans (hb1.mono gH);have g1:w1.cell? ⟨b',o'+(k-1)*5,none⟩=some (.int .i64 gk):=((hb.trans hbw).cell (p:=⟨b',o'+(k-1)*5,none⟩) hbB).trans G0.out)
       clear hm;go_roundw
       case rel =>
        refine⟨k+1,true,by omega,by go_num,hb.trans hbw,ab ⟨fun h=>by omega,fun _ g hg=>?_⟩,?_⟩
        ·exact cK
        ·refine ab ?_
         rw [Hr.out,←HF'.out];conv=>rhs;unfold mayL
         (rw [HM.out,←HPG.out];simp [HGK.out])
       case measure=>simp [intOf];omega
    ·have e0:(kind==0)=false:=by simpa using hk0
     have HK0:=ab hk0;clear hk0;go_wp2_with (go_at_call 57;refine(rm ⟨kind,fn,cse,thn,els⟩ _).mono ?_;rintro e w1 ⟨rfl,hb1⟩;have d5:=C5.out w1 (by simpa using hb1);have hbw:Below w.heap.size wr w1:=((Below.refl _ _).alloc hB _).trans (hb1.mono gH))
     clear hm;go_roundw
     case rel =>
      refine⟨k+1,false,by omega,by go_num,hb.trans hbw,ab ⟨fun h=>by omega,fun _ g hg=>?_⟩,?_⟩
      ·exact cK
      ·refine ab ?_
       rw [Hr.out,←HF'.out];conv=>rhs;unfold mayL
       (rw [HM.out];simp [HK0.out])
     case measure=>simp [intOf];omega
   ·have hm':mayF ⟨kind,fn,cse,thn,els⟩=false:=by simpa using hm
    clear hm;go_wp2_with (go_at_call 57;refine(rm ⟨kind,fn,cse,thn,els⟩ _).mono ?_;rintro e w1 ⟨rfl,hb1⟩)
    go_ret
    refine⟨jU ?_,hb.trans (((Below.refl _ _).alloc hB _).trans (hb1.mono gH))⟩;rw [←HF'.out,mayL,hm'];rfl
def o6:List Fm→Int→Int
 | [],n=>n
 | f::r,n=>if n≤f.thn.length∨n≤f.els.length then -1 else o6 r (n-1-f.thn.length-f.els.length)
theorem uz (a:Option Addr) (n c:Nat) (m:Int) (fs:List Fm) (w:World) (h:Sl w w.heap.size a 5 n (lA fs)) (hn:n≤maxLen) (hm:-100000≤m∧m≤100000)
  (hsz:∀f∈fs,f.thn.length≤maxLen∧f.els.length≤maxLen) :
  Calls Tryz.prog 14 #[.slice a n c,.int .i64 m] w fun e w'=>e=.returned (.int .i64 (o6 fs m))∧Below w.heap.size w w':=by
 unfold maxLen at hn hsz;generalize hR:o6 fs m=R
 have HR:=ab hR;clear hR;have HR0:Hid (o6 (fs.drop 0) m=R):=HR;have Hn:=ab h.fs_len;have HSl:=ab h;have HSz:=ab hsz;clear HR h hsz;obtain⟨hm0,hm1⟩:=hm;go_enter Tryz.func14,Tryz.ntmps14
 go_wp2
 go_loopw [1,5] (fun s q wr=>∃(k:Nat) (m':Int),k≤n∧q=.int .i64 k∧s=.int .i64 m'∧-100000≤m'∧m'≤100000∧Below w.heap.size w wr∧Hid (o6 (fs.drop k) m'=R)) (fun _ q _=>n-(intOf q).toNat)
 case atStart=>exact⟨0,m,by omega,rfl,rfl,hm0,hm1,Below.refl _ _,HR0⟩
 case round =>
  obtain⟨k,m',hk,rfl,rfl,hm2,hm3,hb,HF⟩:=hrel;clear HR0;cases hd:fs.drop k with
  | nil =>
   have h2:n≤k:=by have:=Hn.out;simp at hd;omega
   have HF':Hid (o6 [] m'=R):=ab ij;clear hd HF;go_wp2
   go_ret
   exact⟨lD HF'.out,hb⟩
  | cons f r =>
   obtain⟨h2,h3,hr⟩:=j6 hd;have HF':Hid (o6 (f::r) m'=R):=ab ij;have Hr:=ab hr;have hkn:k<n:=by have:=Hn.out;omega
   obtain⟨b,o,rfl,hbB,c0,c1,c2,c3,c4⟩:=(HSl.out.keep hb).fm h3;obtain⟨z1,z2⟩:=HSz.out f (CF h3);clear hd HF hr h2 h3;obtain⟨kind,fn,cse,thn,els⟩:=f;by_cases hA:m'≤thn.length∨m'≤els.length
   ·have HE:Hid (R=-1):=ab (by rw [←HF'.out];simp only [o6];exact Cl hA)
    go_wp2
    all_goals first
     | (go_ret;exact⟨lD HE.out.symm,hb⟩)
     | (exfalso;omega)
   ·have HE:Hid (R=o6 r (m'-1-thn.length-els.length)):=ab (by rw [←HF'.out];simp only [o6];exact Co hA)
    have hA1:(thn.length:Int)<m':=by omega
    have hA2:(els.length:Int)<m':=by omega
    clear hA;go_wp2
    go_quiet (fail)
    go_wp2
    go_roundw
    case rel =>
     refine⟨k+1,m'-1-thn.length-els.length,by omega,by go_num,rfl,by omega,by omega,below_drewN hb _,ab ?_⟩;rw [Hr.out,HE.out]
    case measure=>simp [intOf];omega
end Go.Proofs.YtjggmmaojklmpaaGreat
