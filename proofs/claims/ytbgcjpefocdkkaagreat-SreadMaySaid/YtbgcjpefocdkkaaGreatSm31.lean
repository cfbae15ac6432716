/- What is read of a text as a snippet is small. -/
import Derived.Test.YtbgcjpefocdkkaaGreatSm1
import Derived.Test.YtbgcjpefocdkkaaGreatSm2
import Derived.Test.YtbgcjpefocdkkaaGreatSm3
import Derived.Test.YtbgcjpefocdkkaaGreatSm4
import Derived.Test.YtbgcjpefocdkkaaGreatSm5
import Derived.Test.YtbgcjpefocdkkaaGreatSm6
import Derived.Test.YtbgcjpefocdkkaaGreatSm7
import Derived.Test.YtbgcjpefocdkkaaGreatSm8
import Derived.Test.YtbgcjpefocdkkaaGreatSm9
import Derived.Test.YtbgcjpefocdkkaaGreatSm10
import Derived.Test.YtbgcjpefocdkkaaGreatSm11
import Derived.Test.YtbgcjpefocdkkaaGreatSm12
import Derived.Test.YtbgcjpefocdkkaaGreatSm13
import Derived.Lib.ItoaMem
import Derived.Test.YtbgcjpefocdkkaaGreatSm14
import Derived.Test.YtbgcjpefocdkkaaGreatSm15
import Derived.Test.YtbgcjpefocdkkaaGreatSm16
import Derived.Test.YtbgcjpefocdkkaaGreatSm17
import Derived.Test.YtbgcjpefocdkkaaGreatSm18
import Derived.Test.YtbgcjpefocdkkaaGreatSm19
import Derived.Test.YtbgcjpefocdkkaaGreatSm20
import Derived.Test.YtbgcjpefocdkkaaGreatSm21
import Derived.Test.YtbgcjpefocdkkaaGreatSm22
import Derived.Test.YtbgcjpefocdkkaaGreatSm23
import Derived.Test.YtbgcjpefocdkkaaGreatSm24
import Derived.Test.YtbgcjpefocdkkaaGreatSm27
import Derived.Test.YtbgcjpefocdkkaaGreatSm28
import Derived.Test.YtbgcjpefocdkkaaGreatSm29
import Derived.Test.YtbgcjpefocdkkaaGreatSm30
import Derived.Test.YtbgcjpefocdkkaaGreatSm26
import Derived.Test.YtbgcjpefocdkkaaGreatSm25
import Derived.Test.YtbgcjpefocdkkaaGreatRows
import Derived.WalkKit
import Derived.ProofKit
import Derived.OpenShut
import Derived.ShutString
import Derived.Below
import Derived.ChangeSame
import Derived.Carry
set_option maxRecDepth 100000
namespace Go.Proofs.YtbgcjpefocdkkaaGreat
open Go.RowKit
theorem readS_small {s:Str} {x:Rx} (h:readM s=.ok x):x.small∧x.parts≤1000:=by
 obtain⟨a1,a2,a3⟩:=readM_ok.1 h;have:=splitM_len s
 obtain⟨f1,f2,f3,f4⟩:=pat_facts _ _ _ _ _ (by omega) a3 (splitM_ok (by omega));exact⟨f1,by simp at f2;omega⟩
theorem flushF_cnt (tx:Str) (fs:List Fm):(flushF tx fs).length≤fs.length+1:=by unfold flushF;split<;>simp
theorem readN_cnt:∀(k:Nat) (r tx:Str) (fs:List Fm) {gs:List Fm} {s:Str},readN k r tx fs=some (gs,s)→gs.length≤fs.length+2*r.length+1
 | 0,_,_,_,_,_,h=>by cases h
 | _+1,[],_,_,_,_,h=>by cases h
 | k+1,c::r,tx,fs,gs,s,h=>by
  simp only [readN] at h;split at h
  ·injection h with h;injection h with h h';subst h;subst h'
   have:=flushF_cnt tx fs
   omega
  ·split at h
   ·split at h
    ·rename_i p hp
     obtain⟨f,s'⟩:=p;have h1:=partR_len hp;have h2:=readN_cnt k _ _ _ h;have h3:=flushF_cnt tx fs;simp at h2 ⊢
     omega
    ·have h2:=readN_cnt k _ _ _ h
     simp at h2 ⊢;omega
   ·split at h
    ·have h2:=readN_cnt k _ _ _ h
     simp at h2 ⊢
     omega
    ·have h2:=readN_cnt k _ _ _ h
     simp at h2 ⊢;omega
theorem formM_small {r:Str} {f:Tf} {s:Str} (h:formM r=some (f,s)) (hr:r.length≤100000):f.small:=by
 cases r with
 | nil=>cases h
 | cons c r =>
  simp only [formM] at h;split at h
  ·split at h
   ·cases h
   ·rename_i heq
    split at h
    ·cases h
    ·rename_i hx
     split at h
     ·cases h
     ·cases h
     ·rename_i heq2
      obtain⟨h1,h2⟩:=flagT_form h;have h3:=readN_cnt _ _ _ _ heq2;have h4:=(rxSp_sfx r []).length_le;rw [heq] at h4;obtain⟨h5,h6⟩:=readS_small hx;unfold Tf.small;rw [h1,h2];simp at h3 h4 hr
      exact⟨h5,by omega,by omega⟩
  ·cases h
theorem optL_cnt:∀(n:Nat) (r:Str) (o:List Str) (t:Str),r.length≤n→(optL r o t).1.length≤o.length+r.length+1
 | _,[],o,t,_=>by simp [optL]
 | 0,c::r,o,t,h=>by simp at h
 | n+1,c::r,o,t,h=>by
  simp only [List.length_cons] at h;rw [optL_cons];split
  ·simp
  ·split
   ·have:=optL_cnt n r (o++[t]) [] (by omega);simp at this ⊢;omega
   ·have h1:=nxtM_len fiveS c r
    have:=optL_cnt n (nxtM fiveS (c::r)).2 o (t++[(nxtM fiveS (c::r)).1]) (by omega);simp;omega
theorem Hd.small {x:Sn} (h:Hd x):x.small∧x.kids=[]∧x.opts=[]:=by
 rcases h with⟨n,_,rfl⟩|⟨t,ht,rfl⟩
 ·exact⟨⟨tf0_small,by simp,by simp,by simp,trivial⟩,rfl,rfl⟩
 ·refine⟨⟨tf0_small,by simp,by simp,?_,trivial⟩,rfl,rfl⟩
  cases t with
  | nil=>cases ht
  | cons c r=>simp only [nameB,Bool.and_eq_true,decide_eq_true_eq] at ht;have:=ht.1.1;omega
theorem Hd.give_small {x:Sn} (h:Hd x) {ks:List Sn} (h1:Sn.smallL ks) (h2:ks.length≤1000000):(x.give ks).small:=by
 obtain⟨hs,_,_⟩:=h.small;obtain⟨k,t,n,hh,u,f,o,l⟩:=x;obtain⟨a,b,_,d,_⟩:=hs;exact⟨a,b,h2,d,h1⟩
theorem Hd.turn_small {x:Sn} (h:Hd x) {f:Tf} (hf:f.small):(x.turn f).small:=by
 obtain⟨hs,_,_⟩:=h.small;obtain⟨k,t,n,hh,u,f',o,l⟩:=x;obtain⟨a,b,c,d,e⟩:=hs;exact⟨hf,b,c,d,e⟩
theorem Hd.choose_small {x:Sn} (h:Hd x) {o:List Str} (ho:o.length≤1000000):(x.choose o).small:=by
 obtain⟨hs,_,_⟩:=h.small;obtain⟨k,t,n,hh,u,f',o',l⟩:=x;obtain⟨a,b,c,d,e⟩:=hs;exact⟨a,ho,c,d,e⟩
theorem braced_small {ps:Str→List Sn × Str} {x y:Sn} {r s:Str} (hx:Hd x) (hr:r.length≤100000) (hps:∀t,t.length<r.length→Sn.smallL (ps t).1∧(ps t).1.length≤1000000) (h:bracedS ps x r=some (y,s)):y.small:=by
 cases r with
 | nil=>cases h
 | cons c r =>
  simp only [bracedS] at h;split at h
  ·injection h with h;injection h with h h';subst h;exact hx.small.1
  ·split at h
   ·obtain⟨h1,h2⟩:=hps r (by simp)
    split at h
    ·cases h
    ·injection h with h;injection h with h h';subst h;exact hx.give_small h1 h2
   ·split at h
    ·unfold optsM at h
     split at h
     ·split at h
      ·injection h with h;injection h with h h';subst h
       have:=optL_cnt r.length r [] [] (Nat.le_refl _)
       simp at this hr
       exact hx.choose_small (by omega)
      ·cases h
     ·cases h
    ·split at h
     ·cases h
     ·rename_i heq
      injection h with h;injection h with h h';subst h
      exact hx.turn_small (formM_small heq hr)
theorem textS_small {t:Str} (h:t.length≤1000000):(textS t).small:=⟨tf0_small,by simp,by simp,h,trivial⟩
theorem withT_small {t:Str} (h:t.length≤1000000):Sn.smallL (withT [] t):=by
 unfold withT;split
 ·trivial
 ·exact⟨textS_small h,trivial⟩
theorem parts_cntL (ins:Bool) (t r:Str):(partsS ins [] t r).1.length≤r.length+1:=by
 have h1:=((parts_good r.length).2 ins t r (Nat.le_refl _)).2.2.1;have h2:=Sn.len_parts (partsS ins [] t r).1;have:=tl_le t
 omega
theorem parts_small:∀(N:Nat),N≤100000→(∀r x s,r.length≤N→partS r=some (x,s)→x.small)∧(∀ins t r,r.length≤N→t.length+r.length≤100000→Sn.smallL (partsS ins [] t r).1)
 | 0,_=>by
  refine⟨fun r x s h hp=>?_,fun ins t r h ht=>?_⟩
  ·have:r=[]:=List.eq_nil_of_length_eq_zero (by omega)
   subst this;rw [partS_nil] at hp;cases hp
  ·have:r=[]:=List.eq_nil_of_length_eq_zero (by omega)
   subst this;rw [partsS_nil];exact withT_small (by omega)
 | N+1,hN=>by
  obtain⟨ih1,ih2⟩:=parts_small N (by omega);have k1:∀r x s,r.length≤N+1→partS r=some (x,s)→x.small:=fun r x s hr h=>by
   rw [partS_eq] at h;cases r with
   | nil=>cases h
   | cons c r =>
    simp only [List.length_cons] at hr;simp only [wholeM] at h;split at h
    ·split at h
     ·cases h
     ·rename_i heq
      have h1:=headM_len heq;exact braced_small (headM_hd heq) (by omega) (fun t ht=>⟨ih2 true [] t (by omega) (by simp;omega),by have:=parts_cntL true [] t;omega⟩) h
    ·exact(headM_hd h).small.1
  refine⟨k1,fun ins t r hr ht=>?_⟩;cases r with
  | nil=>rw [partsS_nil];exact withT_small (by simp at ht;omega)
  | cons c r =>
   simp only [List.length_cons] at hr ht;rw [partsS_cons];split
   ·exact withT_small (by omega)
   ·split
    ·rename_i x r2 he
     have hx:partS r=some (x,r2):=by
      unfold dolM at he;split at he
      ·exact he
      ·cases he
     have h1:=partS_len hx;rw [parts_out ins r2.length (withT [] t++[x]) [] r2 (Nat.le_refl _)];refine Sn.smallL_app.2 ⟨Sn.smallL_app.2 ⟨withT_small (by omega),k1 r x r2 (by omega) hx,trivial⟩,ih2 ins [] r2 (by omega) (by simp;omega)⟩
    ·have hl:=nxtM_len three c r
     exact ih2 ins (t++[(nxtM three (c::r)).1]) (nxtM three (c::r)).2 (by omega) (by simp;omega)
theorem snip_small {s:Str} (h:s.length≤100000):Sn.smallL (snipL s)∧(snipL s).length≤1000000∧Sn.partsL (snipL s)≤1000000:=by
 rw [snipL_eq];have h1:=((parts_good s.length).2 false [] s (Nat.le_refl _)).2.2.1;have h2:=parts_cntL false [] s;exact⟨(parts_small s.length h).2 false [] s (Nat.le_refl _) (by simp;omega),by omega,by have:=tl_le [];omega⟩
end Go.Proofs.YtbgcjpefocdkkaaGreat
set_option maxRecDepth 100000
namespace Go.Proofs.YtbgcjpefocdkkaaGreat
open Go.RowKit Go.Maps Go.MapKept
def SReadPost (s:Str) (w:World) (e:Ending) (w':World):Prop:=Below w.heap.size w w' ∧
 match snipM s with
 | .error q=>e=.returned (.tuple #[.slice none 0 0,.int .i64 q])
 | .ok l=>∃(a:Option Addr) (c:Nat),e=.returned (.tuple #[.slice a l.length c,.int .i64 0])∧SnSl w' (fun b=>w.heap.size≤b) a l.length l
theorem Gr2.old {g m n:Nat} {w w1 w':World} (h:Gr2 g m w1 w') (hb:Below n w w1) (hn:n≤w1.heap.size) (hg:n≤g) (hm:n≤m):Below n w w' :=
 ⟨h.os.trans hb.os,h.tape.trans hb.tape,h.output.trans hb.output,Nat.le_trans hb.size h.size,fun k hk=>(h.block k (by omega) (by omega) (by omega)).trans (hb.block k hk)⟩
set_option maxHeartbeats 2000000 in
theorem SRead_any (s:Str) (w:World) (hs:s.length≤1000000000):Calls Tryz.prog 6 #[.string ⟨(s).toArray⟩] w fun e w'=>SReadPost s w e w':=by
 by_cases h8:8192<s.length
 ·have HM:Hid (snipM s=.error 4):=Lib.hid (by unfold snipM;rw [if_pos h8])
  have gl:decide ((8192:Int)<(s.length:Int))=true:=decide_eq_true (by omega);go_enter Tryz.func6,Tryz.ntmps6
  go_wp2
  go_ret2
  exact⟨Below.refl _ _,by rw [HM.out];rfl⟩
 ·have gl:decide ((8192:Int)<(s.length:Int))=false:=decide_eq_false (by omega)
  obtain⟨hsm,hln,hpn⟩:=snip_small (s:=s) (by omega);have HPN:=Lib.hid hpn;have HSM:=Lib.hid hsm;have HLN:=Lib.hid hln;have hparts:=parts_all (g:=w.heap.size+1) (m:=w.heap.size) (s:=s) (by omega);have HPP:=Lib.hid hparts;clear hparts hsm hln hpn;obtain⟨W1,hW1⟩:∃W1,W1=(w.alloc (.map #[] 0)).alloc (.cells #[.string ⟨(s).toArray⟩,.int .i64 0,.map (some w.heap.size)] 46):=⟨_,rfl⟩;have hb1:Below w.heap.size w W1:=by rw [hW1];exact((Below.refl _ _).alloc (Nat.le_refl _) _).alloc (by simp) _
  have hz1:W1.heap.size=w.heap.size+2:=by rw [hW1];simp
  have hrs:Rs (fun _=>False) W1 (w.heap.size+1) w.heap.size s 0:=by
   refine⟨⟨?_,by omega,by omega⟩,by omega,⟨#[],0,?_,fun e he=>by simp at he⟩,fun h=>h,fun h=>h,fun b h=>h.elim⟩
   ·have:=heap_alloc_new (w.alloc (.map #[] 0)) (.cells #[.string ⟨(s).toArray⟩,.int .i64 0,.map (some w.heap.size)] 46)
    rw [hW1];simpa using this
   ·rw [hW1,Below.heap_alloc _ _ _ (by simp)];exact heap_alloc_new w _
  have HPA:=Lib.hid (HPP.out (fun _=>False) W1 false 0 hrs (by omega));have HW1:=Lib.hid hW1;clear hrs hW1;have hmk:(Instr.makeMap 44 none).run Tryz.prog w=.ok (.map (some w.heap.size)) (w.alloc (.map #[] 0)):=rfl;go_enter Tryz.func6,Tryz.ntmps6
  go_upto_region 4 with fail
  rw [←HW1.out];go_wp2_with (go_at_call 12;refine HPA.out.mono ?_)
  rintro e w2 ⟨hg2,S2,j2,a2,c2,rfl,hr2,_,hT2,hsl2,_⟩;have hq:(partsS false [] [] (s.drop 0)).1=snipL s:=by rw [List.drop_zero,snipL_eq]
  rw [hq] at hsl2 ⊢;have hbw2:Below w.heap.size w w2:=hg2.old hb1 (by omega) (by omega) (Nat.le_refl _);have HDE:=Lib.hid (SDeep_any S2 (Sn.partsL (snipL s)+1) (snipL s) (by omega) HPN.out a2 c2 w2 hsl2);have HSL:=Lib.hid hsl2;have HBW2:=Lib.hid hbw2;clear hg2 hr2 hT2 hsl2 hq hbw2 HPA HPP HW1 hb1;by_cases hd:32<Sn.deepL (snipL s)
  ·have HM:Hid (snipM s=.error 8):=Lib.hid (by unfold snipM;rw [if_neg h8,if_pos hd])
   have gd:decide ((32:Int)<(Sn.deepL (snipL s):Int))=true:=decide_eq_true (by omega);have gdn:decide (32<Sn.deepL (snipL s))=true:=decide_eq_true hd;go_wp2_with (go_at_call 11;refine HDE.out.mono ?_;rintro e w3 ⟨rfl,hb3⟩)
   go_ret2
   exact⟨bel2 HBW2.out hb3,by rw [HM.out];rfl⟩
  ·have HM:Hid (snipM s=.ok (snipL s)):=Lib.hid (by unfold snipM;rw [if_neg h8,if_neg hd])
   have gd:decide ((32:Int)<(Sn.deepL (snipL s):Int))=false:=decide_eq_false (by omega);have gdn:decide (32<Sn.deepL (snipL s))=false:=decide_eq_false hd;go_wp2_with (first|(go_at_call 11;refine HDE.out.mono ?_;rintro e w3 ⟨rfl,hb3⟩)|(go_at_call 13;refine(NClone_any S2 (Sn.partsL (snipL s)+1) (snipL s) (by omega) HSM.out HLN.out a2 c2 _ (HSL.out.later hb3)).mono ?_))
   rintro e w4 ⟨a4,c4,rfl,hsl4,hb4⟩;have HB4:=Lib.hid (bel2 (bel2 HBW2.out hb3) hb4);have hz3:=(bel2 HBW2.out hb3).size;have HSL4:=Lib.hid (hsl4.mono (S':=fun b=>w.heap.size≤b) fun b hb _=>Nat.le_trans hz3 hb);go_wp2
   go_ret2
   exact⟨HB4.out,by rw [HM.out];exact⟨a4,c4,rfl,HSL4.out⟩⟩
theorem SRead_ok {s:Str} {l:List Sn} (w:World) (hs:s.length≤1000000000) (h:snipM s=.ok l) :
  Calls Tryz.prog 6 #[.string ⟨(s).toArray⟩] w fun e w'=>∃(a:Option Addr) (c:Nat),e=.returned (.tuple #[.slice a l.length c,.int .i64 0])∧Below w.heap.size w w'∧SnSl w' (fun b=>w.heap.size≤b) a l.length l:=by
 refine(SRead_any s w hs).mono ?_
 rintro e w' ⟨h1,h2⟩;rw [h] at h2;obtain⟨a,c,h3,h4⟩:=h2;exact⟨a,c,h3,h1,h4⟩
theorem SRead_no {s:Str} {q:Int} (w:World) (hs:s.length≤1000000000) (h:snipM s=.error q) :
  Calls Tryz.prog 6 #[.string ⟨(s).toArray⟩] w fun e w'=>e=.returned (.tuple #[.slice none 0 0,.int .i64 q])∧Below w.heap.size w w':=by
 refine(SRead_any s w hs).mono ?_
 rintro e w' ⟨h1,h2⟩;rw [h] at h2;exact⟨h2,h1⟩
end Go.Proofs.YtbgcjpefocdkkaaGreat
set_option maxRecDepth 100000
namespace Go.Proofs.YtbgcjpefocdkkaaGreat
open Go.RowKit
def awS1:Str:=[36,123,49,58,97,36,50,125,98]
def awS2:Str:=[36,123,49,58,97]
def awL1:List Sn:=[.mk 1 [] 1 true false tf0 [] [textS [97],stopS 2],textS [98]]
theorem awS1_read:snipM awS1=.ok awL1:=by kernel_rfl
theorem awS2_read:snipM awS2=.ok [textS awS2]:=by kernel_rfl
set_option maxHeartbeats 2000000 in
theorem awake21 (w:World):Calls Tryz.prog 5 #[] w fun e w'=>e=.returned (.bool true)∧Below w.heap.size w w':=by
 have H1:=Lib.hid (fun w=>SRead_ok (s:=awS1) w (by decide) awS1_read);have H2:=Lib.hid (fun w=>SRead_ok (s:=awS2) w (by decide) awS2_read);unfold awS1 at H1;unfold awS2 at H2;go_enter Tryz.func5,Tryz.ntmps5
 go_wp2_with (go_at_call 6;refine(H1.out _).mono ?_)
 rintro e w1 ⟨a1,c1,rfl,hb1,hs1⟩;go_wp2_with (go_at_call 6;refine(H2.out _).mono ?_)
 rintro e w2 ⟨a2,c2,rfl,hb2,hs2⟩;have hbw:=bel2 hb1 hb2;obtain⟨b,o,x0,rfl,_,_,hx0,hc0⟩:=(hs1.later hb2).at_ (k:=0) (x:=.mk 1 [] 1 true false tf0 [] [textS [97],stopS 2]) rfl;obtain⟨b',o',x1,he,_,_,hx1,hc1⟩:=(hs1.later hb2).at_ (k:=1) (x:=textS [98]) rfl;obtain⟨b2,o2,y0,rfl,_,_,hy0,hd0⟩:=hs2.at_ (k:=0) (x:=textS [36,123,49,58,97]) rfl;injection he with he;injection he with he1 he2;subst he1;subst he2
 obtain⟨fc,oa,oc,ka,kc,A0⟩:=hx0.at_;obtain⟨fc1,oa1,oc1,ka1,kc1,A1⟩:=(show SnV w2 _ x1 (.mk 0 [98] 0 false false tf0 [] []) from hx1).at_;obtain⟨fc2,oa2,oc2,ka2,kc2,A2⟩:=(show SnV w2 _ y0 (.mk 0 [36,123,49,58,97] 0 false false tf0 [] []) from hy0).at_;obtain⟨b3,o3,z1,rfl,_,_,hz1,he1⟩:=A0.kv.at_ (k:=1) (x:=stopS 2) rfl;obtain⟨fc3,oa3,oc3,ka3,kc3,A3⟩:=(show SnV w2 _ z1 (.mk 1 [] 2 false false tf0 [] []) from hz1).at_;have q1:=hc0 2 _ A0.c2;have q2:=hc0 3 _ A0.c3;have q3:=hc0 17 _ A0.c17;have q4:=hc1 1 _ A1.c1;have q5:=hd0 1 _ A2.c1;have q6:=he1 2 _ A3.c2;simp only [Nat.zero_mul,Nat.zero_add,Nat.one_mul,←Nat.add_assoc] at q1 q2 q3 q4 q5 q6;clear A0 A1 A2 A3 hx0 hx1 hy0 hz1 hc0 hc1 hd0 he1 hs1 hs2 hb1 hb2;go_wp2
 go_ret
 exact⟨rfl,hbw⟩
end Go.Proofs.YtbgcjpefocdkkaaGreat
set_option maxRecDepth 100000
namespace Go.Proofs.YtbgcjpefocdkkaaGreat
open Go.RowKit
def MyRel (s:Str) (w:World) (m q:Value) (wr:World):Prop:=∃(i n:Nat),m=.int .i64 n∧q=.int .i64 i∧i≤s.length∧w=wr∧Hid (n+cnt (s.drop i)=cnt s)∧n≤i
set_option maxHeartbeats 4000000 in
theorem SreadMay_walk (s:Str) (w:World) (hs:s.length≤maxLen):Calls Tryz.prog 4 #[.string ⟨(s).toArray⟩] w fun e w'=>e=.returned (.bool true)∧Below w.heap.size w w':=by
 unfold maxLen at hs;by_cases hl:s.length≤200
 ·have dg:decide ((200:Int)<(s.length:Int))=false:=decide_eq_false (by omega)
  obtain⟨N,hN⟩:∃N,cnt s=N:=⟨_,rfl⟩;obtain⟨hg1,hg2,hg3,hg4⟩:=snip_good s;have hsm:=snip_small (s:=s) (by omega);rw [hN] at hg4;have HN:=Lib.hid hN;have hpd:=deepLS_parts (snipL s);obtain⟨L,hL⟩:∃L,snipL s=L:=⟨_,rfl⟩;have hsn:snipM s=if 32<Sn.deepL L then .error 8 else .ok L:=by unfold snipM;rw [if_neg (by omega),hL]
  rw [hL] at hg1 hg2 hg3 hg4 hsm hpd;by_cases hd:32<Sn.deepL L
  ·rw [if_pos hd] at hsn
   have HR:=Lib.hid (fun w=>SRead_no (s:=s) w (by omega) hsn);have dgN:decide ((32:Int)<(N:Int))=true:=decide_eq_true (by omega);clear hg1 hg2 hg3 hg4 hsm hL hsn hN hpd;go_enter Tryz.func4,Tryz.ntmps4
   go_wp2
   go_loopw [3,4] (fun m q wr=>MyRel s w m q wr) (fun _ q _=>s.length-(intOf q).toNat)
   case atStart=>exact⟨0,0,rfl,rfl,by omega,rfl,Lib.hid (by simp),by omega⟩
   case round =>
    obtain⟨i,n,rfl,rfl,hi,rfl,HF,hni⟩:=hrel;cases hd':s.drop i with
    | cons c r =>
     obtain⟨h2,h3,hr⟩:=drop_cons hd';have HR2:=Lib.hid hr;have HF2:Hid (n+cnt (c::r)=cnt s):=Lib.hid (by rw [←hd'];exact HF.out);clear hd' hr HF;by_cases hc:c.toNat=123
     ·have hcb:((c.toNat:Int)==123)=true:=by rw [beq_iff_eq];omega
      have HC:Hid (cnt (c::r)=cnt r+1):=Lib.hid (by obtain rfl:c=123:=UInt8.toNat_inj.1 hc;simp [cnt]);clear hc;go_wp2
      go_roundw
      case rel=>exact⟨i+1,n+1,by go_num,by go_num,by omega,rfl,Lib.hid (by rw [HR2.out];have h1:=HF2.out;have h4:=HC.out;omega),by omega⟩
      case measure=>simp [intOf];omega
     ·have hcb:((c.toNat:Int)==123)=false:=by rw [beq_eq_false_iff_ne];omega
      have HC:Hid (cnt (c::r)=cnt r):=Lib.hid (by unfold cnt;exact List.count_cons_of_ne (fun e=>hc (by rw [e];rfl)));clear hc;go_wp2
      go_roundw
      case rel=>exact⟨i+1,n,by go_num,by go_num,by omega,rfl,Lib.hid (by rw [HR2.out];have h1:=HF2.out;have h4:=HC.out;omega),by omega⟩
      case measure=>simp [intOf];omega
    | nil =>
     have h2:=drop_nil hd';obtain rfl:n=N:=by have h1:=HF.out;rw [hd'] at h1;have h4:=HN.out;simp [cnt] at h1 h4;omega
     clear hd' HF;go_wp2_with (go_at_call 6;refine(HR.out _).mono ?_)
     first|rintro e w2 rfl hb2|rintro e w2 ⟨rfl,hb2⟩
     go_wp2_with (go_at_call 5;refine(awake21 _).mono ?_;rintro e w9 ⟨rfl,hb9⟩)
     go_ret
     exact⟨rfl,bel2 hb2 hb9⟩
  ·rw [if_neg hd] at hsn
   have HR:=Lib.hid (fun w=>SRead_ok (s:=s) w (by omega) hsn);have HMY:=Lib.hid (fun a c w h=>NMay_yes (fun _=>True) L hsm.1 hsm.2.1 (by unfold maySn;rw [hg1,hg2];simpa using (by omega:Sn.deepL L≤32)) a c w h);have HPA:=Lib.hid (fun a c w h=>SParts_any (fun _=>True) (Sn.partsL L+1) L (by omega) (by omega) a c w h);have HDE:=Lib.hid (fun a c w h=>SDeep_any (fun _=>True) (Sn.partsL L+1) L (by omega) (by omega) a c w h);obtain⟨pn,hpn⟩:∃pn,Sn.partsL L=pn:=⟨_,rfl⟩;obtain⟨dn,hdn⟩:∃dn,Sn.deepL L=dn:=⟨_,rfl⟩;rw [hpn] at HPA hg3;rw [hdn] at HDE hg4;have dg1:decide ((pn:Int)≤(s.length:Int))=true:=decide_eq_true (by omega);have dg2:decide ((dn:Int)≤(N:Int))=true:=decide_eq_true (by omega);have hd8:dn≤N:=hg4;have hp8:pn≤s.length:=hg3;clear hg1 hg2 hg3 hg4 hsm hL hsn hN hpd hpn hdn hd;by_cases h32:32<N
   ·have dgN:decide ((32:Int)<(N:Int))=true:=decide_eq_true (by omega)
    go_enter Tryz.func4,Tryz.ntmps4
    go_wp2
    go_loopw [3,4] (fun m q wr=>MyRel s w m q wr) (fun _ q _=>s.length-(intOf q).toNat)
    case atStart=>exact⟨0,0,rfl,rfl,by omega,rfl,Lib.hid (by simp),by omega⟩
    case round =>
     obtain⟨i,n,rfl,rfl,hi,rfl,HF,hni⟩:=hrel;cases hd':s.drop i with
     | cons c r =>
      obtain⟨h2,h3,hr⟩:=drop_cons hd';have HR2:=Lib.hid hr;have HF2:Hid (n+cnt (c::r)=cnt s):=Lib.hid (by rw [←hd'];exact HF.out);clear hd' hr HF;by_cases hc:c.toNat=123
      ·have hcb:((c.toNat:Int)==123)=true:=by rw [beq_iff_eq];omega
       have HC:Hid (cnt (c::r)=cnt r+1):=Lib.hid (by obtain rfl:c=123:=UInt8.toNat_inj.1 hc;simp [cnt]);clear hc;go_wp2
       go_roundw
       case rel=>exact⟨i+1,n+1,by go_num,by go_num,by omega,rfl,Lib.hid (by rw [HR2.out];have h1:=HF2.out;have h4:=HC.out;omega),by omega⟩
       case measure=>simp [intOf];omega
      ·have hcb:((c.toNat:Int)==123)=false:=by rw [beq_eq_false_iff_ne];omega
       have HC:Hid (cnt (c::r)=cnt r):=Lib.hid (by unfold cnt;exact List.count_cons_of_ne (fun e=>hc (by rw [e];rfl)));clear hc;go_wp2
       go_roundw
       case rel=>exact⟨i+1,n,by go_num,by go_num,by omega,rfl,Lib.hid (by rw [HR2.out];have h1:=HF2.out;have h4:=HC.out;omega),by omega⟩
       case measure=>simp [intOf];omega
     | nil =>
      have h2:=drop_nil hd';obtain rfl:n=N:=by have h1:=HF.out;rw [hd'] at h1;have h4:=HN.out;simp [cnt] at h1 h4;omega
      clear hd' HF;go_wp2_with (go_at_call 6;refine(HR.out _).mono ?_)
      rintro e w2 ⟨a2,c2,rfl,hb2,hs2⟩;clear hs2;go_wp2_with (go_at_call 5;refine(awake21 _).mono ?_;rintro e w9 ⟨rfl,hb9⟩)
      go_ret
      exact⟨rfl,bel2 hb2 hb9⟩
   ·have dgN:decide ((32:Int)<(N:Int))=false:=decide_eq_false (by omega)
    go_enter Tryz.func4,Tryz.ntmps4
    go_wp2
    go_loopw [3,4] (fun m q wr=>MyRel s w m q wr) (fun _ q _=>s.length-(intOf q).toNat)
    case atStart=>exact⟨0,0,rfl,rfl,by omega,rfl,Lib.hid (by simp),by omega⟩
    case round =>
     obtain⟨i,n,rfl,rfl,hi,rfl,HF,hni⟩:=hrel;cases hd':s.drop i with
     | cons c r =>
      obtain⟨h2,h3,hr⟩:=drop_cons hd';have HR2:=Lib.hid hr;have HF2:Hid (n+cnt (c::r)=cnt s):=Lib.hid (by rw [←hd'];exact HF.out);clear hd' hr HF;by_cases hc:c.toNat=123
      ·have hcb:((c.toNat:Int)==123)=true:=by rw [beq_iff_eq];omega
       have HC:Hid (cnt (c::r)=cnt r+1):=Lib.hid (by obtain rfl:c=123:=UInt8.toNat_inj.1 hc;simp [cnt]);clear hc;go_wp2
       go_roundw
       case rel=>exact⟨i+1,n+1,by go_num,by go_num,by omega,rfl,Lib.hid (by rw [HR2.out];have h1:=HF2.out;have h4:=HC.out;omega),by omega⟩
       case measure=>simp [intOf];omega
      ·have hcb:((c.toNat:Int)==123)=false:=by rw [beq_eq_false_iff_ne];omega
       have HC:Hid (cnt (c::r)=cnt r):=Lib.hid (by unfold cnt;exact List.count_cons_of_ne (fun e=>hc (by rw [e];rfl)));clear hc;go_wp2
       go_roundw
       case rel=>exact⟨i+1,n,by go_num,by go_num,by omega,rfl,Lib.hid (by rw [HR2.out];have h1:=HF2.out;have h4:=HC.out;omega),by omega⟩
       case measure=>simp [intOf];omega
     | nil =>
      have h2:=drop_nil hd';obtain rfl:n=N:=by have h1:=HF.out;rw [hd'] at h1;have h4:=HN.out;simp [cnt] at h1 h4;omega
      clear hd' HF;go_wp2_with (go_at_call 6;refine(HR.out _).mono ?_)
      rintro e w2 ⟨a2,c2,rfl,hb2,hs2⟩;have hs2':=hs2.mono (S':=fun _=>True) (fun _ _ _=>trivial);have HS2:=Lib.hid hs2';have HM:=Lib.hid (HMY.out a2 c2 w2 hs2');clear hs2 hs2';go_wp2_with (go_at_call 9;refine HM.out.mono ?_)
      first|rintro e w3 rfl hb3|rintro e w3 ⟨rfl,hb3⟩
      have HP:=Lib.hid (HPA.out a2 c2 w3 (HS2.out.later hb3));go_wp2_with (go_at_call 10;refine HP.out.mono ?_)
      first|rintro e w4 rfl hb4|rintro e w4 ⟨rfl,hb4⟩
      have HD:=Lib.hid (HDE.out a2 c2 w4 ((HS2.out.later hb3).later hb4));go_wp2_with (go_at_call 11;refine HD.out.mono ?_)
      first|rintro e w5 rfl hb5|rintro e w5 ⟨rfl,hb5⟩
      have hbw:=bel2 (bel2 (bel2 hb2 hb3) hb4) hb5;go_wp2_with (go_at_call 5;refine(awake21 _).mono ?_;rintro e w9 ⟨rfl,hb9⟩)
      go_ret
      exact⟨rfl,bel2 hbw hb9⟩
 ·have dg:decide ((200:Int)<(s.length:Int))=true:=decide_eq_true (by omega)
  go_enter Tryz.func4,Tryz.ntmps4
  go_wp2_with (go_at_call 5;refine(awake21 _).mono ?_;rintro e w9 ⟨rfl,hb9⟩)
  go_ret
  exact⟨rfl,hb9⟩
end Go.Proofs.YtbgcjpefocdkkaaGreat
set_option maxRecDepth 100000
namespace Go.Proofs.YtbgcjpefocdkkaaGreat
open Go.RowKit Go.WideShapes Go.ChangeShapes
theorem own:ownKnob Tryz.prog.godebug=none:=by kernel_rfl
section
variable {H:Type} {enc:TypeId × Value→H} {P:Program}
theorem args_again (hl:laidOutB P=true) {W W':World} (hb:Below W.heap.size W W'):∀{ts:List TypeId} {vs:List Value} {ds:List (DataW H)} {ps:List MemPlace},
  (∀t∈ts,P.readableRec t=true∧t<P.types.size)→DataW.TrodAll enc P W 0 (fun _=>true) true ts vs ds ps→(∀p∈ps,p.block<W.heap.size)→∀sp:Nat→Bool,(∀p∈ps,sp p.block=true) →
  DataW.TrodAll enc P W' 0 sp true ts vs ds ps
 | [],vs,ds,ps,_,h,_,sp,_=>by
  obtain⟨rfl,rfl,rfl⟩:=trodAll_nil h;exact trodAll_mk0
 | t::ts,vs,ds,ps,ht,h,hlt,sp,hsp=>by
  obtain⟨v,vs',d,ds',p,q,rfl,rfl,rfl,h1,h2⟩:=trodAll_cons h;obtain⟨r1,r2⟩:=ht t (List.mem_cons_self ..);exact trodAll_cons_mk (WideElems.Trod_stays hl r1 r2 h1 (fun x hx=>hb.same (hlt x (List.mem_append_left _ hx))) (fun x hx=>hsp x (List.mem_append_left _ hx)))
   (args_again hl hb (fun t hm=>ht t (List.mem_cons_of_mem _ hm)) h2 (fun x hx=>hlt x (List.mem_append_right _ hx)) sp (fun x hx=>hsp x (List.mem_append_right _ hx)))
theorem post_of_below {f:Func} {s:ChangeSpec} {apart fresh handsOn again:Bool} {W W':World} {args:Array Value} {v:Value} {ds gs:List (DataW H)} {before pa pv:List MemPlace}
  (hW:DataW.Whole enc P f.params.toList s.vars apart W args.toList ds gs before)
  (hres:∀(b:Nat) (sp:Nat→Bool) (hd:Bool),DataW.TrodAll enc P W' b sp hd f.resultTypes.toList (v.resultList f.resultTypes.size) (s.fn H (ds++gs)).results [])
  (hargs:∀sp:Nat→Bool,(∀p∈before,sp p.block=true)→DataW.TrodAll enc P W' 0 sp true f.params.toList args.toList (s.fn H (ds++gs)).args pa)
  (hvars:∀sp:Nat→Bool,(∀p∈before,sp p.block=true)→DataW.TrodVars enc P W' sp s.vars (s.fn H (ds++gs)).vars pv)
  (hps:before=pa++pv) (hb:Below W.heap.size W W')
  (hok:∀(j:Nat) (t:TypeId) (r:Value),f.resultTypes[j]?=some t→(v.resultList f.resultTypes.size)[j]?=some r→Value.okWide P W' .any 0 t r) :
  s.post enc P f apart fresh handsOn again W args v W':=by
 have hlt:∀p∈before,p.block<W.heap.size:=fun p hp=>hW.lt p hp
 have hold:∀p∈before,(fun b=>decide (b<W.heap.size)) p.block=true:=fun p hp=>by simpa using hlt p hp
 refine⟨ds,gs,before,[],pa,pv,hW,hres _ _ _,hargs _ hold,hvars _ hold,World.keptBut_mono (fun p hp=>⟨hp,?_⟩) (hb.frame (·∈before)),fun _=>?_⟩
 ·rw [hps,List.mem_append] at hp
  exact Or.inr hp
 ·obtain⟨_,_,_,_,_,hz,hn⟩:=hW
  refine⟨hok,_,_,([]++pa)++pv,⟨[]++pa,pv,trodAll_append (hargs _ (fun _ _=>rfl)) (hres _ _ _),hvars _ (fun _ _=>rfl),rfl,?_,?_⟩,?_⟩
  ·intro b off hp
   have hin:MemPlace.cell b off∈before:=by rw [hps];simpa using hp
   rw [hb.frozen (hlt _ hin)];exact hz b off hin
  ·intro ha
   have:=hn ha
   rw [hps] at this;simpa using this
  ·intro p hp _
   rw [hps];simpa using hp
end
end Go.Proofs.YtbgcjpefocdkkaaGreat
