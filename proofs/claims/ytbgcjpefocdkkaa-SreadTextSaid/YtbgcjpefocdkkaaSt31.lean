/- walk of sread.Read -/
import Derived.Test.YtbgcjpefocdkkaaSt28
import Derived.Test.YtbgcjpefocdkkaaSt30
import Derived.Test.YtbgcjpefocdkkaaSt1
import Derived.Test.YtbgcjpefocdkkaaSt2
import Derived.Test.YtbgcjpefocdkkaaSt13
import Derived.Test.YtbgcjpefocdkkaaRows
import Derived.WalkKit
import Derived.ProofKit
import Derived.OpenShut
import Derived.ShutString
import Derived.Below
import Derived.ChangeSame
import Derived.Carry
set_option maxRecDepth 100000
namespace Go.Proofs.Ytbgcjpefocdkkaa
open Go.RowKit Go.Maps Go.MapKept
def SReadPost (s : Str) (w : World) (e : Ending) (w' : World) : Prop:=Below w.heap.size w w' ∧
 match snipM s with
 | .error q => e=.returned (.tuple #[.slice none 0 0,.int .i64 q])
 | .ok l => ∃ (a : Option Addr) (c : Nat),e=.returned (.tuple #[.slice a l.length c,.int .i64 0])∧SnSl w' (fun b => w.heap.size≤b) a l.length l
theorem Gr2.old {g m n : Nat} {w w1 w' : World} (h : Gr2 g m w1 w') (hb : Below n w w1) (hn : n≤w1.heap.size) (hg : n≤g) (hm : n≤m) : Below n w w' :=
 ⟨h.os.trans hb.os,h.tape.trans hb.tape,h.output.trans hb.output,Nat.le_trans hb.size h.size,fun k hk => (h.block k (by omega) (by omega) (by omega)).trans (hb.block k hk)⟩
set_option maxHeartbeats 2000000 in
theorem SRead_any (s : Str) (w : World) (hs : s.length≤1000000000) : Calls Try.prog 10 #[.string ⟨(s).toArray⟩] w fun e w' => SReadPost s w e w':=by
 by_cases h8 : 8192 < s.length
 ·have HM : Hid (snipM s=.error 4):=Lib.hid (by unfold snipM;rw [if_pos h8])
  have gl : decide ((8192 : Int) < (s.length : Int))=true:=decide_eq_true (by omega)
  go_enter Try.func10,Try.ntmps10
  go_wp2
  go_ret2
  exact ⟨Below.refl _ _,by rw [HM.out];rfl⟩
 ·have gl : decide ((8192 : Int) < (s.length : Int))=false:=decide_eq_false (by omega)
  obtain ⟨hsm,hln,hpn⟩:=snip_small (s:=s) (by omega)
  have HPN:=Lib.hid hpn
  have HSM:=Lib.hid hsm
  have HLN:=Lib.hid hln
  have hparts:=parts_all (g:=w.heap.size + 1) (m:=w.heap.size) (s:=s) (by omega)
  have HPP:=Lib.hid hparts
  clear hparts hsm hln hpn
  obtain ⟨W1,hW1⟩ : ∃ W1,W1=(w.alloc (.map #[] 0)).alloc (.cells #[.string ⟨(s).toArray⟩,.int .i64 0,.map (some w.heap.size)] 57):=⟨_,rfl⟩
  have hb1 : Below w.heap.size w W1:=by rw [hW1];exact ((Below.refl _ _).alloc (Nat.le_refl _) _).alloc (by simp) _
  have hz1 : W1.heap.size=w.heap.size + 2:=by rw [hW1];simp
  have hrs : Rs (fun _ => False) W1 (w.heap.size + 1) w.heap.size s 0:=by
   refine ⟨⟨?_,by omega,by omega⟩,by omega,⟨#[],0,?_,fun e he => by simp at he⟩,fun h => h,fun h => h,fun b h => h.elim⟩
   ·have:=heap_alloc_new (w.alloc (.map #[] 0)) (.cells #[.string ⟨(s).toArray⟩,.int .i64 0,.map (some w.heap.size)] 57)
    rw [hW1];simpa using this
   ·rw [hW1,Below.heap_alloc _ _ _ (by simp)];exact heap_alloc_new w _
  have HPA:=Lib.hid (HPP.out (fun _ => False) W1 false 0 hrs (by omega))
  have HW1:=Lib.hid hW1
  clear hrs hW1
  have hmk : (Instr.makeMap 55 none).run Try.prog w=.ok (.map (some w.heap.size)) (w.alloc (.map #[] 0)):=rfl
  go_enter Try.func10,Try.ntmps10
  go_upto_region 4 with fail
  rw [← HW1.out]
  go_wp2_with (go_at_call 19;refine HPA.out.mono ?_)
  rintro e w2 ⟨hg2,S2,j2,a2,c2,rfl,hr2,_,hT2,hsl2,_⟩
  have hq : (partsS false [] [] (s.drop 0)).1=snipL s:=by rw [List.drop_zero,snipL_eq]
  rw [hq] at hsl2 ⊢
  have hbw2 : Below w.heap.size w w2:=hg2.old hb1 (by omega) (by omega) (Nat.le_refl _)
  have HDE:=Lib.hid (SDeep_any S2 (Sn.partsL (snipL s) + 1) (snipL s) (by omega) HPN.out a2 c2 w2 hsl2)
  have HSL:=Lib.hid hsl2
  have HBW2:=Lib.hid hbw2
  clear hg2 hr2 hT2 hsl2 hq hbw2 HPA HPP HW1 hb1
  by_cases hd : 32 < Sn.deepL (snipL s)
  ·have HM : Hid (snipM s=.error 8):=Lib.hid (by unfold snipM;rw [if_neg h8,if_pos hd])
   have gd : decide ((32 : Int) < (Sn.deepL (snipL s) : Int))=true:=decide_eq_true (by omega)
   have gdn : decide (32 < Sn.deepL (snipL s))=true:=decide_eq_true hd
   go_wp2_with (go_at_call 12;refine HDE.out.mono ?_;rintro e w3 ⟨rfl,hb3⟩)
   go_ret2
   exact ⟨bel2 HBW2.out hb3,by rw [HM.out];rfl⟩
  ·have HM : Hid (snipM s=.ok (snipL s)):=Lib.hid (by unfold snipM;rw [if_neg h8,if_neg hd])
   have gd : decide ((32 : Int) < (Sn.deepL (snipL s) : Int))=false:=decide_eq_false (by omega)
   have gdn : decide (32 < Sn.deepL (snipL s))=false:=decide_eq_false hd
   go_wp2_with (first | (go_at_call 12;refine HDE.out.mono ?_;rintro e w3 ⟨rfl,hb3⟩) | (go_at_call 20;refine (NClone_any S2 (Sn.partsL (snipL s) + 1) (snipL s) (by omega) HSM.out HLN.out a2 c2 _ (HSL.out.later hb3)).mono ?_))
   rintro e w4 ⟨a4,c4,rfl,hsl4,hb4⟩
   have HB4:=Lib.hid (bel2 (bel2 HBW2.out hb3) hb4)
   have hz3:=(bel2 HBW2.out hb3).size
   have HSL4:=Lib.hid (hsl4.mono (S':=fun b => w.heap.size≤b) fun b hb _ => Nat.le_trans hz3 hb)
   go_wp2
   go_ret2
   exact ⟨HB4.out,by rw [HM.out];exact ⟨a4,c4,rfl,HSL4.out⟩⟩
theorem SRead_ok {s : Str} {l : List Sn} (w : World) (hs : s.length≤1000000000) (h : snipM s=.ok l) :
  Calls Try.prog 10 #[.string ⟨(s).toArray⟩] w fun e w' => ∃ (a : Option Addr) (c : Nat),e=.returned (.tuple #[.slice a l.length c,.int .i64 0])∧Below w.heap.size w w'∧SnSl w' (fun b => w.heap.size≤b) a l.length l:=by
 refine (SRead_any s w hs).mono ?_
 rintro e w' ⟨h1,h2⟩
 rw [h] at h2
 obtain ⟨a,c,h3,h4⟩:=h2
 exact ⟨a,c,h3,h1,h4⟩
end Go.Proofs.Ytbgcjpefocdkkaa
/- walk of gimletlaw21.awake -/
set_option maxRecDepth 100000
namespace Go.Proofs.Ytbgcjpefocdkkaa
open Go.RowKit
def awS1 : Str:=[36,123,49,58,97,36,50,125,98]
def awS2 : Str:=[36,123,49,58,97]
def awL1 : List Sn:=[.mk 1 [] 1 true false tf0 [] [textS [97],stopS 2],textS [98]]
theorem awS1_read : snipM awS1=.ok awL1:=by kernel_rfl
theorem awS2_read : snipM awS2=.ok [textS awS2]:=by kernel_rfl
set_option maxHeartbeats 2000000 in
theorem awake21 (w : World) : Calls Try.prog 11 #[] w fun e w' => e=.returned (.bool true)∧Below w.heap.size w w':=by
 have H1:=Lib.hid (fun w => SRead_ok (s:=awS1) w (by decide) awS1_read)
 have H2:=Lib.hid (fun w => SRead_ok (s:=awS2) w (by decide) awS2_read)
 unfold awS1 at H1
 unfold awS2 at H2
 go_enter Try.func11,Try.ntmps11
 go_wp2_with (go_at_call 10;refine (H1.out _).mono ?_)
 rintro e w1 ⟨a1,c1,rfl,hb1,hs1⟩
 go_wp2_with (go_at_call 10;refine (H2.out _).mono ?_)
 rintro e w2 ⟨a2,c2,rfl,hb2,hs2⟩
 have hbw:=bel2 hb1 hb2
 obtain ⟨b,o,x0,rfl,_,_,hx0,hc0⟩:=(hs1.later hb2).at_ (k:=0) (x:=.mk 1 [] 1 true false tf0 [] [textS [97],stopS 2]) rfl
 obtain ⟨b',o',x1,he,_,_,hx1,hc1⟩:=(hs1.later hb2).at_ (k:=1) (x:=textS [98]) rfl
 obtain ⟨b2,o2,y0,rfl,_,_,hy0,hd0⟩:=hs2.at_ (k:=0) (x:=textS [36,123,49,58,97]) rfl
 injection he with he;injection he with he1 he2;subst he1;subst he2
 obtain ⟨fc,oa,oc,ka,kc,A0⟩:=hx0.at_
 obtain ⟨fc1,oa1,oc1,ka1,kc1,A1⟩:=(show SnV w2 _ x1 (.mk 0 [98] 0 false false tf0 [] []) from hx1).at_
 obtain ⟨fc2,oa2,oc2,ka2,kc2,A2⟩:=(show SnV w2 _ y0 (.mk 0 [36,123,49,58,97] 0 false false tf0 [] []) from hy0).at_
 obtain ⟨b3,o3,z1,rfl,_,_,hz1,he1⟩:=A0.kv.at_ (k:=1) (x:=stopS 2) rfl
 obtain ⟨fc3,oa3,oc3,ka3,kc3,A3⟩:=(show SnV w2 _ z1 (.mk 1 [] 2 false false tf0 [] []) from hz1).at_
 have q1:=hc0 2 _ A0.c2
 have q2:=hc0 3 _ A0.c3
 have q3:=hc0 17 _ A0.c17
 have q4:=hc1 1 _ A1.c1
 have q5:=hd0 1 _ A2.c1
 have q6:=he1 2 _ A3.c2
 simp only [Nat.zero_mul,Nat.zero_add,Nat.one_mul,← Nat.add_assoc] at q1 q2 q3 q4 q5 q6
 clear A0 A1 A2 A3 hx0 hx1 hy0 hz1 hc0 hc1 hd0 he1 hs1 hs2 hb1 hb2
 go_wp2
 go_ret
 exact ⟨rfl,hbw⟩
end Go.Proofs.Ytbgcjpefocdkkaa
/- walk of gimletlaw21.guard -/
set_option maxRecDepth 100000
namespace Go.Proofs.Ytbgcjpefocdkkaa
open Go.RowKit
def repG (th : Str) (c : UInt8) : Str:=th.flatMap fun x => if x=c then [92] else []
def quotG (th l : Str) : Str:=l.flatMap fun c => repG th c ++ [c]
theorem repG_eq (c : UInt8) : ∀ {th : Str},th.Nodup→repG th c=if th.contains c=true then [92] else []
 | [],_ => by simp [repG]
 | x :: r,h => by
  rw [List.nodup_cons] at h
  have ih:=repG_eq c h.2
  have he : repG (x :: r) c=(if x=c then [92] else []) ++ repG r c:=by simp [repG]
  rw [he,ih,List.contains_cons]
  by_cases hx : x=c
  ·subst hx
   have : r.contains x=false:=by simpa using h.1
   rw [if_pos rfl,this];simp
  ·rw [if_neg hx]
   have : (c == x)=false:=by simpa using fun e => hx e.symm
   rw [this];simp
theorem quotG_eq {th : Str} (h : th.Nodup) : ∀ l : Str,quotG th l=quot th l
 | [] => by simp [quotG,quot]
 | c :: r => by
  have ih:=quotG_eq h r
  have he : quotG th (c :: r)=repG th c ++ [c] ++ quotG th r:=by simp [quotG]
  rw [he,ih,repG_eq c h]
  simp only [quot]
  split <;> simp
theorem repG_len (c : UInt8) : ∀ th : Str,(repG th c).length≤th.length
 | [] => by simp [repG]
 | x :: r => by
  have ih:=repG_len c r
  have he : repG (x :: r) c=(if x=c then [92] else []) ++ repG r c:=by simp [repG]
  rw [he,List.length_append]
  split <;> simp <;> omega
theorem quotG_len (th : Str) : ∀ l : Str,(quotG th l).length≤l.length * (th.length + 1)
 | [] => by simp [quotG]
 | c :: r => by
  have ih:=quotG_len th r
  have hr:=repG_len c th
  have he : quotG th (c :: r)=repG th c ++ [c] ++ quotG th r:=by simp [quotG]
  rw [he,List.length_append,List.length_append,List.length_cons,List.length_cons,Nat.succ_mul]
  simp;omega
theorem u8_info2 : (Try.prog.info? 5).map (fun i => (i.zero,i.size,i.bytes))=some (some (.int .u8 0),1,1):=by kernel_rfl
theorem ownsRow_drewN {w : World} {B : Nat} {e : TypeId} {sz : Nat} {v : Value} {n : Nat} {xs : List Value} (h : w.ownsRow B e sz v n xs) (k : Nat) : (w.drewN k).ownsRow B e sz v n xs:=h
def GdRel (th l R : Str) (w : World) (v q : Value) (wr : World) : Prop :=
 ∃ (i : Nat) (bs : Str),i≤l.length∧q=.int .i64 i∧wr.ownsRow w.heap.size 5 1 v bs.length (bcells bs)∧Below w.heap.size w wr∧bs.length≤20000000∧Hid (bs ++ quotG th (l.drop i)=R)
def GiRel (th : Str) (c : UInt8) (s R : Str) (w : World) (v q : Value) (wr : World) : Prop :=
 ∃ (k : Nat) (bs : Str),k≤th.length∧q=.int .i64 k∧wr.ownsRow w.heap.size 5 1 v bs.length (bcells bs)∧Below w.heap.size w wr∧bs.length≤20000000∧Hid (bs ++ (repG (th.drop k) c ++ (c :: s))=R)
set_option maxHeartbeats 4000000 in
theorem guard21 (l th : Str) (w : World) (hs : l.length≤1000000) (ht : th.length≤9) (hnd : th.Nodup) :
  Calls Try.prog 13 #[.string ⟨(l).toArray⟩,.string ⟨(th).toArray⟩] w fun e w' => e=.returned (.string ⟨(quot th l).toArray⟩)∧Below w.heap.size w w':=by
 rw [← quotG_eq hnd]
 have hlen:=quotG_len th l
 have h10 : l.length * (th.length + 1)≤1000000 * 10:=Nat.mul_le_mul hs (by omega)
 obtain ⟨R,hR⟩ : ∃ R,quotG th l=R:=⟨_,rfl⟩
 rw [hR] at hlen ⊢
 have HR0 : Hid (([] : Str) ++ quotG th (l.drop 0)=R):=Lib.hid (by simpa using hR)
 obtain ⟨iu,hiu⟩:=info_parts u8_info2
 have hRl : R.length≤10000000:=by omega
 clear hR hnd hlen h10
 go_enter Try.func13,Try.ntmps13
 go_wp2
 go_loopw [5,6] (fun v q wr => GdRel th l R w v q wr) (fun _ q _ => l.length - (intOf q).toNat)
 case atStart => exact ⟨0,[],by omega,rfl,World.ownsRow_nil _ _ _ _,Below.refl _ _,by simp,HR0⟩
 case round =>
  obtain ⟨i,bs,hik,rfl,hown,hb,hbl,HF⟩:=hrel
  clear HR0
  have hB:=hb.size
  cases hd : l.drop i with
  | nil =>
   have h2:=drop_nil hd
   have HE : Hid (bs=R):=Lib.hid (by rw [← HF.out,hd];simp [quotG])
   obtain ⟨a,c,rfl⟩:=own_form hown
   have hcv:=conv_own (P:=Try.prog) Try.underlying61 Try.underlying5 Try.underlying9 hown
   clear hd HF
   go_wp2
   go_ret
   exact ⟨ret_str HE.out,hb⟩
  | cons c r =>
   obtain ⟨h2,h3,hr⟩:=drop_cons hd
   have Hr:=Lib.hid hr
   have hc256:=u8_lt c
   obtain ⟨T,hT⟩ : ∃ T,quotG th r=T:=⟨_,rfl⟩
   have HK0 : Hid (bs ++ (repG (th.drop 0) c ++ (c :: T))=R):=Lib.hid (by rw [← HF.out,hd,← hT];simp [quotG])
   have HT:=Lib.hid hT
   clear hd HF hr hT
   obtain ⟨wo,rfl⟩ : ∃ wo : World,wo=wr:=⟨_,rfl⟩
   go_wp2
   go_loopw [5,7] (fun v q wk => GiRel th c T R w v q wk) (fun _ q _ => th.length - (intOf q).toNat)
   case atStart => exact ⟨0,bs,by omega,rfl,hown,hb,hbl,HK0⟩
   case round =>
    obtain ⟨k,bk,hkk,rfl,hownk,hbk,hblk,HG⟩:=hrel
    clear HK0 hown
    have hBk:=hbk.size
    have hbkl : bk.length + T.length + 1≤10000000:=by
     have h:=congrArg List.length HG.out
     simp only [List.length_append,List.length_cons] at h;omega
    obtain ⟨a,cp,rfl⟩:=own_form hownk
    cases hdk : th.drop k with
    | nil =>
     have h4:=drop_nil hdk
     have HE : Hid (bk ++ (c :: T)=R):=Lib.hid (by rw [← HG.out,hdk];simp [repG])
     clear hdk HG
     go_wp2_with (at_builtin;refine wpList_app1 w.heap.size 5 rfl _ _ 61 rfl Try.underlying61 hiu rfl (by decide) rfl hownk rfl (by first | rfl | simp) rfl (by simp [Value.oneCell']) (by omega) (by decide) hBk ?_)
     intro v1 w1 ho1 hg1 hb1 hne1
     go_wp2
     exact ⟨⟨i + 1,bk ++ [c],by omega,by go_num,by simpa [bcells] using ho1,hbk.trans (hb1.mono (Nat.le_refl _)),by simp;omega,Lib.hid (by rw [Hr.out,HT.out,← HE.out];simp)⟩,by simp [intOf];omega⟩
    | cons x s =>
     obtain ⟨h4,h5,hs⟩:=drop_cons hdk
     have Hs:=Lib.hid hs
     have hx256:=u8_lt x
     have HG2 : Hid (bk ++ ((if x=c then [92] else []) ++ (repG s c ++ (c :: T)))=R):=Lib.hid (by rw [← HG.out,hdk];simp [repG])
     clear hdk HG hs
     by_cases hxc : x=c
     ·have HE : Hid (bk ++ ([92] ++ (repG s c ++ (c :: T)))=R):=Lib.hid (by rw [← HG2.out,if_pos hxc])
      subst hxc
      clear HG2
      go_wp2
      go_quiet (fail)
      go_wp2_with (at_builtin;refine wpList_app1 w.heap.size 5 rfl _ _ 61 rfl Try.underlying61 hiu rfl (by decide) rfl (ownsRow_drewN hownk _) rfl (by first | rfl | simp) rfl (by simp [Value.oneCell']) (by omega) (by decide) (below_drewN hbk _).size ?_)
      intro v1 w1 ho1 hg1 hb1 hne1
      go_wp2
      go_roundw
      case rel => exact ⟨k + 1,bk ++ [92],by omega,by go_num,by simpa [bcells] using ho1,(below_drewN hbk _).trans (hb1.mono (Nat.le_refl _)),by simp;omega,Lib.hid (by rw [Hs.out,← HE.out];simp)⟩
      case measure => simp [intOf];omega
     ·have hne : ((x.toNat : Int) == c.toNat)=false:=by
       rw [beq_eq_false_iff_ne];intro e;exact hxc (UInt8.toNat_inj.1 (by omega))
      have hne2 : ((c.toNat : Int) == x.toNat)=false:=by
       rw [beq_eq_false_iff_ne];intro e;exact hxc (UInt8.toNat_inj.1 (by omega))
      have HE : Hid (bk ++ (repG s c ++ (c :: T))=R):=Lib.hid (by rw [← HG2.out,if_neg hxc];simp)
      clear HG2 hxc
      go_wp2
      go_quiet (fail)
      go_wp2
      go_roundw
      case rel => exact ⟨k + 1,bk,by omega,by go_num,ownsRow_drewN hownk _,below_drewN hbk _,hblk,Lib.hid (by rw [Hs.out];exact HE.out)⟩
      case measure => simp [intOf];omega
end Go.Proofs.Ytbgcjpefocdkkaa
/- walk of Low -/
set_option maxRecDepth 100000
namespace Go.Proofs.Ytbgcjpefocdkkaa
open Go.RowKit
/-- 'Low': a number, from 0 to below n. -/
def low (x n : Int) : Int:=(x % 18446744073709551616) % n
theorem low_lt (x : Int) {n : Int} (h : 1≤n) : 0≤low x n∧low x n < n:=⟨Int.emod_nonneg _ (by omega),Int.emod_lt_of_pos _ (by omega)⟩
theorem low_eq (x n : Int) (h1 : 1≤n) (h2 : n≤1000000) : wrap64 ((IntKind.u64.wrap x).tmod n)=low x n:=by
 have hu : IntKind.u64.wrap x=x % 18446744073709551616:=by simp [IntKind.wrap,IntKind.signed,IntKind.bits]
 have hnn : 0≤x % 18446744073709551616:=by omega
 rw [hu,Int.tmod_eq_emod_of_nonneg hnn]
 have:=low_lt x h1
 unfold low at *
 unfold wrap64
 omega
set_option maxHeartbeats 400000 in
theorem Low_any (x n : Int) (w : World) (h1 : 1≤n) (h2 : n≤1000000) :
  Calls Try.prog 9 #[.int .i64 x,.int .i64 n] w fun e w' => e=.returned (.int .i64 (low x n))∧w=w':=by
 have HE:=Lib.hid (low_eq x n h1 h2)
 go_enter Try.func9,Try.ntmps9
 go_wp2
 go_ret
 exact ⟨ret_int HE.out,rfl⟩
end Go.Proofs.Ytbgcjpefocdkkaa
/- walks of slices.Equal of rows, slices.EqualFunc of parts, rxtree.Same: of equal trees · walk of rxtree.Same: of equal trees -/
set_option maxRecDepth 100000
namespace Go.Proofs.Ytbgcjpefocdkkaa
open Go.RowKit
def EqRel (n : Nat) (w : World) (q : Value) (wr : World) : Prop:=∃ i : Nat,i≤n∧q=.int .i64 i∧Below w.heap.size w wr
set_option maxHeartbeats 1000000 in
theorem Equal_same (a a' : Option Addr) (c c' : Nat) (rs : List (Str × Str)) (w : World) (h : Sl w w.heap.size a 2 rs.length (rcells rs)) (h' : Sl w w.heap.size a' 2 rs.length (rcells rs)) (hl : rs.length≤1000000) :
  Calls Try.prog 47 #[.slice a rs.length c,.slice a' rs.length c'] w fun e w' => e=.returned (.bool true)∧Below w.heap.size w w':=by
 have H1:=Lib.hid h
 have H2:=Lib.hid h'
 clear h h'
 go_enter Try.func47,Try.ntmps47
 go_wp2
 go_loopw [13] (fun q wr => EqRel rs.length w q wr) (fun q _ => rs.length - (intOf q).toNat)
 case atStart => exact ⟨0,by omega,rfl,Below.refl _ _⟩
 case round =>
  obtain ⟨i,hi,rfl,hb⟩:=hrel
  cases hd : rs[i]? with
  | none =>
   have h2 : rs.length≤i:=by simpa using hd
   clear hd
   go_wp2
   go_ret
   exact ⟨rfl,hb⟩
  | some r =>
   have h2:=(List.getElem?_eq_some_iff.1 hd).1
   obtain ⟨b,o,rfl,hb1,c0,c1⟩:=(H1.out.keep hb).row hd
   obtain ⟨b',o',rfl,hb1',c0',c1'⟩:=(H2.out.keep hb).row hd
   obtain ⟨x,y⟩:=r
   simp only at c0 c1 c0' c1'
   clear hd
   go_wp2
   go_quiet (fail)
   go_wp2
   exact ⟨⟨i + 1,by omega,by go_num,below_drewN hb _⟩,by simp [intOf];omega⟩
def SameC (y : Rx) : Prop:=∀ (S S' : Nat→Prop) (cc cc' : List Value) (w : World),RxV w S cc y→RxV w S' cc' y →
 Calls Try.prog 38 #[.agg cc.toArray,.agg cc'.toArray] w fun e w' => e=.returned (.bool true)∧Below w.heap.size w w'
theorem RxV.box' {w : World} {S : Nat→Prop} {cc : List Value} {k : Int} {c : Str} {ng : Bool} {rs : List (Str × Str)} {lo hi : Int} {lz : Bool} {ks : List Rx} (h : RxV w S cc (.mk k c ng rs lo hi lz ks)) :
  ∃ ra rc ka kc,cc=rxc k c ng ra rs.length rc lo hi lz ka ks.length kc∧Sl w w.heap.size ra 2 rs.length (rcells rs)∧RxSl w S ka ks.length ks:=by
 obtain ⟨ra,rc,ka,kc,h1,h2,h3⟩:=h.open_
 exact ⟨ra,rc,ka,kc,h1,h2.sl,h3⟩
set_option maxHeartbeats 2000000 in
theorem EqualF_same (S S' : Nat→Prop) (a a' : Option Addr) (c c' : Nat) (ks : List Rx) (w : World) (IH : ∀ y ∈ ks,SameC y) (h : RxSl w S a ks.length ks) (h' : RxSl w S' a' ks.length ks) (hl : ks.length≤1000000) :
  Calls Try.prog 48 #[.slice a ks.length c,.slice a' ks.length c',.func (.func 38) #[] #[]] w fun e w' => e=.returned (.bool true)∧Below w.heap.size w w':=by
 have H1:=Lib.hid h
 have H2:=Lib.hid h'
 have HIH:=Lib.hid IH
 clear h h' IH
 go_enter Try.func48,Try.ntmps48
 go_wp2
 go_loopw [17] (fun q wr => EqRel ks.length w q wr) (fun q _ => ks.length - (intOf q).toNat)
 case atStart => exact ⟨0,by omega,rfl,Below.refl _ _⟩
 case round =>
  obtain ⟨i,hi,rfl,hb⟩:=hrel
  cases hd : ks[i]? with
  | none =>
   have h2 : ks.length≤i:=by simpa using hd
   clear hd
   go_wp2
   go_ret
   exact ⟨rfl,hb⟩
  | some y =>
   have h2:=(List.getElem?_eq_some_iff.1 hd).1
   have HY:=Lib.hid (HIH.out y (List.mem_of_getElem? hd))
   obtain ⟨k,ch,ng,rs,lo,hi',lz,xs⟩:=y
   obtain ⟨b,o,ra,rc,ka,kc,rfl,_,hb1,_,_,hv1,c0,c1,c2,c3,c4,c5,c6,c7⟩:=(H1.out.later hb).cells hd
   obtain ⟨b',o',ra',rc',ka',kc',rfl,_,hb1',_,_,hv1',d0,d1,d2,d3,d4,d5,d6,d7⟩:=(H2.out.later hb).cells hd
   have hbn : Below wr.heap.size wr ((wr.alloc (.cells (rxc k ch ng ra rs.length rc lo hi' lz ka xs.length kc).toArray 30)).alloc (.cells (rxc k ch ng ra' rs.length rc' lo hi' lz ka' xs.length kc').toArray 30)):=((Below.refl _ _).alloc (Nat.le_refl _) _).alloc (by simp) _
   have HC:=Lib.hid (HY.out S S' _ _ _ (hv1.later hbn) (hv1'.later hbn))
   unfold rxc at HC hbn
   have hB:=hb.size
   clear hd hv1 hv1' HY
   go_wp2_with (go_at_call 38;refine HC.out.mono ?_)
   rintro e w2 ⟨rfl,hb2⟩
   have hb3 : Below w.heap.size w w2:=(hb.trans (hbn.mono hB)).trans (hb2.mono (Nat.le_trans hB hbn.size))
   clear hbn hb2 HC
   go_wp2
   exact ⟨⟨i + 1,by omega,by go_num,hb3⟩,by simp [intOf];omega⟩
end Go.Proofs.Ytbgcjpefocdkkaa
namespace Go.Proofs.Ytbgcjpefocdkkaa
open Go.RowKit
set_option maxHeartbeats 2000000 in
theorem Same_any : ∀ (N : Nat) (x : Rx),x.parts≤N→x.small→SameC x
 | 0,x,h,_ => by have:=Rx.parts_pos x;omega
 | N + 1,.mk k c ng rs lo hi lz ks,h,hsm => by
  intro S S' cc cc' w hv hv'
  obtain ⟨ra,rc,ka,kc,rfl,hrs,hks⟩:=hv.box'
  obtain ⟨ra',rc',ka',kc',rfl,hrs',hks'⟩:=hv'.box'
  obtain ⟨⟨s1,s2,s3,s4⟩,hsmL⟩:=hsm
  simp only [Rx.parts] at h
  have ih : ∀ y ∈ ks,SameC y:=fun y hy => Same_any N y (by have:=Rx.parts_mem hy;omega) (smallL_mem hsmL hy)
  have HIH:=Lib.hid ih
  have hbn : Below w.heap.size w ((w.alloc (.cells (rxc k c ng ra rs.length rc lo hi lz ka ks.length kc).toArray 30)).alloc (.cells (rxc k c ng ra' rs.length rc' lo hi lz ka' ks.length kc').toArray 30)):=((Below.refl _ _).alloc (Nat.le_refl _) _).alloc (by simp) _
  obtain ⟨w0,hw0⟩ : ∃ w0,w0=(w.alloc (.cells (rxc k c ng ra rs.length rc lo hi lz ka ks.length kc).toArray 30)).alloc (.cells (rxc k c ng ra' rs.length rc' lo hi lz ka' ks.length kc').toArray 30):=⟨_,rfl⟩
  rw [← hw0] at hbn
  have hz0:=hbn.size
  have hx1 : w0.heap[w.heap.size]?=some (.cells (rxc k c ng ra rs.length rc lo hi lz ka ks.length kc).toArray 30 (0,0)):=by rw [hw0,Below.heap_alloc _ _ _ (by simp)];exact heap_alloc_new w _
  have hx2 : w0.heap[w.heap.size + 1]?=some (.cells (rxc k c ng ra' rs.length rc' lo hi lz ka' ks.length kc').toArray 30 (0,0)):=by
   rw [hw0];have:=heap_alloc_new (w.alloc (.cells (rxc k c ng ra rs.length rc lo hi lz ka ks.length kc).toArray 30)) (.cells (rxc k c ng ra' rs.length rc' lo hi lz ka' ks.length kc').toArray 30);simpa using this
  have HX1:=Lib.hid hx1
  have HX2:=Lib.hid hx2
  have HEQ:=Lib.hid (Equal_same ra ra' rc rc' rs w0 ((hrs.keep hbn).mono hz0) ((hrs'.keep hbn).mono hz0) s2)
  have HK:=Lib.hid (hks.later hbn)
  have HK':=Lib.hid (hks'.later hbn)
  clear hks hks' hrs hrs' hv hv' ih hx1 hx2
  unfold rxc at hw0 HX1 HX2 ⊢
  go_enter Try.func38,Try.ntmps38
  go_upto_region 1 with fail
  rw [← hw0]
  clear hw0
  obtain ⟨e0,e1,e2,e3,e4,e5,e6,e7,e8⟩:=bx_cells HX1.out
  obtain ⟨d0,d1,d2,d3,d4,d5,d6,d7,d8⟩:=bx_cells HX2.out
  go_wp2_with (go_at_call 47;refine HEQ.out.mono ?_)
  rintro e w1 ⟨rfl,hb1⟩
  have hx1:=(hb1.block _ (heap_lt HX1.out)).trans HX1.out
  have hx2:=(hb1.block _ (heap_lt HX2.out)).trans HX2.out
  have hbw1:=bel2 hbn hb1
  have HEF:=Lib.hid (EqualF_same S S' ka ka' kc kc' ks w1 HIH.out (HK.out.later hb1) (HK'.out.later hb1) s4)
  clear e0 e1 e2 e3 e4 e5 e6 e7 e8 d0 d1 d2 d3 d4 d5 d6 d7 d8 HEQ
  obtain ⟨e0,e1,e2,e3,e4,e5,e6,e7,e8⟩:=bx_cells hx1
  obtain ⟨d0,d1,d2,d3,d4,d5,d6,d7,d8⟩:=bx_cells hx2
  clear hx1 hx2 hb1
  go_wp2_with (go_at_call 48;refine HEF.out.mono ?_)
  rintro e w2 ⟨rfl,hb2⟩
  have hbw2:=bel2 hbw1 hb2
  go_wp2
  go_ret
  exact ⟨rfl,hbw2⟩
theorem Same_eq {x : Rx} {S S' : Nat→Prop} {cc cc' : List Value} (w : World) (hs : x.small) (h : RxV w S cc x) (h' : RxV w S' cc' x) :
  Calls Try.prog 38 #[.agg cc.toArray,.agg cc'.toArray] w fun e w' => e=.returned (.bool true)∧Below w.heap.size w w':=Same_any _ x (Nat.le_refl _) hs S S' cc cc' w h h'
end Go.Proofs.Ytbgcjpefocdkkaa
/- walks of slices.Equal of texts, of formats' parts, xform.Same: of equal ones -/
set_option maxRecDepth 100000
namespace Go.Proofs.Ytbgcjpefocdkkaa
open Go.RowKit
set_option maxHeartbeats 1000000 in
theorem EqualStr (a a' : Option Addr) (c c' : Nat) (l : List Str) (w : World) (h : Sl w w.heap.size a 1 l.length (scells l)) (h' : Sl w w.heap.size a' 1 l.length (scells l)) (hl : l.length≤1000000) :
  Calls Try.prog 32 #[.slice a l.length c,.slice a' l.length c'] w fun e w' => e=.returned (.bool true)∧Below w.heap.size w w':=by
 have H1:=Lib.hid h
 have H2:=Lib.hid h'
 clear h h'
 go_enter Try.func32,Try.ntmps32
 go_wp2
 go_loopw [13] (fun q wr => EqRel l.length w q wr) (fun q _ => l.length - (intOf q).toNat)
 case atStart => exact ⟨0,by omega,rfl,Below.refl _ _⟩
 case round =>
  obtain ⟨i,hi,rfl,hb⟩:=hrel
  cases hd : l[i]? with
  | none =>
   have h2 : l.length≤i:=by simpa using hd
   clear hd
   go_wp2
   go_ret
   exact ⟨rfl,hb⟩
  | some x =>
   have h2:=(List.getElem?_eq_some_iff.1 hd).1
   obtain ⟨b,o,rfl,hb1,hc⟩:=(H1.out.keep hb).2 (by omega)
   obtain ⟨b',o',rfl,hb1',hc'⟩:=(H2.out.keep hb).2 (by omega)
   have c0:=hc i (.string ⟨(x).toArray⟩) (by simp [scells,hd])
   have c0':=hc' i (.string ⟨(x).toArray⟩) (by simp [scells,hd])
   clear hd hc hc'
   go_wp2
   go_quiet (fail)
   go_wp2
   exact ⟨⟨i + 1,by omega,by go_num,below_drewN hb _⟩,by simp [intOf];omega⟩
set_option maxHeartbeats 1000000 in
theorem EqualFm (a a' : Option Addr) (c c' : Nat) (l : List Fm) (w : World) (h : Sl w w.heap.size a 5 l.length (fcells l)) (h' : Sl w w.heap.size a' 5 l.length (fcells l)) (hl : l.length≤1000000) :
  Calls Try.prog 39 #[.slice a l.length c,.slice a' l.length c'] w fun e w' => e=.returned (.bool true)∧Below w.heap.size w w':=by
 have H1:=Lib.hid h
 have H2:=Lib.hid h'
 clear h h'
 go_enter Try.func39,Try.ntmps39
 go_wp2
 go_loopw [13] (fun q wr => EqRel l.length w q wr) (fun q _ => l.length - (intOf q).toNat)
 case atStart => exact ⟨0,by omega,rfl,Below.refl _ _⟩
 case round =>
  obtain ⟨i,hi,rfl,hb⟩:=hrel
  cases hd : l[i]? with
  | none =>
   have h2 : l.length≤i:=by simpa using hd
   clear hd
   go_wp2
   go_ret
   exact ⟨rfl,hb⟩
  | some x =>
   have h2:=(List.getElem?_eq_some_iff.1 hd).1
   obtain ⟨b,o,rfl,hb1,c0,c1,c2,c3,c4⟩:=(H1.out.keep hb).fm hd
   obtain ⟨b',o',rfl,hb1',d0,d1,d2,d3,d4⟩:=(H2.out.keep hb).fm hd
   obtain ⟨x0,x1,x2,x3,x4⟩:=x
   simp only at c0 c1 c2 c3 c4 d0 d1 d2 d3 d4
   clear hd
   go_wp2
   go_quiet (fail)
   go_wp2
   exact ⟨⟨i + 1,by omega,by go_num,below_drewN hb _⟩,by simp [intOf];omega⟩
set_option maxHeartbeats 4000000 in
theorem XSame_any (S S' : Nat→Prop) (f : Tf) (hsm : f.small) (fc fc' : List Value) (w : World) (hv : TfV w S fc f) (hv' : TfV w S' fc' f) :
  Calls Try.prog 31 #[.agg fc.toArray,.agg fc'.toArray] w fun e w' => e=.returned (.bool true)∧Below w.heap.size w w':=by
 obtain ⟨rk,rch,rng,rrs,rlo,rhi,rlz,rks,ra,rcp,rka,rkc,fa,fcp,hc⟩:=hv.open_
 obtain ⟨qk,qch,qng,qrs,qlo,qhi,qlz,qks,qa,qcp,qka,qkc,ga,gcp,hd⟩:=hv'.open_
 obtain ⟨X,fs,fd,al⟩:=f
 obtain ⟨hx,hp,hfs⟩:=hsm
 have hx1 : X=.mk rk rch rng rrs rlo rhi rlz rks:=hc.rx
 have hx2 : X=.mk qk qch qng qrs qlo qhi qlz qks:=hd.rx
 have hfce : fc=[.int .i64 rk,.string ⟨(rch).toArray⟩,.bool rng,.slice ra rrs.length rcp,.int .i64 rlo,.int .i64 rhi,.bool rlz,.slice rka rks.length rkc,.slice fa fs.length fcp,.bool fd,.bool al]:=hc.eq
 have hfde : fc'=[.int .i64 qk,.string ⟨(qch).toArray⟩,.bool qng,.slice qa qrs.length qcp,.int .i64 qlo,.int .i64 qhi,.bool qlz,.slice qka qks.length qkc,.slice ga fs.length gcp,.bool fd,.bool al]:=hd.eq
 obtain ⟨W0,hW0⟩ : ∃ W0,W0=(w.alloc (.cells fc.toArray 33)).alloc (.cells fc'.toArray 33):=⟨_,rfl⟩
 have hb0 : Below w.heap.size w W0:=by rw [hW0];exact ((Below.refl _ _).alloc (Nat.le_refl _) _).alloc (by simp) _
 have HB1 : Hid (W0.heap[w.heap.size]?=some (.cells fc.toArray 33 (0,0))):=Lib.hid (by rw [hW0,Below.heap_alloc _ _ _ (by simp)];exact heap_alloc_new w _)
 have HB2 : Hid (W0.heap[w.heap.size + 1]?=some (.cells fc'.toArray 33 (0,0))):=Lib.hid (by
  have:=heap_alloc_new (w.alloc (.cells fc.toArray 33)) (.cells fc'.toArray 33)
  rw [hW0];simpa using this)
 have HXV : Hid (RxV W0 S [.int .i64 rk,.string ⟨(rch).toArray⟩,.bool rng,.slice ra rrs.length rcp,.int .i64 rlo,.int .i64 rhi,.bool rlz,.slice rka rks.length rkc] X):=Lib.hid (hx1 ▸ hc.rv.later hb0)
 have HXV' : Hid (RxV W0 S' [.int .i64 qk,.string ⟨(qch).toArray⟩,.bool qng,.slice qa qrs.length qcp,.int .i64 qlo,.int .i64 qhi,.bool qlz,.slice qka qks.length qkc] X):=Lib.hid (hx2 ▸ hd.rv.later hb0)
 have HFS : Hid (SlS W0 S fa 5 fs.length (fcells fs)):=Lib.hid (hc.fv.keep (Kept.all hb0))
 have HFS' : Hid (SlS W0 S' ga 5 fs.length (fcells fs)):=Lib.hid (hd.fv.keep (Kept.all hb0))
 have HXS:=Lib.hid hx
 have HFL:=Lib.hid hfs
 subst hfce
 subst hfde
 have HW0:=Lib.hid hW0
 clear hv hv' hc hd hx hx1 hx2 hW0 hfs
 go_enter Try.func31,Try.ntmps31
 go_upto_region 1 with fail
 rw [← HW0.out]
 clear HW0
 go_wp2_with (first
  | (refine wpList_ldW rfl 30 (.tmp 5) rfl w.heap.size 0 rfl [.int .i64 rk,.string ⟨(rch).toArray⟩,.bool rng,.slice ra rrs.length rcp,.int .i64 rlo,.int .i64 rhi,.bool rlz,.slice rka rks.length rkc] _ (range_blk (ds:=[.slice fa fs.length fcp,.bool fd,.bool al]) HB1.out) rx_under rfl (by rw [rx_size];rfl) ?_)
  | (refine wpList_ldW rfl 30 (.tmp 7) rfl (w.heap.size + 1) 0 rfl [.int .i64 qk,.string ⟨(qch).toArray⟩,.bool qng,.slice qa qrs.length qcp,.int .i64 qlo,.int .i64 qhi,.bool qlz,.slice qka qks.length qkc] _ (range_blk (ds:=[.slice ga fs.length gcp,.bool fd,.bool al]) HB2.out) rx_under rfl (by rw [rx_size];rfl) ?_)
  | (go_at_call 38;refine (Same_eq W0 HXS.out HXV.out HXV'.out).mono ?_))
 first | rintro e w1 rfl hb1 | rintro e w1 ⟨rfl,hb1⟩
 have hx1:=(hb1.block _ (heap_lt HB1.out)).trans HB1.out
 have hx2:=(hb1.block _ (heap_lt HB2.out)).trans HB2.out
 have z8:=blk_cell hx1 8 rfl
 have y8:=blk_cell hx2 8 rfl
 have HE:=Lib.hid (EqualFm fa ga fcp gcp fs w1 (HFS.out.keep (Kept.all hb1)).sl (HFS'.out.keep (Kept.all hb1)).sl HFL.out)
 go_wp2_with (go_at_call 39;refine HE.out.mono ?_)
 first | rintro e w2 rfl hb2 | rintro e w2 ⟨rfl,hb2⟩
 have hx1':=(hb2.block _ (heap_lt hx1)).trans hx1
 have hx2':=(hb2.block _ (heap_lt hx2)).trans hx2
 have z9:=blk_cell hx1' 9 rfl
 have y9:=blk_cell hx2' 9 rfl
 have z10:=blk_cell hx1' 10 rfl
 have y10:=blk_cell hx2' 10 rfl
 have hbw:=bel2 (bel2 hb0 hb1) hb2
 clear hx1 hx2 hx1' hx2' z8 y8
 go_wp2
 go_ret
 exact ⟨rfl,hbw⟩
end Go.Proofs.Ytbgcjpefocdkkaa
/- walks of snode.same, slices.EqualFunc of parts, snode.Same: of equal ones -/
set_option maxRecDepth 100000
namespace Go.Proofs.Ytbgcjpefocdkkaa
open Go.RowKit
/-- A load of many cells under a guard that holds. -/
theorem wpList_ldG {P : Program} {ops : Array Oper} {rest : List Oper} {op : Oper} {a : Act} {w : World} {Q : Exit→Act→World→Prop} (hw : Region.wanted op (yielded ops a.tmps)=true) (ty : TypeId) (x : Operand) (ho : op.op=.load ty x)
  (b o : Nat) (hx : a.eval x=.pointer (some ⟨b,o,none⟩)) (cs : List Value) (d : TypeDesc) (hc : w.rangeAt b o cs)
  (hu : P.underlying ty=some d) (hd : d.isRow=true) (hi : (P.info? ty).map (·.size)=some cs.length)
  (h : wpList P ops Q rest (a.put op.dst (.agg cs.toArray)) w) : wpList P ops Q (op :: rest) a w:=by
 unfold wpList
 rw [if_pos hw]
 refine .inl ?_
 unfold Oper.wp execOp
 simp only [ho,hx,Instr.loadAt,Instr.sureAddr,Sem.run_bind,Sem.run_pure,Result.andThen_ok,run_loadVar_mid w b o ty cs d hc hu hd hi]
 exact h
def NSameC (y : Sn) : Prop:=∀ (S S' : Nat→Prop) (cc cc' : List Value) (w : World),SnV w S cc y→SnV w S' cc' y →
 Calls Try.prog 22 #[.agg cc.toArray,.agg cc'.toArray] w fun e w' => e=.returned (.bool true)∧Below w.heap.size w w'
set_option maxHeartbeats 2000000 in
theorem NEqualF (S S' : Nat→Prop) (a a' : Option Addr) (c c' : Nat) (ks : List Sn) (w : World) (IH : ∀ y ∈ ks,NSameC y) (h : SnSl w S a ks.length ks) (h' : SnSl w S' a' ks.length ks) (hl : ks.length≤1000000) :
  Calls Try.prog 21 #[.slice a ks.length c,.slice a' ks.length c',.func (.func 22) #[] #[]] w fun e w' => e=.returned (.bool true)∧Below w.heap.size w w':=by
 have H1:=Lib.hid h
 have H2:=Lib.hid h'
 have HIH:=Lib.hid IH
 clear h h' IH
 go_enter Try.func21,Try.ntmps21
 go_wp2
 go_loopw [17] (fun q wr => EqRel ks.length w q wr) (fun q _ => ks.length - (intOf q).toNat)
 case atStart => exact ⟨0,by omega,rfl,Below.refl _ _⟩
 case round =>
  obtain ⟨i,hi,rfl,hb⟩:=hrel
  cases hd : ks[i]? with
  | none =>
   have h2 : ks.length≤i:=by simpa using hd
   clear hd
   go_wp2
   go_ret
   exact ⟨rfl,hb⟩
  | some y =>
   have h2:=(List.getElem?_eq_some_iff.1 hd).1
   have HY:=Lib.hid (HIH.out y (List.mem_of_getElem? hd))
   obtain ⟨b,o,cc,rfl,_,hbB,hyv,hcc⟩:=(H1.out.later hb).at_ hd
   obtain ⟨b',o',cc',rfl,_,hbB',hyv',hcc'⟩:=(H2.out.later hb).at_ hd
   have hrg : wr.rangeAt b (o + i * 18) cc:=fun j v hj => by rw [Nat.add_assoc];exact hcc j v hj
   have hcl:=hyv.len
   have hcl':=hyv'.len
   obtain ⟨W5,hW5⟩ : ∃ W5,W5=wr.alloc (.cells cc.toArray 36):=⟨_,rfl⟩
   have HW5 : Hid ((wr.alloc (.cells #[.int .i64 0,.string ⟨#[]⟩,.int .i64 0,.bool false,.bool false,.int .i64 0,.string ⟨#[]⟩,.bool false,.slice none 0 0,.int .i64 0,.int .i64 0,.bool false,.slice none 0 0,.slice none 0 0,.bool false,.bool false,.slice none 0 0,.slice none 0 0] 36)).setRow wr.heap.size cc.toArray=W5):=Lib.hid (by rw [hW5];exact World.setRow_alloc_new _ _ _ _)
   have hb5 : Below wr.heap.size wr W5:=by rw [hW5];exact (Below.refl _ _).alloc (Nat.le_refl _) _
   have hx5 : W5.heap[wr.heap.size]?=some (.cells cc.toArray 36 (0,0)):=by rw [hW5];exact heap_alloc_new _ _
   have hrg' : W5.rangeAt b' (o' + i * 18) cc':=fun j v hj => by rw [Nat.add_assoc];exact (hb5.cell hbB').trans (hcc' j v hj)
   obtain ⟨W6,hW6⟩ : ∃ W6,W6=W5.alloc (.cells cc'.toArray 36):=⟨_,rfl⟩
   have HW6 : Hid ((W5.alloc (.cells #[.int .i64 0,.string ⟨#[]⟩,.int .i64 0,.bool false,.bool false,.int .i64 0,.string ⟨#[]⟩,.bool false,.slice none 0 0,.int .i64 0,.int .i64 0,.bool false,.slice none 0 0,.slice none 0 0,.bool false,.bool false,.slice none 0 0,.slice none 0 0] 36)).setRow W5.heap.size cc'.toArray=W6):=Lib.hid (by rw [hW6];exact World.setRow_alloc_new _ _ _ _)
   have hb6 : Below W5.heap.size W5 W6:=by rw [hW6];exact (Below.refl _ _).alloc (Nat.le_refl _) _
   have HX6 : Hid (W6.heap[wr.heap.size]?=some (.cells cc.toArray 36 (0,0))):=Lib.hid ((hb6.block _ (heap_lt hx5)).trans hx5)
   have HY6 : Hid (W6.heap[W5.heap.size]?=some (.cells cc'.toArray 36 (0,0))):=Lib.hid (by rw [hW6];exact heap_alloc_new _ _)
   have hb56:=bel2 hb5 hb6
   have HC:=Lib.hid (HY.out S S' cc cc' W6 (hyv.later hb56) (hyv'.later hb56))
   have HON : Hid (∀ u ∈ cc.toArray.toList,u.oneCell'=true):=Lib.hid (fun u hu => hyv.one u (by simpa using hu))
   have HON' : Hid (∀ u ∈ cc'.toArray.toList,u.oneCell'=true):=Lib.hid (fun u hu => hyv'.one u (by simpa using hu))
   clear hd hyv hyv' HY hcc hcc' hW5 hW6 hx5
   go_wp2_with (first
    | (refine wpList_ldW rfl 36 (.tmp 20) rfl b (o + i * 18) rfl cc _ hrg snip_under rfl (by rw [snip_size,hcl]) ?_)
    | (refine wpList_ldW rfl 36 (.tmp 24) rfl b' (o' + i * 18) rfl cc' _ hrg' snip_under rfl (by rw [snip_size,hcl']) ?_)
    | (refine wpList_ldW rfl 36 (.tmp 8) rfl wr.heap.size 0 rfl cc _ (range_blk (ds:=[]) (by simpa using HX6.out)) snip_under rfl (by rw [snip_size,hcl]) ?_)
    | (refine wpList_ldW rfl 36 (.tmp 9) rfl W5.heap.size 0 rfl cc' _ (range_blk (ds:=[]) (by simpa using HY6.out)) snip_under rfl (by rw [snip_size,hcl']) ?_)
    | (refine wpList_stW rfl 36 (.tmp 8) (.tmp 21) rfl (wr.heap.size) (cc.toArray) rfl rfl 36 (#[.int .i64 0,.string ⟨#[]⟩,.int .i64 0,.bool false,.bool false,.int .i64 0,.string ⟨#[]⟩,.bool false,.slice none 0 0,.int .i64 0,.int .i64 0,.bool false,.slice none 0 0,.slice none 0 0,.bool false,.bool false,.slice none 0 0,.slice none 0 0]) (heap_alloc_new wr _) (snip_size) (by simp [hcl]) rfl (HON.out) (W:=W5) (HW5.out) ?_)
    | (refine wpList_stW rfl 36 (.tmp 9) (.tmp 25) rfl (W5.heap.size) (cc'.toArray) rfl rfl 36 (#[.int .i64 0,.string ⟨#[]⟩,.int .i64 0,.bool false,.bool false,.int .i64 0,.string ⟨#[]⟩,.bool false,.slice none 0 0,.int .i64 0,.int .i64 0,.bool false,.slice none 0 0,.slice none 0 0,.bool false,.bool false,.slice none 0 0,.slice none 0 0]) (heap_alloc_new W5 _) (snip_size) (by simp [hcl']) rfl (HON'.out) (W:=W6) (HW6.out) ?_)
    | (go_at_call 22;refine HC.out.mono ?_))
   first | rintro e w2 rfl hb2 | rintro e w2 ⟨rfl,hb2⟩
   have hb3 : Below w.heap.size w w2:=bel2 (bel2 hb hb56) hb2
   clear hb2 HC hb56 hb5 hb6
   go_wp2
   exact ⟨⟨i + 1,by omega,by go_num,hb3⟩,by simp [intOf];omega⟩
set_option maxHeartbeats 2000000 in
theorem NSame_step (S S' : Nat→Prop) (a a' : Option Addr) (c c' : Nat) (ks : List Sn) (w : World) (IH : ∀ y ∈ ks,NSameC y) (h : SnSl w S a ks.length ks) (h' : SnSl w S' a' ks.length ks) (hl : ks.length≤1000000) :
  Calls Try.prog 15 #[.slice a ks.length c,.slice a' ks.length c'] w fun e w' => e=.returned (.bool true)∧Below w.heap.size w w':=by
 have HC:=Lib.hid (NEqualF S S' a a' c c' ks w IH h h' hl)
 clear IH h h'
 go_enter Try.func15,Try.ntmps15
 go_wp2_with (go_at_call 21;refine HC.out.mono ?_;rintro e w1 ⟨rfl,hb1⟩)
 go_ret
 exact ⟨rfl,hb1⟩
def NSameL (ks : List Sn) : Prop:=∀ (S S' : Nat→Prop) (a a' : Option Addr) (c c' : Nat) (w : World),SnSl w S a ks.length ks→SnSl w S' a' ks.length ks →
 Calls Try.prog 15 #[.slice a ks.length c,.slice a' ks.length c'] w fun e w' => e=.returned (.bool true)∧Below w.heap.size w w'
set_option maxHeartbeats 4000000 in
theorem nsame_step {yk : Int} {yt : Str} {yn : Int} {yh yu : Bool} {yf : Tf} {yo : List Str} {ys : List Sn} (hf : yf.small) (ho : yo.length≤1000000) (HL : NSameL ys) : NSameC (.mk yk yt yn yh yu yf yo ys):=by
 intro S S' cc cc' w hv hv'
 have hl:=hv.len
 have hl':=hv'.len
 obtain ⟨fc,oa,oc,ka,kc,A⟩:=hv.at_
 obtain ⟨fc',oa',oc',ka',kc',A'⟩:=hv'.at_
 obtain ⟨W0,hW0⟩ : ∃ W0,W0=(w.alloc (.cells cc.toArray 36)).alloc (.cells cc'.toArray 36):=⟨_,rfl⟩
 have hb0 : Below w.heap.size w W0:=by rw [hW0];exact ((Below.refl _ _).alloc (Nat.le_refl _) _).alloc (by simp) _
 have HB1 : Hid (W0.heap[w.heap.size]?=some (.cells cc.toArray 36 (0,0))):=Lib.hid (by rw [hW0,Below.heap_alloc _ _ _ (by simp)];exact heap_alloc_new w _)
 have HB2 : Hid (W0.heap[w.heap.size + 1]?=some (.cells cc'.toArray 36 (0,0))):=Lib.hid (by
  have:=heap_alloc_new (w.alloc (.cells cc.toArray 36)) (.cells cc'.toArray 36)
  rw [hW0];simpa using this)
 have HXE:=Lib.hid (XSame_any S S' yf hf fc fc' W0 (A.fv.keep (Kept.all hb0)) (A'.fv.keep (Kept.all hb0)))
 have HFL:=A.fl
 have HFL':=A'.fl
 have HA:=Lib.hid A
 have HA':=Lib.hid A'
 have HW0:=Lib.hid hW0
 have HLL:=Lib.hid HL
 have HO:=Lib.hid ho
 obtain ⟨k0,k1,k2,k3,k4,k16,k17,kr⟩:=A.box HB1.out
 obtain ⟨q0,q1,q2,q3,q4,q16,q17,qr⟩:=A'.box HB2.out
 clear hv hv' A A' hW0 HL ho
 go_enter Try.func22,Try.ntmps22
 go_upto_region 1 with fail
 rw [← HW0.out]
 clear HW0
 go_wp2_with (first
  | (refine wpList_ldG (by rfl) 33 (.tmp 39) rfl w.heap.size 5 rfl fc _ kr form_under rfl (by rw [form_size,HFL]) ?_)
  | (refine wpList_ldG (by rfl) 33 (.tmp 41) rfl (w.heap.size + 1) 5 rfl fc' _ qr form_under rfl (by rw [form_size,HFL']) ?_)
  | (go_at_call 31;refine HXE.out.mono ?_))
 first | rintro e w1 rfl hb1 | rintro e w1 ⟨rfl,hb1⟩
 have hx1:=(hb1.block _ (heap_lt HB1.out)).trans HB1.out
 have hx2:=(hb1.block _ (heap_lt HB2.out)).trans HB2.out
 clear k0 k1 k2 k3 k4 k16 k17 kr q0 q1 q2 q3 q4 q16 q17 qr
 obtain ⟨_,_,_,_,_,k16,_,_⟩:=HA.out.box hx1
 obtain ⟨_,_,_,_,_,q16,_,_⟩:=HA'.out.box hx2
 have hb01:=bel2 hb0 hb1
 have HE:=Lib.hid (EqualStr oa oa' oc oc' yo w1 (HA.out.ov.keep (Kept.all hb01)).sl (HA'.out.ov.keep (Kept.all hb01)).sl HO.out)
 go_wp2_with (go_at_call 32;refine HE.out.mono ?_)
 first | rintro e w2 rfl hb2 | rintro e w2 ⟨rfl,hb2⟩
 have hy1:=(hb2.block _ (heap_lt hx1)).trans hx1
 have hy2:=(hb2.block _ (heap_lt hx2)).trans hx2
 clear k16 q16 hx1 hx2
 obtain ⟨_,_,_,_,_,_,k17,_⟩:=HA.out.box hy1
 obtain ⟨_,_,_,_,_,_,q17,_⟩:=HA'.out.box hy2
 have hb02:=bel2 hb01 hb2
 have HS:=Lib.hid (HLL.out S S' ka ka' kc kc' w2 (HA.out.kv.later hb02) (HA'.out.kv.later hb02))
 go_wp2_with (go_at_call 15;refine HS.out.mono ?_)
 first | rintro e w3 rfl hb3 | rintro e w3 ⟨rfl,hb3⟩
 have hb03:=bel2 hb02 hb3
 clear k17 q17
 go_wp2
 go_ret
 exact ⟨rfl,hb03⟩
theorem NSame_any : ∀ (N : Nat) (ks : List Sn),Sn.partsL ks < N→Sn.smallL ks→ks.length≤1000000→NSameL ks
 | 0,ks,h,_,_ => by omega
 | N + 1,ks,h,hsm,hl => fun S S' a a' c c' w hx hx' => NSame_step S S' a a' c c' ks w (fun y hy => by
   have h1:=Sn.parts_mem hy
   have h2:=Sn.small_mem hsm y hy
   obtain ⟨yk,yt,yn,yh,yu,yf,yo,ys⟩:=y
   obtain ⟨hf,ho,h3,_,h4⟩:=h2
   simp only [Sn.parts] at h1
   exact nsame_step hf ho (NSame_any N ys (by omega) h4 h3)) hx hx' hl
end Go.Proofs.Ytbgcjpefocdkkaa
/- walks of the references: ref15.Digits -/
set_option maxRecDepth 100000
namespace Go.Proofs.Ytbgcjpefocdkkaa
open Go.RowKit
theorem conv_digit (W : World) (n : Nat) (z : Int) (hz : z=n) : (convert 61 9 (.slice (some ⟨W.heap.size,0,none⟩) 1 1)).run Try.prog (W.alloc (.cells #[.int .u8 (48 + z % 10)] 5))=.ok (.string ⟨([UInt8.ofNat (48 + n % 10)]).toArray⟩) (W.alloc (.cells #[.int .u8 (48 + z % 10)] 5)):=by
 subst hz
 refine conv_own (B:=W.heap.size) (n:=1) Try.underlying61 Try.underlying5 Try.underlying9 ?_
 refine ⟨rfl,.inr ⟨W.heap.size,1,_,rfl,Nat.le_refl _,heap_alloc_new W _,by decide,by decide,rfl,?_⟩⟩
 simp [bcells]
 omega
def DgRel (R : Str) (W0 : World) (q p : Value) (wr : World) : Prop:=∃ (m : Nat) (s : Str),m≤10000∧s.length + m≤20000∧q=.int .i64 m∧p=.string ⟨(s).toArray⟩∧Below W0.heap.size W0 wr∧Hid ((if m < 10 then [] else Lib.decDigits (m / 10)) ++ s=R)
theorem digits_step (m : Nat) : (if m < 10 then [] else Lib.decDigits (m / 10)) ++ [UInt8.ofNat (48 + m % 10)]=Lib.decDigits m:=by
 rw [Lib.decDigits.eq_1 m]
 by_cases h : m < 10
 ·rw [if_pos h,dif_pos h,Nat.mod_eq_of_lt h];rfl
 ·rw [if_neg h,dif_neg h]
set_option maxHeartbeats 1000000 in
theorem Digits_any (n : Nat) (w : World) (hn : n≤10000) :
  Calls Try.prog 14 #[.int .i64 n] w fun e w' => e=.returned (.string ⟨(Lib.decDigits n).toArray⟩)∧Below w.heap.size w w':=by
 generalize hR : Lib.decDigits n=R
 have HR:=Lib.hid hR
 clear hR
 have hc:=conv_digit w n n rfl
 go_enter Try.func14,Try.ntmps14
 go_wp2
 go_loopw [0,3] (fun q p wr => DgRel R w q p wr) (fun q _ _ => (intOf q).toNat)
 case atStart => exact ⟨n,[UInt8.ofNat (48 + n % 10)],by omega,by simp;omega,rfl,by simp,(Below.refl _ _).alloc (Nat.le_refl _) _,Lib.hid (by rw [← HR.out];exact digits_step n)⟩
 case round =>
  obtain ⟨m,s,hm,hs,rfl,rfl,hb,HF⟩:=hrel
  have hc2:=conv_digit wr (m / 10) ((m : Int) / 10) (by omega)
  have hB:=hb.size
  by_cases h9 : m < 10
  ·have HE : Hid (R=s):=Lib.hid (by rw [← HF.out,if_pos h9];rfl)
   have g9 : decide ((10 : Int)≤m)=false:=by rw [decide_eq_false_iff_not];omega
   go_wp2
   go_ret
   exact ⟨ret_str HE.out.symm,hb⟩
  ·have HE : Hid (Lib.decDigits (m / 10) ++ s=R):=Lib.hid (by rw [← HF.out,if_neg h9])
   go_wp2
   go_roundw
   case rel => exact ⟨m / 10,UInt8.ofNat (48 + m / 10 % 10) :: s,by omega,by simp;omega,by go_num,by simp,hb.alloc hB _,Lib.hid (by rw [← HE.out,← digits_step (m / 10)];simp)⟩
   case measure => simp [intOf];omega
end Go.Proofs.Ytbgcjpefocdkkaa
/- walk of gimletlaw21.SreadText -/
set_option maxRecDepth 100000
namespace Go.Proofs.Ytbgcjpefocdkkaa
open Go.RowKit
theorem sreadH {T : Str} {l : List Sn} (h : snipM T=.ok l) (hl : T.length≤100000) : ∀ (s : Str) (w : World),s=T→Calls Try.prog 10 #[.string ⟨(s).toArray⟩] w fun e w' => ∃ (a : Option Addr) (c : Nat),e=.returned (.tuple #[.slice a l.length c,.int .i64 0])∧Below w.heap.size w w'∧SnSl w' (fun b => w.heap.size≤b) a l.length l:=by
 rintro s w rfl;exact SRead_ok w (by omega) h
theorem snipM_ok {T : Str} {l : List Sn} (h : snipL T=l) (hl : T.length≤8192) (hd : Sn.deepL l≤32) : snipM T=.ok l:=by
 unfold snipM;rw [if_neg (by omega),h,if_neg (by omega)]
theorem dig4 {k : Nat} (h : k≤9999) : (Lib.decDigits k).length≤4:=by
 rw [Lib.decDigits_length];exact (nDigits_le (by omega)).2
theorem nsame {ks : List Sn} (hs : Sn.smallL ks) (hl : ks.length≤1000000) : NSameL ks:=NSame_any (Sn.partsL ks + 1) ks (by omega) hs hl
theorem snsl_one {W : World} {cc : List Value} {x : Sn} {t : TypeId} {b : Nat} (h : SnV W (fun _ => True) cc x) (hb : W.heap[b]?=some (.cells cc.toArray t (0,0))) : SnSl W (fun _ => True) (some ⟨b,0,none⟩) 1 [x]:=SnSl.one h hb trivial
set_option maxHeartbeats 4000000 in
theorem SreadText_walk (s : Str) (n : Int) (w : World) (hs : s.length≤maxLen) : Calls Try.prog 4 #[.string ⟨(s).toArray⟩,.int .i64 n] w fun e w' => e=.returned (.bool true)∧Below w.heap.size w w':=by
 unfold maxLen at hs
 by_cases h1 : s.length≤150
 ·have dg : decide ((150 : Int) < (s.length : Int))=false:=decide_eq_false (by omega)
  have hlow:=low_lt n (n:=10000) (by omega)
  obtain ⟨k,hk⟩ : ∃ k : Nat,low n 10000=k:=⟨(low n 10000).toNat,by omega⟩
  have hk9 : k≤9999:=by omega
  have HL:=Lib.hid (fun w => hk ▸ Low_any n 10000 w (by omega) (by omega))
  have hql:=quot_len three s
  have hdl:=dig4 hk9
  have HG:=Lib.hid (fun w => guard21 s three w (by omega) (by decide) (by decide))
  unfold three at HG
  by_cases h0 : s=[]
  ·subst h0
   have hr1 : snipM (quot three [])=.ok []:=snipM_ok (by rw [snip_quot];rfl) (by omega) (by decide)
   have hr2 : snipM (36 :: 123 :: (Lib.decDigits k ++ 58 :: (quot three [] ++ [125])))=.ok [(stopS k).give []]:=snipM_ok (by rw [read_default hk9];rfl) (by simp [quot];omega) (by simp [Sn.deepL,Sn.deep,stopS,Sn.give])
   have H1:=Lib.hid (sreadH hr1 (by omega))
   have H2:=Lib.hid (sreadH hr2 (by simp [quot];omega))
   unfold three at H1 H2 hql
   obtain ⟨T,hT⟩ : ∃ T,quot [36,125,92] []=T:=⟨_,rfl⟩
   rw [hT] at H1 H2 HG hql
   have HS1:=Lib.hid (nsame (ks:=[]) trivial (by simp))
   have HS2:=Lib.hid (nsame (ks:=[(stopS k).give []]) ⟨⟨tf0_small,by simp,by simp,by simp,trivial⟩,trivial⟩ (by simp))
   clear hlow hk hr1 hr2 hT
   go_enter Try.func4,Try.ntmps4
   go_wp2_with (go_at_call 13;refine (HG.out _).mono ?_)
   rintro e w1 ⟨rfl,hb1⟩
   go_wp2_with (go_at_call 9;refine (HL.out _).mono ?_)
   rintro e wl ⟨rfl,rfl⟩
   go_wp2_with (go_at_call 10;refine (H1.out _ _ rfl).mono ?_)
   rintro e w2 ⟨a2,c2,rfl,hb2,hs2⟩
   go_wp2_with (go_at_call 14;refine (Digits_any k _ (by omega)).mono ?_)
   rintro e w3 ⟨rfl,hb3⟩
   go_wp2_with (go_at_call 10;refine (H2.out _ _ (by simp)).mono ?_)
   rintro e w4 ⟨a4,c4,rfl,hb4,hs4⟩
   have hbw4:=bel2 (bel2 (bel2 hb1 hb2) hb3) hb4
   have HSa:=Lib.hid (HS1.out _ (fun _ => True) a2 none c2 0 w4 ((hs2.later hb3).later hb4) (SnSl.nil _ _ _))
   have HS4:=Lib.hid hs4
   clear hb1 hb2 hb3 hb4 hs2 hs4
   go_wp2_with (go_at_call 15;refine HSa.out.mono ?_)
   first | rintro e w6 rfl hb6 | rintro e w6 ⟨rfl,hb6⟩
   have hb7 : Below w6.heap.size w6 (w6.alloc (.cells #[.int .i64 1,.string ⟨([]).toArray⟩,.int .i64 (k : Int),.bool true,.bool false,.int .i64 0,.string ⟨#[]⟩,.bool false,.slice none 0 0,.int .i64 0,.int .i64 0,.bool false,.slice none 0 0,.slice none 0 0,.bool false,.bool false,.slice none 0 0,.slice none 0 0] 36)):=(Below.refl _ _).alloc (Nat.le_refl _) _
   have hwant2:=snsl_one (cc:=[.int .i64 1,.string ⟨([]).toArray⟩,.int .i64 (k : Int),.bool true,.bool false,.int .i64 0,.string ⟨#[]⟩,.bool false,.slice none 0 0,.int .i64 0,.int .i64 0,.bool false,.slice none 0 0,.slice none 0 0,.bool false,.bool false,.slice none 0 0,.slice none 0 0]) (hx_v (os:=[]) (ks:=[]) (SlS.none_ _ _ _ _) (SnSl.nil _ _ _)) (heap_alloc_new w6 (.cells #[.int .i64 1,.string ⟨([]).toArray⟩,.int .i64 (k : Int),.bool true,.bool false,.int .i64 0,.string ⟨#[]⟩,.bool false,.slice none 0 0,.int .i64 0,.int .i64 0,.bool false,.slice none 0 0,.slice none 0 0,.bool false,.bool false,.slice none 0 0,.slice none 0 0] 36))
   have HSb:=Lib.hid (HS2.out _ (fun _ => True) a4 _ c4 1 _ ((HS4.out.later hb6).later hb7) hwant2)
   have hbw7:=bel2 (bel2 hbw4 hb6) hb7
   clear hb6 hb7 hwant2
   go_wp2_with (go_at_call 15;refine HSb.out.mono ?_)
   first | rintro e w8 rfl hb8 | rintro e w8 ⟨rfl,hb8⟩
   have hbw8:=bel2 hbw7 hb8
   go_wp2_with (go_at_call 11;refine (awake21 _).mono ?_;rintro e w9 ⟨rfl,hb9⟩)
   go_ret
   exact ⟨rfl,bel2 hbw8 hb9⟩
  ·have hw : withT [] s=[textS s]:=by unfold withT;rw [if_neg h0];rfl
   have hr1 : snipM (quot three s)=.ok [textS s]:=snipM_ok (by rw [snip_quot,hw]) (by omega) (by simp [Sn.deepL,Sn.deep,textS])
   have hr2 : snipM (36 :: 123 :: (Lib.decDigits k ++ 58 :: (quot three s ++ [125])))=.ok [(stopS k).give [textS s]]:=snipM_ok (by rw [read_default hk9,hw]) (by simp;omega) (by simp [Sn.deepL,Sn.deep,textS,stopS,Sn.give])
   have H1:=Lib.hid (sreadH hr1 (by omega))
   have H2:=Lib.hid (sreadH hr2 (by simp;omega))
   unfold three at H1 H2 hql
   obtain ⟨T,hT⟩ : ∃ T,quot [36,125,92] s=T:=⟨_,rfl⟩
   rw [hT] at H1 H2 HG hql
   have hne : (⟨s.toArray⟩ : ByteArray)≠⟨#[]⟩:=fun e => h0 (by simpa using e)
   have hq1 : (s == ([] : Str))=false:=by simpa using h0
   have hq2 : (s != ([] : Str))=true:=by simp [bne,hq1]
   have hq3 : decide (s=([] : Str))=false:=decide_eq_false h0
   have HS1:=Lib.hid (nsame (ks:=[textS s]) ⟨textS_small (by omega),trivial⟩ (by simp))
   have HS2:=Lib.hid (nsame (ks:=[(stopS k).give [textS s]]) ⟨⟨tf0_small,by simp,by simp,by simp,textS_small (by omega),trivial⟩,trivial⟩ (by simp))
   clear hlow hk hw hr1 hr2 hT
   go_enter Try.func4,Try.ntmps4
   go_wp2_with (go_at_call 13;refine (HG.out _).mono ?_)
   rintro e w1 ⟨rfl,hb1⟩
   go_wp2_with (go_at_call 9;refine (HL.out _).mono ?_)
   rintro e wl ⟨rfl,rfl⟩
   go_wp2_with (go_at_call 10;refine (H1.out _ _ rfl).mono ?_)
   rintro e w2 ⟨a2,c2,rfl,hb2,hs2⟩
   go_wp2_with (go_at_call 14;refine (Digits_any k _ (by omega)).mono ?_)
   rintro e w3 ⟨rfl,hb3⟩
   go_wp2_with (go_at_call 10;refine (H2.out _ _ (by simp)).mono ?_)
   rintro e w4 ⟨a4,c4,rfl,hb4,hs4⟩
   obtain ⟨W5,hW5⟩ : ∃ W5,W5=w4.alloc (.cells #[.int .i64 0,.string ⟨(s).toArray⟩,.int .i64 0,.bool false,.bool false,.int .i64 0,.string ⟨#[]⟩,.bool false,.slice none 0 0,.int .i64 0,.int .i64 0,.bool false,.slice none 0 0,.slice none 0 0,.bool false,.bool false,.slice none 0 0,.slice none 0 0] 36):=⟨_,rfl⟩
   have hb5 : Below w4.heap.size w4 W5:=by rw [hW5];exact (Below.refl _ _).alloc (Nat.le_refl _) _
   have hx5 : W5.heap[w4.heap.size]?=some (.cells #[.int .i64 0,.string ⟨(s).toArray⟩,.int .i64 0,.bool false,.bool false,.int .i64 0,.string ⟨#[]⟩,.bool false,.slice none 0 0,.int .i64 0,.int .i64 0,.bool false,.slice none 0 0,.slice none 0 0,.bool false,.bool false,.slice none 0 0,.slice none 0 0] 36 (0,0)):=by rw [hW5];exact heap_alloc_new _ _
   have hwant : SnSl W5 (fun _ => True) (some ⟨w4.heap.size,0,none⟩) 1 [textS s]:=snsl_one (cc:=[.int .i64 0,.string ⟨(s).toArray⟩,.int .i64 0,.bool false,.bool false,.int .i64 0,.string ⟨#[]⟩,.bool false,.slice none 0 0,.int .i64 0,.int .i64 0,.bool false,.slice none 0 0,.slice none 0 0,.bool false,.bool false,.slice none 0 0,.slice none 0 0]) (textS_v W5 (fun _ => True) s) hx5
   have hbw4:=bel2 (bel2 (bel2 hb1 hb2) hb3) hb4
   have HSa:=Lib.hid (HS1.out _ (fun _ => True) a2 (some ⟨w4.heap.size,0,none⟩) c2 1 W5 (((hs2.later hb3).later hb4).later hb5) hwant)
   have HWA:=Lib.hid hwant
   have HS5:=Lib.hid (hs4.later hb5)
   have hbw5:=bel2 hbw4 hb5
   clear hb1 hb2 hb3 hb4 hb5 hs2 hs4 hx5 hwant hbw4
   go_upto_region 10 with fail
   rw [← hW5]
   clear hW5
   go_wp2_with (go_at_call 15;refine HSa.out.mono ?_)
   first | rintro e w6 rfl hb6 | rintro e w6 ⟨rfl,hb6⟩
   have hb7 : Below w6.heap.size w6 (w6.alloc (.cells #[.int .i64 1,.string ⟨([]).toArray⟩,.int .i64 (k : Int),.bool true,.bool false,.int .i64 0,.string ⟨#[]⟩,.bool false,.slice none 0 0,.int .i64 0,.int .i64 0,.bool false,.slice none 0 0,.slice none 0 0,.bool false,.bool false,.slice none 0 0,.slice (some ⟨w4.heap.size,0,none⟩) 1 1] 36)):=(Below.refl _ _).alloc (Nat.le_refl _) _
   have hwant2:=snsl_one (cc:=[.int .i64 1,.string ⟨([]).toArray⟩,.int .i64 (k : Int),.bool true,.bool false,.int .i64 0,.string ⟨#[]⟩,.bool false,.slice none 0 0,.int .i64 0,.int .i64 0,.bool false,.slice none 0 0,.slice none 0 0,.bool false,.bool false,.slice none 0 0,.slice (some ⟨w4.heap.size,0,none⟩) 1 1]) (hx_v (os:=[]) (ks:=[textS s]) (SlS.none_ _ _ _ _) ((HWA.out.later hb6).later hb7)) (heap_alloc_new w6 (.cells #[.int .i64 1,.string ⟨([]).toArray⟩,.int .i64 (k : Int),.bool true,.bool false,.int .i64 0,.string ⟨#[]⟩,.bool false,.slice none 0 0,.int .i64 0,.int .i64 0,.bool false,.slice none 0 0,.slice none 0 0,.bool false,.bool false,.slice none 0 0,.slice (some ⟨w4.heap.size,0,none⟩) 1 1] 36))
   have HSb:=Lib.hid (HS2.out _ (fun _ => True) a4 _ c4 1 _ ((HS5.out.later hb6).later hb7) hwant2)
   have hbw7:=bel2 (bel2 hbw5 hb6) hb7
   clear hb6 hb7 hwant2
   go_wp2_with (go_at_call 15;refine HSb.out.mono ?_)
   first | rintro e w8 rfl hb8 | rintro e w8 ⟨rfl,hb8⟩
   have hbw8:=bel2 hbw7 hb8
   go_wp2_with (go_at_call 11;refine (awake21 _).mono ?_;rintro e w9 ⟨rfl,hb9⟩)
   go_ret
   exact ⟨rfl,bel2 hbw8 hb9⟩
 ·have dg : decide ((150 : Int) < (s.length : Int))=true:=decide_eq_true (by omega)
  go_enter Try.func4,Try.ntmps4
  go_wp2_with (go_at_call 11;refine (awake21 _).mono ?_;rintro e w9 ⟨rfl,hb9⟩)
  go_ret
  exact ⟨rfl,hb9⟩
end Go.Proofs.Ytbgcjpefocdkkaa
/- From a walk to a row: the arguments read as they did, whatever new blocks the call has made. -/
set_option maxRecDepth 100000
namespace Go.Proofs.Ytbgcjpefocdkkaa
open Go.RowKit Go.WideShapes Go.ChangeShapes
theorem own : ownKnob Try.prog.godebug=none:=by kernel_rfl
section
variable {H : Type} {enc : TypeId × Value→H} {P : Program}
theorem args_again (hl : laidOutB P=true) {W W' : World} (hb : Below W.heap.size W W') : ∀ {ts : List TypeId} {vs : List Value} {ds : List (DataW H)} {ps : List MemPlace},
  (∀ t ∈ ts,P.readableRec t=true∧t < P.types.size)→DataW.TrodAll enc P W 0 (fun _ => true) true ts vs ds ps→(∀ p ∈ ps,p.block < W.heap.size)→∀ sp : Nat→Bool,(∀ p ∈ ps,sp p.block=true) →
  DataW.TrodAll enc P W' 0 sp true ts vs ds ps
 | [],vs,ds,ps,_,h,_,sp,_ => by
  obtain ⟨rfl,rfl,rfl⟩:=trodAll_nil h
  exact trodAll_mk0
 | t :: ts,vs,ds,ps,ht,h,hlt,sp,hsp => by
  obtain ⟨v,vs',d,ds',p,q,rfl,rfl,rfl,h1,h2⟩:=trodAll_cons h
  obtain ⟨r1,r2⟩:=ht t (List.mem_cons_self ..)
  exact trodAll_cons_mk (WideElems.Trod_stays hl r1 r2 h1 (fun x hx => hb.same (hlt x (List.mem_append_left _ hx))) (fun x hx => hsp x (List.mem_append_left _ hx)))
   (args_again hl hb (fun t hm => ht t (List.mem_cons_of_mem _ hm)) h2 (fun x hx => hlt x (List.mem_append_right _ hx)) sp (fun x hx => hsp x (List.mem_append_right _ hx)))
theorem post_of_below {f : Func} {s : ChangeSpec} {apart fresh handsOn again : Bool} {W W' : World} {args : Array Value} {v : Value} {ds gs : List (DataW H)} {before pa pv : List MemPlace}
  (hW : DataW.Whole enc P f.params.toList s.vars apart W args.toList ds gs before)
  (hres : ∀ (b : Nat) (sp : Nat→Bool) (hd : Bool),DataW.TrodAll enc P W' b sp hd f.resultTypes.toList (v.resultList f.resultTypes.size) (s.fn H (ds ++ gs)).results [])
  (hargs : ∀ sp : Nat→Bool,(∀ p ∈ before,sp p.block=true)→DataW.TrodAll enc P W' 0 sp true f.params.toList args.toList (s.fn H (ds ++ gs)).args pa)
  (hvars : ∀ sp : Nat→Bool,(∀ p ∈ before,sp p.block=true)→DataW.TrodVars enc P W' sp s.vars (s.fn H (ds ++ gs)).vars pv)
  (hps : before=pa ++ pv) (hb : Below W.heap.size W W')
  (hok : ∀ (j : Nat) (t : TypeId) (r : Value),f.resultTypes[j]?=some t→(v.resultList f.resultTypes.size)[j]?=some r→Value.okWide P W' .any 0 t r) :
  s.post enc P f apart fresh handsOn again W args v W':=by
 have hlt : ∀ p ∈ before,p.block < W.heap.size:=fun p hp => hW.lt p hp
 have hold : ∀ p ∈ before,(fun b => decide (b < W.heap.size)) p.block=true:=fun p hp => by simpa using hlt p hp
 refine ⟨ds,gs,before,[],pa,pv,hW,hres _ _ _,hargs _ hold,hvars _ hold,World.keptBut_mono (fun p hp => ⟨hp,?_⟩) (hb.frame (· ∈ before)),fun _ => ?_⟩
 ·rw [hps,List.mem_append] at hp
  exact Or.inr hp
 ·obtain ⟨_,_,_,_,_,hz,hn⟩:=hW
  refine ⟨hok,_,_,([] ++ pa) ++ pv,⟨[] ++ pa,pv,trodAll_append (hargs _ (fun _ _ => rfl)) (hres _ _ _),hvars _ (fun _ _ => rfl),rfl,?_,?_⟩,?_⟩
  ·intro b off hp
   have hin : MemPlace.cell b off ∈ before:=by rw [hps];simpa using hp
   rw [hb.frozen (hlt _ hin)]
   exact hz b off hin
  ·intro ha
   have:=hn ha
   rw [hps] at this
   simpa using this
  ·intro p hp _
   rw [hps]
   simpa using hp
end
end Go.Proofs.Ytbgcjpefocdkkaa
/- walk of Long -/
set_option maxRecDepth 100000
namespace Go.Proofs.Ytbgcjpefocdkkaa
open Go.RowKit
/-- 'Long': do texts have more than n bytes together, one for each of them too? -/
def longL : List Str→Int→Bool
 | [],_ => false
 | s :: r,n => if n≤s.length then true else longL r (n - s.length - 1)
def LongRel (ps : List Str) (n : Nat) (w : World) (R : Bool) (s q : Value) (wr : World) : Prop :=
 ∃ (k : Nat) (m' : Int),k≤n∧q=.int .i64 k∧s=.int .i64 m'∧-100000≤m'∧m'≤100000∧Below w.heap.size w wr∧Hid (longL (ps.drop k) m'=R)
set_option maxHeartbeats 4000000 in
theorem Long_any (a : Option Addr) (n c : Nat) (m : Int) (ps : List Str) (w : World) (h : Sl w w.heap.size a 1 n (scells ps)) (hn : n≤maxLen) (hm : -100000≤m∧m≤100000)
  (hsz : ∀ p ∈ ps,p.length≤maxLen) :
  Calls Try.prog 17 #[.int .i64 m,.slice a n c] w fun e w' => e=.returned (.bool (longL ps m))∧Below w.heap.size w w':=by
 unfold maxLen at hn hsz
 generalize hR : longL ps m=R
 have HR:=Lib.hid hR
 clear hR
 have HR0 : Hid (longL (ps.drop 0) m=R):=HR
 have Hn:=Lib.hid h.str_len
 have HSl:=Lib.hid h
 have HSz:=Lib.hid hsz
 clear HR h hsz
 obtain ⟨hm0,hm1⟩:=hm
 go_enter Try.func17,Try.ntmps17
 go_wp2
 go_loopw [0,5] (fun s q wr => LongRel ps n w R s q wr) (fun _ q _ => n - (intOf q).toNat)
 case atStart => exact ⟨0,m,by omega,rfl,rfl,hm0,hm1,Below.refl _ _,HR0⟩
 case round =>
  obtain ⟨k,m',hk,rfl,rfl,hm2,hm3,hb,HF⟩:=hrel
  clear HR0
  cases hd : ps.drop k with
  | nil =>
   have h2 : n≤k:=by have:=Hn.out;simp at hd;omega
   have HF' : Hid (longL [] m'=R):=Lib.hid (by rw [← hd];exact HF.out)
   clear hd HF
   go_wp2
   go_ret
   exact ⟨ret_bool HF'.out,hb⟩
  | cons f r =>
   obtain ⟨h2,h3,hr⟩:=ldrop_cons hd
   have HF' : Hid (longL (f :: r) m'=R):=Lib.hid (by rw [← hd];exact HF.out)
   have Hr:=Lib.hid hr
   have hkn : k < n:=by have:=Hn.out;omega
   obtain ⟨b,o,rfl,hbB,c0⟩:=(HSl.out.keep hb).str h3
   have z1:=HSz.out f (List.mem_of_getElem? h3)
   clear hd HF hr h2 h3
   by_cases hA : m'≤f.length
   ·have HE : Hid (R=true):=Lib.hid (by rw [← HF'.out];simp only [longL];exact if_pos hA)
    go_wp2
    go_ret
    exact ⟨ret_bool HE.out.symm,hb⟩
   ·have HE : Hid (R=longL r (m' - f.length - 1)):=Lib.hid (by rw [← HF'.out];simp only [longL];exact if_neg hA)
    go_wp2
    go_roundw
    case rel =>
     refine ⟨k + 1,m' - f.length - 1,by omega,by go_num,rfl,by omega,by omega,hb,Lib.hid ?_⟩
     rw [Hr.out,HE.out]
    case measure => simp [intOf];omega
end Go.Proofs.Ytbgcjpefocdkkaa
