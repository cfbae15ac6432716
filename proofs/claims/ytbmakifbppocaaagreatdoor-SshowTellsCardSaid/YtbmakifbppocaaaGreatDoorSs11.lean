/- walk of gimletref20.stop -/
import Derived.Test.YtbmakifbppocaaaGreatDoorSs1
import Derived.Test.YtbmakifbppocaaaGreatDoorSs2
import Derived.Deep.LoopGhost
import Derived.IntWalk
import Derived.Test.YtbmakifbppocaaaGreatDoorSs3
import Derived.Maps.OwnSet
import Derived.Maps.Keyed
import Derived.Test.YtbmakifbppocaaaGreatDoorSs4
import Derived.Test.YtbmakifbppocaaaGreatDoorSs5
import Derived.Test.YtbmakifbppocaaaGreatDoorSs6
import Derived.Test.YtbmakifbppocaaaGreatDoorSs7
import Derived.Test.YtbmakifbppocaaaGreatDoorSs8
import Derived.Test.YtbmakifbppocaaaGreatDoorSs9
import Derived.Test.YtbmakifbppocaaaGreatDoorSs10
import Derived.Deep.AppendLies
set_option maxRecDepth 100000
namespace Go.Proofs.YtbmakifbppocaaaGreatDoor
open Go.RowKit
/-- 'may' of the reference, besides how deep it is. -/
def mayR (ks:List Sn):Bool:=adjS false ks && Sn.wfL ks
def RmC (ks:List Sn):Prop:=∀ (S:Nat→Prop) (a:Option Addr) (c:Nat) (w:World),SnSl w S a ks.length ks →
 Calls Tryz.prog 23 #[.slice a ks.length c] w fun e w'=>e=.returned (.bool (mayR ks))∧Below w.heap.size w w'
theorem RmC_nil:RmC []:=by
 intro S a c w hx
 have hl:([]:List Sn).length=0:=rfl
 rw [hl]
 clear hx
 go_enter Tryz.func23,Tryz.ntmps23
 go_wp2
 go_loopw [3] (fun q wr=>q=.int .i64 0∧wr=w) (fun _ _=>0)
 case atStart=>exact ⟨rfl,rfl⟩
 case round =>
  obtain ⟨rfl,rfl⟩:=hrel
  go_wp2
  go_ret
  exact ⟨rfl,Below.refl _ _⟩
def stopB (h u:Bool) (f:Tf) (o:List Str) (ks:List Sn):Bool:=o.isEmpty && (if h=true then !u && (tfZ f && mayR ks) else if u=true then ks.isEmpty && tfMay f else ks.isEmpty && tfZ f)
theorem stopB_eq (k:Int) (t:Str) (n:Int) (h u:Bool) (f:Tf) (o:List Str) (ks:List Sn):stopB h u f o ks=(o.isEmpty && (besidesS (.mk k t n h u f o ks) && (!h || mayR ks))):=by
 unfold stopB
 congr 1
 cases h with
 | true=>cases u with
  | true=>rfl
  | false=>rfl
 | false=>cases u with
  | true =>
   show _=((ks.isEmpty && tfMay f) && true)
   rw [Bool.and_true];rfl
  | false =>
   show _=((!false && (!false && (ks.isEmpty && tfZ f))) && true)
   rw [Bool.and_true];rfl
set_option maxHeartbeats 2000000 in
theorem Stop20_any (S:Nat→Prop) (k:Int) (t:Str) (n:Int) (h u:Bool) (f:Tf) (hf:f.small) (o:List Str) (ks:List Sn) (IH0:h=true→RmC ks) (cc:List Value) (w:World) (hv:SnV w S cc (.mk k t n h u f o ks)) :
  Calls Tryz.prog 33 #[.agg cc.toArray] w fun e w'=>e=.returned (.bool (stopB h u f o ks))∧Below w.heap.size w w':=by
 obtain ⟨W0,hW0⟩:∃ W0,W0=w.alloc (.cells cc.toArray 38):=⟨_,rfl⟩
 have hb0:Below w.heap.size w W0:=by rw [hW0];exact (Below.refl _ _).alloc (Nat.le_refl _) _
 have HB1:Hid (W0.heap[w.heap.size]?=some (.cells cc.toArray 38 (0,0))):=Lib.hid (by rw [hW0];exact heap_alloc_new w _)
 have HW0:=Lib.hid hW0
 obtain ⟨fc,oa,oc,ka,kc,A⟩:=hv.at_
 obtain ⟨k0,k1,k2,k3,k4,k16,k17,kr⟩:=A.box HB1.out
 have HFC:=Lib.hid A.fl
 have HFV:=Lib.hid (A.fv.keep (Kept.all hb0))
 have HKV:=Lib.hid (A.kv.later hb0)
 have HA:=Lib.hid A
 clear hW0 A hv
 have HXE:=Lib.hid (SameFormZ_any S f fc W0 HFV.out)
 have HXM:=Lib.hid (R19May_any S f hf fc W0 HFV.out)
 have IH:=Lib.hid IH0
 clear hf HFV IH0
 cases o with
 | cons a o' =>
  rw [show stopB h u f (a :: o') ks=false from rfl]
  obtain ⟨on,hon⟩:∃ on,(a :: o').length=on:=⟨_,rfl⟩
  rw [hon] at k16
  have hop:0 < on:=by rw [← hon];simp
  have g1:decide ((0:Int) < (on:Int))=true:=decide_eq_true (by omega)
  have g2:decide (0 < on)=true:=decide_eq_true hop
  clear hon HKV HA IH
  go_enter Tryz.func33,Tryz.ntmps33
  go_upto_region 1 with fail
  rw [← HW0.out]
  clear HW0
  go_wp2
  go_ret
  exact ⟨rfl,hb0⟩
 | nil =>
  have hl0:([]:List Str).length=0:=rfl
  rw [hl0] at k16
  cases h with
  | true =>
   cases u with
   | true =>
    rw [show stopB true true f [] ks=false from rfl]
    go_enter Tryz.func33,Tryz.ntmps33
    go_upto_region 1 with fail
    rw [← HW0.out]
    clear HW0
    go_wp2
    go_ret
    exact ⟨rfl,hb0⟩
   | false =>
    rw [show stopB true false f [] ks=(tfZ f && mayR ks) from rfl]
    have HI:Hid (RmC ks):=Lib.hid (IH.out rfl)
    clear IH
    cases hz:tfZ f with
    | false =>
     rw [hz] at HXE
     rw [Bool.false_and]
     clear hz
     go_enter Tryz.func33,Tryz.ntmps33
     go_upto_region 1 with fail
     rw [← HW0.out]
     clear HW0
     go_wp2_with (first
      | (refine wpList_ldW rfl 35 (.tmp 28) rfl w.heap.size 5 rfl fc _ kr form_under rfl (by rw [form_size,HFC.out]) ?_)
      | (refine wpList_ldW rfl 35 (.tmp 31) rfl w.heap.size 5 rfl fc _ kr form_under rfl (by rw [form_size,HFC.out]) ?_)
      | (go_at_call 32;refine HXE.out.mono ?_))
     first | rintro e w1 rfl hb1 | rintro e w1 ⟨rfl,hb1⟩
     have HX1:=Lib.hid ((hb1.block _ (heap_lt HB1.out)).trans HB1.out)
     have hbw1:=bel2 hb0 hb1
     go_wp2
     go_ret
     exact ⟨rfl,hbw1⟩
    | true =>
     rw [hz] at HXE
     rw [Bool.true_and]
     clear hz
     go_enter Tryz.func33,Tryz.ntmps33
     go_upto_region 1 with fail
     rw [← HW0.out]
     clear HW0
     go_wp2_with (first
      | (refine wpList_ldW rfl 35 (.tmp 28) rfl w.heap.size 5 rfl fc _ kr form_under rfl (by rw [form_size,HFC.out]) ?_)
      | (refine wpList_ldW rfl 35 (.tmp 31) rfl w.heap.size 5 rfl fc _ kr form_under rfl (by rw [form_size,HFC.out]) ?_)
      | (go_at_call 32;refine HXE.out.mono ?_))
     first | rintro e w1 rfl hb1 | rintro e w1 ⟨rfl,hb1⟩
     have HX1:=Lib.hid ((hb1.block _ (heap_lt HB1.out)).trans HB1.out)
     have hbw1:=bel2 hb0 hb1
     clear k0 k1 k2 k3 k4 k16 k17 kr
     obtain ⟨k0,k1,k2,k3,k4,k16,k17,kr⟩:=HA.out.box HX1.out
     have HC:=Lib.hid (HI.out S ka kc w1 (HKV.out.later hb1))
     go_wp2_with (go_at_call 23;refine HC.out.mono ?_)
     first | rintro e w2 rfl hb2 | rintro e w2 ⟨rfl,hb2⟩
     go_wp2
     go_ret
     exact ⟨rfl,(bel2 hbw1 hb2)⟩
  | false =>
   cases ks with
   | cons y ys =>
    rw [show stopB false u f [] (y :: ys)=false by cases u <;> rfl]
    obtain ⟨m,hm⟩:∃ m,(y :: ys).length=m:=⟨_,rfl⟩
    rw [hm] at k17
    have hop:0 < m:=by rw [← hm];simp
    have g1:decide ((0:Int) < (m:Int))=true:=decide_eq_true (by omega)
    have g2:decide (0 < m)=true:=decide_eq_true hop
    clear hm HKV HA IH
    go_enter Tryz.func33,Tryz.ntmps33
    go_upto_region 1 with fail
    rw [← HW0.out]
    clear HW0
    go_wp2
    go_ret
    exact ⟨rfl,hb0⟩
   | nil =>
    have hl1:([]:List Sn).length=0:=rfl
    rw [hl1] at k17
    clear IH
    cases u with
    | true =>
     rw [show stopB false true f [] []=tfMay f from rfl]
     go_enter Tryz.func33,Tryz.ntmps33
     go_upto_region 1 with fail
     rw [← HW0.out]
     clear HW0
     go_wp2_with (first
      | (refine wpList_ldW rfl 35 (.tmp 28) rfl w.heap.size 5 rfl fc _ kr form_under rfl (by rw [form_size,HFC.out]) ?_)
      | (refine wpList_ldW rfl 35 (.tmp 31) rfl w.heap.size 5 rfl fc _ kr form_under rfl (by rw [form_size,HFC.out]) ?_)
      | (go_at_call 35;refine HXM.out.mono ?_))
     first | rintro e w1 rfl hb1 | rintro e w1 ⟨rfl,hb1⟩
     have HX1:=Lib.hid ((hb1.block _ (heap_lt HB1.out)).trans HB1.out)
     have hbw1:=bel2 hb0 hb1
     go_wp2
     go_ret
     exact ⟨rfl,hbw1⟩
    | false =>
     rw [show stopB false false f [] []=tfZ f from rfl]
     cases hz:tfZ f with
     | false =>
      rw [hz] at HXE
      clear hz
      go_enter Tryz.func33,Tryz.ntmps33
      go_upto_region 1 with fail
      rw [← HW0.out]
      clear HW0
      go_wp2_with (first
       | (refine wpList_ldW rfl 35 (.tmp 28) rfl w.heap.size 5 rfl fc _ kr form_under rfl (by rw [form_size,HFC.out]) ?_)
       | (refine wpList_ldW rfl 35 (.tmp 31) rfl w.heap.size 5 rfl fc _ kr form_under rfl (by rw [form_size,HFC.out]) ?_)
       | (go_at_call 32;refine HXE.out.mono ?_))
      first | rintro e w1 rfl hb1 | rintro e w1 ⟨rfl,hb1⟩
      have HX1:=Lib.hid ((hb1.block _ (heap_lt HB1.out)).trans HB1.out)
      have hbw1:=bel2 hb0 hb1
      go_wp2
      go_ret
      exact ⟨rfl,hbw1⟩
     | true =>
      rw [hz] at HXE
      clear hz
      go_enter Tryz.func33,Tryz.ntmps33
      go_upto_region 1 with fail
      rw [← HW0.out]
      clear HW0
      go_wp2_with (first
       | (refine wpList_ldW rfl 35 (.tmp 28) rfl w.heap.size 5 rfl fc _ kr form_under rfl (by rw [form_size,HFC.out]) ?_)
       | (refine wpList_ldW rfl 35 (.tmp 31) rfl w.heap.size 5 rfl fc _ kr form_under rfl (by rw [form_size,HFC.out]) ?_)
       | (go_at_call 32;refine HXE.out.mono ?_))
      first | rintro e w1 rfl hb1 | rintro e w1 ⟨rfl,hb1⟩
      have HX1:=Lib.hid ((hb1.block _ (heap_lt HB1.out)).trans HB1.out)
      have hbw1:=bel2 hb0 hb1
      clear k0 k1 k2 k3 k4 k16 k17 kr
      obtain ⟨k0,k1,k2,k3,k4,k16,k17,kr⟩:=HA.out.box HX1.out
      have HC:=Lib.hid (RmC_nil S ka kc w1 (HKV.out.later hb1))
      go_wp2_with (go_at_call 23;refine HC.out.mono ?_)
      first | rintro e w2 rfl hb2 | rintro e w2 ⟨rfl,hb2⟩
      go_wp2
      go_ret
      exact ⟨rfl,(bel2 hbw1 hb2)⟩
end Go.Proofs.YtbmakifbppocaaaGreatDoor
set_option maxRecDepth 100000
namespace Go.Proofs.YtbmakifbppocaaaGreatDoor
open Go.RowKit
def okY (pv:Bool) (k:Int) (t:Str) (n:Int) (h u:Bool) (f:Tf) (o:List Str) (ks:List Sn):Bool:=!(decide (k=0) && pv) && (fieldsS (.mk k t n h u f o ks) && (!h || mayR ks))
def plB (h u:Bool) (f:Tf) (ks:List Sn):Bool:=!h && (!u && (ks.isEmpty && tfZ f))
theorem ok_0 (pv:Bool) (t:Str) (n:Int) (h u:Bool) (f:Tf) (o:List Str) (ks:List Sn):okY pv 0 t n h u f o ks=(plB h u f ks && (decide (n=0) && (o.isEmpty && (!t.isEmpty && !pv)))):=by
 have e:okY pv 0 t n h u f o ks=(!pv && ((!t.isEmpty && (decide (n=0) && (o.isEmpty && plB h u f ks))) && (!h || mayR ks))):=rfl
 rw [e]
 cases h with
 | true =>
  rw [show plB true u f ks=false from rfl]
  cases pv <;> cases t.isEmpty <;> cases decide (n=0) <;> cases o.isEmpty <;> rfl
 | false=>cases plB false u f ks <;> cases pv <;> cases t.isEmpty <;> cases decide (n=0) <;> cases o.isEmpty <;> rfl
theorem ok_1 (pv:Bool) (t:Str) (n:Int) (h u:Bool) (f:Tf) (o:List Str) (ks:List Sn):okY pv 1 t n h u f o ks=(decide (0≤n∧n≤9999) && (t.isEmpty && stopB h u f o ks)):=by
 have e:okY pv 1 t n h u f o ks=((t.isEmpty && (decide (0≤n∧n≤9999) && (o.isEmpty && besidesS (.mk 1 t n h u f o ks)))) && (!h || mayR ks)):=rfl
 rw [e,stopB_eq 1 t n]
 cases t.isEmpty <;> cases decide (0≤n∧n≤9999) <;> cases o.isEmpty <;> cases besidesS (.mk 1 t n h u f o ks) <;> rfl
theorem ok_2 (pv:Bool) (t:Str) (n:Int) (h u:Bool) (f:Tf) (o:List Str) (ks:List Sn):okY pv 2 t n h u f o ks=(decide (0≤n∧n≤9999) && (t.isEmpty && (plB h u f ks && !o.isEmpty))):=by
 have e:okY pv 2 t n h u f o ks=((t.isEmpty && (decide (0≤n∧n≤9999) && (!o.isEmpty && plB h u f ks))) && (!h || mayR ks)):=rfl
 rw [e]
 cases h with
 | true =>
  rw [show plB true u f ks=false from rfl]
  cases t.isEmpty <;> cases decide (0≤n∧n≤9999) <;> cases o.isEmpty <;> rfl
 | false=>cases plB false u f ks <;> cases t.isEmpty <;> cases decide (0≤n∧n≤9999) <;> cases o.isEmpty <;> rfl
theorem ok_3 (pv:Bool) (t:Str) (n:Int) (h u:Bool) (f:Tf) (o:List Str) (ks:List Sn):okY pv 3 t n h u f o ks=(decide (n=0) && (nameB t && stopB h u f o ks)):=by
 have e:okY pv 3 t n h u f o ks=((nameB t && (decide (n=0) && (o.isEmpty && besidesS (.mk 3 t n h u f o ks)))) && (!h || mayR ks)):=rfl
 rw [e,stopB_eq 3 t n]
 cases nameB t <;> cases decide (n=0) <;> cases o.isEmpty <;> cases besidesS (.mk 3 t n h u f o ks) <;> rfl
theorem ok_4 (pv:Bool) {k:Int} (t:Str) (n:Int) (h u:Bool) (f:Tf) (o:List Str) (ks:List Sn) (n0:k≠0) (n1:k≠1) (n2:k≠2) (n3:k≠3):okY pv k t n h u f o ks=false:=by
 have e:fieldsS (.mk k t n h u f o ks)=if k=0 then !t.isEmpty && (decide (n=0) && (o.isEmpty && nothingS (.mk k t n h u f o ks))) else if k=1 then t.isEmpty && (decide (0≤n∧n≤9999) && (o.isEmpty && besidesS (.mk k t n h u f o ks))) else if k=2 then t.isEmpty && (decide (0≤n∧n≤9999) && (!o.isEmpty && nothingS (.mk k t n h u f o ks))) else if k=3 then nameB t && (decide (n=0) && (o.isEmpty && besidesS (.mk k t n h u f o ks))) else false:=rfl
 unfold okY
 rw [e,if_neg n0,if_neg n1,if_neg n2,if_neg n3,Bool.false_and,Bool.and_false]
def RmRel (ks:List Sn) (R:Bool) (w:World) (q:Value) (wr:World):Prop:=∃ i:Nat,q=.int .i64 i∧i≤ks.length∧Below w.heap.size w wr∧Hid ((adjS (prevT ks i) (ks.drop i) && Sn.wfL (ks.drop i))=R)
theorem mayR_cons (pt:Bool) (k:Int) (t:Str) (n:Int) (h u:Bool) (f:Tf) (o:List Str) (ks r:List Sn):(adjS pt (.mk k t n h u f o ks :: r) && Sn.wfL (.mk k t n h u f o ks :: r))=(okY pt k t n h u f o ks && (adjS (decide (k=0)) r && Sn.wfL r)):=by
 have e1:adjS pt (.mk k t n h u f o ks :: r)=(!(decide (k=0) && pt) && adjS (decide (k=0)) r):=rfl
 have e2:Sn.wfL (.mk k t n h u f o ks :: r)=((fieldsS (.mk k t n h u f o ks) && (!h || mayR ks)) && Sn.wfL r):=by rw [Sn.wfL,Sn.wf];rfl
 rw [e1,e2]
 unfold okY
 generalize (!(decide (k=0) && pt))=a
 generalize (fieldsS (.mk k t n h u f o ks) && (!h || mayR ks))=b
 generalize adjS (decide (k=0)) r=c
 generalize Sn.wfL r=d
 cases a <;> cases b <;> cases c <;> cases d <;> rfl
set_option maxHeartbeats 4000000 in
theorem RMay20_step (ks:List Sn) (hsm:Sn.smallL ks) (hkl:ks.length≤1000000) (IH0:∀ y ∈ ks,y.has=true→RmC y.kids):RmC ks:=by
 intro S a c w hx
 have HX:=Lib.hid hx
 obtain ⟨R,hR⟩:∃ R,mayR ks=R:=⟨_,rfl⟩
 rw [hR]
 have HRR:Hid ((adjS (prevT ks 0) (ks.drop 0) && Sn.wfL (ks.drop 0))=R):=Lib.hid hR
 have HSM:=Lib.hid (fun y hy=>Sn.small_mem hsm y hy)
 have IH:=Lib.hid IH0
 clear hx hsm IH0 hR
 go_enter Tryz.func23,Tryz.ntmps23
 go_wp2
 go_loopw [3] (fun q wr=>RmRel ks R w q wr) (fun q _=>ks.length - (intOf q).toNat)
 case atStart=>exact ⟨0,rfl,by omega,Below.refl _ _,HRR⟩
 case round =>
  obtain ⟨i,rfl,hi,hb,HF⟩:=hrel
  have hB:=hb.size
  clear HRR
  cases hd:ks.drop i with
  | nil =>
   have h2:ks.length≤i:=by simpa using hd
   have HR0:Hid (R=true):=Lib.hid (by rw [← HF.out,hd];rfl)
   clear hd HF
   go_wp2
   go_ret
   exact ⟨by rw [HR0.out];rfl,hb⟩
  | cons y r =>
   obtain ⟨h2,h3,hr⟩:=ldrop_cons hd
   have hym:=List.mem_of_getElem? h3
   have hys:=HSM.out y hym
   have hih:=IH.out y hym
   have hpn:prevT ks (i+1)=decide (y.kind=0):=by simp [prevT,h3]
   obtain ⟨yk,yt,yn,yh,yu,yf,yo,ys⟩:=y
   obtain ⟨s1,s2,s3,s4,s5⟩:=hys
   have HRE:Hid ((okY (prevT ks i) yk yt yn yh yu yf yo ys && (adjS (prevT ks (i+1)) (ks.drop (i+1)) && Sn.wfL (ks.drop (i+1))))=R):=Lib.hid (by
    rw [← HF.out,hd,hr,hpn,mayR_cons];rfl)
   obtain ⟨b,o,cc,rfl,hS,hbB,hyv,hcc⟩:=(HX.out.later hb).at_ h3
   have hrg:wr.rangeAt b (o+i * 18) cc:=fun j v hj=>by rw [Nat.add_assoc];exact hcc j v hj
   have hcl:=hyv.len
   obtain ⟨fc,oa,oc,ka,kc,hA⟩:=hyv.at_
   obtain ⟨W5,hW5⟩:∃ W5,W5=wr.alloc (.cells cc.toArray 38):=⟨_,rfl⟩
   have HW5:Hid ((wr.alloc (.cells #[.int .i64 0,.string ⟨#[]⟩,.int .i64 0,.bool false,.bool false,.int .i64 0,.string ⟨#[]⟩,.bool false,.slice none 0 0,.int .i64 0,.int .i64 0,.bool false,.slice none 0 0,.slice none 0 0,.bool false,.bool false,.slice none 0 0,.slice none 0 0] 38)).setRow wr.heap.size cc.toArray=W5):=Lib.hid (by rw [hW5];exact World.setRow_alloc_new _ _ _ _)
   have hb5:Below wr.heap.size wr W5:=by rw [hW5];exact (Below.refl _ _).alloc (Nat.le_refl _) _
   have HBX:Hid (W5.heap[wr.heap.size]?=some (.cells cc.toArray 38 (0,0))):=Lib.hid (by rw [hW5];exact heap_alloc_new _ _)
   have HXE:=Lib.hid (SameFormZ_any S yf fc W5 (hA.fv.keep (Kept.all hb5)))
   have HIH:Hid (yh=true→RmC ys):=Lib.hid hih
   have HST:=Lib.hid (fun w1 (h1:Below W5.heap.size W5 w1)=>Stop20_any S yk yt yn yh yu yf s1 yo ys HIH.out cc w1 ((hyv.later hb5).later h1))
   have HNM:=Lib.hid (fun w=>RName20_any yt w s4)
   have hok:∃ ok,okY (prevT ks i) yk yt yn yh yu yf yo ys=ok:=⟨_,rfl⟩
   obtain ⟨ok,hok⟩:=hok
   rw [hok] at HRE
   have hpl:∃ pl,plB yh yu yf ys=pl:=⟨_,rfl⟩
   obtain ⟨pl,hpl⟩:=hpl
   have HPL:=Lib.hid hpl
   obtain ⟨nb,hnb⟩:∃ nb,decide (0≤yn∧yn≤9999)=nb:=⟨_,rfl⟩
   have HNB:=Lib.hid hnb
   have HOK:=Lib.hid hok
   have HFC:=Lib.hid hA.fl
   have HA:=Lib.hid hA
   have HONE:Hid (∀ u ∈ cc.toArray.toList,u.oneCell'=true):=Lib.hid (fun u hu=>hyv.one u (by simpa using hu))
   have HB:=Lib.hid hb
   have HB5:=Lib.hid hb5
   obtain ⟨q0,q1,q2,q3,q4,q16,q17,qr⟩:=hA.box HBX.out
   clear hd hr h3 hyv hcc hW5 hA hym hih HF hpn hok hpl hnb
   go_upto_region 5 with (first
    | (refine wpList_ldW rfl 38 (.tmp 16) rfl b (o+(i) * 18) rfl cc _ hrg snip_under rfl (by rw [snip_size,hcl]) ?_)
    | (refine wpList_stW rfl 38 (.tmp 4) (.tmp 17) rfl (wr.heap.size) (cc.toArray) rfl rfl 38 (#[.int .i64 0,.string ⟨#[]⟩,.int .i64 0,.bool false,.bool false,.int .i64 0,.string ⟨#[]⟩,.bool false,.slice none 0 0,.int .i64 0,.int .i64 0,.bool false,.slice none 0 0,.slice none 0 0,.bool false,.bool false,.slice none 0 0,.slice none 0 0]) (heap_alloc_new wr _) (snip_size) (by simp [hcl]) rfl (HONE.out) (W:=W5) (HW5.out) ?_))
   simp only [Act.put]
   go_cut [5] from 18 to 37 (fun c wx=>c=.bool pl∧Below W5.heap.size W5 wx)
   case first =>
    cases yh with
    | true =>
     go_wp2_with fail
     go_meet
     exact ⟨congrArg Value.bool (HPL.out.symm.trans rfl).symm,Below.refl _ _⟩
    | false =>
     cases yu with
     | true =>
      go_wp2_with fail
      go_meet
      exact ⟨congrArg Value.bool (HPL.out.symm.trans rfl).symm,Below.refl _ _⟩
     | false =>
      have HPL2:Hid ((ys.isEmpty && tfZ yf)=pl):=HPL
      cases hz:tfZ yf with
      | false =>
       rw [hz] at HXE HPL2
       rw [Bool.and_false] at HPL2
       clear hz
       go_wp2_with (first
        | (refine wpList_ldG (by rfl) 35 (.tmp 27) rfl wr.heap.size 5 rfl fc _ qr form_under rfl (by rw [form_size,HFC.out]) ?_)
        | (go_at_call 32;refine HXE.out.mono ?_))
       first | rintro e w1 rfl hb1 | rintro e w1 ⟨rfl,hb1⟩
       go_wp2_with fail
       go_meet
       exact ⟨congrArg Value.bool HPL2.out,hb1⟩
      | true =>
       rw [hz] at HXE HPL2
       rw [Bool.and_true] at HPL2
       clear hz
       go_wp2_with (first
        | (refine wpList_ldG (by rfl) 35 (.tmp 27) rfl wr.heap.size 5 rfl fc _ qr form_under rfl (by rw [form_size,HFC.out]) ?_)
        | (go_at_call 32;refine HXE.out.mono ?_))
       first | rintro e w1 rfl hb1 | rintro e w1 ⟨rfl,hb1⟩
       obtain ⟨_,_,_,_,_,_,p17,_⟩:=HA.out.box ((hb1.block _ (heap_lt HBX.out)).trans HBX.out)
       cases ys with
       | nil =>
        have hl1:([]:List Sn).length=0:=rfl
        rw [hl1] at p17
        go_wp2_with fail
        go_meet
        exact ⟨congrArg Value.bool HPL2.out,hb1⟩
       | cons z zs =>
        obtain ⟨m,hm⟩:∃ m,(z :: zs).length=m:=⟨_,rfl⟩
        rw [hm] at p17
        obtain ⟨g1,g2,g3,g4⟩:=nat_ne (show m≠0 by rw [← hm];simp)
        clear hm
        go_wp2_with fail
        go_meet
        exact ⟨congrArg Value.bool HPL2.out,hb1⟩
   case rest =>
    obtain ⟨rfl,hb1⟩:=hcut
    have HX1:=Lib.hid ((hb1.block _ (heap_lt HBX.out)).trans HBX.out)
    clear q0 q1 q2 q3 q4 q16 q17 qr HXE
    obtain ⟨q0,q1,q2,q3,q4,q16,q17,qr⟩:=HA.out.box HX1.out
    go_upto_region 6 with fail
    go_cut [6] from 38 to 45 (fun c wx=>c=.bool nb∧Below W5.heap.size W5 wx)
    case first =>
     by_cases c0:0≤yn
     ·have Q0:=Lib.hid c0
      have g0:decide (0≤yn)=true:=decide_eq_true c0
      by_cases c9:yn≤9999
      ·have Q9:=Lib.hid c9
       have g9:decide (yn≤9999)=true:=decide_eq_true c9
       clear c9
       go_wp2_with fail
       go_meet
       exact ⟨congrArg Value.bool (HNB.out.symm.trans (decide_eq_true ⟨Q0.out,Q9.out⟩)).symm,hb1⟩
      ·have Q9:=Lib.hid c9
       have g9:decide (yn≤9999)=false:=decide_eq_false c9
       clear c9
       go_wp2_with fail
       go_meet
       exact ⟨congrArg Value.bool (HNB.out.symm.trans (decide_eq_false (fun h=>by have h1:=Q9.out;have h2:=h.2;omega))).symm,hb1⟩
     ·have Q0:=Lib.hid c0
      have g0:decide (0≤yn)=false:=decide_eq_false c0
      clear c0
      go_wp2_with fail
      go_meet
      exact ⟨congrArg Value.bool (HNB.out.symm.trans (decide_eq_false (fun h=>by have h1:=Q0.out;have h2:=h.1;omega))).symm,hb1⟩
    case rest =>
     clear q0 q1 q2 q3 q4 q16 q17 qr HX1 hb1
     obtain ⟨rfl,hb1⟩:=hcut
     have HX1:=Lib.hid ((hb1.block _ (heap_lt HBX.out)).trans HBX.out)
     obtain ⟨q0,q1,q2,q3,q4,q16,q17,qr⟩:=HA.out.box HX1.out
     have hbw:=bel2 (bel2 HB.out HB5.out) hb1
     by_cases k0:yk=0
     ·subst k0
      by_cases hp:pl=true
      ·have HP1:Hid (plB yh yu yf ys=true):=Lib.hid (HPL.out.trans hp)
       by_cases hn:yn=0
       ·have gn:(yn == 0)=true:=by rw [beq_iff_eq];exact hn
        have HN0:=Lib.hid hn
        by_cases ho:yo.length=0
        ·have HO:=Lib.hid (List.eq_nil_of_length_eq_zero ho)
         have go1:((yo.length:Int) == 0)=true:=by rw [beq_iff_eq];omega
         by_cases ht:yt=[]
         ·have HR0:Hid (R=false):=Lib.hid (by rw [← HRE.out,← HOK.out,ok_0,HP1.out,HN0.out,HO.out,ht];rfl)
          clear HRE HOK hn
          have hz1:(yt == ([]:Str))=true:=by simpa using ht
          have hz2:(yt != ([]:Str))=false:=by simp [bne,hz1]
          have hz3:decide (yt=([]:Str))=true:=decide_eq_true ht
          have hz4:(⟨yt.toArray⟩:ByteArray)=⟨#[]⟩:=by rw [ht]
          rw [hz4] at q1
          clear ht
          go_wp2
          go_ret
          exact ⟨by rw [HR0.out];rfl,hbw⟩
         ·skip
          have TNE:Hid (yt.isEmpty=false):=Lib.hid (by cases yt with | nil=>exact absurd rfl ht | cons _ _=>rfl)
          have hne:(⟨yt.toArray⟩:ByteArray)≠⟨#[]⟩:=fun e=>ht (by simpa using e)
          have hq1:(yt == ([]:Str))=false:=by simpa using ht
          have hq2:(yt != ([]:Str))=true:=by simp [bne,hq1]
          have hq3:decide (yt=([]:Str))=false:=decide_eq_false ht
          rcases prev_cases ks i hi with h0 | ⟨j,p,hj,hpj,hpk⟩
          ·have HEQ:Hid ((adjS (prevT ks (i+1)) (ks.drop (i+1)) && Sn.wfL (ks.drop (i+1)))=R):=Lib.hid (by
            rw [← HRE.out,← HOK.out,ok_0,HP1.out,HN0.out,HO.out,show prevT ks i=false by rw [h0];rfl,TNE.out];rfl)
           have gi:((i:Int) == 0)=true:=by rw [beq_iff_eq];omega
           have gin:(i == 0)=true:=by rw [beq_iff_eq];exact h0
           clear HRE HOK hn ht h0
           go_wp2
           exact ⟨⟨i+1,by go_num,by omega,hbw,HEQ⟩,by simp [intOf];omega⟩
          ·obtain ⟨pk,pt,pn,ph,pu,pf,po,ps⟩:=p
           obtain ⟨b',o',cc',hae,_,_,hpv,hpc⟩:=(HX.out.later hbw).at_ hpj
           obtain ⟨rfl,rfl⟩:b=b'∧o=o':=by injection hae with hae;injection hae with h1 h2 _;exact ⟨h1,h2⟩
           obtain ⟨fc',oa',oc',ka',kc',hPA⟩:=hpv.at_
           have HPC:wc.cell? ⟨b,o+j * 18,none⟩=some (.int .i64 pk):=by have:=hpc 0 _ hPA.c0;simpa using this
           by_cases hpz:pk=0
           ·have hpkb:(pk != 0)=false:=by rw [bne_eq_false_iff_eq];exact hpz
            have hpkc:(pk == 0)=true:=by rw [beq_iff_eq];exact hpz
            have HR0:Hid (R=false):=Lib.hid (by
             rw [← HRE.out,← HOK.out,ok_0,HP1.out,HN0.out,HO.out,hpk,show decide ((Sn.mk pk pt pn ph pu pf po ps).kind=0)=true from decide_eq_true hpz,TNE.out];rfl)
            subst hj
            clear HRE HOK hn ht hpj hpk hae hpv hpc hPA hpz
            go_wp2
            go_ret
            exact ⟨by rw [HR0.out];rfl,hbw⟩
           ·have hpkb:(pk != 0)=true:=by rw [bne_iff_ne];exact hpz
            have hpkc:(pk == 0)=false:=by rw [beq_eq_false_iff_ne];exact hpz
            have HEQ:Hid ((adjS (prevT ks (i+1)) (ks.drop (i+1)) && Sn.wfL (ks.drop (i+1)))=R):=Lib.hid (by
             rw [← HRE.out,← HOK.out,ok_0,HP1.out,HN0.out,HO.out,hpk,show decide ((Sn.mk pk pt pn ph pu pf po ps).kind=0)=false from decide_eq_false hpz,TNE.out];rfl)
            subst hj
            clear HRE HOK hn ht hpj hpk hae hpv hpc hPA hpz
            go_wp2
            exact ⟨⟨j+1+1,by go_num,by omega,hbw,HEQ⟩,by simp [intOf];omega⟩
        ·obtain ⟨g1,g2,g3,g4⟩:=nat_ne ho
         have HR0:Hid (R=false):=Lib.hid (by rw [← HRE.out,← HOK.out,ok_0,HP1.out,HN0.out,show yo.isEmpty=false by cases yo with | nil=>exact absurd rfl ho | cons _ _=>rfl];rfl)
         clear HRE HOK ho hn
         go_wp2
         go_ret
         exact ⟨by rw [HR0.out];rfl,hbw⟩
       ·obtain ⟨g1,g2⟩:=int_ne hn
        have HR0:Hid (R=false):=Lib.hid (by rw [← HRE.out,← HOK.out,ok_0,HP1.out,decide_eq_false hn];rfl)
        clear HRE HOK hn
        go_wp2
        go_ret
        exact ⟨by rw [HR0.out];rfl,hbw⟩
      ·have hpf:pl=false:=by simpa using hp
       have HR0:Hid (R=false):=Lib.hid (by rw [← HRE.out,← HOK.out,ok_0,HPL.out,hpf];rfl)
       clear HRE HOK hp
       go_wp2
       go_ret
       exact ⟨by rw [HR0.out];rfl,hbw⟩
     ·obtain ⟨e0,e0'⟩:=int_ne k0
      by_cases k1:yk=1
      ·subst k1
       by_cases hn:nb=true
       ·by_cases ht:yt=[]
        ·have HB0:Hid (okY (prevT ks i) 1 yt yn yh yu yf yo ys=stopB yh yu yf yo ys):=Lib.hid (by rw [ok_1,HNB.out,hn,ht];rfl)
         have hz1:(yt == ([]:Str))=true:=by simpa using ht
         have hz2:(yt != ([]:Str))=false:=by simp [bne,hz1]
         have hz3:decide (yt=([]:Str))=true:=decide_eq_true ht
         have hz4:(⟨yt.toArray⟩:ByteArray)=⟨#[]⟩:=by rw [ht]
         rw [hz4] at q1
         clear ht k0
         cases hsb:stopB yh yu yf yo ys with
         | true =>
          have HEQ:Hid ((adjS (prevT ks (i+1)) (ks.drop (i+1)) && Sn.wfL (ks.drop (i+1)))=R):=Lib.hid (by rw [← HRE.out,← HOK.out,HB0.out,hsb];rfl)
          rw [hsb] at HST
          have HSC:=Lib.hid (HST.out wc hb1)
          clear HRE HOK hsb HB0 HST
          go_wp2_with (first
           | (refine wpList_ldG (by rfl) 38 (.tmp 4) rfl wr.heap.size 0 rfl cc _ (range_blk (ds:=[]) (by simpa using HX1.out)) snip_under rfl (by rw [snip_size,hcl]) ?_)
           | (go_at_call 33;refine HSC.out.mono ?_))
          first | rintro e w2 rfl hb2 | rintro e w2 ⟨rfl,hb2⟩
          have hbw2:=bel2 hbw hb2
          go_wp2
          exact ⟨⟨i+1,by go_num,by omega,hbw2,HEQ⟩,by simp [intOf];omega⟩
         | false =>
          have HR0:Hid (R=false):=Lib.hid (by rw [← HRE.out,← HOK.out,HB0.out,hsb];rfl)
          rw [hsb] at HST
          have HSC:=Lib.hid (HST.out wc hb1)
          clear HRE HOK hsb HB0 HST
          go_wp2_with (first
           | (refine wpList_ldG (by rfl) 38 (.tmp 4) rfl wr.heap.size 0 rfl cc _ (range_blk (ds:=[]) (by simpa using HX1.out)) snip_under rfl (by rw [snip_size,hcl]) ?_)
           | (go_at_call 33;refine HSC.out.mono ?_))
          first | rintro e w2 rfl hb2 | rintro e w2 ⟨rfl,hb2⟩
          have hbw2:=bel2 hbw hb2
          go_wp2
          go_ret
          exact ⟨by rw [HR0.out];rfl,hbw2⟩
        ·have HR0:Hid (R=false):=Lib.hid (by rw [← HRE.out,← HOK.out,ok_1,HNB.out,hn,show yt.isEmpty=false by cases yt with | nil=>exact absurd rfl ht | cons _ _=>rfl];rfl)
         have TNE:Hid (yt.isEmpty=false):=Lib.hid (by cases yt with | nil=>exact absurd rfl ht | cons _ _=>rfl)
         have hne:(⟨yt.toArray⟩:ByteArray)≠⟨#[]⟩:=fun e=>ht (by simpa using e)
         have hq1:(yt == ([]:Str))=false:=by simpa using ht
         have hq2:(yt != ([]:Str))=true:=by simp [bne,hq1]
         have hq3:decide (yt=([]:Str))=false:=decide_eq_false ht
         clear HRE HOK ht k0
         go_wp2
         go_ret
         exact ⟨by rw [HR0.out];rfl,hbw⟩
       ·have hnf:nb=false:=by simpa using hn
        have HR0:Hid (R=false):=Lib.hid (by rw [← HRE.out,← HOK.out,ok_1,HNB.out,hnf];rfl)
        clear HRE HOK hn k0
        go_wp2
        go_ret
        exact ⟨by rw [HR0.out];rfl,hbw⟩
      ·have e1:(yk == 1)=false:=by rw [beq_eq_false_iff_ne];exact k1
       by_cases k2:yk=2
       ·subst k2
        by_cases hn:nb=true
        ·by_cases ht:yt=[]
         ·skip
          have hz1:(yt == ([]:Str))=true:=by simpa using ht
          have hz2:(yt != ([]:Str))=false:=by simp [bne,hz1]
          have hz3:decide (yt=([]:Str))=true:=decide_eq_true ht
          have hz4:(⟨yt.toArray⟩:ByteArray)=⟨#[]⟩:=by rw [ht]
          rw [hz4] at q1
          by_cases hp:pl=true
          ·by_cases ho:yo.length=0
           ·have HR0:Hid (R=false):=Lib.hid (by rw [← HRE.out,← HOK.out,ok_2,HNB.out,hn,HPL.out,hp,ht,List.eq_nil_of_length_eq_zero ho];rfl)
            have g1:decide ((0:Int) < (yo.length:Int))=false:=decide_eq_false (by omega)
            have g2:decide (0 < yo.length)=false:=decide_eq_false (by omega)
            clear HRE HOK ht k0 k1
            go_wp2
            go_ret
            exact ⟨by rw [HR0.out];rfl,hbw⟩
           ·have HEQ:Hid ((adjS (prevT ks (i+1)) (ks.drop (i+1)) && Sn.wfL (ks.drop (i+1)))=R):=Lib.hid (by rw [← HRE.out,← HOK.out,ok_2,HNB.out,hn,HPL.out,hp,ht,show yo.isEmpty=false by cases yo with | nil=>exact absurd rfl ho | cons _ _=>rfl];rfl)
            have g1:decide ((0:Int) < (yo.length:Int))=true:=decide_eq_true (by omega)
            have g2:decide (0 < yo.length)=true:=decide_eq_true (by omega)
            clear HRE HOK ht k0 k1 ho
            go_wp2
            exact ⟨⟨i+1,by go_num,by omega,hbw,HEQ⟩,by simp [intOf];omega⟩
          ·have hpf:pl=false:=by simpa using hp
           have HR0:Hid (R=false):=Lib.hid (by rw [← HRE.out,← HOK.out,ok_2,HNB.out,hn,HPL.out,hpf,ht];rfl)
           clear HRE HOK ht k0 k1 hp
           go_wp2
           go_ret
           exact ⟨by rw [HR0.out];rfl,hbw⟩
         ·have HR0:Hid (R=false):=Lib.hid (by rw [← HRE.out,← HOK.out,ok_2,HNB.out,hn,show yt.isEmpty=false by cases yt with | nil=>exact absurd rfl ht | cons _ _=>rfl];rfl)
          have TNE:Hid (yt.isEmpty=false):=Lib.hid (by cases yt with | nil=>exact absurd rfl ht | cons _ _=>rfl)
          have hne:(⟨yt.toArray⟩:ByteArray)≠⟨#[]⟩:=fun e=>ht (by simpa using e)
          have hq1:(yt == ([]:Str))=false:=by simpa using ht
          have hq2:(yt != ([]:Str))=true:=by simp [bne,hq1]
          have hq3:decide (yt=([]:Str))=false:=decide_eq_false ht
          clear HRE HOK ht k0 k1
          go_wp2
          go_ret
          exact ⟨by rw [HR0.out];rfl,hbw⟩
        ·have hnf:nb=false:=by simpa using hn
         have HR0:Hid (R=false):=Lib.hid (by rw [← HRE.out,← HOK.out,ok_2,HNB.out,hnf];rfl)
         clear HRE HOK hn k0 k1
         go_wp2
         go_ret
         exact ⟨by rw [HR0.out];rfl,hbw⟩
       ·have e2:(yk == 2)=false:=by rw [beq_eq_false_iff_ne];exact k2
        by_cases k3:yk=3
        ·subst k3
         by_cases hn:yn=0
         ·have gn:(yn == 0)=true:=by rw [beq_iff_eq];exact hn
          have HN0:=Lib.hid hn
          clear hn
          cases hnm:nameB yt with
          | false =>
           have HR0:Hid (R=false):=Lib.hid (by rw [← HRE.out,← HOK.out,ok_3,HN0.out,hnm];rfl)
           rw [hnm] at HNM
           clear HRE HOK hnm k0 k1 k2
           go_wp2_with (go_at_call 34;refine (HNM.out _).mono ?_;rintro e wn ⟨rfl,rfl⟩)
           go_ret
           exact ⟨by rw [HR0.out];rfl,hbw⟩
          | true =>
           have HB0:Hid (okY (prevT ks i) 3 yt yn yh yu yf yo ys=stopB yh yu yf yo ys):=Lib.hid (by rw [ok_3,HN0.out,hnm];rfl)
           rw [hnm] at HNM
           clear hnm k0 k1 k2
           cases hsb:stopB yh yu yf yo ys with
           | true =>
            have HEQ:Hid ((adjS (prevT ks (i+1)) (ks.drop (i+1)) && Sn.wfL (ks.drop (i+1)))=R):=Lib.hid (by rw [← HRE.out,← HOK.out,HB0.out,hsb];rfl)
            rw [hsb] at HST
            have HSC:=Lib.hid (HST.out wc hb1)
            clear HRE HOK hsb HB0 HST
            go_wp2_with (first
             | (refine wpList_ldG (by rfl) 38 (.tmp 4) rfl wr.heap.size 0 rfl cc _ (range_blk (ds:=[]) (by simpa using HX1.out)) snip_under rfl (by rw [snip_size,hcl]) ?_)
             | (go_at_call 34;refine (HNM.out _).mono ?_;rintro e wn ⟨rfl,rfl⟩)
             | (go_at_call 33;refine HSC.out.mono ?_))
            first | rintro e w2 rfl hb2 | rintro e w2 ⟨rfl,hb2⟩
            have hbw2:=bel2 hbw hb2
            go_wp2
            exact ⟨⟨i+1,by go_num,by omega,hbw2,HEQ⟩,by simp [intOf];omega⟩
           | false =>
            have HR0:Hid (R=false):=Lib.hid (by rw [← HRE.out,← HOK.out,HB0.out,hsb];rfl)
            rw [hsb] at HST
            have HSC:=Lib.hid (HST.out wc hb1)
            clear HRE HOK hsb HB0 HST
            go_wp2_with (first
             | (refine wpList_ldG (by rfl) 38 (.tmp 4) rfl wr.heap.size 0 rfl cc _ (range_blk (ds:=[]) (by simpa using HX1.out)) snip_under rfl (by rw [snip_size,hcl]) ?_)
             | (go_at_call 34;refine (HNM.out _).mono ?_;rintro e wn ⟨rfl,rfl⟩)
             | (go_at_call 33;refine HSC.out.mono ?_))
            first | rintro e w2 rfl hb2 | rintro e w2 ⟨rfl,hb2⟩
            have hbw2:=bel2 hbw hb2
            go_wp2
            go_ret
            exact ⟨by rw [HR0.out];rfl,hbw2⟩
         ·obtain ⟨g1,g2⟩:=int_ne hn
          have HR0:Hid (R=false):=Lib.hid (by rw [← HRE.out,← HOK.out,ok_3,decide_eq_false hn];rfl)
          clear HRE HOK hn k0 k1 k2
          go_wp2
          go_ret
          exact ⟨by rw [HR0.out];rfl,hbw⟩
        ·have e3:(yk == 3)=false:=by rw [beq_eq_false_iff_ne];exact k3
         have HR0:Hid (R=false):=Lib.hid (by rw [← HRE.out,← HOK.out,ok_4 _ _ _ _ _ _ _ _ k0 k1 k2 k3];rfl)
         clear HRE HOK k0 k1 k2 k3
         go_wp2
         go_ret
         exact ⟨by rw [HR0.out];rfl,hbw⟩
theorem RMay20_all:∀ (N:Nat) (ks:List Sn),Sn.partsL ks < N→Sn.smallL ks→ks.length≤1000000→RmC ks
 | 0,ks,h,_,_=>by omega
 | N+1,ks,h,hsm,hkl=>RMay20_step ks hsm hkl (fun y hy _=>by
   have h1:=Sn.parts_mem hy
   have h2:=Sn.small_mem hsm y hy
   obtain ⟨yk,yt,yn,yh,yu,yf,yo,ys⟩:=y
   obtain ⟨_,_,h5,_,h6⟩:=h2
   simp only [Sn.parts] at h1
   exact RMay20_all N ys (by omega) h6 h5)
end Go.Proofs.YtbmakifbppocaaaGreatDoor
set_option maxRecDepth 100000
namespace Go.Proofs.YtbmakifbppocaaaGreatDoor
open Go.RowKit
namespace Sn
mutual
def tiny:Sn→Prop
 | mk _ t _ _ _ f o ks=>f.tiny∧t.length≤1000000∧o.length≤1000000∧(∀ s ∈ o,s.length≤1000000)∧ks.length≤1000000∧tinyL ks
def tinyL:List Sn→Prop
 | []=>True
 | x :: r=>tiny x∧tinyL r
end
end Sn
theorem tinyL_mem:∀ {l:List Sn},Sn.tinyL l→∀ x ∈ l,x.tiny
 | [],_,x,h=>by cases h
 | y :: r,hl,x,h=>by
  simp only [Sn.tinyL] at hl
  rcases List.mem_cons.1 h with rfl | h
  ·exact hl.1
  ·exact tinyL_mem hl.2 x h
mutual
theorem tiny_small:∀ x:Sn,x.tiny→x.small
 | .mk k t n h u f o ks,hx=>by
  simp only [Sn.tiny] at hx
  obtain ⟨h1,h2,h3,_,h5,h6⟩:=hx
  exact ⟨h1.1,h3,h5,h2,tinyL_small ks h6⟩
theorem tinyL_small:∀ l:List Sn,Sn.tinyL l→Sn.smallL l
 | [],_=>trivial
 | x :: r,hl=>by
  simp only [Sn.tinyL] at hl
  exact ⟨tiny_small x hl.1,tinyL_small r hl.2⟩
end
/-- What is laid behind a brace and a name. -/
def brT (h u:Bool) (f:Tf) (ks:List Sn):Str:=(if h=true then 58 :: Sn.tellL ks else [])++((if u=true then formS f else [])++[125])
def ShwC (B g:Nat) (ks:List Sn):Prop:=∀ (S:Nat→Prop) (a:Option Addr) (c:Nat) (acc:Str) (w:World),Bld B g acc w→Tab w→B≤w.heap.size→(∀ b,S b→b < B)→SnSl w S a ks.length ks→acc.length+(Sn.tellL ks).length≤10000000 →
 Calls Tryz.prog 10 #[.pointer (some ⟨g,0,none⟩),.slice a ks.length c] w fun e w'=>e=.returned (.tuple #[])∧Bld B g (acc++Sn.tellL ks) w'∧Fr B [g] [5] w w'
theorem Fr.box {B g b:Nat} {w w':World} (h:Fr B [g] [5] w w') {cs:Array Value} {t:TypeId} {m:Nat × Nat} (hb:w.heap[b]?=some (.cells cs t m)) (hne:b≠g) (ht:t≠5):w'.heap[b]?=some (.cells cs t m) :=
 (h.block b (heap_lt hb) (by simpa using hne) (.inr fun e he=>by
  rw [List.mem_singleton] at he;subst he
  unfold tagOf;rw [hb];intro e;injection e with e;exact ht e)).trans hb
theorem Fr.keepS {B g:Nat} {S:Nat→Prop} {w w':World} (h:Fr B [g] [5] w w') (hB:B≤w.heap.size) (hg:B≤g) (hS:∀ b,S b→b < B):Kept S w w' :=
 ⟨h.size,fun b hb _=>(h.below hB (by simpa using hg)).block b (hS b hb)⟩
theorem Bld.ge {B g:Nat} {l:Str} {w:World} (h:Bld B g l w):B≤g:=by obtain ⟨_,_,_,h,_⟩:=h;exact h
theorem Tab.fr {B g:Nat} {w w':World} (h:Tab w) (hf:Fr B [g] [5] w w') (hB:B≤w.heap.size) (hg:B≤g) (ht:1 < B):Tab w':=h.keepB ht (hf.below hB (by simpa using hg))
set_option maxHeartbeats 2000000 in
theorem SBraced_any (B g:Nat) (k:Int) (t:Str) (n:Int) (h u:Bool) (f:Tf) (o:List Str) (ks:List Sn) (nm acc:Str) (hft:f.tiny) (hu:u=true→tfMay f=true) (hhu:h=true→u=false) (HK0:h=true→ShwC B g ks) (S:Nat→Prop) (cc:List Value) (w:World) (hv:SnV w S cc (.mk k t n h u f o ks))
  (hS:∀ b,S b→b < B) (hbl:Bld B g acc w) (ht:Tab w) (htb:1 < B) (_hB:B≤w.heap.size) (hl:acc.length+(nm.length+(brT h u f ks).length+2)≤10000000) :
  Calls Tryz.prog 21 #[.pointer (some ⟨g,0,none⟩),.agg cc.toArray,.string ⟨(nm).toArray⟩] w fun e w'=>e=.returned (.tuple #[])∧Bld B g (acc++36 :: 123 :: (nm++brT h u f ks)) w'∧Fr B [g] [5] w w':=by
 have hgB:=hbl.ge
 have hgl:=hbl.lt
 obtain ⟨W0,hW0⟩:∃ W0,W0=w.alloc (.cells cc.toArray 38):=⟨_,rfl⟩
 have hb0:Below w.heap.size w W0:=by rw [hW0];exact (Below.refl _ _).alloc (Nat.le_refl _) _
 have HB1:Hid (W0.heap[w.heap.size]?=some (.cells cc.toArray 38 (0,0))):=Lib.hid (by rw [hW0];exact heap_alloc_new w _)
 have HF0:Hid (Fr B [g] [5] w W0):=Lib.hid (Fr.of_below hb0 (Nat.le_refl _))
 have HW0:=Lib.hid hW0
 have hz0:=hb0.size
 obtain ⟨fc,oa,oc,ka,kc,A⟩:=hv.at_
 have HA:=Lib.hid A
 have HFC:=Lib.hid A.fl
 have HFV:=Lib.hid (A.fv.keep (Kept.all hb0))
 have HKV:=Lib.hid (A.kv.later hb0)
 have HBL0:=Lib.hid (hbl.below hb0)
 have HT0:=Lib.hid (ht.keep hb0)
 have HS:=Lib.hid hS
 have hB0:B≤W0.heap.size:=by omega
 have hne:w.heap.size≠g:=by omega
 clear hW0 A hv hbl ht hS
 cases h with
 | true =>
  obtain rfl:u=false:=hhu rfl
  have HK:=Lib.hid (HK0 rfl)
  have hbr:(brT true false f ks).length=(Sn.tellL ks).length+2:=by simp [brT]
  clear HK0 hhu hu
  go_enter Tryz.func21,Tryz.ntmps21
  go_upto_region 1 with fail
  rw [← HW0.out]
  clear HW0
  go_wp2_with (go_at_call 18;refine (WriteString_any B g (acc) (36 :: 123 :: nm) _ HBL0.out (by first | omega | (simp;omega)) (by first | omega | (simp;omega)) (by omega)).mono ?_)
  first | rintro e w1 rfl hbl1 hfr1 | rintro e w1 ⟨rfl,hbl1,hfr1⟩
  have hx1:=hfr1.box HB1.out hne (by decide)
  have HX1:=Lib.hid hx1
  have hsz1:B≤w1.heap.size:=by have:=hfr1.size;omega
  obtain ⟨q0,q1,q2,q3,q4,q16,q17,qr⟩:=HA.out.box (hx1)
  go_wp2_with (go_at_call 20;refine (WriteByte_any B g (acc++36 :: 123 :: nm) (58) _ hbl1 (by first | omega | (simp;omega)) (by omega) (by omega) (by omega)).mono ?_)
  first | rintro e w2 rfl hbl2 hfr2 | rintro e w2 ⟨rfl,hbl2,hfr2⟩
  clear q0 q1 q2 q3 q4 q16 q17 qr
  have hx2:=hfr2.box HX1.out hne (by decide)
  have HX2:=Lib.hid hx2
  have hsz2:B≤w2.heap.size:=by have:=hfr2.size;omega
  obtain ⟨q0,q1,q2,q3,q4,q16,q17,qr⟩:=HA.out.box (hx2)
  have HKV2:=Lib.hid ((HKV.out.keep (hfr1.keepS hB0 hgB HS.out)).keep (hfr2.keepS hsz1 hgB HS.out))
  have HT2:=Lib.hid ((HT0.out.fr hfr1 hB0 hgB htb).fr hfr2 hsz1 hgB htb)
  have HSH:=Lib.hid (HK.out S ka kc _ w2 hbl2 HT2.out hsz2 HS.out HKV2.out (by first | omega | (simp;omega)))
  go_wp2_with (go_at_call 10;refine HSH.out.mono ?_)
  first | rintro e w3 rfl hbl3 hfr3 | rintro e w3 ⟨rfl,hbl3,hfr3⟩
  clear q0 q1 q2 q3 q4 q16 q17 qr
  have hx3:=hfr3.box HX2.out hne (by decide)
  have hsz3:B≤w3.heap.size:=by have:=hfr3.size;omega
  obtain ⟨q0,q1,q2,q3,q4,q16,q17,qr⟩:=HA.out.box (hx3)
  go_wp2_with (go_at_call 20;refine (WriteByte_any B g (_) (125) _ hbl3 (by first | omega | (simp;omega)) (by omega) (by omega) (by omega)).mono ?_)
  first | rintro e w4 rfl hbl4 hfr4 | rintro e w4 ⟨rfl,hbl4,hfr4⟩
  have HBL4:=Lib.hid hbl4
  have HFR4:=Lib.hid ((((HF0.out.trans hfr1).trans hfr2).trans hfr3).trans hfr4)
  clear hbl1 hbl2 hbl3 hbl4 hfr1 hfr2 hfr3 hfr4
  go_wp2
  go_end0
  refine ⟨rfl,?_,HFR4.out⟩
  have h:=HBL4.out
  simpa [brT] using h
 | false =>
  cases u with
  | true =>
   have hbr:(brT false true f ks).length=(formS f).length+1:=by simp [brT]
   have HXS:=Lib.hid (fun w' (hk:Kept S W0 w') (ht':Tab w')=>XShow_yes S f hft (hu rfl) fc w' (HFV.out.keep hk) ht')
   clear HK0 hhu hu
   go_enter Tryz.func21,Tryz.ntmps21
   go_upto_region 1 with fail
   rw [← HW0.out]
   clear HW0
   go_wp2_with (go_at_call 18;refine (WriteString_any B g (acc) (36 :: 123 :: nm) _ HBL0.out (by first | omega | (simp;omega)) (by first | omega | (simp;omega)) (by omega)).mono ?_)
   first | rintro e w1 rfl hbl1 hfr1 | rintro e w1 ⟨rfl,hbl1,hfr1⟩
   have hx1:=hfr1.box HB1.out hne (by decide)
   have HX1:=Lib.hid hx1
   have hsz1:B≤w1.heap.size:=by have:=hfr1.size;omega
   obtain ⟨q0,q1,q2,q3,q4,q16,q17,qr⟩:=HA.out.box (hx1)
   have HXS1:=Lib.hid (HXS.out w1 (hfr1.keepS hB0 hgB HS.out) (HT0.out.fr hfr1 hB0 hgB htb))
   go_wp2_with (first
    | (refine wpList_ldW rfl 35 (.tmp 23) rfl w.heap.size 5 rfl fc _ qr form_under rfl (by rw [form_size,HFC.out]) ?_)
    | (go_at_call 31;refine HXS1.out.mono ?_))
   first | rintro e w2 rfl hb2 | rintro e w2 ⟨rfl,hb2⟩
   have hfr2:Fr B [g] [5] w1 w2:=Fr.of_below hb2 (Nat.le_refl _)
   have hbl2:=hbl1.below hb2
   have hsz2:B≤w2.heap.size:=by have:=hfr2.size;omega
   clear q0 q1 q2 q3 q4 q16 q17 qr
   go_wp2_with (go_at_call 18;refine (WriteString_any B g (acc++36 :: 123 :: nm) (formS f) _ hbl2 (by first | omega | (simp;omega)) (by first | omega | (simp;omega)) (by omega)).mono ?_)
   first | rintro e w3 rfl hbl3 hfr3 | rintro e w3 ⟨rfl,hbl3,hfr3⟩
   have hsz3:B≤w3.heap.size:=by have:=hfr3.size;omega
   go_wp2_with (go_at_call 20;refine (WriteByte_any B g (_) (125) _ hbl3 (by first | omega | (simp;omega)) (by omega) (by omega) (by omega)).mono ?_)
   first | rintro e w4 rfl hbl4 hfr4 | rintro e w4 ⟨rfl,hbl4,hfr4⟩
   have HBL4:=Lib.hid hbl4
   have HFR4:=Lib.hid ((((HF0.out.trans hfr1).trans hfr2).trans hfr3).trans hfr4)
   clear hbl1 hbl2 hbl3 hbl4 hfr1 hfr2 hfr3 hfr4
   go_wp2
   go_end0
   refine ⟨rfl,?_,HFR4.out⟩
   have h:=HBL4.out
   simpa [brT] using h
  | false =>
   have hbr:(brT false false f ks).length=1:=by simp [brT]
   clear HK0 hhu hu
   go_enter Tryz.func21,Tryz.ntmps21
   go_upto_region 1 with fail
   rw [← HW0.out]
   clear HW0
   go_wp2_with (go_at_call 18;refine (WriteString_any B g (acc) (36 :: 123 :: nm) _ HBL0.out (by first | omega | (simp;omega)) (by first | omega | (simp;omega)) (by omega)).mono ?_)
   first | rintro e w1 rfl hbl1 hfr1 | rintro e w1 ⟨rfl,hbl1,hfr1⟩
   have hx1:=hfr1.box HB1.out hne (by decide)
   have hsz1:B≤w1.heap.size:=by have:=hfr1.size;omega
   obtain ⟨q0,q1,q2,q3,q4,q16,q17,qr⟩:=HA.out.box (hx1)
   go_wp2_with (go_at_call 20;refine (WriteByte_any B g (acc++36 :: 123 :: nm) (125) _ hbl1 (by first | omega | (simp;omega)) (by omega) (by omega) (by omega)).mono ?_)
   first | rintro e w4 rfl hbl4 hfr4 | rintro e w4 ⟨rfl,hbl4,hfr4⟩
   have HBL4:=Lib.hid hbl4
   have HFR4:=Lib.hid ((HF0.out.trans hfr1).trans hfr4)
   clear hbl1 hbl4 hfr1 hfr4
   go_wp2
   go_end0
   refine ⟨rfl,?_,HFR4.out⟩
   have h:=HBL4.out
   simpa [brT] using h
end Go.Proofs.YtbmakifbppocaaaGreatDoor
set_option maxRecDepth 100000
namespace Go.Proofs.YtbmakifbppocaaaGreatDoor
open Go.RowKit
/-- Options as the loop writes them. -/
def jt:Bool→List Str→Str
 | _,[]=>[]
 | true,a :: l=>quot fiveS a++jt false l
 | false,a :: l=>44 :: (quot fiveS a++jt false l)
theorem jt_comma:∀ (l:List Str) (a:Str),jt false (a :: l)=44 :: joinQ (a :: l)
 | [],a=>by simp [jt,joinQ]
 | b :: l,a=>by
  have ih:=jt_comma l b
  simp only [jt,joinQ] at ih ⊢
  rw [ih]
theorem jt_join:∀ (l:List Str),jt true l=joinQ l
 | []=>rfl
 | [a]=>by simp [jt,joinQ]
 | a :: b :: l=>by
  have:=jt_comma l b
  simp only [jt,joinQ] at this ⊢
  rw [this]
end Go.Proofs.YtbmakifbppocaaaGreatDoor
