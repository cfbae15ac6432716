/- walk of sshow.show -/
import Derived.Test.YtbmakifbppocaaaGreatDoorSs1
import Derived.Test.YtbmakifbppocaaaGreatDoorSs3
import Derived.Test.YtbmakifbppocaaaGreatDoorSs5
import Derived.Test.YtbmakifbppocaaaGreatDoorSs2
import Derived.Test.YtbmakifbppocaaaGreatDoorSs6
import Derived.Test.YtbmakifbppocaaaGreatDoorSs7
import Derived.Deep.LoopGhost
import Derived.IntWalk
import Derived.Maps.OwnSet
import Derived.Maps.Keyed
import Derived.Test.YtbmakifbppocaaaGreatDoorSs4
import Derived.Test.YtbmakifbppocaaaGreatDoorSs8
import Derived.Test.YtbmakifbppocaaaGreatDoorSs11
import Derived.Test.YtbmakifbppocaaaGreatDoorSs9
import Derived.Test.YtbmakifbppocaaaGreatDoorSs10
import Derived.Deep.AppendLies
set_option maxRecDepth 100000
namespace Go.Proofs.YtbmakifbppocaaaGreatDoor
open Go.RowKit
def SFs (g bx:Nat) (cc:List Value) (n:Int):List (Value→World→Prop) :=
 [eqP (.pointer (some ⟨g,0,none⟩)),eqP (.agg cc.toArray),eqP (.pointer (some ⟨bx,2,none⟩)),eqP (.int .i64 n),eqP (.string ⟨(dec n).toArray⟩)]
theorem SFs_mono (g bx:Nat) (cc:List Value) (n:Int):MonoF (SFs g bx cc n):=.eq (.eq (.eq (.eq (.eq .nil))))
def RSI (g bx:Nat) (cc:List Value) (n:Int) (A0:Act) (W0:World) (L:Nat→Bool) (a:Act) (w':World):Prop :=
 ∃ V:Nat→Value,Fm2 [51,52,53,54,55] V A0 a∧BelI W0 (SFs g bx cc n) V L w'
def SnwRel (B g:Nat) (ks:List Sn) (w:World) (R:Str) (q:Value) (wr:World):Prop :=
 ∃ (i:Nat) (acc:Str),q=.int .i64 i∧i≤ks.length∧Bld B g acc wr∧Fr B [g] [5] w wr∧Hid (acc++Sn.tellL (ks.drop i)=R)
def SoRel (B g:Nat) (o:List Str) (w:World) (R:Str) (q:Value) (wr:World):Prop :=
 ∃ (j:Nat) (acc:Str),q=.int .i64 j∧j≤o.length∧Bld B g acc wr∧Fr B [g] [5] w wr∧Hid (acc++jt (decide (j=0)) (o.drop j)=R)
theorem tellL_cons (x:Sn) (r:List Sn):Sn.tellL (x :: r)=x.tell++Sn.tellL r:=by rw [Sn.tellL]
theorem tell_mk (k:Int) (t:Str) (n:Int) (h u:Bool) (f:Tf) (o:List Str) (ks:List Sn):(Sn.mk k t n h u f o ks).tell=if k=0 then quot three t else if k=2 then 36 :: 123 :: (dec n++124 :: (joinQ o++[124,125])) else 36 :: 123 :: (nameT k t n++brT h u f ks):=by
 rw [Sn.tell];rfl
theorem wf_kind {k:Int} {t:Str} {n:Int} {h u:Bool} {f:Tf} {o:List Str} {ks:List Sn} (hf:fieldsS (.mk k t n h u f o ks)=true) :
  k=0∨(k=1∧0≤n∧n≤9999∧besidesS (.mk k t n h u f o ks)=true)∨(k=2∧0≤n∧n≤9999)∨(k=3∧t.length≤64∧besidesS (.mk k t n h u f o ks)=true):=by
 have hf':(if k=0 then !t.isEmpty && (decide (n=0) && (o.isEmpty && nothingS (.mk k t n h u f o ks))) else if k=1 then t.isEmpty && (decide (0≤n∧n≤9999) && (o.isEmpty && besidesS (.mk k t n h u f o ks))) else if k=2 then t.isEmpty && (decide (0≤n∧n≤9999) && (!o.isEmpty && nothingS (.mk k t n h u f o ks))) else if k=3 then nameB t && (decide (n=0) && (o.isEmpty && besidesS (.mk k t n h u f o ks))) else false)=true:=hf
 split at hf'
 ·exact .inl ‹_›
 split at hf'
 ·rw [Bool.and_eq_true,Bool.and_eq_true,Bool.and_eq_true,decide_eq_true_eq] at hf'
  exact .inr (.inl ⟨‹_›,hf'.2.1.1,hf'.2.1.2,hf'.2.2.2⟩)
 split at hf'
 ·rw [Bool.and_eq_true,Bool.and_eq_true,decide_eq_true_eq] at hf'
  exact .inr (.inr (.inl ⟨‹_›,hf'.2.1.1,hf'.2.1.2⟩))
 split at hf'
 ·rw [Bool.and_eq_true,Bool.and_eq_true,Bool.and_eq_true] at hf'
  refine .inr (.inr (.inr ⟨‹_›,?_,hf'.2.2.2⟩))
  have h1:=hf'.1
  cases t with
  | nil=>simp
  | cons c t =>
   simp only [nameB,Bool.and_eq_true,decide_eq_true_eq] at h1
   exact h1.1.1
 ·cases hf'
theorem bes_facts {k:Int} {t:Str} {n:Int} {h u:Bool} {f:Tf} {o:List Str} {ks:List Sn} (hb:besidesS (.mk k t n h u f o ks)=true):(u=true→tfMay f=true)∧(h=true→u=false):=by
 cases h with
 | true =>
  cases u with
  | true=>cases hb
  | false=>exact ⟨(fun e=>by cases e),fun _=>rfl⟩
 | false =>
  cases u with
  | true =>
   have hb':(ks.isEmpty && tfMay f)=true:=hb
   rw [Bool.and_eq_true] at hb'
   exact ⟨fun _=>hb'.2,(fun e=>by cases e)⟩
  | false=>exact ⟨(fun e=>by cases e),(fun e=>by cases e)⟩
theorem jt_snoc (b:Bool) (a:Str) (r:List Str):jt b (a :: r)=(if b=true then [] else [44])++quot fiveS a++jt false r:=by cases b <;> simp [jt]
set_option maxHeartbeats 4000000 in
theorem SShow_step (B g:Nat) (ks:List Sn) (hti:Sn.tinyL ks) (hkl:ks.length≤1000000) (hwf:Sn.wfL ks=true) (htb:1 < B) (IH0:∀ y ∈ ks,y.has=true→ShwC B g y.kids):ShwC B g ks:=by
 intro S a c acc0 w hbl0 ht hB hS hx hlen
 obtain ⟨R,hR⟩:∃ R,acc0++Sn.tellL ks=R:=⟨_,rfl⟩
 have hRl:R.length≤10000000:=by rw [← hR,List.length_append];exact hlen
 rw [hR]
 have hgB:=hbl0.ge
 have hgl:=hbl0.lt
 have HRR:Hid (acc0++Sn.tellL (ks.drop 0)=R):=Lib.hid hR
 have HX:=Lib.hid hx
 have HBL0:=Lib.hid hbl0
 have HT:=Lib.hid ht
 have HS:=Lib.hid hS
 have HTI:=Lib.hid (fun y hy=>tinyL_mem hti y hy)
 have HWF:=Lib.hid (fun y hy=>wfL_mem0 hwf y hy)
 have IH:=Lib.hid IH0
 clear hx hti hwf IH0 hR hbl0 ht hS hlen
 go_enter Tryz.func10,Tryz.ntmps10
 go_wp2
 go_loopw [10] (fun q wr=>SnwRel B g ks w R q wr) (fun q _=>ks.length - (intOf q).toNat)
 case atStart=>exact ⟨0,acc0,rfl,by omega,HBL0.out,Fr.refl _ _ _ _,HRR⟩
 case round =>
  obtain ⟨i,acc,rfl,hi,hbl,hfr,HF⟩:=hrel
  clear HRR HBL0
  have hBr:B≤wr.heap.size:=Nat.le_trans hB hfr.size
  cases hd:ks.drop i with
  | nil =>
   have h2:ks.length≤i:=by simpa using hd
   have HF':Hid (acc=R):=Lib.hid (by rw [← HF.out,hd];simp [Sn.tellL])
   have HBL:=Lib.hid hbl
   have HFR:=Lib.hid hfr
   clear hd HF hbl hfr
   go_wp2
   go_end0
   exact ⟨rfl,HF'.out ▸ HBL.out,HFR.out⟩
  | cons y r =>
   obtain ⟨h2,h3,hr⟩:=ldrop_cons hd
   have hym:=List.mem_of_getElem? h3
   have hty:=HTI.out y hym
   have hwy:=HWF.out y hym
   have hih:=IH.out y hym
   obtain ⟨yk,yt,yn,yh,yu,yf,yo,ys⟩:=y
   rw [Sn.wf,Bool.and_eq_true] at hwy
   simp only [Sn.tiny] at hty
   obtain ⟨ty1,ty2,ty3,ty4,ty5,ty6⟩:=hty
   have HF2:Hid (acc++((Sn.mk yk yt yn yh yu yf yo ys).tell++Sn.tellL (ks.drop (i+1)))=R):=Lib.hid (by rw [hr,← HF.out,hd,tellL_cons])
   have htl:acc.length+((Sn.mk yk yt yn yh yu yf yo ys).tell.length+(Sn.tellL (ks.drop (i+1))).length)≤10000000:=by
    have h:=congrArg List.length HF2.out
    rw [List.length_append,List.length_append] at h;omega
   have hkept:=hfr.keepS hB hgB HS.out
   obtain ⟨b,o,cc,rfl,hSb,hbB,hyv,hcc⟩:=(HX.out.keep hkept).at_ h3
   have hrg:wr.rangeAt b (o+i * 18) cc:=fun j v hj=>by rw [Nat.add_assoc];exact hcc j v hj
   have hcl:=hyv.len
   obtain ⟨fc,oa,oc,ka,kc,hA⟩:=hyv.at_
   obtain ⟨W5,hW5⟩:∃ W5,W5=wr.alloc (.cells cc.toArray 38):=⟨_,rfl⟩
   have HW5:Hid ((wr.alloc (.cells #[.int .i64 0,.string ⟨#[]⟩,.int .i64 0,.bool false,.bool false,.int .i64 0,.string ⟨#[]⟩,.bool false,.slice none 0 0,.int .i64 0,.int .i64 0,.bool false,.slice none 0 0,.slice none 0 0,.bool false,.bool false,.slice none 0 0,.slice none 0 0] 38)).setRow wr.heap.size cc.toArray=W5):=Lib.hid (by rw [hW5];exact World.setRow_alloc_new _ _ _ _)
   have hb5:Below wr.heap.size wr W5:=by rw [hW5];exact (Below.refl _ _).alloc (Nat.le_refl _) _
   have HBX:Hid (W5.heap[wr.heap.size]?=some (.cells cc.toArray 38 (0,0))):=Lib.hid (by rw [hW5];exact heap_alloc_new _ _)
   have hz5:=hb5.size
   have HF5:Hid (Fr B [g] [5] w W5):=Lib.hid (hfr.trans (Fr.of_below hb5 (Nat.le_refl _)))
   have HBL5:=Lib.hid (hbl.below hb5)
   have HT5:=Lib.hid ((HT.out.fr hfr hB hgB htb).keep hb5)
   have HYV:=Lib.hid (hyv.later hb5)
   have HOV:=Lib.hid (hA.ov.keep (Kept.all hb5))
   have hB5:B≤W5.heap.size:=by omega
   have hne:wr.heap.size≠g:=by have:=hfr.size;omega
   obtain ⟨q0,q1,q2,q3,q4,q16,q17,qr⟩:=hA.box HBX.out
   have HONE:Hid (∀ u ∈ cc.toArray.toList,u.oneCell'=true):=Lib.hid (fun u hu=>hyv.one u (by simpa using hu))
   have hkk:=wf_kind hwy.1
   have HA:=Lib.hid hA
   have HIH:=Lib.hid hih
   clear hd hr h3 hyv hcc hW5 hA hym hih HF hkept hbl hfr hb5 hwy qr
   rcases hkk with hk | ⟨hk,hn0,hn9,hbs⟩ | ⟨hk,hn0,hn9⟩ | ⟨hk,ht64,hbs⟩
   ·subst hk
    have HTE:Hid (acc++quot three yt++Sn.tellL (ks.drop (i+1))=R):=Lib.hid (by rw [← HF2.out,tell_mk,if_pos rfl,List.append_assoc])
    rw [tell_mk,if_pos rfl] at htl
    have HQ:=Lib.hid (SQuote_any B g yt three acc W5 HBL5.out ty2 (by omega) hB5)
    unfold three at HQ
    clear HF2
    go_wp2_with (first
     | (first
      | (refine wpList_ldW rfl 38 (.tmp 12) rfl b (o+(i) * 18) rfl cc _ hrg snip_under rfl (by rw [snip_size,hcl]) ?_)
      | (refine wpList_stW rfl 38 (.tmp 5) (.tmp 13) rfl (wr.heap.size) (cc.toArray) rfl rfl 38 (#[.int .i64 0,.string ⟨#[]⟩,.int .i64 0,.bool false,.bool false,.int .i64 0,.string ⟨#[]⟩,.bool false,.slice none 0 0,.int .i64 0,.int .i64 0,.bool false,.slice none 0 0,.slice none 0 0,.bool false,.bool false,.slice none 0 0,.slice none 0 0]) (heap_alloc_new wr _) (snip_size) (by simp [hcl]) rfl (HONE.out) (W:=W5) (HW5.out) ?_))
     | (go_at_call 17;refine HQ.out.mono ?_))
    first | rintro e w1 rfl hbl1 hfr1 | rintro e w1 ⟨rfl,hbl1,hfr1⟩
    have HBL1:=Lib.hid hbl1
    have HFR1:=Lib.hid (HF5.out.trans hfr1)
    clear hbl1 hfr1
    go_wp2
    go_roundw
    case rel=>exact ⟨i+1,_,by go_num,by omega,HBL1.out,HFR1.out,HTE⟩
    case measure=>simp [intOf];omega
   ·subst hk
    have HTE:Hid (acc++36 :: 123 :: (dec yn++brT yh yu yf ys)++Sn.tellL (ks.drop (i+1))=R):=Lib.hid (by rw [← HF2.out,tell_mk,if_neg (by decide),if_neg (by decide),List.append_assoc];rfl)
    rw [tell_mk,if_neg (by decide),if_neg (by decide),show nameT 1 yt yn=dec yn from rfl] at htl
    simp only [List.length_cons,List.length_append] at htl
    obtain ⟨bf1,bf2⟩:=bes_facts hbs
    have HBR:=Lib.hid (fun (w':World) (hb':Below W5.heap.size W5 w')=>SBraced_any B g 1 yt yn yh yu yf yo ys (dec yn) acc ty1 bf1 bf2 (fun e=>HIH.out e) S cc w' (HYV.out.later hb') HS.out (HBL5.out.below hb') (HT5.out.keep hb') htb (Nat.le_trans hB5 hb'.size) (by omega))
    clear HF2 hbs bf1 bf2 HIH
    go_upto_region 17 with (first
     | (refine wpList_ldW rfl 38 (.tmp 12) rfl b (o+(i) * 18) rfl cc _ hrg snip_under rfl (by rw [snip_size,hcl]) ?_)
     | (refine wpList_stW rfl 38 (.tmp 5) (.tmp 13) rfl (wr.heap.size) (cc.toArray) rfl rfl 38 (#[.int .i64 0,.string ⟨#[]⟩,.int .i64 0,.bool false,.bool false,.int .i64 0,.string ⟨#[]⟩,.bool false,.slice none 0 0,.int .i64 0,.int .i64 0,.bool false,.slice none 0 0,.slice none 0 0,.bool false,.bool false,.slice none 0 0,.slice none 0 0]) (heap_alloc_new wr _) (snip_size) (by simp [hcl]) rfl (HONE.out) (W:=W5) (HW5.out) ?_))
    refine wp_region_relyE 5 (by kernel_rfl) (by kernel_rfl) (fun A0 W0 L a w'=>RSI g wr.heap.size cc yn A0 W0 L a w') ?_
    intro A0 HAA
    have hsz:A0.tmps.size=65:=by rw [HAA.out];rfl
    have hnd:[51,52,53,54,55].Nodup:=by decide
    have hbd:∀ d ∈ [51,52,53,54,55],d < A0.tmps.size:=by rw [hsz];decide
    have e0:A0.tmps[0]?=some (.pointer (some ⟨g,0,none⟩)):=by rw [HAA.out];rfl
    have e5:A0.tmps[5]?=some (.pointer (some ⟨wr.heap.size,0,none⟩)):=by rw [HAA.out];rfl
    have hM:=SFs_mono g wr.heap.size cc yn
    have hbx:∀ w',Below W5.heap.size W5 w'→w'.heap[wr.heap.size]?=some (.cells cc.toArray 38 (0,0)):=fun w' h=>(h.block _ (heap_lt HBX.out)).trans HBX.out
    refine ⟨?_,?_,?_⟩
    ·obtain ⟨V,hV⟩:=putsL_own A0 [51,52,53,54,55]
     exact ⟨V,⟨hV⟩,BelI.start _ _ _⟩
    ·refine ⟨?_,?_,?_,?_,?_,trivial⟩
     ·skip
      intro L a w' hL hd hI
      obtain ⟨V,hf,hB⟩:=hI
      simp [DepsOk,Region.binds] at hd
      have e:=ev_of ((hf.out (t:=0) (by decide)).trans e0)
      refine rs_val (wanted_none rfl) (ex_move (.inl rfl)) ?_
      rw [e]
      exact ⟨_,hf.put hnd hbd 0 rfl _,hB.same hM 0 rfl⟩
     ·skip
      intro L a w' hL hd hI
      obtain ⟨V,hf,hB⟩:=hI
      simp [DepsOk,Region.binds] at hd
      refine wpList_ldW rfl 38 (.tmp 5) rfl wr.heap.size 0 (ev_of ((hf.out (t:=5) (by decide)).trans e5)) cc _ (range_blk (ds:=[]) (by simpa using hbx w' hB.ext)) snip_under rfl (by rw [snip_size,hcl]) ?_
      refine wpList_nil ?_
      exact ⟨_,hf.put hnd hbd 1 rfl _,hB.same hM 1 rfl⟩
     ·skip
      intro L a w' hL hd hI
      obtain ⟨V,hf,hB⟩:=hI
      simp [DepsOk,Region.binds] at hd
      have e:=ev_of ((hf.out (t:=5) (by decide)).trans e5)
      refine rs_val (wanted_none rfl) (v:=.pointer (some ⟨wr.heap.size,2,none⟩)) (w':=w') (by simp only [execOp,e];kernel_rfl) ?_
      exact ⟨_,hf.put hnd hbd 2 rfl _,hB.same hM 2 rfl⟩
     ·skip
      intro L a w' hL hd hI
      obtain ⟨V,hf,hB⟩:=hI
      simp [DepsOk,Region.binds] at hd
      have q2':=cell_kept hB.ext _ _ q2
      refine rs_val (wanted_none rfl) (ex_load rfl ((hf.ins hnd hbd 2 rfl).trans (congrArg some (show V 2=.pointer (some ⟨wr.heap.size,2,none⟩) from hB.at_ 2 (by simp [hd])))) (u:=.int .i64 yn) (by go_simp)) ?_
      exact ⟨_,hf.put hnd hbd 3 rfl _,hB.same hM 3 rfl⟩
     ·skip
      intro L a w' hL hd hI
      obtain ⟨V,hf,hB⟩:=hI
      simp [DepsOk,Region.binds] at hd
      have e:=(ev_of ((hf.ins hnd hbd 3 rfl).trans (congrArg some (show V 3=.int .i64 yn from hB.at_ 3 (by simp [hd])))))
      refine rs_call (wanted_none rfl) (ex_call (vs:=#[.int .i64 yn]) rfl Tryz.func19 (by kernel_rfl) (by rw [List.map_toArray];simp only [List.map_cons,List.map_nil,e])) ((Itoa_any yn w' hn0 (by omega) (HT5.out.keep hB.ext)).mono ?_)
      rintro e9 w9 ⟨rfl,hb9⟩
      refine ⟨_,rfl,?_⟩
      exact ⟨_,hf.put hnd hbd 4 rfl _,hB.step hM 4 hb9 rfl⟩
    ·intro L a w' hL hI
     obtain ⟨V,hf,hB⟩:=hI
     have hv0:V 0=.pointer (some ⟨g,0,none⟩):=hB.at_ 0 (hL 0 (by decide))
     have hv1:V 1=.agg cc.toArray:=hB.at_ 1 (hL 1 (by decide))
     have hv4:V 4=.string ⟨(dec yn).toArray⟩:=hB.at_ 4 (hL 4 (by decide))
     have ha:=hf.eq
     have hA:=HAA.out
     have HEX:=Lib.hid hB.ext
     subst ha
     subst hA
     simp only [putsL,hv0,hv1,hv4]
     have HC:=Lib.hid (HBR.out w' HEX.out)
     clear hf hB hM hbd hsz e0 e5 HAA hv0 hv1 hv4 hL hbx hnd
     go_wp2_with (go_at_call 21;refine HC.out.mono ?_)
     first | rintro e w1 rfl hbl1 hfr1 | rintro e w1 ⟨rfl,hbl1,hfr1⟩
     have HBL1:=Lib.hid hbl1
     have HFR1:=Lib.hid ((HF5.out.trans (Fr.of_below HEX.out (Nat.le_refl _))).trans hfr1)
     clear hbl1 hfr1
     go_wp2
     go_roundw
     case rel=>exact ⟨i+1,_,by go_num,by omega,HBL1.out,HFR1.out,HTE⟩
     case measure=>simp [intOf];omega
   ·subst hk
    have HTE:Hid (acc++36 :: 123 :: (dec yn++124 :: (joinQ yo++[124,125]))++Sn.tellL (ks.drop (i+1))=R):=Lib.hid (by rw [← HF2.out,tell_mk,if_neg (by decide),if_pos rfl,List.append_assoc])
    rw [tell_mk,if_neg (by decide),if_pos rfl] at htl
    simp only [List.length_cons,List.length_append,List.length_nil] at htl
    obtain ⟨J,hJ⟩:∃ J,joinQ yo=J:=⟨_,rfl⟩
    have HJ0:Hid (jt true yo=J):=Lib.hid (by rw [jt_join,hJ])
    rw [hJ] at HTE htl
    have HTY4:=Lib.hid ty4
    clear HF2 HIH hJ ty4
    go_wp2_with (first
     | (first
      | (refine wpList_ldW rfl 38 (.tmp 12) rfl b (o+(i) * 18) rfl cc _ hrg snip_under rfl (by rw [snip_size,hcl]) ?_)
      | (refine wpList_stW rfl 38 (.tmp 5) (.tmp 13) rfl (wr.heap.size) (cc.toArray) rfl rfl 38 (#[.int .i64 0,.string ⟨#[]⟩,.int .i64 0,.bool false,.bool false,.int .i64 0,.string ⟨#[]⟩,.bool false,.slice none 0 0,.int .i64 0,.int .i64 0,.bool false,.slice none 0 0,.slice none 0 0,.bool false,.bool false,.slice none 0 0,.slice none 0 0]) (heap_alloc_new wr _) (snip_size) (by simp [hcl]) rfl (HONE.out) (W:=W5) (HW5.out) ?_))
     | (go_at_call 19;refine (Itoa_any yn W5 hn0 (by omega) HT5.out).mono ?_))
    first | rintro e w1 rfl hb1 | rintro e w1 ⟨rfl,hb1⟩
    have hfr1:Fr B [g] [5] W5 w1:=Fr.of_below hb1 (Nat.le_refl _)
    have hbl1:=HBL5.out.below hb1
    have hsz1:B≤w1.heap.size:=by have:=hb1.size;omega
    have HX1:=Lib.hid ((hb1.block _ (heap_lt HBX.out)).trans HBX.out)
    clear q0 q1 q2 q3 q4 q16 q17
    go_wp2_with (go_at_call 18;refine (WriteString_any B g (acc) (36 :: 123 :: (dec yn++[124])) _ hbl1 (by first | omega | (simp;done) | (simp;omega)) (by first | omega | (simp;done) | (simp;omega)) (by omega)).mono ?_)
    first | rintro e w2 rfl hbl2 hfr2 | rintro e w2 ⟨rfl,hbl2,hfr2⟩
    obtain ⟨_,_,_,_,_,q16,_,_⟩:=HA.out.box (hfr2.box HX1.out hne (by decide))
    obtain ⟨A2,hA2⟩:∃ A2,acc++36 :: 123 :: (dec yn++[124])=A2:=⟨_,rfl⟩
    have hA2l:A2.length=acc.length+(dec yn).length+3:=by rw [← hA2];simp;omega
    have HA2:=Lib.hid hA2
    rw [hA2] at hbl2
    have HBL2:=Lib.hid hbl2
    have HFR2:=Lib.hid (hfr1.trans hfr2)
    have HJ1:Hid (A2++jt (decide ((0:Nat)=0)) (yo.drop 0)=A2++J):=Lib.hid (by rw [List.drop_zero];exact congrArg (A2++·) HJ0.out)
    clear hA2 hbl1 hbl2 hfr1 hfr2 HJ0 hb1
    go_wp2
    obtain ⟨wo,rfl⟩:∃ wo:World,wo=wr:=⟨_,rfl⟩
    go_loopw [34] (fun q wr2=>SoRel B g yo W5 (A2++J) q wr2) (fun q _=>yo.length - (intOf q).toNat)
    case atStart=>exact ⟨0,A2,rfl,by omega,HBL2.out,HFR2.out,HJ1⟩
    case round =>
     obtain ⟨j,acj,rfl,hj,hblj,hfrj,HFJ⟩:=hrel
     clear HJ1 HBL2 HFR2
     have hBj:B≤wr.heap.size:=Nat.le_trans hB5 hfrj.size
     have hacj:acj.length≤10000000:=by
      have h:=congrArg List.length HFJ.out
      rw [List.length_append,List.length_append] at h;omega
     have HBLJ:=Lib.hid hblj
     have HFRJ:=Lib.hid hfrj
     cases hd2:yo.drop j with
     | nil =>
      have h4:yo.length≤j:=by simpa using hd2
      have HE2:Hid (acj=A2++J):=Lib.hid (by rw [← HFJ.out,hd2];simp [jt])
      clear hd2 HFJ hblj hfrj
      go_wp2_with (go_at_call 18;refine (WriteString_any B g (acj) ([124,125]) _ HBLJ.out (by first | omega | (simp;done) | (simp;omega)) (by first | omega | (simp;done) | (simp;omega)) (by omega)).mono ?_)
      first | rintro e w3 rfl hbl3 hfr3 | rintro e w3 ⟨rfl,hbl3,hfr3⟩
      have HBL3:=Lib.hid hbl3
      have HFR3:=Lib.hid ((HF5.out.trans HFRJ.out).trans hfr3)
      have HEQ3:Hid (acj++[124,125]++Sn.tellL (ks.drop (i+1))=R):=Lib.hid (by rw [HE2.out,← HTE.out,← HA2.out];simp)
      clear hbl3 hfr3
      go_wp2
      exact ⟨⟨i+1,_,by go_num,by omega,HBL3.out,HFR3.out,HEQ3⟩,by simp [intOf];omega⟩
     | cons s r2 =>
      obtain ⟨h4,h5,hr2⟩:=ldrop_cons hd2
      have hsl:=HTY4.out s (List.mem_of_getElem? h5)
      obtain ⟨ob,oo,rfl,hoB,c0⟩:=(HOV.out.keep (hfrj.keepS hB5 hgB HS.out)).sl.str h5
      have HF3:Hid (acj++((if decide (j=0)=true then [] else [44])++quot fiveS s++jt false r2)=A2++J):=Lib.hid (by rw [← HFJ.out,hd2,jt_snoc])
      have HR3:=Lib.hid hr2
      have e10:decide (j+1=0)=false:=by simp
      have E10:=Lib.hid e10
      clear hd2 HFJ hblj hfrj hr2 h5 e10
      by_cases hj0:j=0
      ·have gi:decide ((0:Int) < (j:Int))=false:=decide_eq_false (by omega)
       have gin:decide (0 < j)=false:=decide_eq_false (by omega)
       have HF4:Hid (acj++quot fiveS s++jt false r2=A2++J):=Lib.hid (by rw [← HF3.out,hj0];simp)
       have HQ:=Lib.hid (SQuote_any B g s fiveS acj wr HBLJ.out hsl (by omega) hBj)
       unfold fiveS at HQ
       clear HF3 hj0
       go_wp2_with (go_at_call 17;refine HQ.out.mono ?_)
       first | rintro e w3 rfl hbl3 hfr3 | rintro e w3 ⟨rfl,hbl3,hfr3⟩
       have HBL3:=Lib.hid hbl3
       have HFR3:=Lib.hid (HFRJ.out.trans hfr3)
       have HEQ3:Hid (acj++quot fiveS s++jt (decide (j+1=0)) (yo.drop (j+1))=A2++J):=Lib.hid (by rw [E10.out,HR3.out];exact HF4.out)
       clear hbl3 hfr3 HF4
       go_wp2
       go_roundw
       case rel=>exact ⟨j+1,_,by go_num,by omega,HBL3.out,HFR3.out,HEQ3⟩
       case measure=>simp [intOf];omega
      ·have gi:decide ((0:Int) < (j:Int))=true:=decide_eq_true (by omega)
       have gin:decide (0 < j)=true:=decide_eq_true (by omega)
       have HF4:Hid (acj++[44]++quot fiveS s++jt false r2=A2++J):=Lib.hid (by rw [← HF3.out,decide_eq_false hj0];simp)
       clear HF3 hj0
       go_wp2_with (go_at_call 20;refine (WriteByte_any B g (acj) (44) _ HBLJ.out (by first | omega | (simp;done) | (simp;omega)) (by omega) (by omega) (by omega)).mono ?_)
       first | rintro e w4 rfl hbl4 hfr4 | rintro e w4 ⟨rfl,hbl4,hfr4⟩
       have hB4:B≤w4.heap.size:=Nat.le_trans hBj hfr4.size
       have HQ:=Lib.hid (SQuote_any B g s fiveS (acj++[44]) w4 (by simpa using hbl4) hsl (by simp;omega) hB4)
       unfold fiveS at HQ
       have HFR4:=Lib.hid (HFRJ.out.trans hfr4)
       clear hbl4 hfr4
       go_wp2_with (go_at_call 17;refine HQ.out.mono ?_)
       first | rintro e w3 rfl hbl3 hfr3 | rintro e w3 ⟨rfl,hbl3,hfr3⟩
       have HBL3:=Lib.hid hbl3
       have HFR3:=Lib.hid (HFR4.out.trans hfr3)
       have HEQ3:Hid (acj++[44]++quot fiveS s++jt (decide (j+1=0)) (yo.drop (j+1))=A2++J):=Lib.hid (by rw [E10.out,HR3.out];exact HF4.out)
       clear hbl3 hfr3 HF4
       go_wp2
       go_roundw
       case rel=>exact ⟨j+1,_,by go_num,by omega,HBL3.out,HFR3.out,HEQ3⟩
       case measure=>simp [intOf];omega
   ·subst hk
    have HTE:Hid (acc++36 :: 123 :: (yt++brT yh yu yf ys)++Sn.tellL (ks.drop (i+1))=R):=Lib.hid (by rw [← HF2.out,tell_mk,if_neg (by decide),if_neg (by decide),List.append_assoc];rfl)
    rw [tell_mk,if_neg (by decide),if_neg (by decide),show nameT 3 yt yn=yt from rfl] at htl
    simp only [List.length_cons,List.length_append] at htl
    obtain ⟨bf1,bf2⟩:=bes_facts hbs
    have HBR:=Lib.hid (SBraced_any B g 3 yt yn yh yu yf yo ys yt acc ty1 bf1 bf2 (fun e=>HIH.out e) S cc W5 HYV.out HS.out HBL5.out HT5.out htb hB5 (by omega))
    clear HF2 hbs bf1 bf2 HIH
    go_wp2_with (first
     | (first
      | (refine wpList_ldW rfl 38 (.tmp 12) rfl b (o+(i) * 18) rfl cc _ hrg snip_under rfl (by rw [snip_size,hcl]) ?_)
      | (refine wpList_stW rfl 38 (.tmp 5) (.tmp 13) rfl (wr.heap.size) (cc.toArray) rfl rfl 38 (#[.int .i64 0,.string ⟨#[]⟩,.int .i64 0,.bool false,.bool false,.int .i64 0,.string ⟨#[]⟩,.bool false,.slice none 0 0,.int .i64 0,.int .i64 0,.bool false,.slice none 0 0,.slice none 0 0,.bool false,.bool false,.slice none 0 0,.slice none 0 0]) (heap_alloc_new wr _) (snip_size) (by simp [hcl]) rfl (HONE.out) (W:=W5) (HW5.out) ?_))
     | (refine wpList_ldW rfl 38 (.tmp 5) rfl wr.heap.size 0 rfl cc _ (range_blk (ds:=[]) (by simpa using HBX.out)) snip_under rfl (by rw [snip_size,hcl]) ?_)
     | (go_at_call 21;refine HBR.out.mono ?_))
    first | rintro e w1 rfl hbl1 hfr1 | rintro e w1 ⟨rfl,hbl1,hfr1⟩
    have HBL1:=Lib.hid hbl1
    have HFR1:=Lib.hid (HF5.out.trans hfr1)
    clear hbl1 hfr1
    go_wp2
    go_roundw
    case rel=>exact ⟨i+1,_,by go_num,by omega,HBL1.out,HFR1.out,HTE⟩
    case measure=>simp [intOf];omega
end Go.Proofs.YtbmakifbppocaaaGreatDoor
set_option maxRecDepth 100000
namespace Go.Proofs.YtbmakifbppocaaaGreatDoor
open Go.RowKit
def RswC (ks:List Sn):Prop:=∀ (S:Nat→Prop) (a:Option Addr) (c:Nat) (w:World),SnSl w S a ks.length ks→(Sn.tellL ks).length≤10000000 →
 Calls Tryz.prog 13 #[.slice a ks.length c] w fun e w'=>e=.returned (.string ⟨(Sn.tellL ks).toArray⟩)∧Below w.heap.size w w'
def RwRel (ks:List Sn) (w:World) (R:Str) (s q:Value) (wr:World):Prop :=
 ∃ (i:Nat) (acc:Str),s=.string ⟨(acc).toArray⟩∧q=.int .i64 i∧i≤ks.length∧Below w.heap.size w wr∧Hid (acc++Sn.tellL (ks.drop i)=R)
def RoRel (o:List Str) (w:World) (R:Str) (s q:Value) (wr:World):Prop :=
 ∃ (j:Nat) (acc:Str),s=.string ⟨(acc).toArray⟩∧q=.int .i64 j∧j≤o.length∧Below w.heap.size w wr∧Hid (acc++jt (decide (j=0)) (o.drop j)=R)
theorem wf_n {k:Int} {t:Str} {n:Int} {h u:Bool} {f:Tf} {o:List Str} {ks:List Sn} (hf:fieldsS (.mk k t n h u f o ks)=true):0≤n∧n≤9999:=by
 have hf':(if k=0 then !t.isEmpty && (decide (n=0) && (o.isEmpty && nothingS (.mk k t n h u f o ks))) else if k=1 then t.isEmpty && (decide (0≤n∧n≤9999) && (o.isEmpty && besidesS (.mk k t n h u f o ks))) else if k=2 then t.isEmpty && (decide (0≤n∧n≤9999) && (!o.isEmpty && nothingS (.mk k t n h u f o ks))) else if k=3 then nameB t && (decide (n=0) && (o.isEmpty && besidesS (.mk k t n h u f o ks))) else false)=true:=hf
 split at hf'
 ·rw [Bool.and_eq_true,Bool.and_eq_true,decide_eq_true_eq] at hf';have:=hf'.2.1;omega
 split at hf'
 ·rw [Bool.and_eq_true,Bool.and_eq_true,decide_eq_true_eq] at hf';exact hf'.2.1
 split at hf'
 ·rw [Bool.and_eq_true,Bool.and_eq_true,decide_eq_true_eq] at hf';exact hf'.2.1
 split at hf'
 ·rw [Bool.and_eq_true,Bool.and_eq_true,decide_eq_true_eq] at hf';have:=hf'.2.1;omega
 ·cases hf'
theorem digs_any (n:Int) (w:World) (h0:0≤n) (h9:n≤9999):Calls Tryz.prog 24 #[.int .i64 n] w fun e w'=>e=.returned (.string ⟨(dec n).toArray⟩)∧Below w.heap.size w w':=by
 obtain ⟨m,rfl⟩:∃ m:Nat,n=m:=⟨n.toNat,by omega⟩
 have h:=Digits_any m w (by omega)
 rw [show dec (m:Int)=Lib.decDigits m from by unfold dec;simp]
 exact h
set_option maxHeartbeats 4000000 in
theorem RShow22_step (ks:List Sn) (hti:Sn.tinyL ks) (hkl:ks.length≤1000000) (hwf:Sn.wfL ks=true) (IH0:∀ y ∈ ks,y.has=true→RswC y.kids):RswC ks:=by
 intro S a c w hx hlen
 obtain ⟨R,hR⟩:∃ R,Sn.tellL ks=R:=⟨_,rfl⟩
 have hRl:R.length≤10000000:=by rw [← hR];exact hlen
 rw [hR]
 have HRR:Hid ([]++Sn.tellL (ks.drop 0)=R):=Lib.hid hR
 have HX:=Lib.hid hx
 have HTI:=Lib.hid (fun y hy=>tinyL_mem hti y hy)
 have HWF:=Lib.hid (fun y hy=>wfL_mem0 hwf y hy)
 have IH:=Lib.hid IH0
 clear hx hti hwf IH0 hR hlen
 go_enter Tryz.func13,Tryz.ntmps13
 go_wp2
 go_loopw [3,4] (fun s q wr=>RwRel ks w R s q wr) (fun _ q _=>ks.length - (intOf q).toNat)
 case atStart=>exact ⟨0,[],rfl,rfl,by omega,Below.refl _ _,HRR⟩
 case round =>
  obtain ⟨i,acc,rfl,rfl,hi,hb,HF⟩:=hrel
  clear HRR
  have hB:=hb.size
  cases hd:ks.drop i with
  | nil =>
   have h2:ks.length≤i:=by simpa using hd
   have HF':Hid (acc=R):=Lib.hid (by rw [← HF.out,hd];simp [Sn.tellL])
   clear hd HF
   go_wp2
   go_ret
   exact ⟨ret_str HF'.out,hb⟩
  | cons y r =>
   obtain ⟨h2,h3,hr⟩:=ldrop_cons hd
   have hym:=List.mem_of_getElem? h3
   have hty:=HTI.out y hym
   have hwy:=HWF.out y hym
   have hih:=IH.out y hym
   obtain ⟨yk,yt,yn,yh,yu,yf,yo,ys⟩:=y
   rw [Sn.wf,Bool.and_eq_true] at hwy
   simp only [Sn.tiny] at hty
   obtain ⟨ty1,ty2,ty3,ty4,ty5,ty6⟩:=hty
   obtain ⟨hn0,hn9⟩:=wf_n hwy.1
   have HF2:Hid (acc++((Sn.mk yk yt yn yh yu yf yo ys).tell++Sn.tellL (ks.drop (i+1)))=R):=Lib.hid (by rw [hr,← HF.out,hd,tellL_cons])
   have htl:acc.length+((Sn.mk yk yt yn yh yu yf yo ys).tell.length+(Sn.tellL (ks.drop (i+1))).length)≤10000000:=by
    have h:=congrArg List.length HF2.out
    rw [List.length_append,List.length_append] at h;omega
   obtain ⟨b,o,cc,rfl,hSb,hbB,hyv,hcc⟩:=(HX.out.later hb).at_ h3
   have hrg:wr.rangeAt b (o+i * 18) cc:=fun j v hj=>by rw [Nat.add_assoc];exact hcc j v hj
   have hcl:=hyv.len
   obtain ⟨fc,oa,oc,ka,kc,hA⟩:=hyv.at_
   obtain ⟨W5,hW5⟩:∃ W5,W5=wr.alloc (.cells cc.toArray 38):=⟨_,rfl⟩
   have HW5:Hid ((wr.alloc (.cells #[.int .i64 0,.string ⟨#[]⟩,.int .i64 0,.bool false,.bool false,.int .i64 0,.string ⟨#[]⟩,.bool false,.slice none 0 0,.int .i64 0,.int .i64 0,.bool false,.slice none 0 0,.slice none 0 0,.bool false,.bool false,.slice none 0 0,.slice none 0 0] 38)).setRow wr.heap.size cc.toArray=W5):=Lib.hid (by rw [hW5];exact World.setRow_alloc_new _ _ _ _)
   have hb5:Below wr.heap.size wr W5:=by rw [hW5];exact (Below.refl _ _).alloc (Nat.le_refl _) _
   have HBX:Hid (W5.heap[wr.heap.size]?=some (.cells cc.toArray 38 (0,0))):=Lib.hid (by rw [hW5];exact heap_alloc_new _ _)
   have hbb:Below w.heap.size w W5:=bel2 hb hb5
   have HOV:=Lib.hid (hA.ov.keep (Kept.all hb5))
   have HKV:=Lib.hid (hA.kv.later hb5)
   have HFV:=Lib.hid (hA.fv.keep (Kept.all hb5))
   have HFC:=Lib.hid hA.fl
   obtain ⟨q0,q1,q2,q3,q4,q16,q17,qr⟩:=hA.box HBX.out
   have HONE:Hid (∀ u ∈ cc.toArray.toList,u.oneCell'=true):=Lib.hid (fun u hu=>hyv.one u (by simpa using hu))
   have hkk:=wf_kind hwy.1
   have HA:=Lib.hid hA
   have HIH:=Lib.hid hih
   have hdl:(dec yn).length≤10:=by have:=dec_len hn0 hn9;omega
   clear hd hr h3 hyv hcc hW5 hA hym hih HF hb5 hwy qr
   rcases hkk with hk | ⟨hk,_,_,hbs⟩ | ⟨hk,_,_⟩ | ⟨hk,ht64,hbs⟩
   ·subst hk
    have HTE:Hid (acc++quot three yt++Sn.tellL (ks.drop (i+1))=R):=Lib.hid (by rw [← HF2.out,tell_mk,if_pos rfl,List.append_assoc])
    rw [tell_mk,if_pos rfl] at htl
    have HQ:=Lib.hid (fun w=>Guard_any yt three w ty2 (by decide) (by decide))
    unfold three at HQ htl
    clear HF2 HIH
    go_wp2_with (first
     | (refine wpList_ldW rfl 38 (.tmp 18) rfl b (o+(i) * 18) rfl cc _ hrg snip_under rfl (by rw [snip_size,hcl]) ?_)
     | (refine wpList_stW rfl 38 (.tmp 5) (.tmp 19) rfl (wr.heap.size) (cc.toArray) rfl rfl 38 (#[.int .i64 0,.string ⟨#[]⟩,.int .i64 0,.bool false,.bool false,.int .i64 0,.string ⟨#[]⟩,.bool false,.slice none 0 0,.int .i64 0,.int .i64 0,.bool false,.slice none 0 0,.slice none 0 0,.bool false,.bool false,.slice none 0 0,.slice none 0 0]) (heap_alloc_new wr _) (snip_size) (by simp [hcl]) rfl (HONE.out) (W:=W5) (HW5.out) ?_)
     | (go_at_call 24;refine (digs_any yn W5 hn0 hn9).mono ?_))
    first | rintro e w1 rfl hb1 | rintro e w1 ⟨rfl,hb1⟩
    have HX1:=Lib.hid ((hb1.block _ (heap_lt HBX.out)).trans HBX.out)
    clear q0 q1 q2 q3 q4 q16 q17
    obtain ⟨q0,q1,q2,q3,q4,q16,q17,qr⟩:=HA.out.box HX1.out
    have hbw1:=bel2 hbb hb1
    go_wp2_with (go_at_call 25;refine (HQ.out _).mono ?_)
    first | rintro e w2 rfl hb2 | rintro e w2 ⟨rfl,hb2⟩
    have hbw2:=bel2 hbw1 hb2
    clear q0 q1 q2 q3 q4 q16 q17 qr
    go_wp2
    exact ⟨⟨i+1,_,rfl,by go_num,by omega,hbw2,HTE⟩,by simp [intOf];omega⟩
   ·subst hk
    have HTE:Hid (acc++36 :: 123 :: (dec yn++brT yh yu yf ys)++Sn.tellL (ks.drop (i+1))=R):=Lib.hid (by rw [← HF2.out,tell_mk,if_neg (by decide),if_neg (by decide),List.append_assoc];rfl)
    rw [tell_mk,if_neg (by decide),if_neg (by decide),show nameT 1 yt yn=dec yn from rfl] at htl
    simp only [List.length_cons,List.length_append] at htl
    obtain ⟨bf1,bf2⟩:=bes_facts hbs
    clear HF2 hbs
    cases yh with
    | true =>
     obtain rfl:yu=false:=bf2 rfl
     have HTE2:Hid ((acc++(36 :: 123 :: dec yn++58 :: (Sn.tellL ys++[125])))++Sn.tellL (ks.drop (i+1))=R):=Lib.hid (by rw [← HTE.out];simp [brT])
     have hbr:(brT true false yf ys).length=(Sn.tellL ys).length+2:=by simp [brT]
     rw [hbr] at htl
     have HK:Hid (RswC ys):=Lib.hid (HIH.out rfl)
     clear HTE HIH bf1 bf2
     go_wp2_with (first
      | (refine wpList_ldW rfl 38 (.tmp 18) rfl b (o+(i) * 18) rfl cc _ hrg snip_under rfl (by rw [snip_size,hcl]) ?_)
      | (refine wpList_stW rfl 38 (.tmp 5) (.tmp 19) rfl (wr.heap.size) (cc.toArray) rfl rfl 38 (#[.int .i64 0,.string ⟨#[]⟩,.int .i64 0,.bool false,.bool false,.int .i64 0,.string ⟨#[]⟩,.bool false,.slice none 0 0,.int .i64 0,.int .i64 0,.bool false,.slice none 0 0,.slice none 0 0,.bool false,.bool false,.slice none 0 0,.slice none 0 0]) (heap_alloc_new wr _) (snip_size) (by simp [hcl]) rfl (HONE.out) (W:=W5) (HW5.out) ?_)
      | (go_at_call 24;refine (digs_any yn W5 hn0 hn9).mono ?_))
     first | rintro e w1 rfl hb1 | rintro e w1 ⟨rfl,hb1⟩
     have HX1:=Lib.hid ((hb1.block _ (heap_lt HBX.out)).trans HBX.out)
     clear q0 q1 q2 q3 q4 q16 q17
     obtain ⟨q0,q1,q2,q3,q4,q16,q17,qr⟩:=HA.out.box HX1.out
     have hbw1:=bel2 hbb hb1
     have HSH:=Lib.hid (HK.out S ka kc w1 (HKV.out.later hb1) (by show (Sn.tellL ys).length≤10000000;omega))
     go_wp2_with (go_at_call 13;refine HSH.out.mono ?_)
     first | rintro e w2 rfl hb2 | rintro e w2 ⟨rfl,hb2⟩
     have hbw2:=bel2 hbw1 hb2
     clear q0 q1 q2 q3 q4 q16 q17 qr
     go_wp2
     exact ⟨⟨i+1,_,rfl,by go_num,by omega,hbw2,(by have h:=HTE2.out;exact Lib.hid (by simpa [Sn.kids] using h))⟩,by simp [intOf];omega⟩
    | false =>
     cases yu with
     | true =>
      have HTE2:Hid ((acc++(36 :: 123 :: dec yn++(formS yf++[125])))++Sn.tellL (ks.drop (i+1))=R):=Lib.hid (by rw [← HTE.out];simp [brT])
      have hbr:(brT false true yf ys).length=(formS yf).length+1:=by simp [brT]
      rw [hbr] at htl
      have HXS:=Lib.hid (fun w' (hk:Below W5.heap.size W5 w')=>R19Show_yes S yf ty1 (bf1 rfl) fc w' (HFV.out.keep (Kept.all hk)))
      clear HTE HIH bf1 bf2
      go_wp2_with (first
       | (refine wpList_ldW rfl 38 (.tmp 18) rfl b (o+(i) * 18) rfl cc _ hrg snip_under rfl (by rw [snip_size,hcl]) ?_)
       | (refine wpList_stW rfl 38 (.tmp 5) (.tmp 19) rfl (wr.heap.size) (cc.toArray) rfl rfl 38 (#[.int .i64 0,.string ⟨#[]⟩,.int .i64 0,.bool false,.bool false,.int .i64 0,.string ⟨#[]⟩,.bool false,.slice none 0 0,.int .i64 0,.int .i64 0,.bool false,.slice none 0 0,.slice none 0 0,.bool false,.bool false,.slice none 0 0,.slice none 0 0]) (heap_alloc_new wr _) (snip_size) (by simp [hcl]) rfl (HONE.out) (W:=W5) (HW5.out) ?_)
       | (go_at_call 24;refine (digs_any yn W5 hn0 hn9).mono ?_))
      first | rintro e w1 rfl hb1 | rintro e w1 ⟨rfl,hb1⟩
      have HX1:=Lib.hid ((hb1.block _ (heap_lt HBX.out)).trans HBX.out)
      clear q0 q1 q2 q3 q4 q16 q17
      obtain ⟨q0,q1,q2,q3,q4,q16,q17,qr⟩:=HA.out.box HX1.out
      have hbw1:=bel2 hbb hb1
      have HXS1:=Lib.hid (HXS.out w1 hb1)
      go_wp2_with (first
       | (refine wpList_ldW rfl 35 (.tmp 88) rfl wr.heap.size 5 rfl fc _ qr form_under rfl (by rw [form_size,HFC.out]) ?_)
       | (go_at_call 26;refine HXS1.out.mono ?_))
      first | rintro e w2 rfl hb2 | rintro e w2 ⟨rfl,hb2⟩
      have hbw2:=bel2 hbw1 hb2
      clear q0 q1 q2 q3 q4 q16 q17 qr
      go_wp2
      exact ⟨⟨i+1,_,rfl,by go_num,by omega,hbw2,(by have h:=HTE2.out;exact Lib.hid (by simpa using h))⟩,by simp [intOf];omega⟩
     | false =>
      have HTE2:Hid ((acc++(36 :: 123 :: dec yn++[125]))++Sn.tellL (ks.drop (i+1))=R):=Lib.hid (by rw [← HTE.out];simp [brT])
      have hbr:(brT false false yf ys).length=1:=by simp [brT]
      rw [hbr] at htl
      clear HTE HIH bf1 bf2
      go_wp2_with (first
       | (refine wpList_ldW rfl 38 (.tmp 18) rfl b (o+(i) * 18) rfl cc _ hrg snip_under rfl (by rw [snip_size,hcl]) ?_)
       | (refine wpList_stW rfl 38 (.tmp 5) (.tmp 19) rfl (wr.heap.size) (cc.toArray) rfl rfl 38 (#[.int .i64 0,.string ⟨#[]⟩,.int .i64 0,.bool false,.bool false,.int .i64 0,.string ⟨#[]⟩,.bool false,.slice none 0 0,.int .i64 0,.int .i64 0,.bool false,.slice none 0 0,.slice none 0 0,.bool false,.bool false,.slice none 0 0,.slice none 0 0]) (heap_alloc_new wr _) (snip_size) (by simp [hcl]) rfl (HONE.out) (W:=W5) (HW5.out) ?_)
       | (go_at_call 24;refine (digs_any yn W5 hn0 hn9).mono ?_))
      first | rintro e w1 rfl hb1 | rintro e w1 ⟨rfl,hb1⟩
      have HX1:=Lib.hid ((hb1.block _ (heap_lt HBX.out)).trans HBX.out)
      clear q0 q1 q2 q3 q4 q16 q17
      obtain ⟨q0,q1,q2,q3,q4,q16,q17,qr⟩:=HA.out.box HX1.out
      have hbw1:=bel2 hbb hb1
      go_wp2
      exact ⟨⟨i+1,_,rfl,by go_num,by omega,hbw1,(by have h:=HTE2.out;exact Lib.hid (by simpa using h))⟩,by simp [intOf];omega⟩
   ·subst hk
    have HTE:Hid (acc++36 :: 123 :: (dec yn++124 :: (joinQ yo++[124,125]))++Sn.tellL (ks.drop (i+1))=R):=Lib.hid (by rw [← HF2.out,tell_mk,if_neg (by decide),if_pos rfl,List.append_assoc])
    rw [tell_mk,if_neg (by decide),if_pos rfl] at htl
    simp only [List.length_cons,List.length_append,List.length_nil] at htl
    obtain ⟨J,hJ⟩:∃ J,joinQ yo=J:=⟨_,rfl⟩
    have HJ0:Hid (jt true yo=J):=Lib.hid (by rw [jt_join,hJ])
    rw [hJ] at HTE htl
    have HTY4:=Lib.hid ty4
    have HQ:=Lib.hid (fun s hs w=>Guard_any s fiveS w (ty4 s hs) (by decide) (by decide))
    unfold fiveS at HQ
    clear HF2 HIH hJ ty4
    go_wp2_with (first
     | (refine wpList_ldW rfl 38 (.tmp 18) rfl b (o+(i) * 18) rfl cc _ hrg snip_under rfl (by rw [snip_size,hcl]) ?_)
     | (refine wpList_stW rfl 38 (.tmp 5) (.tmp 19) rfl (wr.heap.size) (cc.toArray) rfl rfl 38 (#[.int .i64 0,.string ⟨#[]⟩,.int .i64 0,.bool false,.bool false,.int .i64 0,.string ⟨#[]⟩,.bool false,.slice none 0 0,.int .i64 0,.int .i64 0,.bool false,.slice none 0 0,.slice none 0 0,.bool false,.bool false,.slice none 0 0,.slice none 0 0]) (heap_alloc_new wr _) (snip_size) (by simp [hcl]) rfl (HONE.out) (W:=W5) (HW5.out) ?_)
     | (go_at_call 24;refine (digs_any yn W5 hn0 hn9).mono ?_))
    first | rintro e w1 rfl hb1 | rintro e w1 ⟨rfl,hb1⟩
    have HX1:=Lib.hid ((hb1.block _ (heap_lt HBX.out)).trans HBX.out)
    clear q0 q1 q2 q3 q4 q16 q17
    obtain ⟨q0,q1,q2,q3,q4,q16,q17,qr⟩:=HA.out.box HX1.out
    have hbw1:=bel2 hbb hb1
    have HB51:=Lib.hid hb1
    obtain ⟨A2,hA2⟩:∃ A2,acc++36 :: 123 :: (dec yn++[124])=A2:=⟨_,rfl⟩
    have hA2l:A2.length=acc.length+(dec yn).length+3:=by rw [← hA2];simp;omega
    have HA2:=Lib.hid hA2
    have HJ1:Hid (A2++jt (decide ((0:Nat)=0)) (yo.drop 0)=A2++J):=Lib.hid (by rw [List.drop_zero];exact congrArg (A2++·) HJ0.out)
    clear hA2 HJ0 hb1
    go_wp2
    obtain ⟨wo,rfl⟩:∃ wo:World,wo=wr:=⟨_,rfl⟩
    go_loopw [3,7] (fun s q wr2=>RoRel yo w1 (A2++J) s q wr2) (fun _ q _=>yo.length - (intOf q).toNat)
    case atStart=>exact ⟨0,A2,by rw [← HA2.out],rfl,by omega,Below.refl _ _,HJ1⟩
    case round =>
     obtain ⟨j,acj,rfl,rfl,hj,hbj,HFJ⟩:=hrel
     clear HJ1 q0 q1 q2 q3 q4 q16 q17 qr
     have HXJ:=Lib.hid ((hbj.block _ (heap_lt HX1.out)).trans HX1.out)
     obtain ⟨q0,q1,q2,q3,q4,q16,q17,qr⟩:=HA.out.box HXJ.out
     have hacj:acj.length≤10000000:=by
      have h:=congrArg List.length HFJ.out
      rw [List.length_append,List.length_append] at h;omega
     cases hd2:yo.drop j with
     | nil =>
      have h4:yo.length≤j:=by simpa using hd2
      have HE2:Hid (acj=A2++J):=Lib.hid (by rw [← HFJ.out,hd2];simp [jt])
      have hbw2:=bel2 hbw1 hbj
      have HEQ3:Hid (acj++[124,125]++Sn.tellL (ks.drop (i+1))=R):=Lib.hid (by rw [HE2.out,← HTE.out,← HA2.out];simp)
      clear hd2 HFJ hbj
      go_wp2
      exact ⟨⟨i+1,_,rfl,by go_num,by omega,hbw2,HEQ3⟩,by simp [intOf];omega⟩
     | cons s r2 =>
      obtain ⟨h4,h5,hr2⟩:=ldrop_cons hd2
      have hsm:=List.mem_of_getElem? h5
      have hsl:=HTY4.out s hsm
      obtain ⟨ob,oo,rfl,hoB,c0⟩:=(HOV.out.keep (Kept.all (bel2 HB51.out hbj))).sl.str h5
      have HF3:Hid (acj++((if decide (j=0)=true then [] else [44])++quot fiveS s++jt false r2)=A2++J):=Lib.hid (by rw [← HFJ.out,hd2,jt_snoc])
      have hsq:acj.length+(quot [36,125,92,44,124] s).length+1≤20000000:=by
       have h:=congrArg List.length HF3.out
       simp only [List.length_append,fiveS] at h
       omega
      have HR3:=Lib.hid hr2
      have e10:decide (j+1=0)=false:=by simp
      have E10:=Lib.hid e10
      have HQS:=Lib.hid (HQ.out s hsm)
      clear hd2 HFJ hr2 h5 e10
      by_cases hj0:j=0
      ·have gi:decide ((0:Int) < (j:Int))=false:=decide_eq_false (by omega)
       have gin:decide (0 < j)=false:=decide_eq_false (by omega)
       have HF4:Hid (acj++quot [36,125,92,44,124] s++jt false r2=A2++J):=Lib.hid (by rw [← HF3.out,hj0];simp [fiveS])
       clear HF3 hj0
       go_wp2_with (go_at_call 25;refine (HQS.out _).mono ?_)
       first | rintro e w3 rfl hb3 | rintro e w3 ⟨rfl,hb3⟩
       have hbw3:=bel2 hbj hb3
       have HEQ3:Hid (acj++quot [36,125,92,44,124] s++jt (decide (j+1=0)) (yo.drop (j+1))=A2++J):=Lib.hid (by rw [E10.out,HR3.out];exact HF4.out)
       clear HF4
       go_wp2
       go_roundw
       case rel=>exact ⟨j+1,_,rfl,by go_num,by omega,hbw3,HEQ3⟩
       case measure=>simp [intOf];omega
      ·have gi:decide ((0:Int) < (j:Int))=true:=decide_eq_true (by omega)
       have gin:decide (0 < j)=true:=decide_eq_true (by omega)
       have HF4:Hid (acj++[44]++quot [36,125,92,44,124] s++jt false r2=A2++J):=Lib.hid (by rw [← HF3.out,decide_eq_false hj0];simp [fiveS])
       clear HF3 hj0
       go_wp2_with (go_at_call 25;refine (HQS.out _).mono ?_)
       first | rintro e w3 rfl hb3 | rintro e w3 ⟨rfl,hb3⟩
       have hbw3:=bel2 hbj hb3
       have HEQ3:Hid (acj++[44]++quot [36,125,92,44,124] s++jt (decide (j+1=0)) (yo.drop (j+1))=A2++J):=Lib.hid (by rw [E10.out,HR3.out];exact HF4.out)
       clear HF4
       go_wp2
       go_roundw
       case rel=>exact ⟨j+1,acj++[44]++quot [36,125,92,44,124] s,by simp,by go_num,by omega,hbw3,HEQ3⟩
       case measure=>simp [intOf];omega
   ·subst hk
    have HTE:Hid (acc++36 :: 123 :: (yt++brT yh yu yf ys)++Sn.tellL (ks.drop (i+1))=R):=Lib.hid (by rw [← HF2.out,tell_mk,if_neg (by decide),if_neg (by decide),List.append_assoc];rfl)
    rw [tell_mk,if_neg (by decide),if_neg (by decide),show nameT 3 yt yn=yt from rfl] at htl
    simp only [List.length_cons,List.length_append] at htl
    obtain ⟨bf1,bf2⟩:=bes_facts hbs
    clear HF2 hbs
    cases yh with
    | true =>
     obtain rfl:yu=false:=bf2 rfl
     have HTE2:Hid ((acc++(36 :: 123 :: yt++58 :: (Sn.tellL ys++[125])))++Sn.tellL (ks.drop (i+1))=R):=Lib.hid (by rw [← HTE.out];simp [brT])
     have hbr:(brT true false yf ys).length=(Sn.tellL ys).length+2:=by simp [brT]
     rw [hbr] at htl
     have HK:Hid (RswC ys):=Lib.hid (HIH.out rfl)
     clear HTE HIH bf1 bf2
     go_wp2_with (first
      | (refine wpList_ldW rfl 38 (.tmp 18) rfl b (o+(i) * 18) rfl cc _ hrg snip_under rfl (by rw [snip_size,hcl]) ?_)
      | (refine wpList_stW rfl 38 (.tmp 5) (.tmp 19) rfl (wr.heap.size) (cc.toArray) rfl rfl 38 (#[.int .i64 0,.string ⟨#[]⟩,.int .i64 0,.bool false,.bool false,.int .i64 0,.string ⟨#[]⟩,.bool false,.slice none 0 0,.int .i64 0,.int .i64 0,.bool false,.slice none 0 0,.slice none 0 0,.bool false,.bool false,.slice none 0 0,.slice none 0 0]) (heap_alloc_new wr _) (snip_size) (by simp [hcl]) rfl (HONE.out) (W:=W5) (HW5.out) ?_)
      | (go_at_call 24;refine (digs_any yn W5 hn0 hn9).mono ?_))
     first | rintro e w1 rfl hb1 | rintro e w1 ⟨rfl,hb1⟩
     have HX1:=Lib.hid ((hb1.block _ (heap_lt HBX.out)).trans HBX.out)
     clear q0 q1 q2 q3 q4 q16 q17
     obtain ⟨q0,q1,q2,q3,q4,q16,q17,qr⟩:=HA.out.box HX1.out
     have hbw1:=bel2 hbb hb1
     have HSH:=Lib.hid (HK.out S ka kc w1 (HKV.out.later hb1) (by show (Sn.tellL ys).length≤10000000;omega))
     go_wp2_with (go_at_call 13;refine HSH.out.mono ?_)
     first | rintro e w2 rfl hb2 | rintro e w2 ⟨rfl,hb2⟩
     have hbw2:=bel2 hbw1 hb2
     clear q0 q1 q2 q3 q4 q16 q17 qr
     go_wp2
     exact ⟨⟨i+1,_,rfl,by go_num,by omega,hbw2,(by have h:=HTE2.out;exact Lib.hid (by simpa [Sn.kids] using h))⟩,by simp [intOf];omega⟩
    | false =>
     cases yu with
     | true =>
      have HTE2:Hid ((acc++(36 :: 123 :: yt++(formS yf++[125])))++Sn.tellL (ks.drop (i+1))=R):=Lib.hid (by rw [← HTE.out];simp [brT])
      have hbr:(brT false true yf ys).length=(formS yf).length+1:=by simp [brT]
      rw [hbr] at htl
      have HXS:=Lib.hid (fun w' (hk:Below W5.heap.size W5 w')=>R19Show_yes S yf ty1 (bf1 rfl) fc w' (HFV.out.keep (Kept.all hk)))
      clear HTE HIH bf1 bf2
      go_wp2_with (first
       | (refine wpList_ldW rfl 38 (.tmp 18) rfl b (o+(i) * 18) rfl cc _ hrg snip_under rfl (by rw [snip_size,hcl]) ?_)
       | (refine wpList_stW rfl 38 (.tmp 5) (.tmp 19) rfl (wr.heap.size) (cc.toArray) rfl rfl 38 (#[.int .i64 0,.string ⟨#[]⟩,.int .i64 0,.bool false,.bool false,.int .i64 0,.string ⟨#[]⟩,.bool false,.slice none 0 0,.int .i64 0,.int .i64 0,.bool false,.slice none 0 0,.slice none 0 0,.bool false,.bool false,.slice none 0 0,.slice none 0 0]) (heap_alloc_new wr _) (snip_size) (by simp [hcl]) rfl (HONE.out) (W:=W5) (HW5.out) ?_)
       | (go_at_call 24;refine (digs_any yn W5 hn0 hn9).mono ?_))
      first | rintro e w1 rfl hb1 | rintro e w1 ⟨rfl,hb1⟩
      have HX1:=Lib.hid ((hb1.block _ (heap_lt HBX.out)).trans HBX.out)
      clear q0 q1 q2 q3 q4 q16 q17
      obtain ⟨q0,q1,q2,q3,q4,q16,q17,qr⟩:=HA.out.box HX1.out
      have hbw1:=bel2 hbb hb1
      have HXS1:=Lib.hid (HXS.out w1 hb1)
      go_wp2_with (first
       | (refine wpList_ldW rfl 35 (.tmp 88) rfl wr.heap.size 5 rfl fc _ qr form_under rfl (by rw [form_size,HFC.out]) ?_)
       | (go_at_call 26;refine HXS1.out.mono ?_))
      first | rintro e w2 rfl hb2 | rintro e w2 ⟨rfl,hb2⟩
      have hbw2:=bel2 hbw1 hb2
      clear q0 q1 q2 q3 q4 q16 q17 qr
      go_wp2
      exact ⟨⟨i+1,_,rfl,by go_num,by omega,hbw2,(by have h:=HTE2.out;exact Lib.hid (by simpa using h))⟩,by simp [intOf];omega⟩
     | false =>
      have HTE2:Hid ((acc++(36 :: 123 :: yt++[125]))++Sn.tellL (ks.drop (i+1))=R):=Lib.hid (by rw [← HTE.out];simp [brT])
      have hbr:(brT false false yf ys).length=1:=by simp [brT]
      rw [hbr] at htl
      clear HTE HIH bf1 bf2
      go_wp2_with (first
       | (refine wpList_ldW rfl 38 (.tmp 18) rfl b (o+(i) * 18) rfl cc _ hrg snip_under rfl (by rw [snip_size,hcl]) ?_)
       | (refine wpList_stW rfl 38 (.tmp 5) (.tmp 19) rfl (wr.heap.size) (cc.toArray) rfl rfl 38 (#[.int .i64 0,.string ⟨#[]⟩,.int .i64 0,.bool false,.bool false,.int .i64 0,.string ⟨#[]⟩,.bool false,.slice none 0 0,.int .i64 0,.int .i64 0,.bool false,.slice none 0 0,.slice none 0 0,.bool false,.bool false,.slice none 0 0,.slice none 0 0]) (heap_alloc_new wr _) (snip_size) (by simp [hcl]) rfl (HONE.out) (W:=W5) (HW5.out) ?_)
       | (go_at_call 24;refine (digs_any yn W5 hn0 hn9).mono ?_))
      first | rintro e w1 rfl hb1 | rintro e w1 ⟨rfl,hb1⟩
      have HX1:=Lib.hid ((hb1.block _ (heap_lt HBX.out)).trans HBX.out)
      clear q0 q1 q2 q3 q4 q16 q17
      obtain ⟨q0,q1,q2,q3,q4,q16,q17,qr⟩:=HA.out.box HX1.out
      have hbw1:=bel2 hbb hb1
      go_wp2
      exact ⟨⟨i+1,_,rfl,by go_num,by omega,hbw1,(by have h:=HTE2.out;exact Lib.hid (by simpa using h))⟩,by simp [intOf];omega⟩
theorem RShw22_all:∀ (N:Nat) (ks:List Sn),Sn.partsL ks < N→Sn.tinyL ks→ks.length≤1000000→Sn.wfL ks=true→RswC ks
 | 0,ks,h,_,_,_=>by omega
 | N+1,ks,h,hti,hkl,hwf=>RShow22_step ks hti hkl hwf (fun y hy hh=>by
   have h1:=Sn.parts_mem hy
   have h2:=tinyL_mem hti y hy
   have h3:=wfL_mem0 hwf y hy
   obtain ⟨yk,yt,yn,yh,yu,yf,yo,ys⟩:=y
   simp only [Sn.tiny] at h2
   obtain ⟨_,_,_,_,h5,h6⟩:=h2
   simp only [Sn.parts] at h1
   obtain rfl:yh=true:=hh
   rw [Sn.wf,Bool.and_eq_true,Bool.not_true,Bool.false_or,Bool.and_eq_true] at h3
   exact RShw22_all N ys (by omega) h6 h5 h3.2.2)
end Go.Proofs.YtbmakifbppocaaaGreatDoor
set_option maxRecDepth 100000
namespace Go.Proofs.YtbmakifbppocaaaGreatDoor
open Go.RowKit
def DpRel (ks:List Sn) (R:Nat) (w:World) (t q:Value) (wr:World):Prop :=
 ∃ (k d:Nat),q=.int .i64 k∧t=.int .i64 d∧k≤ks.length∧d≤100000000∧Below w.heap.size w wr∧Hid (max d (Sn.deepL (ks.drop k))=R)
theorem sdeep_parts:∀ (N:Nat) (x:Sn),x.parts≤N→x.deep≤x.parts
 | 0,x,h=>by have:=Sn.parts_pos x;omega
 | N+1,.mk k t n hh u f o ks,h=>by
  have key:∀ l:List Sn,Sn.partsL l≤N→Sn.deepL l≤Sn.partsL l:=by
   intro l
   induction l with
   | nil=>intro _;simp [Sn.deepL]
   | cons y r ih =>
    intro hl
    simp only [Sn.partsL] at hl
    have h1:=sdeep_parts N y (by omega)
    have h2:=ih (by omega)
    simp only [Sn.deepL,Sn.partsL];omega
  simp only [Sn.parts] at h
  have:=key ks (by omega)
  simp only [Sn.deep,Sn.parts]
  split <;> omega
theorem deepLS_parts:∀ l:List Sn,Sn.deepL l≤Sn.partsL l
 | []=>by simp [Sn.deepL]
 | x :: r=>by have:=sdeep_parts _ x (Nat.le_refl _);have:=deepLS_parts r;simp only [Sn.deepL,Sn.partsL];omega
end Go.Proofs.YtbmakifbppocaaaGreatDoor
set_option maxRecDepth 100000
namespace Go.Proofs.YtbmakifbppocaaaGreatDoor
open Go.RowKit
set_option maxHeartbeats 1000000 in
theorem RDeep20_any (S:Nat→Prop):∀ (N:Nat) (ks:List Sn),Sn.partsL ks < N→Sn.partsL ks≤1000000→∀ (a:Option Addr) (c:Nat) (w:World),SnSl w S a ks.length ks →
  Calls Tryz.prog 22 #[.slice a ks.length c] w fun e w'=>e=.returned (.int .i64 (Sn.deepL ks))∧Below w.heap.size w w'
 | 0,ks,h,_,_,_,_,_=>by omega
 | N+1,ks,h,hm,a,c,w,hx=>by
  have hlen:=Sn.len_parts ks
  have hdl:=deepLS_parts ks
  have ih:=fun (y:Sn) (hy:y.parts≤Sn.partsL ks)=>RDeep20_any S N y.kids (by obtain ⟨_,_,_,_,_,_,_,l⟩:=y;simp only [Sn.parts] at hy;simp only [Sn.kids];omega) (by obtain ⟨_,_,_,_,_,_,_,l⟩:=y;simp only [Sn.parts] at hy;simp only [Sn.kids];omega)
  have IH:=Lib.hid ih
  have HX:=Lib.hid hx
  obtain ⟨R,hR⟩:∃ R,Sn.deepL ks=R:=⟨_,rfl⟩
  have HR0:Hid (max 0 (Sn.deepL (ks.drop 0))=R):=Lib.hid (by simpa using hR)
  have hR6:R≤1000000:=by omega
  rw [hR]
  clear hR hx ih hdl
  go_enter Tryz.func22,Tryz.ntmps22
  go_wp2
  go_loopw [3,4] (fun t q wr=>DpRel ks R w t q wr) (fun _ q _=>ks.length - (intOf q).toNat)
  case atStart=>exact ⟨0,0,rfl,rfl,by omega,by omega,Below.refl _ _,HR0⟩
  case round =>
   obtain ⟨i,d,rfl,rfl,hi,hd9,hb,HF⟩:=hrel
   clear HR0
   have hB:=hb.size
   cases hd:ks.drop i with
   | nil =>
    have h2:ks.length≤i:=by simpa using hd
    have HE:Hid (d=R):=Lib.hid (by rw [← HF.out,hd];simp [Sn.deepL])
    clear hd HF
    go_wp2
    go_ret
    exact ⟨ret_int (by have:=HE.out;omega),hb⟩
   | cons y r =>
    obtain ⟨h2,h3,hr⟩:=ldrop_cons hd
    obtain ⟨yk,yt,yn,yh,yu,yf,yo,ys⟩:=y
    have hyp:=Sn.parts_mem (List.mem_of_getElem? h3)
    obtain ⟨b,o,cc,rfl,hS,hbB,hyv,hcc⟩:=(HX.out.later hb).at_ h3
    obtain ⟨fc,oa,oc,ka,kc,hA⟩:=hyv.at_
    have Hr:=Lib.hid hr
    have HE:Hid (max d (max (Sn.deepL ys+(if yh then 1 else 0)) (Sn.deepL r))=R):=Lib.hid (by rw [← HF.out,hd];rfl)
    have HIH:Hid (Calls Tryz.prog 22 #[.slice ka ys.length kc] wr fun e w'=>e=.returned (.int .i64 (Sn.deepL ys))∧Below wr.heap.size wr w'):=Lib.hid (IH.out _ hyp ka kc wr hA.kv)
    have k3:wr.cell? ⟨b,o+i * 18+3,none⟩=some (.bool yh):=by rw [Nat.add_assoc];exact hcc 3 _ hA.c3
    have k17:wr.cell? ⟨b,o+i * 18+17,none⟩=some (.slice ka ys.length kc):=by rw [Nat.add_assoc];exact hcc 17 _ hA.c17
    have hle:max d (Sn.deepL ys+(if yh then 1 else 0))≤R:=by have:=HE.out;omega
    clear hd HF hr h3 hyv hcc hA
    cases yh with
    | true =>
     simp only [if_true] at hle
     go_wp2_with (go_at_call 22;refine HIH.out.mono ?_;rintro e w1 ⟨rfl,hb1⟩;have k31:=cell_kept hb1 _ _ k3)
     go_roundw
     case rel=>exact ⟨i+1,(max d (Sn.deepL ys+1)),by go_num,(by congr 1;first | omega | (rw [wrap64_in _ (by omega)];split <;> omega) | (split <;> omega)),by omega,by omega,hb.trans (hb1.mono hB),Lib.hid (by rw [Hr.out];have h:=HE.out;first | (rw [if_pos (by decide)] at h;omega) | (rw [if_neg (by decide)] at h;omega))⟩
     case measure=>simp [intOf];omega
    | false =>
     simp only [Bool.false_eq_true,if_false] at hle
     go_wp2_with (go_at_call 22;refine HIH.out.mono ?_;rintro e w1 ⟨rfl,hb1⟩;have k31:=cell_kept hb1 _ _ k3)
     go_roundw
     case rel=>exact ⟨i+1,(max d (Sn.deepL ys)),by go_num,(by congr 1;first | omega | (rw [wrap64_in _ (by omega)];split <;> omega) | (split <;> omega)),by omega,by omega,hb.trans (hb1.mono hB),Lib.hid (by rw [Hr.out];have h:=HE.out;first | (rw [if_pos (by decide)] at h;omega) | (rw [if_neg (by decide)] at h;omega))⟩
     case measure=>simp [intOf];omega
theorem maySn_eq (ks:List Sn):maySn ks=(decide (Sn.deepL ks≤32) && mayR ks):=by
 unfold maySn mayR
 exact Bool.and_comm _ _
set_option maxHeartbeats 1000000 in
theorem RMayS_any (S:Nat→Prop) (ks:List Sn) (hsm:Sn.smallL ks) (hp:Sn.partsL ks≤1000000) (a:Option Addr) (c:Nat) (w:World) (hx:SnSl w S a ks.length ks) :
  Calls Tryz.prog 12 #[.slice a ks.length c] w fun e w'=>e=.returned (.bool (maySn ks))∧Below w.heap.size w w':=by
 have hkl:ks.length≤1000000:=Nat.le_trans (Sn.len_parts ks) hp
 have HD:=Lib.hid (RDeep20_any S (Sn.partsL ks+1) ks (by omega) hp a c w hx)
 have HM:=Lib.hid (fun w1 (h1:Below w.heap.size w w1)=>RMay20_all (Sn.partsL ks+1) ks (by omega) hsm hkl S a c w1 (hx.later h1))
 rw [maySn_eq]
 generalize Sn.deepL ks=d at HD ⊢
 clear hx hsm hp
 by_cases hd:d≤32
 ·rw [decide_eq_true hd,Bool.true_and]
  have g1:decide ((d:Int)≤32)=true:=decide_eq_true (by omega)
  clear hd
  go_enter Tryz.func12,Tryz.ntmps12
  go_wp2_with (go_at_call 22;refine HD.out.mono ?_)
  first | rintro e w1 rfl hb1 | rintro e w1 ⟨rfl,hb1⟩
  have HC:=Lib.hid (HM.out w1 hb1)
  go_wp2_with (go_at_call 23;refine HC.out.mono ?_)
  first | rintro e w2 rfl hb2 | rintro e w2 ⟨rfl,hb2⟩
  go_wp2
  go_ret
  exact ⟨rfl,bel2 hb1 hb2⟩
 ·rw [decide_eq_false hd,Bool.false_and]
  have g1:decide ((d:Int)≤32)=false:=decide_eq_false (by omega)
  clear hd
  go_enter Tryz.func12,Tryz.ntmps12
  go_wp2_with (go_at_call 22;refine HD.out.mono ?_)
  first | rintro e w1 rfl hb1 | rintro e w1 ⟨rfl,hb1⟩
  go_wp2
  go_ret
  exact ⟨rfl,hb1⟩
theorem R22Show_no (S:Nat→Prop) (ks:List Sn) (hsm:Sn.smallL ks) (hp:Sn.partsL ks≤1000000) (hm:maySn ks=false) (a:Option Addr) (c:Nat) (w:World) (hx:SnSl w S a ks.length ks) :
  Calls Tryz.prog 7 #[.slice a ks.length c] w fun e w'=>e=.returned (.tuple #[.string ⟨([]).toArray⟩,.int .i64 10])∧Below w.heap.size w w':=by
 have HM:=Lib.hid (RMayS_any S ks hsm hp a c w hx)
 rw [hm] at HM
 clear hx hm hsm hp
 go_enter Tryz.func7,Tryz.ntmps7
 go_wp2_with (go_at_call 12;refine HM.out.mono ?_)
 first | rintro e w1 rfl hb1 | rintro e w1 ⟨rfl,hb1⟩
 go_wp2
 go_ret2
 exact ⟨rfl,hb1⟩
theorem R22Show_yes (S:Nat→Prop) (ks:List Sn) (hti:Sn.tinyL ks) (hp:Sn.partsL ks≤1000000) (hm:maySn ks=true) (hl:(Sn.tellL ks).length≤10000000) (a:Option Addr) (c:Nat) (w:World) (hx:SnSl w S a ks.length ks) :
  Calls Tryz.prog 7 #[.slice a ks.length c] w fun e w'=>e=.returned (.tuple #[.string ⟨(Sn.tellL ks).toArray⟩,.int .i64 0])∧Below w.heap.size w w':=by
 have HM:=Lib.hid (RMayS_any S ks (tinyL_small ks hti) hp a c w hx)
 rw [hm] at HM
 have hwf:Sn.wfL ks=true:=by
  unfold maySn at hm
  rw [Bool.and_eq_true,Bool.and_eq_true] at hm
  exact hm.1.2
 have hkl:ks.length≤1000000:=Nat.le_trans (Sn.len_parts ks) hp
 have HSH:=Lib.hid (fun w1 (h1:Below w.heap.size w w1)=>RShw22_all (Sn.partsL ks+1) ks (by omega) hti hkl hwf S a c w1 (hx.later h1) hl)
 clear hx hm hti hwf hp
 go_enter Tryz.func7,Tryz.ntmps7
 go_wp2_with (go_at_call 12;refine HM.out.mono ?_)
 first | rintro e w1 rfl hb1 | rintro e w1 ⟨rfl,hb1⟩
 have HC:=Lib.hid (HSH.out w1 hb1)
 go_wp2_with (go_at_call 13;refine HC.out.mono ?_)
 first | rintro e w2 rfl hb2 | rintro e w2 ⟨rfl,hb2⟩
 go_wp2
 go_ret2
 exact ⟨rfl,bel2 hb1 hb2⟩
end Go.Proofs.YtbmakifbppocaaaGreatDoor
