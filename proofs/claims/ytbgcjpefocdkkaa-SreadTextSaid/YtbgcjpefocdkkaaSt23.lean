/- walk of sread: whole -/
import Derived.Test.YtbgcjpefocdkkaaSt22
set_option maxRecDepth 100000
namespace Go.Proofs.Ytbgcjpefocdkkaa
open Go.RowKit Go.Maps Go.MapKept
open Go.ChangeMaps (setBlock)
theorem hd_v (w : World) (S : Nat→Prop) (k : Int) (t : Str) (n : Int) : SnV w S [.int .i64 k,.string ⟨(t).toArray⟩,.int .i64 n,.bool false,.bool false,.int .i64 0,.string ⟨#[]⟩,.bool false,.slice none 0 0,.int .i64 0,.int .i64 0,.bool false,.slice none 0 0,.slice none 0 0,.bool false,.bool false,.slice none 0 0,.slice none 0 0] (.mk k t n false false tf0 [] []) :=
 SnV.close (os:=[]) (ks:=[]) (TfV.zero w S) (SlS.none_ _ _ _ _) (SnSl.nil _ _ _)
/-- A number or a name, nothing besides. -/
def hdN (k : Int) (t : Str) (n : Int) : Sn:=.mk k t n false false tf0 [] []
def BracedC (g m : Nat) (s : Str) (N : Nat) : Prop:=∀ (S : Nat→Prop) (w : World) (i : Nat) (k : Int) (t : Str) (n : Int),Rs S w g m s i→(k=1∨k=3)→s.length - i≤N →
 Calls Try.prog 44 #[.pointer (some ⟨g,0,none⟩),.agg #[.int .i64 k,.string ⟨(t).toArray⟩,.int .i64 n,.bool false,.bool false,.int .i64 0,.string ⟨#[]⟩,.bool false,.slice none 0 0,.int .i64 0,.int .i64 0,.bool false,.slice none 0 0,.slice none 0 0,.bool false,.bool false,.slice none 0 0,.slice none 0 0]] w fun e w' => OutX S g m s (bracedS (partsS true [] []) (hdN k t n) (s.drop i)) false i w e w'
theorem nameS_M (r : Str) : nameM r=match nameS r with | some (n,r2) => some (varS n,r2) | none => none:=by
 unfold nameM nameS
 split <;> rfl
theorem hd_one (w : World) (k : Int) (t : Str) (n : Int) : ∀ u ∈ (#[.int .i64 k,.string ⟨(t).toArray⟩,.int .i64 n,.bool false,.bool false,.int .i64 0,.string ⟨#[]⟩,.bool false,.slice none 0 0,.int .i64 0,.int .i64 0,.bool false,.slice none 0 0,.slice none 0 0,.bool false,.bool false,.slice none 0 0,.slice none 0 0] : Array Value).toList,u.oneCell'=true:=(hd_v w (fun _ => True) k t n).one
/-- What stands behind a dollar: a number or a name, in braces or not. -/
theorem partS_no (r : Str) (h : ∀ c t,r=c :: t→c.toNat≠123) : partS r=headM r:=by
 cases r with
 | nil => rfl
 | cons c t => exact partS_bare (h c t rfl) t
theorem box_same {w w' : World} {g b : Nat} {o : Obj} (h : w.heap[b]?=some o) (hg : w.grownBy w' (some g)) (hne : b≠g) : w'.heap[b]?=some o:=box_grown h hg hne
/- nothing is read: W5 the world, its result box -/
/- a number or a name stands there, without braces -/
/- .. in braces -/
/- behind the look for a brace: B: is there one; J the place, RR what stands there -/
/- a name is read, or none; RR what stands there -/
set_option maxHeartbeats 4000000 in
theorem whole_step {g m : Nat} {s : Str} {N : Nat} (HB : BracedC g m s N) : WholeC g m s (N + 1):=by
 intro S w i r h hd hN
 have HRS:=Lib.hid h
 have hgB:=h.pl.lt
 have hi:=h.pl.2.1
 have hmg:=h.gm
 obtain ⟨h2,_,hr⟩:=drop_cons hd
 have HD : Hid (s.drop (i + 1)=r):=Lib.hid hr
 have HBB:=Lib.hid HB
 have hnb : ¬ S w.heap.size∧w.heap.size≠g∧w.heap.size≠m:=⟨fun e => by have:=h.lt _ e;omega,by omega,by omega⟩
 have HZO : Hid (∀ u ∈ (#[.int .i64 0,.string ⟨#[]⟩,.int .i64 0,.bool false,.bool false,.int .i64 0,.string ⟨#[]⟩,.bool false,.slice none 0 0,.int .i64 0,.int .i64 0,.bool false,.slice none 0 0,.slice none 0 0,.bool false,.bool false,.slice none 0 0,.slice none 0 0] : Array Value).toList,u.oneCell'=true):=Lib.hid (sn0_v w S).one
 have hb0 : Below w.heap.size w (w.alloc (.cells #[.int .i64 0,.string ⟨#[]⟩,.int .i64 0,.bool false,.bool false,.int .i64 0,.string ⟨#[]⟩,.bool false,.slice none 0 0,.int .i64 0,.int .i64 0,.bool false,.slice none 0 0,.slice none 0 0,.bool false,.bool false,.slice none 0 0,.slice none 0 0] 36)):=(Below.refl _ _).alloc (Nat.le_refl _) _
 have HRS0:=Lib.hid (h.later hb0)
 have HBX : Hid ((w.alloc (.cells #[.int .i64 0,.string ⟨#[]⟩,.int .i64 0,.bool false,.bool false,.int .i64 0,.string ⟨#[]⟩,.bool false,.slice none 0 0,.int .i64 0,.int .i64 0,.bool false,.slice none 0 0,.slice none 0 0,.bool false,.bool false,.slice none 0 0,.slice none 0 0] 36)).heap[w.heap.size]?=some (.cells #[.int .i64 0,.string ⟨#[]⟩,.int .i64 0,.bool false,.bool false,.int .i64 0,.string ⟨#[]⟩,.bool false,.slice none 0 0,.int .i64 0,.int .i64 0,.bool false,.slice none 0 0,.slice none 0 0,.bool false,.bool false,.slice none 0 0,.slice none 0 0] 36 (0,0))):=Lib.hid (heap_alloc_new w _)
 have HTK:=Lib.hid (take_s_yes (p:=[36]) _ HRS0.out.pl (by simp) (by rw [hd];rfl))
 clear h HB hd hr
 go_enter Try.func34,Try.ntmps34
 go_wp2_with (go_at_call 41;refine HTK.out.mono ?_)
 first | rintro e w1 rfl hp1 hg1 | rintro e w1 ⟨rfl,hp1,hg1⟩
 have HRS1 : Hid (Rs S w1 g m s (i + 1)):=Lib.hid (HRS0.out.place hp1 hg1)
 have HBX1:=Lib.hid (box_same HBX.out hg1 (by omega))
 have HG1 : Hid (Gr2 g m w w1):=Lib.hid ((Gr2.below hb0).trans (Gr2.grown hg1))
 clear hp1 hg1 HRS0 HTK HBX hb0
 by_cases hb : ∃ r1,r=123 :: r1
 ·obtain ⟨r1,rfl⟩:=hb
  have HTK:=Lib.hid (take_s_yes (p:=[123]) _ HRS1.out.pl (by simp) (by rw [HD.out];rfl))
  go_wp2_with (go_at_call 41;refine HTK.out.mono ?_)
  first | rintro e w2 rfl hp2 hg2 | rintro e w2 ⟨rfl,hp2,hg2⟩
  have HRS2 : Hid (Rs S w2 g m s (i + 1 + 1)):=Lib.hid (HRS1.out.place hp2 hg2)
  have HBX2:=Lib.hid (box_same HBX1.out hg2 (by omega))
  have HG2 : Hid (Gr2 g m w w2):=Lib.hid (HG1.out.trans (Gr2.grown hg2))
  have HDJ : Hid (s.drop (i + 1 + 1)=r1):=Lib.hid (drop_cons HD.out).2.2
  have HEB : Hid (partS (123 :: r1)=match headM r1 with | none => none | some (x,r2) => bracedS (partsS true [] []) x r2):=Lib.hid (partS_brace r1)
  clear hp2 hg2 HRS1 HBX1 HG1 HTK
  have hz2:=HG2.out.size
  obtain ⟨b5,hb5⟩ : ∃ b5,b5=w2.heap.size:=⟨_,rfl⟩
  obtain ⟨W3,hW3⟩ : ∃ W3,W3=w2.alloc (.cells #[.int .i64 3,.string ⟨([]).toArray⟩,.int .i64 0,.bool false,.bool false,.int .i64 0,.string ⟨#[]⟩,.bool false,.slice none 0 0,.int .i64 0,.int .i64 0,.bool false,.slice none 0 0,.slice none 0 0,.bool false,.bool false,.slice none 0 0,.slice none 0 0] 36):=⟨_,rfl⟩
  have HW3 : Hid ((w2.alloc (.cells #[.int .i64 0,.string ⟨#[]⟩,.int .i64 0,.bool false,.bool false,.int .i64 0,.string ⟨#[]⟩,.bool false,.slice none 0 0,.int .i64 0,.int .i64 0,.bool false,.slice none 0 0,.slice none 0 0,.bool false,.bool false,.slice none 0 0,.slice none 0 0] 36)).setRow w2.heap.size #[.int .i64 3,.string ⟨([]).toArray⟩,.int .i64 0,.bool false,.bool false,.int .i64 0,.string ⟨#[]⟩,.bool false,.slice none 0 0,.int .i64 0,.int .i64 0,.bool false,.slice none 0 0,.slice none 0 0,.bool false,.bool false,.slice none 0 0,.slice none 0 0]=W3):=Lib.hid (by rw [hW3];exact World.setRow_alloc_new _ _ _ _)
  have hb3 : Below w2.heap.size w2 W3:=by rw [hW3];exact (Below.refl _ _).alloc (Nat.le_refl _) _
  have HRS3:=Lib.hid (HRS2.out.later hb3)
  have HG3:=Lib.hid (HG2.out.trans (Gr2.below hb3))
  have HBX3:=Lib.hid ((hb3.block _ (heap_lt HBX2.out)).trans HBX2.out)
  have hgt : w.heap.size < w2.heap.size:=heap_lt HBX2.out
  have HT3 : Hid (W3.heap[b5]?=some (.cells #[.int .i64 3,.string ⟨([]).toArray⟩,.int .i64 0,.bool false,.bool false,.int .i64 0,.string ⟨#[]⟩,.bool false,.slice none 0 0,.int .i64 0,.int .i64 0,.bool false,.slice none 0 0,.slice none 0 0,.bool false,.bool false,.slice none 0 0,.slice none 0 0] 36 (0,0))):=Lib.hid (by rw [hW3,hb5];exact heap_alloc_new _ _)
  have HNU:=Lib.hid (number_s W3 HRS3.out.pl)
  clear hW3 hb3 HRS2 HG2 HBX2
  cases hnu : numRF r1 with
  | some p =>
   obtain ⟨n,r2⟩:=p
   have HNU2:=HNU
   rw [HDJ.out,hnu] at HNU2
   have HH : Hid (headM r1=some (stopS n,r2)):=Lib.hid (by unfold headM;rw [hnu])
   clear HNU hnu
   go_wp2_with (first
    | (refine wpList_stW rfl 36 (.tmp 5) (.tmp 16) rfl (w2.heap.size) (#[.int .i64 3,.string ⟨([]).toArray⟩,.int .i64 0,.bool false,.bool false,.int .i64 0,.string ⟨#[]⟩,.bool false,.slice none 0 0,.int .i64 0,.int .i64 0,.bool false,.slice none 0 0,.slice none 0 0,.bool false,.bool false,.slice none 0 0,.slice none 0 0]) rfl rfl 36 (#[.int .i64 0,.string ⟨#[]⟩,.int .i64 0,.bool false,.bool false,.int .i64 0,.string ⟨#[]⟩,.bool false,.slice none 0 0,.int .i64 0,.int .i64 0,.bool false,.slice none 0 0,.slice none 0 0,.bool false,.bool false,.slice none 0 0,.slice none 0 0]) (heap_alloc_new w2 _) (snip_size) rfl rfl ((hd_one w 3 [] 0)) (W:=W3) (HW3.out) ?_)
    | (go_at_call 42;refine HNU2.out.mono ?_))
   rintro e w4 ⟨hg4,hn4,rfl,j4,hp4,hd4,hj4⟩
   have HRS4:=Lib.hid (HRS3.out.place hp4 hg4)
   have HT4:=Lib.hid (box_same HT3.out hg4 (by omega))
   have HB4:=Lib.hid (box_same HBX3.out hg4 (by omega))
   have hn5 : ¬ S b5∧b5≠g∧b5≠m:=⟨fun e => by have:=HRS.out.lt _ e;omega,by omega,by omega⟩
   have HDJ5 : Hid (s.drop j4=r2):=Lib.hid hd4
   have HRS5:=Lib.hid (HRS4.out.setRow hn5 #[.int .i64 1,.string ⟨([]).toArray⟩,.int .i64 (n : Int),.bool false,.bool false,.int .i64 0,.string ⟨#[]⟩,.bool false,.slice none 0 0,.int .i64 0,.int .i64 0,.bool false,.slice none 0 0,.slice none 0 0,.bool false,.bool false,.slice none 0 0,.slice none 0 0])
   have HG5:=Lib.hid ((HG3.out.trans (Gr2.grown hg4)).setRow (b:=b5) (by omega) #[.int .i64 1,.string ⟨([]).toArray⟩,.int .i64 (n : Int),.bool false,.bool false,.int .i64 0,.string ⟨#[]⟩,.bool false,.slice none 0 0,.int .i64 0,.int .i64 0,.bool false,.slice none 0 0,.slice none 0 0,.bool false,.bool false,.slice none 0 0,.slice none 0 0])
   have HT5:=Lib.hid (sr_heap (cs:=#[.int .i64 1,.string ⟨([]).toArray⟩,.int .i64 (n : Int),.bool false,.bool false,.int .i64 0,.string ⟨#[]⟩,.bool false,.slice none 0 0,.int .i64 0,.int .i64 0,.bool false,.slice none 0 0,.slice none 0 0,.bool false,.bool false,.slice none 0 0,.slice none 0 0]) HT4.out)
   have HBX5 : Hid ((w4.setRow b5 #[.int .i64 1,.string ⟨([]).toArray⟩,.int .i64 (n : Int),.bool false,.bool false,.int .i64 0,.string ⟨#[]⟩,.bool false,.slice none 0 0,.int .i64 0,.int .i64 0,.bool false,.slice none 0 0,.slice none 0 0,.bool false,.bool false,.slice none 0 0,.slice none 0 0]).heap[w.heap.size]?=some (.cells #[.int .i64 0,.string ⟨#[]⟩,.int .i64 0,.bool false,.bool false,.int .i64 0,.string ⟨#[]⟩,.bool false,.slice none 0 0,.int .i64 0,.int .i64 0,.bool false,.slice none 0 0,.slice none 0 0,.bool false,.bool false,.slice none 0 0,.slice none 0 0] 36 (0,0))):=Lib.hid ((sr_other _ (by omega)).trans HB4.out)
   clear hg4 hp4 hd4
   subst hb5
   have HE : Hid (partS (123 :: r1)=bracedS (partsS true [] []) (hdN 1 [] (n : Int)) r2):=Lib.hid (by rw [HEB.out,HH.out];rfl)
   have HBC:=Lib.hid (HBB.out S ((w4.setRow w2.heap.size #[.int .i64 1,.string ⟨([]).toArray⟩,.int .i64 (n : Int),.bool false,.bool false,.int .i64 0,.string ⟨#[]⟩,.bool false,.slice none 0 0,.int .i64 0,.int .i64 0,.bool false,.slice none 0 0,.slice none 0 0,.bool false,.bool false,.slice none 0 0,.slice none 0 0])) _ 1 [] (n : Int) HRS5.out (by first | exact .inl rfl | exact .inr rfl) (by have:=HRS5.out.pl.2.1;omega))
   go_wp2_with (first | (refine wpList_stW rfl 36 (.tmp 5) (.tmp 26) rfl (w2.heap.size) (#[.int .i64 1,.string ⟨([]).toArray⟩,.int .i64 (n : Int),.bool false,.bool false,.int .i64 0,.string ⟨#[]⟩,.bool false,.slice none 0 0,.int .i64 0,.int .i64 0,.bool false,.slice none 0 0,.slice none 0 0,.bool false,.bool false,.slice none 0 0,.slice none 0 0]) rfl rfl 36 (#[.int .i64 3,.string ⟨([]).toArray⟩,.int .i64 0,.bool false,.bool false,.int .i64 0,.string ⟨#[]⟩,.bool false,.slice none 0 0,.int .i64 0,.int .i64 0,.bool false,.slice none 0 0,.slice none 0 0,.bool false,.bool false,.slice none 0 0,.slice none 0 0]) (HT4.out) (snip_size) rfl rfl ((hd_one w 1 [] (n : Int))) (W:=(w4.setRow w2.heap.size #[.int .i64 1,.string ⟨([]).toArray⟩,.int .i64 (n : Int),.bool false,.bool false,.int .i64 0,.string ⟨#[]⟩,.bool false,.slice none 0 0,.int .i64 0,.int .i64 0,.bool false,.slice none 0 0,.slice none 0 0,.bool false,.bool false,.slice none 0 0,.slice none 0 0])) (rfl) ?_) | (refine wpList_ldW rfl 36 (.tmp 5) rfl (w2.heap.size) 0 rfl ([.int .i64 1,.string ⟨([]).toArray⟩,.int .i64 (n : Int),.bool false,.bool false,.int .i64 0,.string ⟨#[]⟩,.bool false,.slice none 0 0,.int .i64 0,.int .i64 0,.bool false,.slice none 0 0,.slice none 0 0,.bool false,.bool false,.slice none 0 0,.slice none 0 0]) _ (range_blk (ds:=[]) (HT5.out)) snip_under rfl (by rw [snip_size];rfl) ?_) | (go_at_call 44;refine HBC.out.mono ?_))
   rintro e w6 ⟨hg6,S6,j6,cc,x,ok,rfl,hrs6,hT1,hT2,hxv,hm⟩
   have hz6:=hg6.size
   have HBX6 : Hid (w6.heap[w.heap.size]?=some (.cells #[.int .i64 0,.string ⟨#[]⟩,.int .i64 0,.bool false,.bool false,.int .i64 0,.string ⟨#[]⟩,.bool false,.slice none 0 0,.int .i64 0,.int .i64 0,.bool false,.slice none 0 0,.slice none 0 0,.bool false,.bool false,.slice none 0 0,.slice none 0 0] 36 (0,0))):=Lib.hid ((hg6.block _ (heap_lt HBX5.out) (by omega) (by omega)).trans HBX5.out)
   have hnb6 : ¬ S6 w.heap.size∧w.heap.size≠g∧w.heap.size≠m:=⟨fun e => by
    rcases hT2 _ e with h | h
    ·exact hnb.1 h
    ·have:=heap_lt HBX5.out;omega,by omega,by omega⟩
   have hcl:=hxv.len
   have HXV6:=Lib.hid hxv
   have HB9:=Lib.hid (sr_heap (w:=w6) (cs:=cc.toArray) HBX6.out)
   have HRS6:=Lib.hid hrs6
   have HM:=Lib.hid hm
   have HG6:=Lib.hid (HG5.out.trans hg6)
   clear hxv hrs6 hm hg6
   go_wp2_with (refine wpList_stW rfl 36 (.tmp 2) (.tmp 42) rfl (w.heap.size) (cc.toArray) rfl rfl 36 (#[.int .i64 0,.string ⟨#[]⟩,.int .i64 0,.bool false,.bool false,.int .i64 0,.string ⟨#[]⟩,.bool false,.slice none 0 0,.int .i64 0,.int .i64 0,.bool false,.slice none 0 0,.slice none 0 0,.bool false,.bool false,.slice none 0 0,.slice none 0 0]) (HBX6.out) (snip_size) (by simp [hcl]) rfl ((fun u hu => HXV6.out.one u (by simpa using hu))) (W:=(w6.setRow w.heap.size cc.toArray)) (rfl) ?_)
   refine bodyPost_ret (res_box Try.results34 snip_under snip_size HB9.out (by simp [hcl]) rfl rfl) rfl ?_
   rw [HE.out]
   refine ⟨HG6.out.setRow (Nat.le_refl _) _,S6,j6,cc,x,ok,rfl,HRS6.out.setRow hnb6 _,hT1,fun b hb => (hT2 b hb).imp id (fun h => by have:=HG5.out.size;omega),HXV6.out.setRow hnb6.1 _,?_⟩
   have h:=HM.out
   rw [HDJ5.out] at h
   cases hq : bracedS (partsS true [] []) (hdN 1 [] (n : Int)) r2 with
   | none => rw [hq] at h;exact ⟨h.1,fun e => by cases e⟩
   | some y => rw [hq] at h;exact h
  | none =>
   have HNU2:=HNU
   rw [HDJ.out,hnu] at HNU2
   have HNN : Hid (headM r1=nameM r1):=Lib.hid (by unfold headM;rw [hnu])
   clear HNU hnu
   go_wp2_with (first
    | (refine wpList_stW rfl 36 (.tmp 5) (.tmp 16) rfl (w2.heap.size) (#[.int .i64 3,.string ⟨([]).toArray⟩,.int .i64 0,.bool false,.bool false,.int .i64 0,.string ⟨#[]⟩,.bool false,.slice none 0 0,.int .i64 0,.int .i64 0,.bool false,.slice none 0 0,.slice none 0 0,.bool false,.bool false,.slice none 0 0,.slice none 0 0]) rfl rfl 36 (#[.int .i64 0,.string ⟨#[]⟩,.int .i64 0,.bool false,.bool false,.int .i64 0,.string ⟨#[]⟩,.bool false,.slice none 0 0,.int .i64 0,.int .i64 0,.bool false,.slice none 0 0,.slice none 0 0,.bool false,.bool false,.slice none 0 0,.slice none 0 0]) (heap_alloc_new w2 _) (snip_size) rfl rfl ((hd_one w 3 [] 0)) (W:=W3) (HW3.out) ?_)
    | (go_at_call 42;refine HNU2.out.mono ?_))
   rintro e w4 ⟨hg4,rfl,hp4⟩
   have HRS4:=Lib.hid (HRS3.out.place hp4 hg4)
   have HT4:=Lib.hid (box_same HT3.out hg4 (by omega))
   have HB4:=Lib.hid (box_same HBX3.out hg4 (by omega))
   have HG4:=Lib.hid (HG3.out.trans (Gr2.grown hg4))
   have HNA:=Lib.hid (name_s w4 hp4)
   clear hg4 hp4
   cases hna : nameS r1 with
   | none =>
    have HNA2:=HNA
    rw [HDJ.out,hna] at HNA2
    have HH : Hid (headM r1=none):=Lib.hid (by rw [HNN.out,nameS_M,hna])
    clear HNA hna
    go_wp2_with (go_at_call 43;refine HNA2.out.mono ?_)
    rintro e w5 ⟨hg5,rfl,hp5⟩
    have ht5:=box_same HT4.out hg5 (by omega)
    have kc:=blk_cell ht5 1 rfl
    have kf:=blk_free ht5 1
    obtain ⟨W5,hW5⟩ : ∃ W5,W5=w5.setCell ⟨b5,1,none⟩ (.string ⟨#[]⟩):=⟨_,rfl⟩
    have hn5 : ¬ S b5∧b5≠g∧b5≠m:=⟨fun e => by have:=HRS.out.lt _ e;omega,by omega,by omega⟩
    have HRS5:=Lib.hid (hW5 ▸ (HRS4.out.place hp5 hg5).setCell (a:=⟨b5,1,none⟩) hn5 (.string ⟨#[]⟩))
    have HG5:=Lib.hid (hW5 ▸ (HG4.out.trans (Gr2.grown hg5)).setNew (a:=⟨b5,1,none⟩) (by show w.heap.size≤b5;omega) (.string ⟨#[]⟩))
    have HBX5 : Hid (W5.heap[w.heap.size]?=some (.cells #[.int .i64 0,.string ⟨#[]⟩,.int .i64 0,.bool false,.bool false,.int .i64 0,.string ⟨#[]⟩,.bool false,.slice none 0 0,.int .i64 0,.int .i64 0,.bool false,.slice none 0 0,.slice none 0 0,.bool false,.bool false,.slice none 0 0,.slice none 0 0] 36 (0,0))):=Lib.hid (by rw [hW5];exact (heap_setCell_other _ _ _ _ (by show w.heap.size≠b5;omega)).trans (box_same HB4.out hg5 (by omega)))
    subst hb5
    go_upto_region 8 with fail
    rw [← hW5]
    clear hW5 kc kf ht5 hg5 hp5
    have HE : Hid (partS (123 :: r1)=none):=Lib.hid (by rw [HEB.out,HH.out])
    have HB9:=Lib.hid (sr_heap (w:=W5) (cs:=#[.int .i64 0,.string ⟨#[]⟩,.int .i64 0,.bool false,.bool false,.int .i64 0,.string ⟨#[]⟩,.bool false,.slice none 0 0,.int .i64 0,.int .i64 0,.bool false,.slice none 0 0,.slice none 0 0,.bool false,.bool false,.slice none 0 0,.slice none 0 0]) HBX5.out)
    go_wp2_with (refine wpList_stW rfl 36 (.tmp 2) (.tmp 37) rfl (w.heap.size) (#[.int .i64 0,.string ⟨#[]⟩,.int .i64 0,.bool false,.bool false,.int .i64 0,.string ⟨#[]⟩,.bool false,.slice none 0 0,.int .i64 0,.int .i64 0,.bool false,.slice none 0 0,.slice none 0 0,.bool false,.bool false,.slice none 0 0,.slice none 0 0]) rfl rfl 36 (#[.int .i64 0,.string ⟨#[]⟩,.int .i64 0,.bool false,.bool false,.int .i64 0,.string ⟨#[]⟩,.bool false,.slice none 0 0,.int .i64 0,.int .i64 0,.bool false,.slice none 0 0,.slice none 0 0,.bool false,.bool false,.slice none 0 0,.slice none 0 0]) (HBX5.out) (snip_size) rfl rfl (HZO.out) (W:=((W5).setRow w.heap.size #[.int .i64 0,.string ⟨#[]⟩,.int .i64 0,.bool false,.bool false,.int .i64 0,.string ⟨#[]⟩,.bool false,.slice none 0 0,.int .i64 0,.int .i64 0,.bool false,.slice none 0 0,.slice none 0 0,.bool false,.bool false,.slice none 0 0,.slice none 0 0])) (rfl) ?_)
    refine bodyPost_ret (res_box Try.results34 snip_under snip_size HB9.out rfl rfl rfl) rfl ?_
    rw [HE.out]
    exact ⟨HG5.out.setRow (Nat.le_refl _) _,S,_,_,_,false,rfl,HRS5.out.setRow hnb _,fun _ h => h,fun _ h => .inl h,sn0_v _ S,rfl,fun h => by cases h⟩
   | some p =>
    obtain ⟨nm,r2⟩:=p
    have HNA2:=HNA
    rw [HDJ.out,hna] at HNA2
    have HH : Hid (headM r1=some (varS nm,r2)):=Lib.hid (by rw [HNN.out,nameS_M,hna])
    clear HNA hna
    go_wp2_with (go_at_call 43;refine HNA2.out.mono ?_)
    rintro e w5 ⟨hg5,hnm,rfl,j5,hp5,hd5,hj5⟩
    have ht5:=box_same HT4.out hg5 (by omega)
    have kc:=blk_cell ht5 1 rfl
    have kf:=blk_free ht5 1
    obtain ⟨W5,hW5⟩ : ∃ W5,W5=w5.setCell ⟨b5,1,none⟩ (.string ⟨(nm).toArray⟩):=⟨_,rfl⟩
    have hn5 : ¬ S b5∧b5≠g∧b5≠m:=⟨fun e => by have:=HRS.out.lt _ e;omega,by omega,by omega⟩
    have HRS5:=Lib.hid (hW5 ▸ (HRS4.out.place hp5 hg5).setCell (a:=⟨b5,1,none⟩) hn5 (.string ⟨(nm).toArray⟩))
    have HG5:=Lib.hid (hW5 ▸ (HG4.out.trans (Gr2.grown hg5)).setNew (a:=⟨b5,1,none⟩) (by show w.heap.size≤b5;omega) (.string ⟨(nm).toArray⟩))
    have HBX5 : Hid (W5.heap[w.heap.size]?=some (.cells #[.int .i64 0,.string ⟨#[]⟩,.int .i64 0,.bool false,.bool false,.int .i64 0,.string ⟨#[]⟩,.bool false,.slice none 0 0,.int .i64 0,.int .i64 0,.bool false,.slice none 0 0,.slice none 0 0,.bool false,.bool false,.slice none 0 0,.slice none 0 0] 36 (0,0))):=Lib.hid (by rw [hW5];exact (heap_setCell_other _ _ _ _ (by show w.heap.size≠b5;omega)).trans (box_same HB4.out hg5 (by omega)))
    have HT5 : Hid (W5.heap[b5]?=some (.cells #[.int .i64 3,.string ⟨(nm).toArray⟩,.int .i64 0,.bool false,.bool false,.int .i64 0,.string ⟨#[]⟩,.bool false,.slice none 0 0,.int .i64 0,.int .i64 0,.bool false,.slice none 0 0,.slice none 0 0,.bool false,.bool false,.slice none 0 0,.slice none 0 0] 36 (0,0))):=Lib.hid (by rw [hW5,heap_setCell_same _ _ _ _ _ _ ht5];rfl)
    have HDJ5 : Hid (s.drop j5=r2):=Lib.hid hd5
    subst hb5
    go_upto_region 8 with fail
    rw [← hW5]
    clear hW5 kc kf ht5 hg5 hp5 hd5 hnm
    have HE : Hid (partS (123 :: r1)=bracedS (partsS true [] []) (hdN 3 nm 0) r2):=Lib.hid (by rw [HEB.out,HH.out];rfl)
    have HBC:=Lib.hid (HBB.out S (W5) _ 3 nm 0 HRS5.out (by first | exact .inl rfl | exact .inr rfl) (by have:=HRS5.out.pl.2.1;omega))
    go_wp2_with (first | (fail) | (refine wpList_ldW rfl 36 (.tmp 5) rfl (w2.heap.size) 0 rfl ([.int .i64 3,.string ⟨(nm).toArray⟩,.int .i64 0,.bool false,.bool false,.int .i64 0,.string ⟨#[]⟩,.bool false,.slice none 0 0,.int .i64 0,.int .i64 0,.bool false,.slice none 0 0,.slice none 0 0,.bool false,.bool false,.slice none 0 0,.slice none 0 0]) _ (range_blk (ds:=[]) (HT5.out)) snip_under rfl (by rw [snip_size];rfl) ?_) | (go_at_call 44;refine HBC.out.mono ?_))
    rintro e w6 ⟨hg6,S6,j6,cc,x,ok,rfl,hrs6,hT1,hT2,hxv,hm⟩
    have hz6:=hg6.size
    have HBX6 : Hid (w6.heap[w.heap.size]?=some (.cells #[.int .i64 0,.string ⟨#[]⟩,.int .i64 0,.bool false,.bool false,.int .i64 0,.string ⟨#[]⟩,.bool false,.slice none 0 0,.int .i64 0,.int .i64 0,.bool false,.slice none 0 0,.slice none 0 0,.bool false,.bool false,.slice none 0 0,.slice none 0 0] 36 (0,0))):=Lib.hid ((hg6.block _ (heap_lt HBX5.out) (by omega) (by omega)).trans HBX5.out)
    have hnb6 : ¬ S6 w.heap.size∧w.heap.size≠g∧w.heap.size≠m:=⟨fun e => by
     rcases hT2 _ e with h | h
     ·exact hnb.1 h
     ·have:=heap_lt HBX5.out;omega,by omega,by omega⟩
    have hcl:=hxv.len
    have HXV6:=Lib.hid hxv
    have HB9:=Lib.hid (sr_heap (w:=w6) (cs:=cc.toArray) HBX6.out)
    have HRS6:=Lib.hid hrs6
    have HM:=Lib.hid hm
    have HG6:=Lib.hid (HG5.out.trans hg6)
    clear hxv hrs6 hm hg6
    go_wp2_with (refine wpList_stW rfl 36 (.tmp 2) (.tmp 42) rfl (w.heap.size) (cc.toArray) rfl rfl 36 (#[.int .i64 0,.string ⟨#[]⟩,.int .i64 0,.bool false,.bool false,.int .i64 0,.string ⟨#[]⟩,.bool false,.slice none 0 0,.int .i64 0,.int .i64 0,.bool false,.slice none 0 0,.slice none 0 0,.bool false,.bool false,.slice none 0 0,.slice none 0 0]) (HBX6.out) (snip_size) (by simp [hcl]) rfl ((fun u hu => HXV6.out.one u (by simpa using hu))) (W:=(w6.setRow w.heap.size cc.toArray)) (rfl) ?_)
    refine bodyPost_ret (res_box Try.results34 snip_under snip_size HB9.out (by simp [hcl]) rfl rfl) rfl ?_
    rw [HE.out]
    refine ⟨HG6.out.setRow (Nat.le_refl _) _,S6,j6,cc,x,ok,rfl,HRS6.out.setRow hnb6 _,hT1,fun b hb => (hT2 b hb).imp id (fun h => by have:=HG5.out.size;omega),HXV6.out.setRow hnb6.1 _,?_⟩
    have h:=HM.out
    rw [HDJ5.out] at h
    cases hq : bracedS (partsS true [] []) (hdN 3 nm 0) r2 with
    | none => rw [hq] at h;exact ⟨h.1,fun e => by cases e⟩
    | some y => rw [hq] at h;exact h
 ·have hb' : ∀ c t,r=c :: t→c.toNat≠123:=fun c t e hc => hb ⟨t,by rw [e,show c=123 from UInt8.toNat_inj.1 hc]⟩
  have HNO : Hid (List.isPrefixOf [123] (s.drop (i + 1))=false):=Lib.hid (by
   rw [HD.out]
   cases r with
   | nil => rfl
   | cons c t => rw [pre1];exact decide_eq_false (hb' c t rfl))
  have HEB : Hid (partS r=headM r):=Lib.hid (partS_no r hb')
  have HTK:=Lib.hid (take_s_no (p:=[123]) _ HRS1.out.pl (by simp) HNO.out)
  clear hb hb' HNO
  go_wp2_with (go_at_call 41;refine HTK.out.mono ?_)
  first | rintro e w2 rfl hp2 hg2 | rintro e w2 ⟨rfl,hp2,hg2⟩
  have HRS2 : Hid (Rs S w2 g m s (i + 1)):=Lib.hid (HRS1.out.place hp2 hg2)
  have HBX2:=Lib.hid (box_same HBX1.out hg2 (by omega))
  have HG2 : Hid (Gr2 g m w w2):=Lib.hid (HG1.out.trans (Gr2.grown hg2))
  have HDJ : Hid (s.drop (i + 1)=r):=HD
  clear hp2 hg2 HRS1 HBX1 HG1 HTK
  have hz2:=HG2.out.size
  obtain ⟨b5,hb5⟩ : ∃ b5,b5=w2.heap.size:=⟨_,rfl⟩
  obtain ⟨W3,hW3⟩ : ∃ W3,W3=w2.alloc (.cells #[.int .i64 3,.string ⟨([]).toArray⟩,.int .i64 0,.bool false,.bool false,.int .i64 0,.string ⟨#[]⟩,.bool false,.slice none 0 0,.int .i64 0,.int .i64 0,.bool false,.slice none 0 0,.slice none 0 0,.bool false,.bool false,.slice none 0 0,.slice none 0 0] 36):=⟨_,rfl⟩
  have HW3 : Hid ((w2.alloc (.cells #[.int .i64 0,.string ⟨#[]⟩,.int .i64 0,.bool false,.bool false,.int .i64 0,.string ⟨#[]⟩,.bool false,.slice none 0 0,.int .i64 0,.int .i64 0,.bool false,.slice none 0 0,.slice none 0 0,.bool false,.bool false,.slice none 0 0,.slice none 0 0] 36)).setRow w2.heap.size #[.int .i64 3,.string ⟨([]).toArray⟩,.int .i64 0,.bool false,.bool false,.int .i64 0,.string ⟨#[]⟩,.bool false,.slice none 0 0,.int .i64 0,.int .i64 0,.bool false,.slice none 0 0,.slice none 0 0,.bool false,.bool false,.slice none 0 0,.slice none 0 0]=W3):=Lib.hid (by rw [hW3];exact World.setRow_alloc_new _ _ _ _)
  have hb3 : Below w2.heap.size w2 W3:=by rw [hW3];exact (Below.refl _ _).alloc (Nat.le_refl _) _
  have HRS3:=Lib.hid (HRS2.out.later hb3)
  have HG3:=Lib.hid (HG2.out.trans (Gr2.below hb3))
  have HBX3:=Lib.hid ((hb3.block _ (heap_lt HBX2.out)).trans HBX2.out)
  have hgt : w.heap.size < w2.heap.size:=heap_lt HBX2.out
  have HT3 : Hid (W3.heap[b5]?=some (.cells #[.int .i64 3,.string ⟨([]).toArray⟩,.int .i64 0,.bool false,.bool false,.int .i64 0,.string ⟨#[]⟩,.bool false,.slice none 0 0,.int .i64 0,.int .i64 0,.bool false,.slice none 0 0,.slice none 0 0,.bool false,.bool false,.slice none 0 0,.slice none 0 0] 36 (0,0))):=Lib.hid (by rw [hW3,hb5];exact heap_alloc_new _ _)
  have HNU:=Lib.hid (number_s W3 HRS3.out.pl)
  clear hW3 hb3 HRS2 HG2 HBX2
  cases hnu : numRF r with
  | some p =>
   obtain ⟨n,r2⟩:=p
   have HNU2:=HNU
   rw [HDJ.out,hnu] at HNU2
   have HH : Hid (headM r=some (stopS n,r2)):=Lib.hid (by unfold headM;rw [hnu])
   clear HNU hnu
   go_wp2_with (first
    | (refine wpList_stW rfl 36 (.tmp 5) (.tmp 16) rfl (w2.heap.size) (#[.int .i64 3,.string ⟨([]).toArray⟩,.int .i64 0,.bool false,.bool false,.int .i64 0,.string ⟨#[]⟩,.bool false,.slice none 0 0,.int .i64 0,.int .i64 0,.bool false,.slice none 0 0,.slice none 0 0,.bool false,.bool false,.slice none 0 0,.slice none 0 0]) rfl rfl 36 (#[.int .i64 0,.string ⟨#[]⟩,.int .i64 0,.bool false,.bool false,.int .i64 0,.string ⟨#[]⟩,.bool false,.slice none 0 0,.int .i64 0,.int .i64 0,.bool false,.slice none 0 0,.slice none 0 0,.bool false,.bool false,.slice none 0 0,.slice none 0 0]) (heap_alloc_new w2 _) (snip_size) rfl rfl ((hd_one w 3 [] 0)) (W:=W3) (HW3.out) ?_)
    | (go_at_call 42;refine HNU2.out.mono ?_))
   rintro e w4 ⟨hg4,hn4,rfl,j4,hp4,hd4,hj4⟩
   have HRS4:=Lib.hid (HRS3.out.place hp4 hg4)
   have HT4:=Lib.hid (box_same HT3.out hg4 (by omega))
   have HB4:=Lib.hid (box_same HBX3.out hg4 (by omega))
   have hn5 : ¬ S b5∧b5≠g∧b5≠m:=⟨fun e => by have:=HRS.out.lt _ e;omega,by omega,by omega⟩
   have HDJ5 : Hid (s.drop j4=r2):=Lib.hid hd4
   have HRS5:=Lib.hid (HRS4.out.setRow hn5 #[.int .i64 1,.string ⟨([]).toArray⟩,.int .i64 (n : Int),.bool false,.bool false,.int .i64 0,.string ⟨#[]⟩,.bool false,.slice none 0 0,.int .i64 0,.int .i64 0,.bool false,.slice none 0 0,.slice none 0 0,.bool false,.bool false,.slice none 0 0,.slice none 0 0])
   have HG5:=Lib.hid ((HG3.out.trans (Gr2.grown hg4)).setRow (b:=b5) (by omega) #[.int .i64 1,.string ⟨([]).toArray⟩,.int .i64 (n : Int),.bool false,.bool false,.int .i64 0,.string ⟨#[]⟩,.bool false,.slice none 0 0,.int .i64 0,.int .i64 0,.bool false,.slice none 0 0,.slice none 0 0,.bool false,.bool false,.slice none 0 0,.slice none 0 0])
   have HT5:=Lib.hid (sr_heap (cs:=#[.int .i64 1,.string ⟨([]).toArray⟩,.int .i64 (n : Int),.bool false,.bool false,.int .i64 0,.string ⟨#[]⟩,.bool false,.slice none 0 0,.int .i64 0,.int .i64 0,.bool false,.slice none 0 0,.slice none 0 0,.bool false,.bool false,.slice none 0 0,.slice none 0 0]) HT4.out)
   have HBX5 : Hid ((w4.setRow b5 #[.int .i64 1,.string ⟨([]).toArray⟩,.int .i64 (n : Int),.bool false,.bool false,.int .i64 0,.string ⟨#[]⟩,.bool false,.slice none 0 0,.int .i64 0,.int .i64 0,.bool false,.slice none 0 0,.slice none 0 0,.bool false,.bool false,.slice none 0 0,.slice none 0 0]).heap[w.heap.size]?=some (.cells #[.int .i64 0,.string ⟨#[]⟩,.int .i64 0,.bool false,.bool false,.int .i64 0,.string ⟨#[]⟩,.bool false,.slice none 0 0,.int .i64 0,.int .i64 0,.bool false,.slice none 0 0,.slice none 0 0,.bool false,.bool false,.slice none 0 0,.slice none 0 0] 36 (0,0))):=Lib.hid ((sr_other _ (by omega)).trans HB4.out)
   clear hg4 hp4 hd4
   subst hb5
   have HE : Hid (partS r=some (hdN 1 [] (n : Int),r2)):=Lib.hid (by rw [HEB.out,HH.out];rfl)
   have HB9:=Lib.hid (sr_heap (w:=(w4.setRow w2.heap.size #[.int .i64 1,.string ⟨([]).toArray⟩,.int .i64 (n : Int),.bool false,.bool false,.int .i64 0,.string ⟨#[]⟩,.bool false,.slice none 0 0,.int .i64 0,.int .i64 0,.bool false,.slice none 0 0,.slice none 0 0,.bool false,.bool false,.slice none 0 0,.slice none 0 0])) (cs:=#[.int .i64 1,.string ⟨([]).toArray⟩,.int .i64 (n : Int),.bool false,.bool false,.int .i64 0,.string ⟨#[]⟩,.bool false,.slice none 0 0,.int .i64 0,.int .i64 0,.bool false,.slice none 0 0,.slice none 0 0,.bool false,.bool false,.slice none 0 0,.slice none 0 0]) HBX5.out)
   go_wp2_with (first | (refine wpList_stW rfl 36 (.tmp 5) (.tmp 26) rfl (w2.heap.size) (#[.int .i64 1,.string ⟨([]).toArray⟩,.int .i64 (n : Int),.bool false,.bool false,.int .i64 0,.string ⟨#[]⟩,.bool false,.slice none 0 0,.int .i64 0,.int .i64 0,.bool false,.slice none 0 0,.slice none 0 0,.bool false,.bool false,.slice none 0 0,.slice none 0 0]) rfl rfl 36 (#[.int .i64 3,.string ⟨([]).toArray⟩,.int .i64 0,.bool false,.bool false,.int .i64 0,.string ⟨#[]⟩,.bool false,.slice none 0 0,.int .i64 0,.int .i64 0,.bool false,.slice none 0 0,.slice none 0 0,.bool false,.bool false,.slice none 0 0,.slice none 0 0]) (HT4.out) (snip_size) rfl rfl ((hd_one w 1 [] (n : Int))) (W:=(w4.setRow w2.heap.size #[.int .i64 1,.string ⟨([]).toArray⟩,.int .i64 (n : Int),.bool false,.bool false,.int .i64 0,.string ⟨#[]⟩,.bool false,.slice none 0 0,.int .i64 0,.int .i64 0,.bool false,.slice none 0 0,.slice none 0 0,.bool false,.bool false,.slice none 0 0,.slice none 0 0])) (rfl) ?_) | (refine wpList_ldW rfl 36 (.tmp 5) rfl (w2.heap.size) 0 rfl ([.int .i64 1,.string ⟨([]).toArray⟩,.int .i64 (n : Int),.bool false,.bool false,.int .i64 0,.string ⟨#[]⟩,.bool false,.slice none 0 0,.int .i64 0,.int .i64 0,.bool false,.slice none 0 0,.slice none 0 0,.bool false,.bool false,.slice none 0 0,.slice none 0 0]) _ (range_blk (ds:=[]) (HT5.out)) snip_under rfl (by rw [snip_size];rfl) ?_) | (refine wpList_stW rfl 36 (.tmp 2) (.tmp 44) rfl (w.heap.size) (#[.int .i64 1,.string ⟨([]).toArray⟩,.int .i64 (n : Int),.bool false,.bool false,.int .i64 0,.string ⟨#[]⟩,.bool false,.slice none 0 0,.int .i64 0,.int .i64 0,.bool false,.slice none 0 0,.slice none 0 0,.bool false,.bool false,.slice none 0 0,.slice none 0 0]) rfl rfl 36 (#[.int .i64 0,.string ⟨#[]⟩,.int .i64 0,.bool false,.bool false,.int .i64 0,.string ⟨#[]⟩,.bool false,.slice none 0 0,.int .i64 0,.int .i64 0,.bool false,.slice none 0 0,.slice none 0 0,.bool false,.bool false,.slice none 0 0,.slice none 0 0]) (HBX5.out) (snip_size) rfl rfl ((hd_one w 1 [] (n : Int))) (W:=(((w4.setRow w2.heap.size #[.int .i64 1,.string ⟨([]).toArray⟩,.int .i64 (n : Int),.bool false,.bool false,.int .i64 0,.string ⟨#[]⟩,.bool false,.slice none 0 0,.int .i64 0,.int .i64 0,.bool false,.slice none 0 0,.slice none 0 0,.bool false,.bool false,.slice none 0 0,.slice none 0 0])).setRow w.heap.size #[.int .i64 1,.string ⟨([]).toArray⟩,.int .i64 (n : Int),.bool false,.bool false,.int .i64 0,.string ⟨#[]⟩,.bool false,.slice none 0 0,.int .i64 0,.int .i64 0,.bool false,.slice none 0 0,.slice none 0 0,.bool false,.bool false,.slice none 0 0,.slice none 0 0])) (rfl) ?_))
   refine bodyPost_ret (res_box Try.results34 snip_under snip_size HB9.out rfl rfl rfl) rfl ?_
   rw [HE.out]
   exact ⟨HG5.out.setRow (Nat.le_refl _) _,S,_,_,_,true,rfl,HRS5.out.setRow hnb _,fun _ h => h,fun _ h => .inl h,hd_v _ S 1 [] (n : Int),rfl,rfl,HDJ5.out⟩
  | none =>
   have HNU2:=HNU
   rw [HDJ.out,hnu] at HNU2
   have HNN : Hid (headM r=nameM r):=Lib.hid (by unfold headM;rw [hnu])
   clear HNU hnu
   go_wp2_with (first
    | (refine wpList_stW rfl 36 (.tmp 5) (.tmp 16) rfl (w2.heap.size) (#[.int .i64 3,.string ⟨([]).toArray⟩,.int .i64 0,.bool false,.bool false,.int .i64 0,.string ⟨#[]⟩,.bool false,.slice none 0 0,.int .i64 0,.int .i64 0,.bool false,.slice none 0 0,.slice none 0 0,.bool false,.bool false,.slice none 0 0,.slice none 0 0]) rfl rfl 36 (#[.int .i64 0,.string ⟨#[]⟩,.int .i64 0,.bool false,.bool false,.int .i64 0,.string ⟨#[]⟩,.bool false,.slice none 0 0,.int .i64 0,.int .i64 0,.bool false,.slice none 0 0,.slice none 0 0,.bool false,.bool false,.slice none 0 0,.slice none 0 0]) (heap_alloc_new w2 _) (snip_size) rfl rfl ((hd_one w 3 [] 0)) (W:=W3) (HW3.out) ?_)
    | (go_at_call 42;refine HNU2.out.mono ?_))
   rintro e w4 ⟨hg4,rfl,hp4⟩
   have HRS4:=Lib.hid (HRS3.out.place hp4 hg4)
   have HT4:=Lib.hid (box_same HT3.out hg4 (by omega))
   have HB4:=Lib.hid (box_same HBX3.out hg4 (by omega))
   have HG4:=Lib.hid (HG3.out.trans (Gr2.grown hg4))
   have HNA:=Lib.hid (name_s w4 hp4)
   clear hg4 hp4
   cases hna : nameS r with
   | none =>
    have HNA2:=HNA
    rw [HDJ.out,hna] at HNA2
    have HH : Hid (headM r=none):=Lib.hid (by rw [HNN.out,nameS_M,hna])
    clear HNA hna
    go_wp2_with (go_at_call 43;refine HNA2.out.mono ?_)
    rintro e w5 ⟨hg5,rfl,hp5⟩
    have ht5:=box_same HT4.out hg5 (by omega)
    have kc:=blk_cell ht5 1 rfl
    have kf:=blk_free ht5 1
    obtain ⟨W5,hW5⟩ : ∃ W5,W5=w5.setCell ⟨b5,1,none⟩ (.string ⟨#[]⟩):=⟨_,rfl⟩
    have hn5 : ¬ S b5∧b5≠g∧b5≠m:=⟨fun e => by have:=HRS.out.lt _ e;omega,by omega,by omega⟩
    have HRS5:=Lib.hid (hW5 ▸ (HRS4.out.place hp5 hg5).setCell (a:=⟨b5,1,none⟩) hn5 (.string ⟨#[]⟩))
    have HG5:=Lib.hid (hW5 ▸ (HG4.out.trans (Gr2.grown hg5)).setNew (a:=⟨b5,1,none⟩) (by show w.heap.size≤b5;omega) (.string ⟨#[]⟩))
    have HBX5 : Hid (W5.heap[w.heap.size]?=some (.cells #[.int .i64 0,.string ⟨#[]⟩,.int .i64 0,.bool false,.bool false,.int .i64 0,.string ⟨#[]⟩,.bool false,.slice none 0 0,.int .i64 0,.int .i64 0,.bool false,.slice none 0 0,.slice none 0 0,.bool false,.bool false,.slice none 0 0,.slice none 0 0] 36 (0,0))):=Lib.hid (by rw [hW5];exact (heap_setCell_other _ _ _ _ (by show w.heap.size≠b5;omega)).trans (box_same HB4.out hg5 (by omega)))
    subst hb5
    go_upto_region 8 with fail
    rw [← hW5]
    clear hW5 kc kf ht5 hg5 hp5
    have HE : Hid (partS r=none):=Lib.hid (by rw [HEB.out,HH.out])
    have HB9:=Lib.hid (sr_heap (w:=W5) (cs:=#[.int .i64 0,.string ⟨#[]⟩,.int .i64 0,.bool false,.bool false,.int .i64 0,.string ⟨#[]⟩,.bool false,.slice none 0 0,.int .i64 0,.int .i64 0,.bool false,.slice none 0 0,.slice none 0 0,.bool false,.bool false,.slice none 0 0,.slice none 0 0]) HBX5.out)
    go_wp2_with (refine wpList_stW rfl 36 (.tmp 2) (.tmp 37) rfl (w.heap.size) (#[.int .i64 0,.string ⟨#[]⟩,.int .i64 0,.bool false,.bool false,.int .i64 0,.string ⟨#[]⟩,.bool false,.slice none 0 0,.int .i64 0,.int .i64 0,.bool false,.slice none 0 0,.slice none 0 0,.bool false,.bool false,.slice none 0 0,.slice none 0 0]) rfl rfl 36 (#[.int .i64 0,.string ⟨#[]⟩,.int .i64 0,.bool false,.bool false,.int .i64 0,.string ⟨#[]⟩,.bool false,.slice none 0 0,.int .i64 0,.int .i64 0,.bool false,.slice none 0 0,.slice none 0 0,.bool false,.bool false,.slice none 0 0,.slice none 0 0]) (HBX5.out) (snip_size) rfl rfl (HZO.out) (W:=((W5).setRow w.heap.size #[.int .i64 0,.string ⟨#[]⟩,.int .i64 0,.bool false,.bool false,.int .i64 0,.string ⟨#[]⟩,.bool false,.slice none 0 0,.int .i64 0,.int .i64 0,.bool false,.slice none 0 0,.slice none 0 0,.bool false,.bool false,.slice none 0 0,.slice none 0 0])) (rfl) ?_)
    refine bodyPost_ret (res_box Try.results34 snip_under snip_size HB9.out rfl rfl rfl) rfl ?_
    rw [HE.out]
    exact ⟨HG5.out.setRow (Nat.le_refl _) _,S,_,_,_,false,rfl,HRS5.out.setRow hnb _,fun _ h => h,fun _ h => .inl h,sn0_v _ S,rfl,fun h => by cases h⟩
   | some p =>
    obtain ⟨nm,r2⟩:=p
    have HNA2:=HNA
    rw [HDJ.out,hna] at HNA2
    have HH : Hid (headM r=some (varS nm,r2)):=Lib.hid (by rw [HNN.out,nameS_M,hna])
    clear HNA hna
    go_wp2_with (go_at_call 43;refine HNA2.out.mono ?_)
    rintro e w5 ⟨hg5,hnm,rfl,j5,hp5,hd5,hj5⟩
    have ht5:=box_same HT4.out hg5 (by omega)
    have kc:=blk_cell ht5 1 rfl
    have kf:=blk_free ht5 1
    obtain ⟨W5,hW5⟩ : ∃ W5,W5=w5.setCell ⟨b5,1,none⟩ (.string ⟨(nm).toArray⟩):=⟨_,rfl⟩
    have hn5 : ¬ S b5∧b5≠g∧b5≠m:=⟨fun e => by have:=HRS.out.lt _ e;omega,by omega,by omega⟩
    have HRS5:=Lib.hid (hW5 ▸ (HRS4.out.place hp5 hg5).setCell (a:=⟨b5,1,none⟩) hn5 (.string ⟨(nm).toArray⟩))
    have HG5:=Lib.hid (hW5 ▸ (HG4.out.trans (Gr2.grown hg5)).setNew (a:=⟨b5,1,none⟩) (by show w.heap.size≤b5;omega) (.string ⟨(nm).toArray⟩))
    have HBX5 : Hid (W5.heap[w.heap.size]?=some (.cells #[.int .i64 0,.string ⟨#[]⟩,.int .i64 0,.bool false,.bool false,.int .i64 0,.string ⟨#[]⟩,.bool false,.slice none 0 0,.int .i64 0,.int .i64 0,.bool false,.slice none 0 0,.slice none 0 0,.bool false,.bool false,.slice none 0 0,.slice none 0 0] 36 (0,0))):=Lib.hid (by rw [hW5];exact (heap_setCell_other _ _ _ _ (by show w.heap.size≠b5;omega)).trans (box_same HB4.out hg5 (by omega)))
    have HT5 : Hid (W5.heap[b5]?=some (.cells #[.int .i64 3,.string ⟨(nm).toArray⟩,.int .i64 0,.bool false,.bool false,.int .i64 0,.string ⟨#[]⟩,.bool false,.slice none 0 0,.int .i64 0,.int .i64 0,.bool false,.slice none 0 0,.slice none 0 0,.bool false,.bool false,.slice none 0 0,.slice none 0 0] 36 (0,0))):=Lib.hid (by rw [hW5,heap_setCell_same _ _ _ _ _ _ ht5];rfl)
    have HDJ5 : Hid (s.drop j5=r2):=Lib.hid hd5
    subst hb5
    go_upto_region 8 with fail
    rw [← hW5]
    clear hW5 kc kf ht5 hg5 hp5 hd5 hnm
    have HE : Hid (partS r=some (hdN 3 nm 0,r2)):=Lib.hid (by rw [HEB.out,HH.out];rfl)
    have HB9:=Lib.hid (sr_heap (w:=W5) (cs:=#[.int .i64 3,.string ⟨(nm).toArray⟩,.int .i64 0,.bool false,.bool false,.int .i64 0,.string ⟨#[]⟩,.bool false,.slice none 0 0,.int .i64 0,.int .i64 0,.bool false,.slice none 0 0,.slice none 0 0,.bool false,.bool false,.slice none 0 0,.slice none 0 0]) HBX5.out)
    go_wp2_with (first | (fail) | (refine wpList_ldW rfl 36 (.tmp 5) rfl (w2.heap.size) 0 rfl ([.int .i64 3,.string ⟨(nm).toArray⟩,.int .i64 0,.bool false,.bool false,.int .i64 0,.string ⟨#[]⟩,.bool false,.slice none 0 0,.int .i64 0,.int .i64 0,.bool false,.slice none 0 0,.slice none 0 0,.bool false,.bool false,.slice none 0 0,.slice none 0 0]) _ (range_blk (ds:=[]) (HT5.out)) snip_under rfl (by rw [snip_size];rfl) ?_) | (refine wpList_stW rfl 36 (.tmp 2) (.tmp 44) rfl (w.heap.size) (#[.int .i64 3,.string ⟨(nm).toArray⟩,.int .i64 0,.bool false,.bool false,.int .i64 0,.string ⟨#[]⟩,.bool false,.slice none 0 0,.int .i64 0,.int .i64 0,.bool false,.slice none 0 0,.slice none 0 0,.bool false,.bool false,.slice none 0 0,.slice none 0 0]) rfl rfl 36 (#[.int .i64 0,.string ⟨#[]⟩,.int .i64 0,.bool false,.bool false,.int .i64 0,.string ⟨#[]⟩,.bool false,.slice none 0 0,.int .i64 0,.int .i64 0,.bool false,.slice none 0 0,.slice none 0 0,.bool false,.bool false,.slice none 0 0,.slice none 0 0]) (HBX5.out) (snip_size) rfl rfl ((hd_one w 3 nm 0)) (W:=((W5).setRow w.heap.size #[.int .i64 3,.string ⟨(nm).toArray⟩,.int .i64 0,.bool false,.bool false,.int .i64 0,.string ⟨#[]⟩,.bool false,.slice none 0 0,.int .i64 0,.int .i64 0,.bool false,.slice none 0 0,.slice none 0 0,.bool false,.bool false,.slice none 0 0,.slice none 0 0])) (rfl) ?_))
    refine bodyPost_ret (res_box Try.results34 snip_under snip_size HB9.out rfl rfl rfl) rfl ?_
    rw [HE.out]
    exact ⟨HG5.out.setRow (Nat.le_refl _) _,S,_,_,_,true,rfl,HRS5.out.setRow hnb _,fun _ h => h,fun _ h => .inl h,hd_v _ S 3 nm 0,rfl,rfl,HDJ5.out⟩
end Go.Proofs.Ytbgcjpefocdkkaa
