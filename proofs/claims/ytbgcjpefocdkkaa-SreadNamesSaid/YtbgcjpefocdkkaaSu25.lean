/- walk of sread: braced: a closing brace, options -/
import Derived.Test.YtbgcjpefocdkkaaSu1
import Derived.Test.YtbgcjpefocdkkaaSu2
import Derived.Test.YtbgcjpefocdkkaaSu3
import Derived.Test.YtbgcjpefocdkkaaSu4
import Derived.Test.YtbgcjpefocdkkaaSu5
import Derived.Test.YtbgcjpefocdkkaaSu6
import Derived.Test.YtbgcjpefocdkkaaSu7
import Derived.Test.YtbgcjpefocdkkaaSu8
import Derived.Test.YtbgcjpefocdkkaaSu9
import Derived.Test.YtbgcjpefocdkkaaSu10
import Derived.Test.YtbgcjpefocdkkaaSu11
import Derived.Test.YtbgcjpefocdkkaaSu12
import Derived.Lib.ItoaMem
import Derived.Test.YtbgcjpefocdkkaaSu13
import Derived.Test.YtbgcjpefocdkkaaSu14
import Derived.Test.YtbgcjpefocdkkaaSu15
import Derived.Test.YtbgcjpefocdkkaaSu16
import Derived.Test.YtbgcjpefocdkkaaSu17
import Derived.Test.YtbgcjpefocdkkaaSu18
import Derived.Test.YtbgcjpefocdkkaaSu19
import Derived.Test.YtbgcjpefocdkkaaSu20
import Derived.Test.YtbgcjpefocdkkaaSu21
import Derived.Test.YtbgcjpefocdkkaaSu22
import Derived.Test.YtbgcjpefocdkkaaSu23
import Derived.Test.YtbgcjpefocdkkaaSu24
set_option maxRecDepth 100000
namespace Go.Proofs.Ytbgcjpefocdkkaa
open Go.RowKit Go.Maps Go.MapKept
open Go.ChangeMaps (setBlock)
theorem no_pre {c:UInt8} {s:Str} {i:Nat} (h:¬ ∃ r1,s.drop i=c :: r1):List.isPrefixOf [c] (s.drop i)=false:=by
 cases hd:s.drop i with
 | nil=>rfl
 | cons d r=>rw [pre1];exact decide_eq_false fun e=>h ⟨r,by rw [hd,show d=c from UInt8.toNat_inj.1 e]⟩
set_option maxHeartbeats 4000000 in
theorem braced_125 {g m:Nat} {s:Str} (S:Nat→Prop) (w:World) (i:Nat) {k:Int} {t:Str} {n:Int} (h:Rs S w g m s i) {r1:Str} (hd:s.drop i=125 :: r1) :
  Calls Try.prog 44 #[.pointer (some ⟨g,0,none⟩),.agg #[.int .i64 k,.string ⟨(t).toArray⟩,.int .i64 n,.bool false,.bool false,.int .i64 0,.string ⟨#[]⟩,.bool false,.slice none 0 0,.int .i64 0,.int .i64 0,.bool false,.slice none 0 0,.slice none 0 0,.bool false,.bool false,.slice none 0 0,.slice none 0 0]] w fun e w'=>OutX S g m s (bracedS (partsS true [] []) (hdN k t n) (s.drop i)) false i w e w':=by
 have HRS:=Lib.hid h
 have hgB:=h.pl.lt
 have hi:=h.pl.2.1
 have hmg:=h.gm
 have hnb3:¬ S w.heap.size∧w.heap.size≠g∧w.heap.size≠m:=⟨fun e=>by have:=h.lt _ e;omega,by omega,by omega⟩
 have hnb4:¬ S (w.heap.size+1)∧w.heap.size+1≠g∧w.heap.size+1≠m:=⟨fun e=>by have:=h.lt _ e;omega,by omega,by omega⟩
 obtain ⟨W0,hW0⟩:∃ W0,W0=(w.alloc (.cells #[.int .i64 k,.string ⟨(t).toArray⟩,.int .i64 n,.bool false,.bool false,.int .i64 0,.string ⟨#[]⟩,.bool false,.slice none 0 0,.int .i64 0,.int .i64 0,.bool false,.slice none 0 0,.slice none 0 0,.bool false,.bool false,.slice none 0 0,.slice none 0 0] 36)).alloc (.cells #[.int .i64 0,.string ⟨#[]⟩,.int .i64 0,.bool false,.bool false,.int .i64 0,.string ⟨#[]⟩,.bool false,.slice none 0 0,.int .i64 0,.int .i64 0,.bool false,.slice none 0 0,.slice none 0 0,.bool false,.bool false,.slice none 0 0,.slice none 0 0] 36):=⟨_,rfl⟩
 have hb0:Below w.heap.size w W0:=by rw [hW0];exact ((Below.refl _ _).alloc (Nat.le_refl _) _).alloc (by simp) _
 have HX0:Hid (W0.heap[w.heap.size]?=some (.cells #[.int .i64 k,.string ⟨(t).toArray⟩,.int .i64 n,.bool false,.bool false,.int .i64 0,.string ⟨#[]⟩,.bool false,.slice none 0 0,.int .i64 0,.int .i64 0,.bool false,.slice none 0 0,.slice none 0 0,.bool false,.bool false,.slice none 0 0,.slice none 0 0] 36 (0,0))):=Lib.hid (by rw [hW0,Below.heap_alloc _ _ _ (by simp)];exact heap_alloc_new w _)
 have HB0:Hid (W0.heap[w.heap.size+1]?=some (.cells #[.int .i64 0,.string ⟨#[]⟩,.int .i64 0,.bool false,.bool false,.int .i64 0,.string ⟨#[]⟩,.bool false,.slice none 0 0,.int .i64 0,.int .i64 0,.bool false,.slice none 0 0,.slice none 0 0,.bool false,.bool false,.slice none 0 0,.slice none 0 0] 36 (0,0))):=Lib.hid (by
  have:=heap_alloc_new (w.alloc (.cells #[.int .i64 k,.string ⟨(t).toArray⟩,.int .i64 n,.bool false,.bool false,.int .i64 0,.string ⟨#[]⟩,.bool false,.slice none 0 0,.int .i64 0,.int .i64 0,.bool false,.slice none 0 0,.slice none 0 0,.bool false,.bool false,.slice none 0 0,.slice none 0 0] 36)) (.cells #[.int .i64 0,.string ⟨#[]⟩,.int .i64 0,.bool false,.bool false,.int .i64 0,.string ⟨#[]⟩,.bool false,.slice none 0 0,.int .i64 0,.int .i64 0,.bool false,.slice none 0 0,.slice none 0 0,.bool false,.bool false,.slice none 0 0,.slice none 0 0] 36)
  rw [hW0];simpa using this)
 have HRS0:=Lib.hid (h.later hb0)
 have HG0:Hid (Gr2 g m w W0):=Lib.hid (Gr2.below hb0)
 have hz0:W0.heap.size=w.heap.size+2:=by rw [hW0];simp
 have HW0:=Lib.hid hW0
 obtain ⟨R,hR⟩:∃ R,bracedS (partsS true [] []) (hdN k t n) (s.drop i)=R:=⟨_,rfl⟩
 rw [hR]
 have HE:Hid (R=some (hdN k t n,r1)):=Lib.hid (by rw [← hR,hd];exact braced_close _ _)
 have htk:=take_s_yes (p:=[125]) _ HRS0.out.pl (by simp) (by rw [hd];rfl)
 rw [hW0] at htk
 have HTK:=Lib.hid htk
 have HDJ:Hid (s.drop (i+1)=r1):=Lib.hid (drop_cons hd).2.2
 clear h hd hR hW0 hb0 htk
 go_enter Try.func44,Try.ntmps44
 go_wp2_with (go_at_call 41;refine HTK.out.mono ?_)
 first | rintro e w1 rfl hp1 hg1 | rintro e w1 ⟨rfl,hp1,hg1⟩
 rw [← HW0.out] at hg1
 have HR5:Hid (Rs S w1 g m s (i+1)):=Lib.hid (HRS0.out.place hp1 hg1)
 have HX5:=Lib.hid (box_same HX0.out hg1 (by omega))
 have HB5:=Lib.hid (box_same HB0.out hg1 (by omega))
 have HG5:Hid (Gr2 g m w w1):=Lib.hid (HG0.out.trans (Gr2.grown hg1))
 have HV5:=Lib.hid (hd_v w1 S k t n)
 have HON5:=Lib.hid (hd_one w k t n)
 have hS1:∀ b,S b→S b:=fun _ h=>h
 have hS2:∀ b,S b→S b∨w.heap.size≤b:=fun _ h=>.inl h
 have HB9:=Lib.hid (sr_heap (w:=w1) (cs:=#[.int .i64 k,.string ⟨(t).toArray⟩,.int .i64 n,.bool false,.bool false,.int .i64 0,.string ⟨#[]⟩,.bool false,.slice none 0 0,.int .i64 0,.int .i64 0,.bool false,.slice none 0 0,.slice none 0 0,.bool false,.bool false,.slice none 0 0,.slice none 0 0]) HB5.out)
 go_wp2_with (first | (fail) | (refine wpList_ldW rfl 36 (.tmp 3) rfl (w.heap.size) 0 rfl ([.int .i64 k,.string ⟨(t).toArray⟩,.int .i64 n,.bool false,.bool false,.int .i64 0,.string ⟨#[]⟩,.bool false,.slice none 0 0,.int .i64 0,.int .i64 0,.bool false,.slice none 0 0,.slice none 0 0,.bool false,.bool false,.slice none 0 0,.slice none 0 0]) _ (range_blk (ds:=[]) (HX5.out)) snip_under rfl (by rw [snip_size];rfl) ?_) | (refine wpList_stW rfl 36 (.tmp 4) (.tmp 12) rfl ((w.heap.size+1)) (#[.int .i64 k,.string ⟨(t).toArray⟩,.int .i64 n,.bool false,.bool false,.int .i64 0,.string ⟨#[]⟩,.bool false,.slice none 0 0,.int .i64 0,.int .i64 0,.bool false,.slice none 0 0,.slice none 0 0,.bool false,.bool false,.slice none 0 0,.slice none 0 0]) rfl rfl 36 (#[.int .i64 0,.string ⟨#[]⟩,.int .i64 0,.bool false,.bool false,.int .i64 0,.string ⟨#[]⟩,.bool false,.slice none 0 0,.int .i64 0,.int .i64 0,.bool false,.slice none 0 0,.slice none 0 0,.bool false,.bool false,.slice none 0 0,.slice none 0 0]) (HB5.out) (snip_size) rfl rfl (HON5.out) (W:=((w1).setRow (w.heap.size+1) #[.int .i64 k,.string ⟨(t).toArray⟩,.int .i64 n,.bool false,.bool false,.int .i64 0,.string ⟨#[]⟩,.bool false,.slice none 0 0,.int .i64 0,.int .i64 0,.bool false,.slice none 0 0,.slice none 0 0,.bool false,.bool false,.slice none 0 0,.slice none 0 0])) (rfl) ?_))
 refine bodyPost_ret (res_box Try.results44 snip_under snip_size HB9.out rfl rfl rfl) rfl ?_
 rw [HE.out]
 exact ⟨HG5.out.setRow (by omega) _,S,_,_,(hdN k t n),true,rfl,HR5.out.setRow hnb4 _,hS1,hS2,HV5.out.setRow hnb4.1 _,⟨rfl,rfl,HDJ.out⟩⟩
set_option maxHeartbeats 4000000 in
theorem braced_124 {g m:Nat} {s:Str} (S:Nat→Prop) (w:World) (i:Nat) {t:Str} {n:Int} (h:Rs S w g m s i) {r1:Str} (hn125:List.isPrefixOf [125] (s.drop i)=false) (hn58:List.isPrefixOf [58] (s.drop i)=false) (hd:s.drop i=124 :: r1) :
  Calls Try.prog 44 #[.pointer (some ⟨g,0,none⟩),.agg #[.int .i64 1,.string ⟨(t).toArray⟩,.int .i64 n,.bool false,.bool false,.int .i64 0,.string ⟨#[]⟩,.bool false,.slice none 0 0,.int .i64 0,.int .i64 0,.bool false,.slice none 0 0,.slice none 0 0,.bool false,.bool false,.slice none 0 0,.slice none 0 0]] w fun e w'=>OutX S g m s (bracedS (partsS true [] []) (hdN 1 t n) (s.drop i)) false i w e w':=by
 have HRS:=Lib.hid h
 have hgB:=h.pl.lt
 have hi:=h.pl.2.1
 have hmg:=h.gm
 have hnb3:¬ S w.heap.size∧w.heap.size≠g∧w.heap.size≠m:=⟨fun e=>by have:=h.lt _ e;omega,by omega,by omega⟩
 have hnb4:¬ S (w.heap.size+1)∧w.heap.size+1≠g∧w.heap.size+1≠m:=⟨fun e=>by have:=h.lt _ e;omega,by omega,by omega⟩
 obtain ⟨W0,hW0⟩:∃ W0,W0=(w.alloc (.cells #[.int .i64 1,.string ⟨(t).toArray⟩,.int .i64 n,.bool false,.bool false,.int .i64 0,.string ⟨#[]⟩,.bool false,.slice none 0 0,.int .i64 0,.int .i64 0,.bool false,.slice none 0 0,.slice none 0 0,.bool false,.bool false,.slice none 0 0,.slice none 0 0] 36)).alloc (.cells #[.int .i64 0,.string ⟨#[]⟩,.int .i64 0,.bool false,.bool false,.int .i64 0,.string ⟨#[]⟩,.bool false,.slice none 0 0,.int .i64 0,.int .i64 0,.bool false,.slice none 0 0,.slice none 0 0,.bool false,.bool false,.slice none 0 0,.slice none 0 0] 36):=⟨_,rfl⟩
 have hb0:Below w.heap.size w W0:=by rw [hW0];exact ((Below.refl _ _).alloc (Nat.le_refl _) _).alloc (by simp) _
 have HX0:Hid (W0.heap[w.heap.size]?=some (.cells #[.int .i64 1,.string ⟨(t).toArray⟩,.int .i64 n,.bool false,.bool false,.int .i64 0,.string ⟨#[]⟩,.bool false,.slice none 0 0,.int .i64 0,.int .i64 0,.bool false,.slice none 0 0,.slice none 0 0,.bool false,.bool false,.slice none 0 0,.slice none 0 0] 36 (0,0))):=Lib.hid (by rw [hW0,Below.heap_alloc _ _ _ (by simp)];exact heap_alloc_new w _)
 have HB0:Hid (W0.heap[w.heap.size+1]?=some (.cells #[.int .i64 0,.string ⟨#[]⟩,.int .i64 0,.bool false,.bool false,.int .i64 0,.string ⟨#[]⟩,.bool false,.slice none 0 0,.int .i64 0,.int .i64 0,.bool false,.slice none 0 0,.slice none 0 0,.bool false,.bool false,.slice none 0 0,.slice none 0 0] 36 (0,0))):=Lib.hid (by
  have:=heap_alloc_new (w.alloc (.cells #[.int .i64 1,.string ⟨(t).toArray⟩,.int .i64 n,.bool false,.bool false,.int .i64 0,.string ⟨#[]⟩,.bool false,.slice none 0 0,.int .i64 0,.int .i64 0,.bool false,.slice none 0 0,.slice none 0 0,.bool false,.bool false,.slice none 0 0,.slice none 0 0] 36)) (.cells #[.int .i64 0,.string ⟨#[]⟩,.int .i64 0,.bool false,.bool false,.int .i64 0,.string ⟨#[]⟩,.bool false,.slice none 0 0,.int .i64 0,.int .i64 0,.bool false,.slice none 0 0,.slice none 0 0,.bool false,.bool false,.slice none 0 0,.slice none 0 0] 36)
  rw [hW0];simpa using this)
 have HRS0:=Lib.hid (h.later hb0)
 have HG0:Hid (Gr2 g m w W0):=Lib.hid (Gr2.below hb0)
 have hz0:W0.heap.size=w.heap.size+2:=by rw [hW0];simp
 have HW0:=Lib.hid hW0
 obtain ⟨R,hR⟩:∃ R,bracedS (partsS true [] []) (hdN 1 t n) (s.drop i)=R:=⟨_,rfl⟩
 rw [hR]
 have htk:=take_s_no (p:=[125]) _ HRS0.out.pl (by simp) hn125
 rw [hW0] at htk
 have HTK:=Lib.hid htk
 clear htk hW0
 have HN58:=Lib.hid hn58
 have HE:Hid (R=optsM (hdN 1 t n) r1):=Lib.hid (by rw [← hR,hd];simp only [bracedS];rw [if_neg (by decide),if_neg (by decide),if_pos ⟨by decide,rfl⟩])
 have hyes:List.isPrefixOf [124] (s.drop i)=true:=by rw [hd];rfl
 have HYES:=Lib.hid hyes
 have HDJ:Hid (s.drop (i+1)=r1):=Lib.hid (drop_cons hd).2.2
 clear h hd hR hb0 hn125 hn58 hyes
 go_enter Try.func44,Try.ntmps44
 go_wp2_with (go_at_call 41;refine HTK.out.mono ?_)
 first | rintro e w1 rfl hp1 hg1 | rintro e w1 ⟨rfl,hp1,hg1⟩
 rw [← HW0.out] at hg1
 have HTK2:=Lib.hid (take_s_no (p:=[58]) _ hp1 (by simp) HN58.out)
 go_wp2_with (go_at_call 41;refine HTK2.out.mono ?_)
 first | rintro e w2 rfl hp2 hg2 | rintro e w2 ⟨rfl,hp2,hg2⟩
 have hx2:=box_same (box_same HX0.out hg1 (by omega)) hg2 (by omega)
 have kc:=blk_cell hx2 0 rfl
 have HTK3:=Lib.hid (take_s_yes (p:=[124]) _ hp2 (by simp) HYES.out)
 go_wp2_with (go_at_call 41;refine HTK3.out.mono ?_)
 first | rintro e w3 rfl hp3 hg3 | rintro e w3 ⟨rfl,hp3,hg3⟩
 have hx3:=box_same hx2 hg3 (by omega)
 have kc3:=blk_cell hx3 0 rfl
 have kf3:=blk_free hx3 0
 have hg03:=grown_trans (grown_trans hg1 hg2) hg3
 obtain ⟨W4,hW4⟩:∃ W4,W4=w3.setCell ⟨w.heap.size,0,none⟩ (.int .i64 2):=⟨_,rfl⟩
 have HR3:Hid (Rs S w3 g m s (i+1)):=Lib.hid (HRS0.out.place hp3 hg03)
 have HR4:=Lib.hid (hW4 ▸ HR3.out.setCell (a:=⟨w.heap.size,0,none⟩) hnb3 (.int .i64 2))
 have HG4:=Lib.hid (hW4 ▸ (HG0.out.trans (Gr2.grown hg03)).setNew (a:=⟨w.heap.size,0,none⟩) (Nat.le_refl _) (.int .i64 2))
 have HX4:Hid (W4.heap[w.heap.size]?=some (.cells #[.int .i64 2,.string ⟨(t).toArray⟩,.int .i64 n,.bool false,.bool false,.int .i64 0,.string ⟨#[]⟩,.bool false,.slice none 0 0,.int .i64 0,.int .i64 0,.bool false,.slice none 0 0,.slice none 0 0,.bool false,.bool false,.slice none 0 0,.slice none 0 0] 36 (0,0))):=Lib.hid (by rw [hW4,heap_setCell_same _ _ _ _ _ _ hx3];rfl)
 have HB4:Hid (W4.heap[w.heap.size+1]?=some (.cells #[.int .i64 0,.string ⟨#[]⟩,.int .i64 0,.bool false,.bool false,.int .i64 0,.string ⟨#[]⟩,.bool false,.slice none 0 0,.int .i64 0,.int .i64 0,.bool false,.slice none 0 0,.slice none 0 0,.bool false,.bool false,.slice none 0 0,.slice none 0 0] 36 (0,0))):=Lib.hid (by rw [hW4];exact (heap_setCell_other _ _ _ _ (by show w.heap.size+1≠w.heap.size;omega)).trans (box_same HB0.out hg03 (by omega)))
 have hz4:w.heap.size+2≤W4.heap.size:=by rw [hW4];simp only [World.size_setCell];have:=hg03.size;omega
 have hop:=options_s W4 HR4.out.pl
 rw [HDJ.out] at hop
 have HE2:Hid (R=if List.isPrefixOf [124,125] (optL r1 [] []).2=true then some ((hdN 1 t n).choose (optL r1 [] []).1,(optL r1 [] []).2.drop 2) else none):=Lib.hid (by rw [HE.out,optsM_eq])
 generalize optL r1 [] []=q at hop HE2
 have HOP:=Lib.hid hop
 clear hop HE HDJ
 go_upto_region 10 with fail
 rw [← hW4]
 clear hW4 hx3 kc3 kf3 hp3 hg3 hg03 hx2 kc hp1 hg1 hp2 hg2 HTK HTK2 HTK3 HR3
 go_wp2_with (go_at_call 49;refine HOP.out.mono ?_)
 rintro e w5 ⟨hg5,a,cp,j5,rfl,hsl,hln,hp5,hd5⟩
 have hz5:=hg5.size
 have hx5:=box_same HX4.out hg5 (by omega)
 have kc5:=blk_cell hx5 16 rfl
 have kf5:=blk_free hx5 16
 obtain ⟨W6,hW6⟩:∃ W6,W6=w5.setCell ⟨w.heap.size,16,none⟩ (.slice a q.1.length cp):=⟨_,rfl⟩
 have hz6:W6.heap.size=w5.heap.size:=by rw [hW6];simp
 have hR5:=HR4.out.place hp5 hg5
 have HR5:Hid (Rs (fun b=>S b∨(W4.heap.size≤b∧b < w5.heap.size)) W6 g m s j5):=Lib.hid (by
  rw [hW6]
  refine (hR5.setCell (a:=⟨w.heap.size,16,none⟩) hnb3 _).mono (fun b hb=>.inl hb) ?_ ?_ ?_
  ·rintro (e | ⟨e,_⟩)
   ·exact HRS.out.ng e
   ·omega
  ·rintro (e | ⟨e,_⟩)
   ·exact HRS.out.nm e
   ·omega
  ·rintro b (e | ⟨_,e⟩)
   ·simp only [World.size_setCell];have:=HRS.out.lt b e;omega
   ·simpa using e)
 have hnb4':¬ (S (w.heap.size+1)∨(W4.heap.size≤w.heap.size+1∧w.heap.size+1 < w5.heap.size)):=by
  rintro (e | ⟨e,_⟩)
  ·exact hnb4.1 e
  ·omega
 have HG5:Hid (Gr2 g m w W6):=Lib.hid (by rw [hW6];exact (HG4.out.trans (Gr2.grown hg5)).setNew (a:=⟨w.heap.size,16,none⟩) (Nat.le_refl _) _)
 have HX5:Hid (W6.heap[w.heap.size]?=some (.cells #[.int .i64 2,.string ⟨(t).toArray⟩,.int .i64 n,.bool false,.bool false,.int .i64 0,.string ⟨#[]⟩,.bool false,.slice none 0 0,.int .i64 0,.int .i64 0,.bool false,.slice none 0 0,.slice none 0 0,.bool false,.bool false,.slice a q.1.length cp,.slice none 0 0] 36 (0,0))):=Lib.hid (by rw [hW6,heap_setCell_same _ _ _ _ _ _ hx5];rfl)
 have HB5:Hid (W6.heap[w.heap.size+1]?=some (.cells #[.int .i64 0,.string ⟨#[]⟩,.int .i64 0,.bool false,.bool false,.int .i64 0,.string ⟨#[]⟩,.bool false,.slice none 0 0,.int .i64 0,.int .i64 0,.bool false,.slice none 0 0,.slice none 0 0,.bool false,.bool false,.slice none 0 0,.slice none 0 0] 36 (0,0))):=Lib.hid (by rw [hW6];exact (heap_setCell_other _ _ _ _ (by show w.heap.size+1≠w.heap.size;omega)).trans (box_same HB4.out hg5 (by omega)))
 have HV5:Hid (SnV W6 (fun b=>S b∨(W4.heap.size≤b∧b < w5.heap.size)) [.int .i64 2,.string ⟨(t).toArray⟩,.int .i64 n,.bool false,.bool false,.int .i64 0,.string ⟨#[]⟩,.bool false,.slice none 0 0,.int .i64 0,.int .i64 0,.bool false,.slice none 0 0,.slice none 0 0,.bool false,.bool false,.slice a q.1.length cp,.slice none 0 0] (.mk 2 t n false false tf0 q.1 [])):=Lib.hid (by
  refine hx_v (ks:=[]) ?_ (SnSl.nil _ _ _)
  rw [hW6]
  refine SlS.keep (hsl.mono fun b hb hlt=>.inr ⟨hb,hlt⟩) (Kept.setLow _ fun b hb=>?_)
  rcases hb with hb | ⟨hb,_⟩
  ·rintro rfl;exact hnb3.1 hb
  ·show b≠w.heap.size;omega)
 have HON5:=Lib.hid HV5.out.one
 have hS1:∀ b,S b→(S b∨(W4.heap.size≤b∧b < w5.heap.size)):=fun _ h=>.inl h
 have hS2:∀ b,(S b∨(W4.heap.size≤b∧b < w5.heap.size))→S b∨w.heap.size≤b:=fun b h=>h.imp id fun h=>by omega
 have HD5:=Lib.hid hd5
 go_upto_region 11 with fail
 rw [← hW6]
 clear hW6 hx5 kc5 kf5 hp5 hg5 hd5 hsl hR5 HOP
 have hnb4:¬ (S (w.heap.size+1)∨(W4.heap.size≤w.heap.size+1∧w.heap.size+1 < w5.heap.size))∧w.heap.size+1≠g∧w.heap.size+1≠m:=⟨hnb4',hnb4.2⟩
 cases hok:List.isPrefixOf [124,125] q.2 with
 | true =>
  have HE:Hid (R=some ((hdN 1 t n).choose q.1,q.2.drop 2)):=Lib.hid (by rw [HE2.out,hok];rfl)
  have HDD:Hid (s.drop j5=q.2.drop 2):=Lib.hid (by rw [HD5.out,hok];rfl)
  clear HE2 hok
  have HB9:=Lib.hid (sr_heap (w:=W6) (cs:=#[.int .i64 2,.string ⟨(t).toArray⟩,.int .i64 n,.bool false,.bool false,.int .i64 0,.string ⟨#[]⟩,.bool false,.slice none 0 0,.int .i64 0,.int .i64 0,.bool false,.slice none 0 0,.slice none 0 0,.bool false,.bool false,.slice a q.1.length cp,.slice none 0 0]) HB5.out)
  go_wp2_with (first | (fail) | (refine wpList_ldW rfl 36 (.tmp 3) rfl (w.heap.size) 0 rfl ([.int .i64 2,.string ⟨(t).toArray⟩,.int .i64 n,.bool false,.bool false,.int .i64 0,.string ⟨#[]⟩,.bool false,.slice none 0 0,.int .i64 0,.int .i64 0,.bool false,.slice none 0 0,.slice none 0 0,.bool false,.bool false,.slice a q.1.length cp,.slice none 0 0]) _ (range_blk (ds:=[]) (HX5.out)) snip_under rfl (by rw [snip_size];rfl) ?_) | (refine wpList_stW rfl 36 (.tmp 4) (.tmp 50) rfl ((w.heap.size+1)) (#[.int .i64 2,.string ⟨(t).toArray⟩,.int .i64 n,.bool false,.bool false,.int .i64 0,.string ⟨#[]⟩,.bool false,.slice none 0 0,.int .i64 0,.int .i64 0,.bool false,.slice none 0 0,.slice none 0 0,.bool false,.bool false,.slice a q.1.length cp,.slice none 0 0]) rfl rfl 36 (#[.int .i64 0,.string ⟨#[]⟩,.int .i64 0,.bool false,.bool false,.int .i64 0,.string ⟨#[]⟩,.bool false,.slice none 0 0,.int .i64 0,.int .i64 0,.bool false,.slice none 0 0,.slice none 0 0,.bool false,.bool false,.slice none 0 0,.slice none 0 0]) (HB5.out) (snip_size) rfl rfl (HON5.out) (W:=((W6).setRow (w.heap.size+1) #[.int .i64 2,.string ⟨(t).toArray⟩,.int .i64 n,.bool false,.bool false,.int .i64 0,.string ⟨#[]⟩,.bool false,.slice none 0 0,.int .i64 0,.int .i64 0,.bool false,.slice none 0 0,.slice none 0 0,.bool false,.bool false,.slice a q.1.length cp,.slice none 0 0])) (rfl) ?_))
  refine bodyPost_ret (res_box Try.results44 snip_under snip_size HB9.out rfl rfl rfl) rfl ?_
  rw [HE.out]
  exact ⟨HG5.out.setRow (by omega) _,(fun b=>S b∨(W4.heap.size≤b∧b < w5.heap.size)),_,_,(.mk 2 t n false false tf0 q.1 []),true,rfl,HR5.out.setRow hnb4 _,hS1,hS2,HV5.out.setRow hnb4.1 _,⟨rfl,rfl,HDD.out⟩⟩
 | false =>
  have HE:Hid (R=none):=Lib.hid (by rw [HE2.out,hok];rfl)
  clear HE2 hok
  have HB9:=Lib.hid (sr_heap (w:=W6) (cs:=#[.int .i64 2,.string ⟨(t).toArray⟩,.int .i64 n,.bool false,.bool false,.int .i64 0,.string ⟨#[]⟩,.bool false,.slice none 0 0,.int .i64 0,.int .i64 0,.bool false,.slice none 0 0,.slice none 0 0,.bool false,.bool false,.slice a q.1.length cp,.slice none 0 0]) HB5.out)
  go_wp2_with (first | (fail) | (refine wpList_ldW rfl 36 (.tmp 3) rfl (w.heap.size) 0 rfl ([.int .i64 2,.string ⟨(t).toArray⟩,.int .i64 n,.bool false,.bool false,.int .i64 0,.string ⟨#[]⟩,.bool false,.slice none 0 0,.int .i64 0,.int .i64 0,.bool false,.slice none 0 0,.slice none 0 0,.bool false,.bool false,.slice a q.1.length cp,.slice none 0 0]) _ (range_blk (ds:=[]) (HX5.out)) snip_under rfl (by rw [snip_size];rfl) ?_) | (refine wpList_stW rfl 36 (.tmp 4) (.tmp 50) rfl ((w.heap.size+1)) (#[.int .i64 2,.string ⟨(t).toArray⟩,.int .i64 n,.bool false,.bool false,.int .i64 0,.string ⟨#[]⟩,.bool false,.slice none 0 0,.int .i64 0,.int .i64 0,.bool false,.slice none 0 0,.slice none 0 0,.bool false,.bool false,.slice a q.1.length cp,.slice none 0 0]) rfl rfl 36 (#[.int .i64 0,.string ⟨#[]⟩,.int .i64 0,.bool false,.bool false,.int .i64 0,.string ⟨#[]⟩,.bool false,.slice none 0 0,.int .i64 0,.int .i64 0,.bool false,.slice none 0 0,.slice none 0 0,.bool false,.bool false,.slice none 0 0,.slice none 0 0]) (HB5.out) (snip_size) rfl rfl (HON5.out) (W:=((W6).setRow (w.heap.size+1) #[.int .i64 2,.string ⟨(t).toArray⟩,.int .i64 n,.bool false,.bool false,.int .i64 0,.string ⟨#[]⟩,.bool false,.slice none 0 0,.int .i64 0,.int .i64 0,.bool false,.slice none 0 0,.slice none 0 0,.bool false,.bool false,.slice a q.1.length cp,.slice none 0 0])) (rfl) ?_))
  refine bodyPost_ret (res_box Try.results44 snip_under snip_size HB9.out rfl rfl rfl) rfl ?_
  rw [HE.out]
  exact ⟨HG5.out.setRow (by omega) _,(fun b=>S b∨(W4.heap.size≤b∧b < w5.heap.size)),_,_,(.mk 2 t n false false tf0 q.1 []),false,rfl,HR5.out.setRow hnb4 _,hS1,hS2,HV5.out.setRow hnb4.1 _,⟨rfl,fun e=>by cases e⟩⟩
end Go.Proofs.Ytbgcjpefocdkkaa
set_option maxRecDepth 100000
namespace Go.Proofs.Ytbgcjpefocdkkaa
open Go.RowKit Go.Maps Go.MapKept
open Go.ChangeMaps (setBlock)
set_option maxHeartbeats 4000000 in
theorem braced_form1 {g m:Nat} {s:Str} (hs:s.length≤100000) (hs1:1≤s.length) (S:Nat→Prop) (w:World) (i:Nat) {t:Str} {n:Int} (h:Rs S w g m s i) (hn125:List.isPrefixOf [125] (s.drop i)=false) (hn58:List.isPrefixOf [58] (s.drop i)=false) (hn124:List.isPrefixOf [124] (s.drop i)=false)
  (hF:bracedS (partsS true [] []) (hdN 1 t n) (s.drop i)=match formM (s.drop i) with | none=>none | some (f,r2)=>some ((hdN 1 t n).turn f,r2)) :
  Calls Try.prog 44 #[.pointer (some ⟨g,0,none⟩),.agg #[.int .i64 1,.string ⟨(t).toArray⟩,.int .i64 n,.bool false,.bool false,.int .i64 0,.string ⟨#[]⟩,.bool false,.slice none 0 0,.int .i64 0,.int .i64 0,.bool false,.slice none 0 0,.slice none 0 0,.bool false,.bool false,.slice none 0 0,.slice none 0 0]] w fun e w'=>OutX S g m s (bracedS (partsS true [] []) (hdN 1 t n) (s.drop i)) false i w e w':=by
 have HRS:=Lib.hid h
 have hgB:=h.pl.lt
 have hi:=h.pl.2.1
 have hmg:=h.gm
 have hnb3:¬ S w.heap.size∧w.heap.size≠g∧w.heap.size≠m:=⟨fun e=>by have:=h.lt _ e;omega,by omega,by omega⟩
 have hnb4:¬ S (w.heap.size+1)∧w.heap.size+1≠g∧w.heap.size+1≠m:=⟨fun e=>by have:=h.lt _ e;omega,by omega,by omega⟩
 obtain ⟨W0,hW0⟩:∃ W0,W0=(w.alloc (.cells #[.int .i64 1,.string ⟨(t).toArray⟩,.int .i64 n,.bool false,.bool false,.int .i64 0,.string ⟨#[]⟩,.bool false,.slice none 0 0,.int .i64 0,.int .i64 0,.bool false,.slice none 0 0,.slice none 0 0,.bool false,.bool false,.slice none 0 0,.slice none 0 0] 36)).alloc (.cells #[.int .i64 0,.string ⟨#[]⟩,.int .i64 0,.bool false,.bool false,.int .i64 0,.string ⟨#[]⟩,.bool false,.slice none 0 0,.int .i64 0,.int .i64 0,.bool false,.slice none 0 0,.slice none 0 0,.bool false,.bool false,.slice none 0 0,.slice none 0 0] 36):=⟨_,rfl⟩
 have hb0:Below w.heap.size w W0:=by rw [hW0];exact ((Below.refl _ _).alloc (Nat.le_refl _) _).alloc (by simp) _
 have HX0:Hid (W0.heap[w.heap.size]?=some (.cells #[.int .i64 1,.string ⟨(t).toArray⟩,.int .i64 n,.bool false,.bool false,.int .i64 0,.string ⟨#[]⟩,.bool false,.slice none 0 0,.int .i64 0,.int .i64 0,.bool false,.slice none 0 0,.slice none 0 0,.bool false,.bool false,.slice none 0 0,.slice none 0 0] 36 (0,0))):=Lib.hid (by rw [hW0,Below.heap_alloc _ _ _ (by simp)];exact heap_alloc_new w _)
 have HB0:Hid (W0.heap[w.heap.size+1]?=some (.cells #[.int .i64 0,.string ⟨#[]⟩,.int .i64 0,.bool false,.bool false,.int .i64 0,.string ⟨#[]⟩,.bool false,.slice none 0 0,.int .i64 0,.int .i64 0,.bool false,.slice none 0 0,.slice none 0 0,.bool false,.bool false,.slice none 0 0,.slice none 0 0] 36 (0,0))):=Lib.hid (by
  have:=heap_alloc_new (w.alloc (.cells #[.int .i64 1,.string ⟨(t).toArray⟩,.int .i64 n,.bool false,.bool false,.int .i64 0,.string ⟨#[]⟩,.bool false,.slice none 0 0,.int .i64 0,.int .i64 0,.bool false,.slice none 0 0,.slice none 0 0,.bool false,.bool false,.slice none 0 0,.slice none 0 0] 36)) (.cells #[.int .i64 0,.string ⟨#[]⟩,.int .i64 0,.bool false,.bool false,.int .i64 0,.string ⟨#[]⟩,.bool false,.slice none 0 0,.int .i64 0,.int .i64 0,.bool false,.slice none 0 0,.slice none 0 0,.bool false,.bool false,.slice none 0 0,.slice none 0 0] 36)
  rw [hW0];simpa using this)
 have HRS0:=Lib.hid (h.later hb0)
 have HG0:Hid (Gr2 g m w W0):=Lib.hid (Gr2.below hb0)
 have hz0:W0.heap.size=w.heap.size+2:=by rw [hW0];simp
 have HW0:=Lib.hid hW0
 obtain ⟨R,hR⟩:∃ R,bracedS (partsS true [] []) (hdN 1 t n) (s.drop i)=R:=⟨_,rfl⟩
 rw [hR]
 have HS1:=Lib.hid hs1
 have htk:=take_s_no (p:=[125]) _ HRS0.out.pl (by simp) hn125
 rw [hW0] at htk
 have HTK:=Lib.hid htk
 clear htk hW0
 have HN58:=Lib.hid hn58
 have HN124:=Lib.hid hn124
 rw [hR] at hF
 have HHE:=Lib.hid hF
 clear hF h hR hb0 hn125 hn58 hn124
 go_enter Try.func44,Try.ntmps44
 go_wp2_with (go_at_call 41;refine HTK.out.mono ?_)
 first | rintro e w1 rfl hp1 hg1 | rintro e w1 ⟨rfl,hp1,hg1⟩
 rw [← HW0.out] at hg1
 have HTK2:=Lib.hid (take_s_no (p:=[58]) _ hp1 (by simp) HN58.out)
 go_wp2_with (go_at_call 41;refine HTK2.out.mono ?_)
 first | rintro e w2 rfl hp2 hg2 | rintro e w2 ⟨rfl,hp2,hg2⟩
 have hx2:=box_same (box_same HX0.out hg1 (by omega)) hg2 (by omega)
 have kc:=blk_cell hx2 0 rfl
 have HTK3:=Lib.hid (take_s_no (p:=[124]) _ hp2 (by simp) (by simpa using HN124.out))
 go_wp2_with (go_at_call 41;refine HTK3.out.mono ?_)
 first | rintro e w3 rfl hp3 hg3 | rintro e w3 ⟨rfl,hp3,hg3⟩
 have hg03:=grown_trans (grown_trans hg1 hg2) hg3
 have hx3:=box_same hx2 hg3 (by omega)
 clear hp1 hg1 hp2 hg2 hg3 HTK HTK2 HTK3 hx2 kc
 have kc4:=blk_cell hx3 4 rfl
 have kf4:=blk_free hx3 4
 obtain ⟨W4,hW4⟩:∃ W4,W4=w3.setCell ⟨w.heap.size,4,none⟩ (.bool true):=⟨_,rfl⟩
 have HR3:Hid (Rs S w3 g m s i):=Lib.hid (HRS0.out.place hp3 hg03)
 have HR4:=Lib.hid (hW4 ▸ HR3.out.setCell (a:=⟨w.heap.size,4,none⟩) hnb3 (.bool true))
 have HG4:=Lib.hid (hW4 ▸ (HG0.out.trans (Gr2.grown hg03)).setNew (a:=⟨w.heap.size,4,none⟩) (Nat.le_refl _) (.bool true))
 have HX4:Hid (W4.heap[w.heap.size]?=some (.cells #[.int .i64 1,.string ⟨(t).toArray⟩,.int .i64 n,.bool false,.bool true,.int .i64 0,.string ⟨#[]⟩,.bool false,.slice none 0 0,.int .i64 0,.int .i64 0,.bool false,.slice none 0 0,.slice none 0 0,.bool false,.bool false,.slice none 0 0,.slice none 0 0] 36 (0,0))):=Lib.hid (by rw [hW4,heap_setCell_same _ _ _ _ _ _ hx3];rfl)
 have HB4:Hid (W4.heap[w.heap.size+1]?=some (.cells #[.int .i64 0,.string ⟨#[]⟩,.int .i64 0,.bool false,.bool false,.int .i64 0,.string ⟨#[]⟩,.bool false,.slice none 0 0,.int .i64 0,.int .i64 0,.bool false,.slice none 0 0,.slice none 0 0,.bool false,.bool false,.slice none 0 0,.slice none 0 0] 36 (0,0))):=Lib.hid (by rw [hW4];exact (heap_setCell_other _ _ _ _ (by show w.heap.size+1≠w.heap.size;omega)).trans (box_same HB0.out hg03 (by omega)))
 have hz4:w.heap.size+2≤W4.heap.size:=by rw [hW4];simp only [World.size_setCell];have:=hg03.size;omega
 have c0:=HR4.out.pl.c0
 have c1:=HR4.out.pl.c1
 have HFO:Hid (∀ W:World,Calls Try.prog 50 #[.string ⟨(s).toArray⟩,.int .i64 (i:Int)] W fun e w'=>FormPost s i W.heap.size W (formM (s.drop i)) e w'):=Lib.hid (fun W=>Reads_any s i W hi (by omega))
 go_upto_region 13 with fail
 rw [← hW4]
 clear hW4 hx3 kc4 kf4 hp3 hg03 HR3
 go_region_with (first | (go_at_call 50;refine (HFO.out _).mono ?_;intro e w5 hpo;obtain ⟨rk,rch,rng,ra,rn,rcp,rlo,rhi,rlz,rka,kn,rkc,fa,fn,fcp,fd,al,f,ej,ok,rfl,hb5,hf5,hej,hm5⟩:=form_cells HS1.out hpo;clear hpo;have HF5:=Lib.hid hf5;have HM5:=Lib.hid hm5;clear hf5 hm5;have hbd:=(Below.refl W4.heap.size W4).drew.trans hb5;have hx5:=(hbd.block _ (heap_lt HX4.out)).trans HX4.out;have hr5:=HR4.out.later hbd;have pc1:=hr5.pl.c1;have pf1:=hr5.pl.free 1;have z5:=blk_cell hx5 5 rfl;have z6:=blk_cell hx5 6 rfl;have z7:=blk_cell hx5 7 rfl;have z8:=blk_cell hx5 8 rfl;have z9:=blk_cell hx5 9 rfl;have z10:=blk_cell hx5 10 rfl;have z11:=blk_cell hx5 11 rfl;have z12:=blk_cell hx5 12 rfl;have z13:=blk_cell hx5 13 rfl;have z14:=blk_cell hx5 14 rfl;have z15:=blk_cell hx5 15 rfl;have zf:=blk_free hx5))
 all_goals
  have HF6:Hid (TfV w5 (fun b=>W4.heap.size≤b) [.int .i64 rk,.string ⟨(rch).toArray⟩,.bool rng,.slice ra rn rcp,.int .i64 rlo,.int .i64 rhi,.bool rlz,.slice rka kn rkc,.slice fa fn fcp,.bool fd,.bool al] f):=HF5
  have hz5:W4.heap.size≤w5.heap.size:=hbd.size
  go_upto_region 15 with fail
  obtain ⟨W6,hW6⟩:∃ W6,W6=(((((((((((((((w5).setCell ⟨w.heap.size,5,none⟩ (.int .i64 rk)).setCell ⟨w.heap.size,6,none⟩ (.string ⟨(rch).toArray⟩)).setCell ⟨w.heap.size,7,none⟩ (.bool rng)).setCell ⟨w.heap.size,8,none⟩ (.slice ra rn rcp)).setCell ⟨w.heap.size,9,none⟩ (.int .i64 rlo)).setCell ⟨w.heap.size,10,none⟩ (.int .i64 rhi)).setCell ⟨w.heap.size,11,none⟩ (.bool rlz)).setCell ⟨w.heap.size,12,none⟩ (.slice rka kn rkc)).setCell ⟨w.heap.size,13,none⟩ (.slice fa fn fcp)).setCell ⟨w.heap.size,14,none⟩ (.bool fd)).setCell ⟨w.heap.size,15,none⟩ (.bool al))).setCell ⟨g,1,none⟩ (.int .i64 (ej:Int))).setCell ⟨g,1,none⟩ (.int .i64 ((ej:Int)+1))):=⟨_,rfl⟩
  have HR5:Hid (Rs (fun b=>S b∨(W4.heap.size≤b∧b < w5.heap.size)) W6 g m s (ej+1)):=Lib.hid (by
   rw [hW6,n11_eq]
   refine ((hr5.setsL hnb3 _ 5).twice hej).mono (fun b hb=>.inl hb) ?_ ?_ ?_
   ·rintro (e | ⟨e,_⟩)
    ·exact HRS.out.ng e
    ·omega
   ·rintro (e | ⟨e,_⟩)
    ·exact HRS.out.nm e
    ·omega
   ·rintro b (e | ⟨_,e⟩)
    ·simp only [World.size_setCell,setsL_size];have:=HRS.out.lt b e;omega
    ·simpa only [World.size_setCell,setsL_size] using e)
  have HG5:Hid (Gr2 g m w W6):=Lib.hid (by rw [hW6,n11_eq];exact ((HG4.out.trans (Gr2.below hbd)).setsL (Nat.le_refl _) _ 5).twice _ _)
  have HX5:Hid (W6.heap[w.heap.size]?=some (.cells #[.int .i64 1,.string ⟨(t).toArray⟩,.int .i64 n,.bool false,.bool true,.int .i64 rk,.string ⟨(rch).toArray⟩,.bool rng,.slice ra rn rcp,.int .i64 rlo,.int .i64 rhi,.bool rlz,.slice rka kn rkc,.slice fa fn fcp,.bool fd,.bool al,.slice none 0 0,.slice none 0 0] 36 (0,0))):=Lib.hid (by
   rw [hW6,n11_eq,twice_other _ _ (by omega)]
   exact setsL_mid (post:=[.slice none 0 0,.slice none 0 0]) [.int .i64 rk,.string ⟨(rch).toArray⟩,.bool rng,.slice ra rn rcp,.int .i64 rlo,.int .i64 rhi,.bool rlz,.slice rka kn rkc,.slice fa fn fcp,.bool fd,.bool al] [.int .i64 0,.string ⟨#[]⟩,.bool false,.slice none 0 0,.int .i64 0,.int .i64 0,.bool false,.slice none 0 0,.slice none 0 0,.bool false,.bool false] [.int .i64 1,.string ⟨(t).toArray⟩,.int .i64 n,.bool false,.bool true] hx5 rfl)
  have HB5:Hid (W6.heap[w.heap.size+1]?=some (.cells #[.int .i64 0,.string ⟨#[]⟩,.int .i64 0,.bool false,.bool false,.int .i64 0,.string ⟨#[]⟩,.bool false,.slice none 0 0,.int .i64 0,.int .i64 0,.bool false,.slice none 0 0,.slice none 0 0,.bool false,.bool false,.slice none 0 0,.slice none 0 0] 36 (0,0))):=Lib.hid (by rw [hW6,n11_eq,twice_other _ _ (by omega),setsL_other (by omega),hbd.block _ (heap_lt HB4.out)];exact HB4.out)
  have HV5:Hid (SnV W6 (fun b=>S b∨(W4.heap.size≤b∧b < w5.heap.size)) [.int .i64 1,.string ⟨(t).toArray⟩,.int .i64 n,.bool false,.bool true,.int .i64 rk,.string ⟨(rch).toArray⟩,.bool rng,.slice ra rn rcp,.int .i64 rlo,.int .i64 rhi,.bool rlz,.slice rka kn rkc,.slice fa fn fcp,.bool fd,.bool al,.slice none 0 0,.slice none 0 0] (.mk 1 t n false true f [] [])):=Lib.hid (by
   refine SnV.close (fc:=[.int .i64 rk,.string ⟨(rch).toArray⟩,.bool rng,.slice ra rn rcp,.int .i64 rlo,.int .i64 rhi,.bool rlz,.slice rka kn rkc,.slice fa fn fcp,.bool fd,.bool al]) (os:=[]) (ks:=[]) ?_ (SlS.none_ _ _ _ _) (SnSl.nil _ _ _)
   refine TfV.keep ⟨?_,fun b hb hlt=>?_⟩ (HF6.out.mono fun b hb hlt=>.inr ⟨hb,hlt⟩)
   ·rw [hW6,n11_eq];simp only [World.size_setCell,setsL_size];exact Nat.le_refl _
   ·rw [hW6,n11_eq]
    rcases hb with hb | ⟨hb,_⟩
    ·rw [twice_other (k:=b) _ _ (by rintro rfl;exact HRS.out.ng hb),setsL_other (k:=b) (by rintro rfl;exact hnb3.1 hb)]
    ·rw [twice_other _ _ (by omega),setsL_other (by omega)])
  have HON5:=Lib.hid HV5.out.one
  have hS1:∀ b,S b→(S b∨(W4.heap.size≤b∧b < w5.heap.size)):=fun _ h=>.inl h
  have hS2:∀ b,(S b∨(W4.heap.size≤b∧b < w5.heap.size))→S b∨w.heap.size≤b:=fun b h=>h.imp id fun h=>by omega
  have hnb4:¬ (S (w.heap.size+1)∨(W4.heap.size≤w.heap.size+1∧w.heap.size+1 < w5.heap.size))∧w.heap.size+1≠g∧w.heap.size+1≠m:=⟨by
   rintro (e | ⟨e,_⟩)
   ·exact hnb4.1 e
   ·omega,hnb4.2⟩
  rw [← hW6]
  clear hW6 hx5 hr5 pc1 pf1 zf hbd hb5 c0 c1
  clear z5 z6 z7 z8 z9 z10 z11 z12 z13 z14 z15
  cases hfm:formM (s.drop i) with
  | none =>
   have HE:Hid (R=none):=Lib.hid (by rw [HHE.out,hfm])
   have hok:ok=false:=by have:=HM5.out;rw [hfm] at this;exact this
   subst hok
   clear hfm HM5 HHE HFO
   have HB9:=Lib.hid (sr_heap (w:=W6) (cs:=#[.int .i64 1,.string ⟨(t).toArray⟩,.int .i64 n,.bool false,.bool true,.int .i64 rk,.string ⟨(rch).toArray⟩,.bool rng,.slice ra rn rcp,.int .i64 rlo,.int .i64 rhi,.bool rlz,.slice rka kn rkc,.slice fa fn fcp,.bool fd,.bool al,.slice none 0 0,.slice none 0 0]) HB5.out)
   go_wp2_with (first | (fail) | (refine wpList_ldW rfl 36 (.tmp 3) rfl (w.heap.size) 0 rfl ([.int .i64 1,.string ⟨(t).toArray⟩,.int .i64 n,.bool false,.bool true,.int .i64 rk,.string ⟨(rch).toArray⟩,.bool rng,.slice ra rn rcp,.int .i64 rlo,.int .i64 rhi,.bool rlz,.slice rka kn rkc,.slice fa fn fcp,.bool fd,.bool al,.slice none 0 0,.slice none 0 0]) _ (range_blk (ds:=[]) (HX5.out)) snip_under rfl (by rw [snip_size];rfl) ?_) | (refine wpList_stW rfl 36 (.tmp 4) (.tmp 82) rfl ((w.heap.size+1)) (#[.int .i64 1,.string ⟨(t).toArray⟩,.int .i64 n,.bool false,.bool true,.int .i64 rk,.string ⟨(rch).toArray⟩,.bool rng,.slice ra rn rcp,.int .i64 rlo,.int .i64 rhi,.bool rlz,.slice rka kn rkc,.slice fa fn fcp,.bool fd,.bool al,.slice none 0 0,.slice none 0 0]) rfl rfl 36 (#[.int .i64 0,.string ⟨#[]⟩,.int .i64 0,.bool false,.bool false,.int .i64 0,.string ⟨#[]⟩,.bool false,.slice none 0 0,.int .i64 0,.int .i64 0,.bool false,.slice none 0 0,.slice none 0 0,.bool false,.bool false,.slice none 0 0,.slice none 0 0]) (HB5.out) (snip_size) rfl rfl (HON5.out) (W:=((W6).setRow (w.heap.size+1) #[.int .i64 1,.string ⟨(t).toArray⟩,.int .i64 n,.bool false,.bool true,.int .i64 rk,.string ⟨(rch).toArray⟩,.bool rng,.slice ra rn rcp,.int .i64 rlo,.int .i64 rhi,.bool rlz,.slice rka kn rkc,.slice fa fn fcp,.bool fd,.bool al,.slice none 0 0,.slice none 0 0])) (rfl) ?_))
   refine bodyPost_ret (res_box Try.results44 snip_under snip_size HB9.out rfl rfl rfl) rfl ?_
   rw [HE.out]
   exact ⟨HG5.out.setRow (by omega) _,(fun b=>S b∨(W4.heap.size≤b∧b < w5.heap.size)),_,_,(.mk 1 t n false true f [] []),false,rfl,HR5.out.setRow hnb4 _,hS1,hS2,HV5.out.setRow hnb4.1 _,⟨rfl,fun e=>by cases e⟩⟩
  | some p =>
   obtain ⟨f0,r2⟩:=p
   have HE:Hid (R=some ((hdN 1 t n).turn f0,r2)):=Lib.hid (by rw [HHE.out,hfm])
   have hok:ok=true∧f=f0∧s.drop (ej+1)=r2:=by have:=HM5.out;rw [hfm] at this;exact this
   obtain ⟨rfl,rfl,hdr⟩:=hok
   have HDR:=Lib.hid hdr
   clear hfm HM5 HHE HFO hdr
   have HB9:=Lib.hid (sr_heap (w:=W6) (cs:=#[.int .i64 1,.string ⟨(t).toArray⟩,.int .i64 n,.bool false,.bool true,.int .i64 rk,.string ⟨(rch).toArray⟩,.bool rng,.slice ra rn rcp,.int .i64 rlo,.int .i64 rhi,.bool rlz,.slice rka kn rkc,.slice fa fn fcp,.bool fd,.bool al,.slice none 0 0,.slice none 0 0]) HB5.out)
   go_wp2_with (first | (fail) | (refine wpList_ldW rfl 36 (.tmp 3) rfl (w.heap.size) 0 rfl ([.int .i64 1,.string ⟨(t).toArray⟩,.int .i64 n,.bool false,.bool true,.int .i64 rk,.string ⟨(rch).toArray⟩,.bool rng,.slice ra rn rcp,.int .i64 rlo,.int .i64 rhi,.bool rlz,.slice rka kn rkc,.slice fa fn fcp,.bool fd,.bool al,.slice none 0 0,.slice none 0 0]) _ (range_blk (ds:=[]) (HX5.out)) snip_under rfl (by rw [snip_size];rfl) ?_) | (refine wpList_stW rfl 36 (.tmp 4) (.tmp 82) rfl ((w.heap.size+1)) (#[.int .i64 1,.string ⟨(t).toArray⟩,.int .i64 n,.bool false,.bool true,.int .i64 rk,.string ⟨(rch).toArray⟩,.bool rng,.slice ra rn rcp,.int .i64 rlo,.int .i64 rhi,.bool rlz,.slice rka kn rkc,.slice fa fn fcp,.bool fd,.bool al,.slice none 0 0,.slice none 0 0]) rfl rfl 36 (#[.int .i64 0,.string ⟨#[]⟩,.int .i64 0,.bool false,.bool false,.int .i64 0,.string ⟨#[]⟩,.bool false,.slice none 0 0,.int .i64 0,.int .i64 0,.bool false,.slice none 0 0,.slice none 0 0,.bool false,.bool false,.slice none 0 0,.slice none 0 0]) (HB5.out) (snip_size) rfl rfl (HON5.out) (W:=((W6).setRow (w.heap.size+1) #[.int .i64 1,.string ⟨(t).toArray⟩,.int .i64 n,.bool false,.bool true,.int .i64 rk,.string ⟨(rch).toArray⟩,.bool rng,.slice ra rn rcp,.int .i64 rlo,.int .i64 rhi,.bool rlz,.slice rka kn rkc,.slice fa fn fcp,.bool fd,.bool al,.slice none 0 0,.slice none 0 0])) (rfl) ?_))
   refine bodyPost_ret (res_box Try.results44 snip_under snip_size HB9.out rfl rfl rfl) rfl ?_
   rw [HE.out]
   exact ⟨HG5.out.setRow (by omega) _,(fun b=>S b∨(W4.heap.size≤b∧b < w5.heap.size)),_,_,(.mk 1 t n false true f [] []),true,rfl,HR5.out.setRow hnb4 _,hS1,hS2,HV5.out.setRow hnb4.1 _,⟨rfl,rfl,HDR.out⟩⟩
end Go.Proofs.Ytbgcjpefocdkkaa
set_option maxRecDepth 100000
namespace Go.Proofs.Ytbgcjpefocdkkaa
open Go.RowKit Go.Maps Go.MapKept
open Go.ChangeMaps (setBlock)
set_option maxHeartbeats 4000000 in
theorem braced_form3 {g m:Nat} {s:Str} (hs:s.length≤100000) (hs1:1≤s.length) (S:Nat→Prop) (w:World) (i:Nat) {t:Str} {n:Int} (h:Rs S w g m s i) (hn125:List.isPrefixOf [125] (s.drop i)=false) (hn58:List.isPrefixOf [58] (s.drop i)=false)
  (hF:bracedS (partsS true [] []) (hdN 3 t n) (s.drop i)=match formM (s.drop i) with | none=>none | some (f,r2)=>some ((hdN 3 t n).turn f,r2)) :
  Calls Try.prog 44 #[.pointer (some ⟨g,0,none⟩),.agg #[.int .i64 3,.string ⟨(t).toArray⟩,.int .i64 n,.bool false,.bool false,.int .i64 0,.string ⟨#[]⟩,.bool false,.slice none 0 0,.int .i64 0,.int .i64 0,.bool false,.slice none 0 0,.slice none 0 0,.bool false,.bool false,.slice none 0 0,.slice none 0 0]] w fun e w'=>OutX S g m s (bracedS (partsS true [] []) (hdN 3 t n) (s.drop i)) false i w e w':=by
 have HRS:=Lib.hid h
 have hgB:=h.pl.lt
 have hi:=h.pl.2.1
 have hmg:=h.gm
 have hnb3:¬ S w.heap.size∧w.heap.size≠g∧w.heap.size≠m:=⟨fun e=>by have:=h.lt _ e;omega,by omega,by omega⟩
 have hnb4:¬ S (w.heap.size+1)∧w.heap.size+1≠g∧w.heap.size+1≠m:=⟨fun e=>by have:=h.lt _ e;omega,by omega,by omega⟩
 obtain ⟨W0,hW0⟩:∃ W0,W0=(w.alloc (.cells #[.int .i64 3,.string ⟨(t).toArray⟩,.int .i64 n,.bool false,.bool false,.int .i64 0,.string ⟨#[]⟩,.bool false,.slice none 0 0,.int .i64 0,.int .i64 0,.bool false,.slice none 0 0,.slice none 0 0,.bool false,.bool false,.slice none 0 0,.slice none 0 0] 36)).alloc (.cells #[.int .i64 0,.string ⟨#[]⟩,.int .i64 0,.bool false,.bool false,.int .i64 0,.string ⟨#[]⟩,.bool false,.slice none 0 0,.int .i64 0,.int .i64 0,.bool false,.slice none 0 0,.slice none 0 0,.bool false,.bool false,.slice none 0 0,.slice none 0 0] 36):=⟨_,rfl⟩
 have hb0:Below w.heap.size w W0:=by rw [hW0];exact ((Below.refl _ _).alloc (Nat.le_refl _) _).alloc (by simp) _
 have HX0:Hid (W0.heap[w.heap.size]?=some (.cells #[.int .i64 3,.string ⟨(t).toArray⟩,.int .i64 n,.bool false,.bool false,.int .i64 0,.string ⟨#[]⟩,.bool false,.slice none 0 0,.int .i64 0,.int .i64 0,.bool false,.slice none 0 0,.slice none 0 0,.bool false,.bool false,.slice none 0 0,.slice none 0 0] 36 (0,0))):=Lib.hid (by rw [hW0,Below.heap_alloc _ _ _ (by simp)];exact heap_alloc_new w _)
 have HB0:Hid (W0.heap[w.heap.size+1]?=some (.cells #[.int .i64 0,.string ⟨#[]⟩,.int .i64 0,.bool false,.bool false,.int .i64 0,.string ⟨#[]⟩,.bool false,.slice none 0 0,.int .i64 0,.int .i64 0,.bool false,.slice none 0 0,.slice none 0 0,.bool false,.bool false,.slice none 0 0,.slice none 0 0] 36 (0,0))):=Lib.hid (by
  have:=heap_alloc_new (w.alloc (.cells #[.int .i64 3,.string ⟨(t).toArray⟩,.int .i64 n,.bool false,.bool false,.int .i64 0,.string ⟨#[]⟩,.bool false,.slice none 0 0,.int .i64 0,.int .i64 0,.bool false,.slice none 0 0,.slice none 0 0,.bool false,.bool false,.slice none 0 0,.slice none 0 0] 36)) (.cells #[.int .i64 0,.string ⟨#[]⟩,.int .i64 0,.bool false,.bool false,.int .i64 0,.string ⟨#[]⟩,.bool false,.slice none 0 0,.int .i64 0,.int .i64 0,.bool false,.slice none 0 0,.slice none 0 0,.bool false,.bool false,.slice none 0 0,.slice none 0 0] 36)
  rw [hW0];simpa using this)
 have HRS0:=Lib.hid (h.later hb0)
 have HG0:Hid (Gr2 g m w W0):=Lib.hid (Gr2.below hb0)
 have hz0:W0.heap.size=w.heap.size+2:=by rw [hW0];simp
 have HW0:=Lib.hid hW0
 obtain ⟨R,hR⟩:∃ R,bracedS (partsS true [] []) (hdN 3 t n) (s.drop i)=R:=⟨_,rfl⟩
 rw [hR]
 have HS1:=Lib.hid hs1
 have htk:=take_s_no (p:=[125]) _ HRS0.out.pl (by simp) hn125
 rw [hW0] at htk
 have HTK:=Lib.hid htk
 clear htk hW0
 have HN58:=Lib.hid hn58
 rw [hR] at hF
 have HHE:=Lib.hid hF
 clear hF h hR hb0 hn125 hn58
 go_enter Try.func44,Try.ntmps44
 go_wp2_with (go_at_call 41;refine HTK.out.mono ?_)
 first | rintro e w1 rfl hp1 hg1 | rintro e w1 ⟨rfl,hp1,hg1⟩
 rw [← HW0.out] at hg1
 have HTK2:=Lib.hid (take_s_no (p:=[58]) _ hp1 (by simp) HN58.out)
 go_wp2_with (go_at_call 41;refine HTK2.out.mono ?_)
 first | rintro e w3 rfl hp3 hg3 | rintro e w3 ⟨rfl,hp3,hg3⟩
 have hg03:=grown_trans hg1 hg3
 have hx3:=box_same (box_same HX0.out hg1 (by omega)) hg3 (by omega)
 have kc:=blk_cell hx3 0 rfl
 clear hp1 hg1 hg3 HTK HTK2
 have kc4:=blk_cell hx3 4 rfl
 have kf4:=blk_free hx3 4
 obtain ⟨W4,hW4⟩:∃ W4,W4=w3.setCell ⟨w.heap.size,4,none⟩ (.bool true):=⟨_,rfl⟩
 have HR3:Hid (Rs S w3 g m s i):=Lib.hid (HRS0.out.place hp3 hg03)
 have HR4:=Lib.hid (hW4 ▸ HR3.out.setCell (a:=⟨w.heap.size,4,none⟩) hnb3 (.bool true))
 have HG4:=Lib.hid (hW4 ▸ (HG0.out.trans (Gr2.grown hg03)).setNew (a:=⟨w.heap.size,4,none⟩) (Nat.le_refl _) (.bool true))
 have HX4:Hid (W4.heap[w.heap.size]?=some (.cells #[.int .i64 3,.string ⟨(t).toArray⟩,.int .i64 n,.bool false,.bool true,.int .i64 0,.string ⟨#[]⟩,.bool false,.slice none 0 0,.int .i64 0,.int .i64 0,.bool false,.slice none 0 0,.slice none 0 0,.bool false,.bool false,.slice none 0 0,.slice none 0 0] 36 (0,0))):=Lib.hid (by rw [hW4,heap_setCell_same _ _ _ _ _ _ hx3];rfl)
 have HB4:Hid (W4.heap[w.heap.size+1]?=some (.cells #[.int .i64 0,.string ⟨#[]⟩,.int .i64 0,.bool false,.bool false,.int .i64 0,.string ⟨#[]⟩,.bool false,.slice none 0 0,.int .i64 0,.int .i64 0,.bool false,.slice none 0 0,.slice none 0 0,.bool false,.bool false,.slice none 0 0,.slice none 0 0] 36 (0,0))):=Lib.hid (by rw [hW4];exact (heap_setCell_other _ _ _ _ (by show w.heap.size+1≠w.heap.size;omega)).trans (box_same HB0.out hg03 (by omega)))
 have hz4:w.heap.size+2≤W4.heap.size:=by rw [hW4];simp only [World.size_setCell];have:=hg03.size;omega
 have c0:=HR4.out.pl.c0
 have c1:=HR4.out.pl.c1
 have HFO:Hid (∀ W:World,Calls Try.prog 50 #[.string ⟨(s).toArray⟩,.int .i64 (i:Int)] W fun e w'=>FormPost s i W.heap.size W (formM (s.drop i)) e w'):=Lib.hid (fun W=>Reads_any s i W hi (by omega))
 go_upto_region 13 with fail
 rw [← hW4]
 clear hW4 hx3 kc4 kf4 hp3 hg03 HR3
 go_region_with (first | (go_at_call 50;refine (HFO.out _).mono ?_;intro e w5 hpo;obtain ⟨rk,rch,rng,ra,rn,rcp,rlo,rhi,rlz,rka,kn,rkc,fa,fn,fcp,fd,al,f,ej,ok,rfl,hb5,hf5,hej,hm5⟩:=form_cells HS1.out hpo;clear hpo;have HF5:=Lib.hid hf5;have HM5:=Lib.hid hm5;clear hf5 hm5;have hbd:=(Below.refl W4.heap.size W4).drew.trans hb5;have hx5:=(hbd.block _ (heap_lt HX4.out)).trans HX4.out;have hr5:=HR4.out.later hbd;have pc1:=hr5.pl.c1;have pf1:=hr5.pl.free 1;have z5:=blk_cell hx5 5 rfl;have z6:=blk_cell hx5 6 rfl;have z7:=blk_cell hx5 7 rfl;have z8:=blk_cell hx5 8 rfl;have z9:=blk_cell hx5 9 rfl;have z10:=blk_cell hx5 10 rfl;have z11:=blk_cell hx5 11 rfl;have z12:=blk_cell hx5 12 rfl;have z13:=blk_cell hx5 13 rfl;have z14:=blk_cell hx5 14 rfl;have z15:=blk_cell hx5 15 rfl;have zf:=blk_free hx5))
 all_goals
  have HF6:Hid (TfV w5 (fun b=>W4.heap.size≤b) [.int .i64 rk,.string ⟨(rch).toArray⟩,.bool rng,.slice ra rn rcp,.int .i64 rlo,.int .i64 rhi,.bool rlz,.slice rka kn rkc,.slice fa fn fcp,.bool fd,.bool al] f):=HF5
  have hz5:W4.heap.size≤w5.heap.size:=hbd.size
  go_upto_region 15 with fail
  obtain ⟨W6,hW6⟩:∃ W6,W6=(((((((((((((((w5).setCell ⟨w.heap.size,5,none⟩ (.int .i64 rk)).setCell ⟨w.heap.size,6,none⟩ (.string ⟨(rch).toArray⟩)).setCell ⟨w.heap.size,7,none⟩ (.bool rng)).setCell ⟨w.heap.size,8,none⟩ (.slice ra rn rcp)).setCell ⟨w.heap.size,9,none⟩ (.int .i64 rlo)).setCell ⟨w.heap.size,10,none⟩ (.int .i64 rhi)).setCell ⟨w.heap.size,11,none⟩ (.bool rlz)).setCell ⟨w.heap.size,12,none⟩ (.slice rka kn rkc)).setCell ⟨w.heap.size,13,none⟩ (.slice fa fn fcp)).setCell ⟨w.heap.size,14,none⟩ (.bool fd)).setCell ⟨w.heap.size,15,none⟩ (.bool al))).setCell ⟨g,1,none⟩ (.int .i64 (ej:Int))).setCell ⟨g,1,none⟩ (.int .i64 ((ej:Int)+1))):=⟨_,rfl⟩
  have HR5:Hid (Rs (fun b=>S b∨(W4.heap.size≤b∧b < w5.heap.size)) W6 g m s (ej+1)):=Lib.hid (by
   rw [hW6,n11_eq]
   refine ((hr5.setsL hnb3 _ 5).twice hej).mono (fun b hb=>.inl hb) ?_ ?_ ?_
   ·rintro (e | ⟨e,_⟩)
    ·exact HRS.out.ng e
    ·omega
   ·rintro (e | ⟨e,_⟩)
    ·exact HRS.out.nm e
    ·omega
   ·rintro b (e | ⟨_,e⟩)
    ·simp only [World.size_setCell,setsL_size];have:=HRS.out.lt b e;omega
    ·simpa only [World.size_setCell,setsL_size] using e)
  have HG5:Hid (Gr2 g m w W6):=Lib.hid (by rw [hW6,n11_eq];exact ((HG4.out.trans (Gr2.below hbd)).setsL (Nat.le_refl _) _ 5).twice _ _)
  have HX5:Hid (W6.heap[w.heap.size]?=some (.cells #[.int .i64 3,.string ⟨(t).toArray⟩,.int .i64 n,.bool false,.bool true,.int .i64 rk,.string ⟨(rch).toArray⟩,.bool rng,.slice ra rn rcp,.int .i64 rlo,.int .i64 rhi,.bool rlz,.slice rka kn rkc,.slice fa fn fcp,.bool fd,.bool al,.slice none 0 0,.slice none 0 0] 36 (0,0))):=Lib.hid (by
   rw [hW6,n11_eq,twice_other _ _ (by omega)]
   exact setsL_mid (post:=[.slice none 0 0,.slice none 0 0]) [.int .i64 rk,.string ⟨(rch).toArray⟩,.bool rng,.slice ra rn rcp,.int .i64 rlo,.int .i64 rhi,.bool rlz,.slice rka kn rkc,.slice fa fn fcp,.bool fd,.bool al] [.int .i64 0,.string ⟨#[]⟩,.bool false,.slice none 0 0,.int .i64 0,.int .i64 0,.bool false,.slice none 0 0,.slice none 0 0,.bool false,.bool false] [.int .i64 3,.string ⟨(t).toArray⟩,.int .i64 n,.bool false,.bool true] hx5 rfl)
  have HB5:Hid (W6.heap[w.heap.size+1]?=some (.cells #[.int .i64 0,.string ⟨#[]⟩,.int .i64 0,.bool false,.bool false,.int .i64 0,.string ⟨#[]⟩,.bool false,.slice none 0 0,.int .i64 0,.int .i64 0,.bool false,.slice none 0 0,.slice none 0 0,.bool false,.bool false,.slice none 0 0,.slice none 0 0] 36 (0,0))):=Lib.hid (by rw [hW6,n11_eq,twice_other _ _ (by omega),setsL_other (by omega),hbd.block _ (heap_lt HB4.out)];exact HB4.out)
  have HV5:Hid (SnV W6 (fun b=>S b∨(W4.heap.size≤b∧b < w5.heap.size)) [.int .i64 3,.string ⟨(t).toArray⟩,.int .i64 n,.bool false,.bool true,.int .i64 rk,.string ⟨(rch).toArray⟩,.bool rng,.slice ra rn rcp,.int .i64 rlo,.int .i64 rhi,.bool rlz,.slice rka kn rkc,.slice fa fn fcp,.bool fd,.bool al,.slice none 0 0,.slice none 0 0] (.mk 3 t n false true f [] [])):=Lib.hid (by
   refine SnV.close (fc:=[.int .i64 rk,.string ⟨(rch).toArray⟩,.bool rng,.slice ra rn rcp,.int .i64 rlo,.int .i64 rhi,.bool rlz,.slice rka kn rkc,.slice fa fn fcp,.bool fd,.bool al]) (os:=[]) (ks:=[]) ?_ (SlS.none_ _ _ _ _) (SnSl.nil _ _ _)
   refine TfV.keep ⟨?_,fun b hb hlt=>?_⟩ (HF6.out.mono fun b hb hlt=>.inr ⟨hb,hlt⟩)
   ·rw [hW6,n11_eq];simp only [World.size_setCell,setsL_size];exact Nat.le_refl _
   ·rw [hW6,n11_eq]
    rcases hb with hb | ⟨hb,_⟩
    ·rw [twice_other (k:=b) _ _ (by rintro rfl;exact HRS.out.ng hb),setsL_other (k:=b) (by rintro rfl;exact hnb3.1 hb)]
    ·rw [twice_other _ _ (by omega),setsL_other (by omega)])
  have HON5:=Lib.hid HV5.out.one
  have hS1:∀ b,S b→(S b∨(W4.heap.size≤b∧b < w5.heap.size)):=fun _ h=>.inl h
  have hS2:∀ b,(S b∨(W4.heap.size≤b∧b < w5.heap.size))→S b∨w.heap.size≤b:=fun b h=>h.imp id fun h=>by omega
  have hnb4:¬ (S (w.heap.size+1)∨(W4.heap.size≤w.heap.size+1∧w.heap.size+1 < w5.heap.size))∧w.heap.size+1≠g∧w.heap.size+1≠m:=⟨by
   rintro (e | ⟨e,_⟩)
   ·exact hnb4.1 e
   ·omega,hnb4.2⟩
  rw [← hW6]
  clear hW6 hx5 hr5 pc1 pf1 zf hbd hb5 c0 c1
  clear z5 z6 z7 z8 z9 z10 z11 z12 z13 z14 z15
  cases hfm:formM (s.drop i) with
  | none =>
   have HE:Hid (R=none):=Lib.hid (by rw [HHE.out,hfm])
   have hok:ok=false:=by have:=HM5.out;rw [hfm] at this;exact this
   subst hok
   clear hfm HM5 HHE HFO
   have HB9:=Lib.hid (sr_heap (w:=W6) (cs:=#[.int .i64 3,.string ⟨(t).toArray⟩,.int .i64 n,.bool false,.bool true,.int .i64 rk,.string ⟨(rch).toArray⟩,.bool rng,.slice ra rn rcp,.int .i64 rlo,.int .i64 rhi,.bool rlz,.slice rka kn rkc,.slice fa fn fcp,.bool fd,.bool al,.slice none 0 0,.slice none 0 0]) HB5.out)
   go_wp2_with (first | (fail) | (refine wpList_ldW rfl 36 (.tmp 3) rfl (w.heap.size) 0 rfl ([.int .i64 3,.string ⟨(t).toArray⟩,.int .i64 n,.bool false,.bool true,.int .i64 rk,.string ⟨(rch).toArray⟩,.bool rng,.slice ra rn rcp,.int .i64 rlo,.int .i64 rhi,.bool rlz,.slice rka kn rkc,.slice fa fn fcp,.bool fd,.bool al,.slice none 0 0,.slice none 0 0]) _ (range_blk (ds:=[]) (HX5.out)) snip_under rfl (by rw [snip_size];rfl) ?_) | (refine wpList_stW rfl 36 (.tmp 4) (.tmp 82) rfl ((w.heap.size+1)) (#[.int .i64 3,.string ⟨(t).toArray⟩,.int .i64 n,.bool false,.bool true,.int .i64 rk,.string ⟨(rch).toArray⟩,.bool rng,.slice ra rn rcp,.int .i64 rlo,.int .i64 rhi,.bool rlz,.slice rka kn rkc,.slice fa fn fcp,.bool fd,.bool al,.slice none 0 0,.slice none 0 0]) rfl rfl 36 (#[.int .i64 0,.string ⟨#[]⟩,.int .i64 0,.bool false,.bool false,.int .i64 0,.string ⟨#[]⟩,.bool false,.slice none 0 0,.int .i64 0,.int .i64 0,.bool false,.slice none 0 0,.slice none 0 0,.bool false,.bool false,.slice none 0 0,.slice none 0 0]) (HB5.out) (snip_size) rfl rfl (HON5.out) (W:=((W6).setRow (w.heap.size+1) #[.int .i64 3,.string ⟨(t).toArray⟩,.int .i64 n,.bool false,.bool true,.int .i64 rk,.string ⟨(rch).toArray⟩,.bool rng,.slice ra rn rcp,.int .i64 rlo,.int .i64 rhi,.bool rlz,.slice rka kn rkc,.slice fa fn fcp,.bool fd,.bool al,.slice none 0 0,.slice none 0 0])) (rfl) ?_))
   refine bodyPost_ret (res_box Try.results44 snip_under snip_size HB9.out rfl rfl rfl) rfl ?_
   rw [HE.out]
   exact ⟨HG5.out.setRow (by omega) _,(fun b=>S b∨(W4.heap.size≤b∧b < w5.heap.size)),_,_,(.mk 3 t n false true f [] []),false,rfl,HR5.out.setRow hnb4 _,hS1,hS2,HV5.out.setRow hnb4.1 _,⟨rfl,fun e=>by cases e⟩⟩
  | some p =>
   obtain ⟨f0,r2⟩:=p
   have HE:Hid (R=some ((hdN 3 t n).turn f0,r2)):=Lib.hid (by rw [HHE.out,hfm])
   have hok:ok=true∧f=f0∧s.drop (ej+1)=r2:=by have:=HM5.out;rw [hfm] at this;exact this
   obtain ⟨rfl,rfl,hdr⟩:=hok
   have HDR:=Lib.hid hdr
   clear hfm HM5 HHE HFO hdr
   have HB9:=Lib.hid (sr_heap (w:=W6) (cs:=#[.int .i64 3,.string ⟨(t).toArray⟩,.int .i64 n,.bool false,.bool true,.int .i64 rk,.string ⟨(rch).toArray⟩,.bool rng,.slice ra rn rcp,.int .i64 rlo,.int .i64 rhi,.bool rlz,.slice rka kn rkc,.slice fa fn fcp,.bool fd,.bool al,.slice none 0 0,.slice none 0 0]) HB5.out)
   go_wp2_with (first | (fail) | (refine wpList_ldW rfl 36 (.tmp 3) rfl (w.heap.size) 0 rfl ([.int .i64 3,.string ⟨(t).toArray⟩,.int .i64 n,.bool false,.bool true,.int .i64 rk,.string ⟨(rch).toArray⟩,.bool rng,.slice ra rn rcp,.int .i64 rlo,.int .i64 rhi,.bool rlz,.slice rka kn rkc,.slice fa fn fcp,.bool fd,.bool al,.slice none 0 0,.slice none 0 0]) _ (range_blk (ds:=[]) (HX5.out)) snip_under rfl (by rw [snip_size];rfl) ?_) | (refine wpList_stW rfl 36 (.tmp 4) (.tmp 82) rfl ((w.heap.size+1)) (#[.int .i64 3,.string ⟨(t).toArray⟩,.int .i64 n,.bool false,.bool true,.int .i64 rk,.string ⟨(rch).toArray⟩,.bool rng,.slice ra rn rcp,.int .i64 rlo,.int .i64 rhi,.bool rlz,.slice rka kn rkc,.slice fa fn fcp,.bool fd,.bool al,.slice none 0 0,.slice none 0 0]) rfl rfl 36 (#[.int .i64 0,.string ⟨#[]⟩,.int .i64 0,.bool false,.bool false,.int .i64 0,.string ⟨#[]⟩,.bool false,.slice none 0 0,.int .i64 0,.int .i64 0,.bool false,.slice none 0 0,.slice none 0 0,.bool false,.bool false,.slice none 0 0,.slice none 0 0]) (HB5.out) (snip_size) rfl rfl (HON5.out) (W:=((W6).setRow (w.heap.size+1) #[.int .i64 3,.string ⟨(t).toArray⟩,.int .i64 n,.bool false,.bool true,.int .i64 rk,.string ⟨(rch).toArray⟩,.bool rng,.slice ra rn rcp,.int .i64 rlo,.int .i64 rhi,.bool rlz,.slice rka kn rkc,.slice fa fn fcp,.bool fd,.bool al,.slice none 0 0,.slice none 0 0])) (rfl) ?_))
   refine bodyPost_ret (res_box Try.results44 snip_under snip_size HB9.out rfl rfl rfl) rfl ?_
   rw [HE.out]
   exact ⟨HG5.out.setRow (by omega) _,(fun b=>S b∨(W4.heap.size≤b∧b < w5.heap.size)),_,_,(.mk 3 t n false true f [] []),true,rfl,HR5.out.setRow hnb4 _,hS1,hS2,HV5.out.setRow hnb4.1 _,⟨rfl,rfl,HDR.out⟩⟩
end Go.Proofs.Ytbgcjpefocdkkaa
set_option maxRecDepth 100000
namespace Go.Proofs.Ytbgcjpefocdkkaa
open Go.RowKit Go.Maps Go.MapKept
open Go.ChangeMaps (setBlock)
theorem braced_step {g m:Nat} {s:Str} {N:Nat} (hs:s.length≤100000) (hs1:1≤s.length) (HP:PartsC g m s N):BracedC g m s (N+1):=by
 intro S w i k t n h hk hN
 by_cases c125:∃ r1,s.drop i=125 :: r1
 ·obtain ⟨r1,hd⟩:=c125
  exact braced_125 S w i h hd
 by_cases c58:∃ r1,s.drop i=58 :: r1
 ·obtain ⟨r1,hd⟩:=c58
  exact braced_58 HP S w i h hN (no_pre c125) hd
 by_cases c124:k=1∧∃ r1,s.drop i=124 :: r1
 ·obtain ⟨rfl,r1,hd⟩:=c124
  exact braced_124 S w i h (no_pre c125) (no_pre c58) hd
 have hHE:bracedS (partsS true [] []) (hdN k t n) (s.drop i)=match formM (s.drop i) with | none=>none | some (f,r2)=>some ((hdN k t n).turn f,r2):=by
  cases hd:s.drop i with
  | nil=>rfl
  | cons c r =>
   simp only [bracedS]
   rw [if_neg (fun e=>c125 ⟨r,by rw [hd,show c=125 from UInt8.toNat_inj.1 e]⟩),if_neg (fun e=>c58 ⟨r,by rw [hd,show c=58 from UInt8.toNat_inj.1 e]⟩),if_neg (fun e=>c124 ⟨e.2,r,by rw [hd,show c=124 from UInt8.toNat_inj.1 e.1]⟩)]
   rfl
 rcases hk with rfl | rfl
 ·exact braced_form1 hs hs1 S w i h (no_pre c125) (no_pre c58) (no_pre fun e=>c124 ⟨rfl,e⟩) hHE
 ·exact braced_form3 hs hs1 S w i h (no_pre c125) (no_pre c58) hHE
end Go.Proofs.Ytbgcjpefocdkkaa
set_option maxRecDepth 100000
namespace Go.Proofs.Ytbgcjpefocdkkaa
open Go.RowKit
theorem partsC_step {g m:Nat} {s:Str} {N:Nat} (hs:s.length≤100000) (HP:PartC g m s N):PartsC g m s N:=by
 intro S w ins i h hN
 cases ins with
 | false=>exact parts_wout hs HP S w i h hN
 | true=>exact parts_win hs HP S w i h hN
theorem whole_all {g m:Nat} {s:Str} (hs:s.length≤100000) (hs1:1≤s.length):∀ N,WholeC g m s N
 | 0=>by
  intro S w i r h hd hN
  have:=congrArg List.length hd
  simp at this
  omega
 | N+1=>by
  have h1:PartsC g m s N:=partsC_step hs (part_step hs (whole_all hs hs1 N))
  have h2:=braced_step hs hs1 h1
  exact whole_step fun S w i k t n h hk hN=>h2 S w i k t n h hk (by omega)
theorem parts_all {g m:Nat} {s:Str} (hs:s.length≤100000):PartsC g m s s.length:=by
 rcases Nat.eq_zero_or_pos s.length with h0 | h1
 ·refine partsC_step hs (fun S w i c r h hd hN=>?_)
  have:=congrArg List.length hd
  simp at this
  omega
 ·exact partsC_step hs (part_step hs (whole_all hs h1 _))
end Go.Proofs.Ytbgcjpefocdkkaa
