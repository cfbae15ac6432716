/- walks of rxread: escaped, item · walks of rxread: item -/
import Derived.Test.YtbgcjpefocdkkaaSt5
set_option maxRecDepth 100000
namespace Go.Proofs.Ytbgcjpefocdkkaa
open Go.RowKit
theorem alloc1 (w : World) {b : Array Value} {t : TypeId} {w0 : World} (h : w0=w.alloc (.cells b t)) : Below w.heap.size w w0∧w0.heap.size=w.heap.size + 1∧w0.heap[w.heap.size]?=some (.cells b t (0,0)):=by
 subst h
 exact ⟨(Below.refl _ _).alloc (Nat.le_refl _) _,by simp,heap_alloc_new w _⟩
theorem plain_some {c t : Str} (w : World) (hs : c.length≤100000000) (h : plainM c=some t) :
  Calls Try.prog 84 #[.string ⟨(c).toArray⟩] w fun e w' => e=.returned (.tuple #[.string ⟨(t).toArray⟩,.bool true])∧w=w':=by
 refine (plain_any c w hs).mono ?_
 rintro e w' ⟨h1,h2⟩
 rw [h] at h2
 exact ⟨h2,h1⟩
def PlainNo (w : World) (e : Ending) (w' : World) : Prop:=∃ t : Str,e=.returned (.tuple #[.string ⟨(t).toArray⟩,.bool false])∧w=w'
theorem plain_none {c : Str} (w : World) (hs : c.length≤100000000) (h : plainM c=none) :
  Calls Try.prog 84 #[.string ⟨(c).toArray⟩] w fun e w' => PlainNo w e w':=by
 refine (plain_any c w hs).mono ?_
 rintro e w' ⟨h1,h2⟩
 rw [h] at h2
 obtain ⟨t,h2⟩:=h2
 exact ⟨t,h2,h1⟩
theorem next_nil' {T : TypeId} {x : List Value} {g : Nat} (w : World) (h : RdT T x w g []) :
  Calls Try.prog 74 #[.pointer (some ⟨g,0,none⟩)] w fun e w' => e=.returned (.string ⟨(([] : Str)).toArray⟩)∧RdT T x w' g []∧w.grownBy w' (some g) :=
 (next_nil w h).mono fun _ _ ⟨h1,h2⟩ => ⟨h1,h2.rd h,h2.grown _⟩
def NamedRes (L : List Row) (w : World) (e : Ending) (w' : World) : Prop :=
 ∃ (a : Addr) (k : Nat),e=.returned (.tuple #[.slice (some a) L.length k,.bool true])∧SlS w' (fun x => w.heap.size≤x) (some a) 2 L.length (rcells L)∧Below w.heap.size w w'
theorem Named_yes {c : UInt8} (w : World) (h : namedB c=true) : Calls Try.prog 83 #[.int .u8 c.toNat] w fun e w' => NamedRes (namedL c) w e w':=by
 refine (Named_any c w).mono ?_
 rintro e w' ⟨a,k,h1,h2,h3,h4⟩
 obtain ⟨x,rfl⟩:=h4 h
 rw [h] at h1
 exact ⟨x,k,h1,h2,h3⟩
def NamedNo (w : World) (e : Ending) (w' : World) : Prop:=∃ (v : Value),e=.returned (.tuple #[v,.bool false])∧Below w.heap.size w w'
theorem Named_no {c : UInt8} (w : World) (h : namedB c=false) : Calls Try.prog 83 #[.int .u8 c.toNat] w fun e w' => NamedNo w e w':=by
 refine (Named_any c w).mono ?_
 rintro e w' ⟨a,k,h1,h2,h3,h4⟩
 rw [h] at h1
 exact ⟨_,h1,h3⟩
theorem namedS_one (b : UInt8) : namedS [b]=if namedB b=true then some (namedL b) else none:=rfl
set_option maxHeartbeats 1000000 in
theorem escaped_any {g d : Nat} {r : List Str} (w : World) (h : Rd w g r d) :
  Calls Try.prog 77 #[.pointer (some ⟨g,0,none⟩)] w fun e w' => ResPost g d w.heap.size w (escM r) e w':=by
 obtain ⟨R,hR⟩ : ∃ R,escM r=R:=⟨_,rfl⟩
 rw [hR]
 cases r with
 | nil =>
  have HR : Hid (Except.error 10=R):=Lib.hid hR
  clear hR
  obtain ⟨w0,hw0⟩ : ∃ w0,w0=w.alloc (.cells #[.int .i64 0,.string ⟨#[]⟩,.bool false,.slice none 0 0,.int .i64 0,.int .i64 0,.bool false,.slice none 0 0] 30):=⟨_,rfl⟩
  obtain ⟨hb0,hz0,hby0⟩:=alloc1 w hw0
  have HRD:=Lib.hid (h.later hb0)
  rw [hw0] at HRD
  have HW0:=Lib.hid hw0
  have HBY0:=Lib.hid hby0
  have hgg : w.grownBy w0 (some g):=grown_of_below hb0 _
  have hgr : g < w.heap.size:=h.lt
  clear hw0 hby0 h
  go_enter Try.func77,Try.ntmps77
  go_wp2_with (go_at_call 74;refine (next_nil' _ HRD.out).mono ?_)
  rintro e w1 ⟨rfl,hrd1,hq1⟩
  rw [← HW0.out] at hq1
  have hg1:=grown_trans hgg hq1
  have HRD1:=Lib.hid hrd1
  have HBY1:=Lib.hid (box_grown HBY0.out hq1 (by omega))
  have hz1:=hq1.size
  clear hrd1 hq1
  go_wp2_with (go_at_call 84;refine (plain_none _ (by simp) rfl).mono ?_)
  rintro e w2 hq
  obtain ⟨t,rfl,rfl⟩:=hq
  obtain ⟨f0,f1,f2,f3,f4,f5,f6,f7,f8⟩:=bx_cells (c:=[]) HBY1.out
  go_wp2
  refine bodyPost_ret (v:=.tuple #[.agg #[.int .i64 0,.string ⟨([]).toArray⟩,.bool false,.slice none 0 0,.int .i64 0,.int .i64 0,.bool false,.slice none 0 0],.int .i64 10]) (by simp [results,Try.results77,go_sem,f0,f1,f2,f3,f4,f5,f6,f7]) rfl ?_
  refine ⟨?_,?_⟩
  ·iterate 8 (refine grown_setNew ?_ (by first | omega | (simp;done) | (simp;omega)) _)
   exact hg1
  ·rw [← HR.out]
   refine ⟨rfl,?_⟩
   iterate 8 (refine RdE.setHi ?_ (by first | omega | (simp;done) | (simp;omega)) _)
   exact ⟨_,HRD1.out⟩
 | cons c r1 =>
  have hp:=h.pos
  cases hn : namedS c with
  | some rows =>
   have HR : Hid (Except.ok (setR rows false,r1)=R):=Lib.hid (by rw [← hR];simp only [escM,hn])
   clear hR
   obtain ⟨b,rfl,hnb,rfl⟩ : ∃ b,c=[b]∧namedB b=true∧rows=namedL b:=by
    match c,hn with
    | [b],hn =>
     rw [namedS_one] at hn
     split at hn
     ·rename_i q;injection hn with hn;exact ⟨b,rfl,q,hn.symm⟩
     ·cases hn
    | [],hn => cases hn
    | b :: b2 :: t,hn => cases hn
   clear hn
   have HNB:=Lib.hid hnb
   clear hnb
   obtain ⟨w0,hw0⟩ : ∃ w0,w0=w.alloc (.cells #[.int .i64 0,.string ⟨#[]⟩,.bool false,.slice none 0 0,.int .i64 0,.int .i64 0,.bool false,.slice none 0 0] 30):=⟨_,rfl⟩
   obtain ⟨hb0,hz0,hby0⟩:=alloc1 w hw0
   have HRD:=Lib.hid (h.later hb0)
   rw [hw0] at HRD
   have HW0:=Lib.hid hw0
   have HBY0:=Lib.hid hby0
   have hgg : w.grownBy w0 (some g):=grown_of_below hb0 _
   have hgr : g < w.heap.size:=h.lt
   clear hw0 hby0 h
   go_enter Try.func77,Try.ntmps77
   go_wp2_with (go_at_call 74;refine (next_cons _ HRD.out).mono ?_)
   rintro e w1 ⟨rfl,hrd1,hq1⟩
   rw [← HW0.out] at hq1
   have hg1:=grown_trans hgg hq1
   have HRD1:=Lib.hid hrd1
   have HBY1:=Lib.hid (box_grown HBY0.out hq1 (by omega))
   have hz1:=hq1.size
   clear hrd1 hq1
   go_wp2_with (go_at_call 83;refine (Named_yes _ HNB.out).mono ?_)
   rintro e w2 hq
   obtain ⟨a,k,rfl,hsl,hb2⟩:=hq
   have hg2:=grown_trans hg1 (grown_of_below hb2 (some g))
   have hby2:=(hb2.block _ (heap_lt HBY1.out)).trans HBY1.out
   have HRD2:=Lib.hid (HRD1.out.later hb2)
   have HV : Hid (RxV w2 (fun b => w.heap.size≤b∧b≠w.heap.size) (rxc 4 [] false (some a) (namedL b).length k 0 0 false none ([] : List Rx).length 0) (setR (namedL b) false)):=Lib.hid
    (RxV.close (hsl.mono fun x hx _ => by omega) ⟨[],SlS.none_ _ _ _ _,.nil⟩)
   obtain ⟨f0,f1,f2,f3,f4,f5,f6,f7,f8⟩:=bx_cells (c:=[]) hby2
   clear hsl hby2
   go_wp2
   refine bodyPost_ret (v:=.tuple #[.agg #[.int .i64 4,.string ⟨([]).toArray⟩,.bool false,.slice (some a) (namedL b).length k,.int .i64 0,.int .i64 0,.bool false,.slice none ([] : List Rx).length 0],.int .i64 0]) (by simp [results,Try.results77,go_sem,f0,f1,f2,f3,f4,f5,f6,f7]) rfl ?_
   refine ⟨?_,?_⟩
   ·iterate 8 (refine grown_setNew ?_ (by first | omega | (simp;done) | (simp;omega)) _)
    exact hg2
   rw [← HR.out]
   refine ⟨rxc 4 [] false (some a) (namedL b).length k 0 0 false none ([] : List Rx).length 0,rfl,RxV.mono (S:=fun b => w.heap.size≤b∧b≠w.heap.size) (fun b hb _ => hb.1) ?_,?_⟩
   ·iterate 8 (refine RxV.keep (Kept.setLow _ (fun b hb => by have : w.heap.size≤b∧b≠w.heap.size:=hb;first | omega | (simp;done) | (simp;omega))) ?_)
    exact HV.out
   ·iterate 8 (refine RdT.setHi ?_ (by first | omega | (simp;done) | (simp;omega)) _)
    exact HRD2.out
  | none =>
   by_cases h68 : c=[68]
   ·subst h68
    have HR : Hid (Except.ok (setR (namedL 100) true,r1)=R):=Lib.hid hR
    clear hR hn
    obtain ⟨w0,hw0⟩ : ∃ w0,w0=w.alloc (.cells #[.int .i64 0,.string ⟨#[]⟩,.bool false,.slice none 0 0,.int .i64 0,.int .i64 0,.bool false,.slice none 0 0] 30):=⟨_,rfl⟩
    obtain ⟨hb0,hz0,hby0⟩:=alloc1 w hw0
    have HRD:=Lib.hid (h.later hb0)
    rw [hw0] at HRD
    have HW0:=Lib.hid hw0
    have HBY0:=Lib.hid hby0
    have hgg : w.grownBy w0 (some g):=grown_of_below hb0 _
    have hgr : g < w.heap.size:=h.lt
    clear hw0 hby0 h
    go_enter Try.func77,Try.ntmps77
    go_wp2_with (go_at_call 74;refine (next_cons _ HRD.out).mono ?_)
    rintro e w1 ⟨rfl,hrd1,hq1⟩
    rw [← HW0.out] at hq1
    have hg1:=grown_trans hgg hq1
    have HRD1:=Lib.hid hrd1
    have HBY1:=Lib.hid (box_grown HBY0.out hq1 (by omega))
    have hz1:=hq1.size
    clear hrd1 hq1
    go_wp2_with (go_at_call 83;refine (Named_no (c:=68) _ (by decide)).mono ?_)
    rintro e w2 hq
    obtain ⟨v,rfl,hb2⟩:=hq
    have hg2:=grown_trans hg1 (grown_of_below hb2 (some g))
    have HBY2:=Lib.hid ((hb2.block _ (heap_lt HBY1.out)).trans HBY1.out)
    have HRD2:=Lib.hid (HRD1.out.later hb2)
    have hz2:=hb2.size
    go_wp2_with (go_at_call 83;refine (Named_yes (c:=100) _ (by decide)).mono ?_)
    rintro e w3 hq
    obtain ⟨a,k,rfl,hsl,hb3⟩:=hq
    have hg3:=grown_trans hg2 (grown_of_below hb3 (some g))
    have hby3:=(hb3.block _ (heap_lt HBY2.out)).trans HBY2.out
    have HRD3:=Lib.hid (HRD2.out.later hb3)
    have HV : Hid (RxV w3 (fun b => w.heap.size≤b∧b≠w.heap.size) (rxc 4 [] true (some a) (namedL 100).length k 0 0 false none ([] : List Rx).length 0) (setR (namedL 100) true)):=Lib.hid
     (RxV.close (hsl.mono fun x hx _ => by omega) ⟨[],SlS.none_ _ _ _ _,.nil⟩)
    obtain ⟨f0,f1,f2,f3,f4,f5,f6,f7,f8⟩:=bx_cells (c:=[]) hby3
    clear hsl hby3
    go_wp2
    refine bodyPost_ret (v:=.tuple #[.agg #[.int .i64 4,.string ⟨([]).toArray⟩,.bool true,.slice (some a) (namedL 100).length k,.int .i64 0,.int .i64 0,.bool false,.slice none ([] : List Rx).length 0],.int .i64 0]) (by simp [results,Try.results77,go_sem,f0,f1,f2,f3,f4,f5,f6,f7]) rfl ?_
    refine ⟨?_,?_⟩
    ·iterate 8 (refine grown_setNew ?_ (by first | omega | (simp;done) | (simp;omega)) _)
     exact hg3
    rw [← HR.out]
    refine ⟨rxc 4 [] true (some a) (namedL 100).length k 0 0 false none ([] : List Rx).length 0,rfl,RxV.mono (S:=fun b => w.heap.size≤b∧b≠w.heap.size) (fun b hb _ => hb.1) ?_,?_⟩
    ·iterate 8 (refine RxV.keep (Kept.setLow _ (fun b hb => by have : w.heap.size≤b∧b≠w.heap.size:=hb;first | omega | (simp;done) | (simp;omega))) ?_)
     exact HV.out
    ·iterate 8 (refine RdT.setHi ?_ (by first | omega | (simp;done) | (simp;omega)) _)
     exact HRD3.out
   by_cases h87 : c=[87]
   ·subst h87
    have HR : Hid (Except.ok (setR (namedL 119) true,r1)=R):=Lib.hid hR
    clear hR hn
    obtain ⟨w0,hw0⟩ : ∃ w0,w0=w.alloc (.cells #[.int .i64 0,.string ⟨#[]⟩,.bool false,.slice none 0 0,.int .i64 0,.int .i64 0,.bool false,.slice none 0 0] 30):=⟨_,rfl⟩
    obtain ⟨hb0,hz0,hby0⟩:=alloc1 w hw0
    have HRD:=Lib.hid (h.later hb0)
    rw [hw0] at HRD
    have HW0:=Lib.hid hw0
    have HBY0:=Lib.hid hby0
    have hgg : w.grownBy w0 (some g):=grown_of_below hb0 _
    have hgr : g < w.heap.size:=h.lt
    clear hw0 hby0 h
    go_enter Try.func77,Try.ntmps77
    go_wp2_with (go_at_call 74;refine (next_cons _ HRD.out).mono ?_)
    rintro e w1 ⟨rfl,hrd1,hq1⟩
    rw [← HW0.out] at hq1
    have hg1:=grown_trans hgg hq1
    have HRD1:=Lib.hid hrd1
    have HBY1:=Lib.hid (box_grown HBY0.out hq1 (by omega))
    have hz1:=hq1.size
    clear hrd1 hq1
    go_wp2_with (go_at_call 83;refine (Named_no (c:=87) _ (by decide)).mono ?_)
    rintro e w2 hq
    obtain ⟨v,rfl,hb2⟩:=hq
    have hg2:=grown_trans hg1 (grown_of_below hb2 (some g))
    have HBY2:=Lib.hid ((hb2.block _ (heap_lt HBY1.out)).trans HBY1.out)
    have HRD2:=Lib.hid (HRD1.out.later hb2)
    have hz2:=hb2.size
    go_wp2_with (go_at_call 83;refine (Named_yes (c:=119) _ (by decide)).mono ?_)
    rintro e w3 hq
    obtain ⟨a,k,rfl,hsl,hb3⟩:=hq
    have hg3:=grown_trans hg2 (grown_of_below hb3 (some g))
    have hby3:=(hb3.block _ (heap_lt HBY2.out)).trans HBY2.out
    have HRD3:=Lib.hid (HRD2.out.later hb3)
    have HV : Hid (RxV w3 (fun b => w.heap.size≤b∧b≠w.heap.size) (rxc 4 [] true (some a) (namedL 119).length k 0 0 false none ([] : List Rx).length 0) (setR (namedL 119) true)):=Lib.hid
     (RxV.close (hsl.mono fun x hx _ => by omega) ⟨[],SlS.none_ _ _ _ _,.nil⟩)
    obtain ⟨f0,f1,f2,f3,f4,f5,f6,f7,f8⟩:=bx_cells (c:=[]) hby3
    clear hsl hby3
    go_wp2
    refine bodyPost_ret (v:=.tuple #[.agg #[.int .i64 4,.string ⟨([]).toArray⟩,.bool true,.slice (some a) (namedL 119).length k,.int .i64 0,.int .i64 0,.bool false,.slice none ([] : List Rx).length 0],.int .i64 0]) (by simp [results,Try.results77,go_sem,f0,f1,f2,f3,f4,f5,f6,f7]) rfl ?_
    refine ⟨?_,?_⟩
    ·iterate 8 (refine grown_setNew ?_ (by first | omega | (simp;done) | (simp;omega)) _)
     exact hg3
    rw [← HR.out]
    refine ⟨rxc 4 [] true (some a) (namedL 119).length k 0 0 false none ([] : List Rx).length 0,rfl,RxV.mono (S:=fun b => w.heap.size≤b∧b≠w.heap.size) (fun b hb _ => hb.1) ?_,?_⟩
    ·iterate 8 (refine RxV.keep (Kept.setLow _ (fun b hb => by have : w.heap.size≤b∧b≠w.heap.size:=hb;first | omega | (simp;done) | (simp;omega))) ?_)
     exact HV.out
    ·iterate 8 (refine RdT.setHi ?_ (by first | omega | (simp;done) | (simp;omega)) _)
     exact HRD3.out
   by_cases h83 : c=[83]
   ·subst h83
    have HR : Hid (Except.ok (setR (namedL 115) true,r1)=R):=Lib.hid hR
    clear hR hn
    obtain ⟨w0,hw0⟩ : ∃ w0,w0=w.alloc (.cells #[.int .i64 0,.string ⟨#[]⟩,.bool false,.slice none 0 0,.int .i64 0,.int .i64 0,.bool false,.slice none 0 0] 30):=⟨_,rfl⟩
    obtain ⟨hb0,hz0,hby0⟩:=alloc1 w hw0
    have HRD:=Lib.hid (h.later hb0)
    rw [hw0] at HRD
    have HW0:=Lib.hid hw0
    have HBY0:=Lib.hid hby0
    have hgg : w.grownBy w0 (some g):=grown_of_below hb0 _
    have hgr : g < w.heap.size:=h.lt
    clear hw0 hby0 h
    go_enter Try.func77,Try.ntmps77
    go_wp2_with (go_at_call 74;refine (next_cons _ HRD.out).mono ?_)
    rintro e w1 ⟨rfl,hrd1,hq1⟩
    rw [← HW0.out] at hq1
    have hg1:=grown_trans hgg hq1
    have HRD1:=Lib.hid hrd1
    have HBY1:=Lib.hid (box_grown HBY0.out hq1 (by omega))
    have hz1:=hq1.size
    clear hrd1 hq1
    go_wp2_with (go_at_call 83;refine (Named_no (c:=83) _ (by decide)).mono ?_)
    rintro e w2 hq
    obtain ⟨v,rfl,hb2⟩:=hq
    have hg2:=grown_trans hg1 (grown_of_below hb2 (some g))
    have HBY2:=Lib.hid ((hb2.block _ (heap_lt HBY1.out)).trans HBY1.out)
    have HRD2:=Lib.hid (HRD1.out.later hb2)
    have hz2:=hb2.size
    go_wp2_with (go_at_call 83;refine (Named_yes (c:=115) _ (by decide)).mono ?_)
    rintro e w3 hq
    obtain ⟨a,k,rfl,hsl,hb3⟩:=hq
    have hg3:=grown_trans hg2 (grown_of_below hb3 (some g))
    have hby3:=(hb3.block _ (heap_lt HBY2.out)).trans HBY2.out
    have HRD3:=Lib.hid (HRD2.out.later hb3)
    have HV : Hid (RxV w3 (fun b => w.heap.size≤b∧b≠w.heap.size) (rxc 4 [] true (some a) (namedL 115).length k 0 0 false none ([] : List Rx).length 0) (setR (namedL 115) true)):=Lib.hid
     (RxV.close (hsl.mono fun x hx _ => by omega) ⟨[],SlS.none_ _ _ _ _,.nil⟩)
    obtain ⟨f0,f1,f2,f3,f4,f5,f6,f7,f8⟩:=bx_cells (c:=[]) hby3
    clear hsl hby3
    go_wp2
    refine bodyPost_ret (v:=.tuple #[.agg #[.int .i64 4,.string ⟨([]).toArray⟩,.bool true,.slice (some a) (namedL 115).length k,.int .i64 0,.int .i64 0,.bool false,.slice none ([] : List Rx).length 0],.int .i64 0]) (by simp [results,Try.results77,go_sem,f0,f1,f2,f3,f4,f5,f6,f7]) rfl ?_
    refine ⟨?_,?_⟩
    ·iterate 8 (refine grown_setNew ?_ (by first | omega | (simp;done) | (simp;omega)) _)
     exact hg3
    rw [← HR.out]
    refine ⟨rxc 4 [] true (some a) (namedL 115).length k 0 0 false none ([] : List Rx).length 0,rfl,RxV.mono (S:=fun b => w.heap.size≤b∧b≠w.heap.size) (fun b hb _ => hb.1) ?_,?_⟩
    ·iterate 8 (refine RxV.keep (Kept.setLow _ (fun b hb => by have : w.heap.size≤b∧b≠w.heap.size:=hb;first | omega | (simp;done) | (simp;omega))) ?_)
     exact HV.out
    ·iterate 8 (refine RdT.setHi ?_ (by first | omega | (simp;done) | (simp;omega)) _)
     exact HRD3.out
   have hbig : bigS c=none:=by unfold bigS;rw [if_neg h68,if_neg h87,if_neg h83]
   have g68 : (c == [68])=false:=beq_eq_false_iff_ne.2 h68
   have g87 : (c == [87])=false:=beq_eq_false_iff_ne.2 h87
   have g83 : (c == [83])=false:=beq_eq_false_iff_ne.2 h83
   have hpl:=hp.2
   match c,hp,hn with
   | [],hp,_ => exact absurd rfl hp.1
   | [b],_,hn =>
    have hnb : namedB b=false:=by
     rw [namedS_one] at hn
     cases hb : namedB b with
     | true => rw [hb] at hn;cases hn
     | false => rfl
    have HNB:=Lib.hid hnb
    clear hnb h68 h87 h83
    cases hpm : plainM [b] with
    | none =>
     have HR : Hid (Except.error 10=R):=Lib.hid (by rw [← hR];simp only [escM,hn,hbig,hpm])
     have HPM:=Lib.hid hpm
     clear hR hn hbig hpm
     obtain ⟨w0,hw0⟩ : ∃ w0,w0=w.alloc (.cells #[.int .i64 0,.string ⟨#[]⟩,.bool false,.slice none 0 0,.int .i64 0,.int .i64 0,.bool false,.slice none 0 0] 30):=⟨_,rfl⟩
     obtain ⟨hb0,hz0,hby0⟩:=alloc1 w hw0
     have HRD:=Lib.hid (h.later hb0)
     rw [hw0] at HRD
     have HW0:=Lib.hid hw0
     have HBY0:=Lib.hid hby0
     have hgg : w.grownBy w0 (some g):=grown_of_below hb0 _
     have hgr : g < w.heap.size:=h.lt
     clear hw0 hby0 h
     go_enter Try.func77,Try.ntmps77
     go_wp2_with (go_at_call 74;refine (next_cons _ HRD.out).mono ?_)
     rintro e w1 ⟨rfl,hrd1,hq1⟩
     rw [← HW0.out] at hq1
     have hg1:=grown_trans hgg hq1
     have HRD1:=Lib.hid hrd1
     have HBY1:=Lib.hid (box_grown HBY0.out hq1 (by omega))
     have hz1:=hq1.size
     clear hrd1 hq1
     go_wp2_with (go_at_call 83;refine (Named_no _ HNB.out).mono ?_)
     rintro e w2 hq
     obtain ⟨v,rfl,hb2⟩:=hq
     have hg2:=grown_trans hg1 (grown_of_below hb2 (some g))
     have HBY2:=Lib.hid ((hb2.block _ (heap_lt HBY1.out)).trans HBY1.out)
     have HRD2:=Lib.hid (HRD1.out.later hb2)
     go_wp2_with (go_at_call 84;refine (plain_none _ (by simp) HPM.out).mono ?_)
     rintro e w3 hq
     obtain ⟨t,rfl,rfl⟩:=hq
     obtain ⟨f0,f1,f2,f3,f4,f5,f6,f7,f8⟩:=bx_cells (c:=[]) HBY2.out
     go_wp2
     refine bodyPost_ret (v:=.tuple #[.agg #[.int .i64 0,.string ⟨([]).toArray⟩,.bool false,.slice none 0 0,.int .i64 0,.int .i64 0,.bool false,.slice none 0 0],.int .i64 10]) (by simp [results,Try.results77,go_sem,f0,f1,f2,f3,f4,f5,f6,f7]) rfl ?_
     refine ⟨?_,?_⟩
     ·iterate 8 (refine grown_setNew ?_ (by first | omega | (simp;done) | (simp;omega)) _)
      exact hg2
     ·rw [← HR.out]
      refine ⟨rfl,?_⟩
      iterate 8 (refine RdE.setHi ?_ (by first | omega | (simp;done) | (simp;omega)) _)
      exact ⟨_,HRD2.out⟩
    | some t =>
     have HR : Hid (Except.ok (chrR t,r1)=R):=Lib.hid (by rw [← hR];simp only [escM,hn,hbig,hpm])
     have HPM:=Lib.hid hpm
     clear hR hn hbig hpm
     obtain ⟨w0,hw0⟩ : ∃ w0,w0=w.alloc (.cells #[.int .i64 0,.string ⟨#[]⟩,.bool false,.slice none 0 0,.int .i64 0,.int .i64 0,.bool false,.slice none 0 0] 30):=⟨_,rfl⟩
     obtain ⟨hb0,hz0,hby0⟩:=alloc1 w hw0
     have HRD:=Lib.hid (h.later hb0)
     rw [hw0] at HRD
     have HW0:=Lib.hid hw0
     have HBY0:=Lib.hid hby0
     have hgg : w.grownBy w0 (some g):=grown_of_below hb0 _
     have hgr : g < w.heap.size:=h.lt
     clear hw0 hby0 h
     go_enter Try.func77,Try.ntmps77
     go_wp2_with (go_at_call 74;refine (next_cons _ HRD.out).mono ?_)
     rintro e w1 ⟨rfl,hrd1,hq1⟩
     rw [← HW0.out] at hq1
     have hg1:=grown_trans hgg hq1
     have HRD1:=Lib.hid hrd1
     have HBY1:=Lib.hid (box_grown HBY0.out hq1 (by omega))
     have hz1:=hq1.size
     clear hrd1 hq1
     go_wp2_with (go_at_call 83;refine (Named_no _ HNB.out).mono ?_)
     rintro e w2 hq
     obtain ⟨v,rfl,hb2⟩:=hq
     have hg2:=grown_trans hg1 (grown_of_below hb2 (some g))
     have HBY2:=Lib.hid ((hb2.block _ (heap_lt HBY1.out)).trans HBY1.out)
     have HRD2:=Lib.hid (HRD1.out.later hb2)
     go_wp2_with (go_at_call 84;refine (plain_some _ (by simp) HPM.out).mono ?_)
     rintro e w3 ⟨rfl,rfl⟩
     obtain ⟨f0,f1,f2,f3,f4,f5,f6,f7,f8⟩:=bx_cells (c:=[]) HBY2.out
     go_wp2
     refine bodyPost_ret (v:=.tuple #[.agg #[.int .i64 2,.string ⟨(t).toArray⟩,.bool false,.slice none ([] : List Row).length 0,.int .i64 0,.int .i64 0,.bool false,.slice none ([] : List Rx).length 0],.int .i64 0]) (by simp [results,Try.results77,go_sem,f0,f1,f2,f3,f4,f5,f6,f7]) rfl ?_
     refine ⟨?_,?_⟩
     ·iterate 8 (refine grown_setNew ?_ (by first | omega | (simp;done) | (simp;omega)) _)
      exact hg2
     rw [← HR.out]
     refine ⟨rxc 2 t false none ([] : List Row).length 0 0 0 false none ([] : List Rx).length 0,rfl,RxV.mono (S:=fun b => w.heap.size≤b∧b≠w.heap.size) (fun b hb _ => hb.1) ?_,?_⟩
     ·iterate 8 (refine RxV.keep (Kept.setLow _ (fun b hb => by have : w.heap.size≤b∧b≠w.heap.size:=hb;first | omega | (simp;done) | (simp;omega))) ?_)
      exact (RxV.close (SlS.none_ _ _ _ _) ⟨[],SlS.none_ _ _ _ _,.nil⟩)
     ·iterate 8 (refine RdT.setHi ?_ (by first | omega | (simp;done) | (simp;omega)) _)
      exact HRD2.out
   | b :: b2 :: t,_,hn =>
    have hne : ((t.length : Int) + 1 + 1 == 1)=false:=by rw [beq_eq_false_iff_ne];omega
    clear h68 h87 h83
    generalize hcc : b :: b2 :: t=cc at *
    have hcl : cc.length=t.length + 2:=by rw [← hcc];rfl
    have hne : ((cc.length : Int) == 1)=false:=by rw [beq_eq_false_iff_ne];omega
    clear hcc hcl
    cases hpm : plainM cc with
    | none =>
     have HR : Hid (Except.error 10=R):=Lib.hid (by rw [← hR];simp only [escM,hn,hbig,hpm])
     have HPM:=Lib.hid hpm
     clear hR hn hbig hpm
     obtain ⟨w0,hw0⟩ : ∃ w0,w0=w.alloc (.cells #[.int .i64 0,.string ⟨#[]⟩,.bool false,.slice none 0 0,.int .i64 0,.int .i64 0,.bool false,.slice none 0 0] 30):=⟨_,rfl⟩
     obtain ⟨hb0,hz0,hby0⟩:=alloc1 w hw0
     have HRD:=Lib.hid (h.later hb0)
     rw [hw0] at HRD
     have HW0:=Lib.hid hw0
     have HBY0:=Lib.hid hby0
     have hgg : w.grownBy w0 (some g):=grown_of_below hb0 _
     have hgr : g < w.heap.size:=h.lt
     clear hw0 hby0 h
     go_enter Try.func77,Try.ntmps77
     go_wp2_with (go_at_call 74;refine (next_cons _ HRD.out).mono ?_)
     rintro e w1 ⟨rfl,hrd1,hq1⟩
     rw [← HW0.out] at hq1
     have hg1:=grown_trans hgg hq1
     have HRD1:=Lib.hid hrd1
     have HBY1:=Lib.hid (box_grown HBY0.out hq1 (by omega))
     have hz1:=hq1.size
     clear hrd1 hq1
     go_wp2_with (go_at_call 84;refine (plain_none _ (by omega) HPM.out).mono ?_)
     rintro e w3 hq
     obtain ⟨t,rfl,rfl⟩:=hq
     obtain ⟨f0,f1,f2,f3,f4,f5,f6,f7,f8⟩:=bx_cells (c:=[]) HBY1.out
     go_wp2
     refine bodyPost_ret (v:=.tuple #[.agg #[.int .i64 0,.string ⟨([]).toArray⟩,.bool false,.slice none 0 0,.int .i64 0,.int .i64 0,.bool false,.slice none 0 0],.int .i64 10]) (by simp [results,Try.results77,go_sem,f0,f1,f2,f3,f4,f5,f6,f7]) rfl ?_
     refine ⟨?_,?_⟩
     ·iterate 8 (refine grown_setNew ?_ (by first | omega | (simp;done) | (simp;omega)) _)
      exact hg1
     ·rw [← HR.out]
      refine ⟨rfl,?_⟩
      iterate 8 (refine RdE.setHi ?_ (by first | omega | (simp;done) | (simp;omega)) _)
      exact ⟨_,HRD1.out⟩
    | some u =>
     have HR : Hid (Except.ok (chrR u,r1)=R):=Lib.hid (by rw [← hR];simp only [escM,hn,hbig,hpm])
     have HPM:=Lib.hid hpm
     clear hR hn hbig hpm
     obtain ⟨w0,hw0⟩ : ∃ w0,w0=w.alloc (.cells #[.int .i64 0,.string ⟨#[]⟩,.bool false,.slice none 0 0,.int .i64 0,.int .i64 0,.bool false,.slice none 0 0] 30):=⟨_,rfl⟩
     obtain ⟨hb0,hz0,hby0⟩:=alloc1 w hw0
     have HRD:=Lib.hid (h.later hb0)
     rw [hw0] at HRD
     have HW0:=Lib.hid hw0
     have HBY0:=Lib.hid hby0
     have hgg : w.grownBy w0 (some g):=grown_of_below hb0 _
     have hgr : g < w.heap.size:=h.lt
     clear hw0 hby0 h
     go_enter Try.func77,Try.ntmps77
     go_wp2_with (go_at_call 74;refine (next_cons _ HRD.out).mono ?_)
     rintro e w1 ⟨rfl,hrd1,hq1⟩
     rw [← HW0.out] at hq1
     have hg1:=grown_trans hgg hq1
     have HRD1:=Lib.hid hrd1
     have HBY1:=Lib.hid (box_grown HBY0.out hq1 (by omega))
     have hz1:=hq1.size
     clear hrd1 hq1
     go_wp2_with (go_at_call 84;refine (plain_some _ (by omega) HPM.out).mono ?_)
     rintro e w3 ⟨rfl,rfl⟩
     obtain ⟨f0,f1,f2,f3,f4,f5,f6,f7,f8⟩:=bx_cells (c:=[]) HBY1.out
     go_wp2
     refine bodyPost_ret (v:=.tuple #[.agg #[.int .i64 2,.string ⟨(u).toArray⟩,.bool false,.slice none ([] : List Row).length 0,.int .i64 0,.int .i64 0,.bool false,.slice none ([] : List Rx).length 0],.int .i64 0]) (by simp [results,Try.results77,go_sem,f0,f1,f2,f3,f4,f5,f6,f7]) rfl ?_
     refine ⟨?_,?_⟩
     ·iterate 8 (refine grown_setNew ?_ (by first | omega | (simp;done) | (simp;omega)) _)
      exact hg1
     rw [← HR.out]
     refine ⟨rxc 2 u false none ([] : List Row).length 0 0 0 false none ([] : List Rx).length 0,rfl,RxV.mono (S:=fun b => w.heap.size≤b∧b≠w.heap.size) (fun b hb _ => hb.1) ?_,?_⟩
     ·iterate 8 (refine RxV.keep (Kept.setLow _ (fun b hb => by have : w.heap.size≤b∧b≠w.heap.size:=hb;first | omega | (simp;done) | (simp;omega))) ?_)
      exact (RxV.close (SlS.none_ _ _ _ _) ⟨[],SlS.none_ _ _ _ _,.nil⟩)
     ·iterate 8 (refine RdT.setHi ?_ (by first | omega | (simp;done) | (simp;omega)) _)
      exact HRD1.out
end Go.Proofs.Ytbgcjpefocdkkaa
namespace Go.Proofs.Ytbgcjpefocdkkaa
open Go.RowKit
def ItemPost (g d : Nat) (w : World) (R : Option (Str × List Row × List Str)) (e : Ending) (w' : World) : Prop:=w.grownBy w' (some g)∧match R with
 | none => e=.returned (.tuple #[.string ⟨#[]⟩,.slice none 0 0,.int .i64 10])∧∃ r,Rd w' g r d
 | some (t,rows,r) => Rd w' g r d∧((rows=[]∧e=.returned (.tuple #[.string ⟨(t).toArray⟩,.slice none 0 0,.int .i64 0]))∨(rows≠[]∧∃ (a : Addr) (k : Nat),e=.returned (.tuple #[.string ⟨#[]⟩,.slice (some a) rows.length k,.int .i64 0])∧SlS w' (fun x => w.heap.size≤x) (some a) 2 rows.length (rcells rows)))
theorem namedS_some {c : Str} {rows : List Row} (hn : namedS c=some rows) : ∃ b,c=[b]∧namedB b=true∧rows=namedL b:=by
 match c,hn with
 | [b],hn =>
  rw [namedS_one] at hn
  split at hn
  ·rename_i q;injection hn with hn;exact ⟨b,rfl,q,hn.symm⟩
  ·cases hn
 | [],hn => cases hn
 | b :: b2 :: t,hn => cases hn
theorem namedS_none {b : UInt8} (hn : namedS [b]=none) : namedB b=false:=by
 rw [namedS_one] at hn
 cases hb : namedB b with
 | true => rw [hb] at hn;cases hn
 | false => rfl
theorem namedL_ne {b : UInt8} (h : namedB b=true) : namedL b≠[]:=by
 unfold namedB at h
 simp only [Bool.or_eq_true,beq_iff_eq] at h
 rcases h with (rfl | rfl) | rfl <;> decide
set_option maxHeartbeats 1000000 in
theorem item_any {g d : Nat} {r : List Str} (w : World) (h : Rd w g r d) :
  Calls Try.prog 81 #[.pointer (some ⟨g,0,none⟩)] w fun e w' => ItemPost g d w (itemM r) e w':=by
 obtain ⟨R,hR⟩ : ∃ R,itemM r=R:=⟨_,rfl⟩
 rw [hR]
 have HRD:=Lib.hid h
 have hg0:=grown_refl w (some g)
 cases r with
 | nil =>
  have HR : Hid (none=R):=Lib.hid hR
  clear hR h
  go_enter Try.func81,Try.ntmps81
  go_wp2_with (go_at_call 74;refine (next_nil' _ HRD.out).mono ?_)
  rintro e w1 ⟨rfl,hrd1,hq1⟩
  have hg1:=grown_trans hg0 hq1
  have HRD1:=Lib.hid hrd1
  have hz1:=hq1.size
  clear hrd1 hq1
  go_wp2
  go_ret3
  exact ⟨hg1,by rw [← HR.out];exact ⟨rfl,_,HRD1.out⟩⟩
 | cons c r1 =>
  have hp:=h.pos
  by_cases h93 : c=[93]
  ·subst h93
   have HR : Hid (none=R):=Lib.hid hR
   clear hR h
   go_enter Try.func81,Try.ntmps81
   go_wp2_with (go_at_call 74;refine (next_cons _ HRD.out).mono ?_)
   rintro e w1 ⟨rfl,hrd1,hq1⟩
   have hg1:=grown_trans hg0 hq1
   have HRD1:=Lib.hid hrd1
   have hz1:=hq1.size
   clear hrd1 hq1
   go_wp2
   go_ret3
   exact ⟨hg1,by rw [← HR.out];exact ⟨rfl,_,HRD1.out⟩⟩
  by_cases h92 : c=[92]
  ·subst h92
   cases r1 with
   | nil =>
    have HR : Hid (none=R):=Lib.hid hR
    clear hR h
    go_enter Try.func81,Try.ntmps81
    go_wp2_with (go_at_call 74;refine (next_cons _ HRD.out).mono ?_)
    rintro e w1 ⟨rfl,hrd1,hq1⟩
    have hg1:=grown_trans hg0 hq1
    have HRD1:=Lib.hid hrd1
    have hz1:=hq1.size
    clear hrd1 hq1
    go_wp2_with (go_at_call 74;refine (next_nil' _ HRD1.out).mono ?_)
    rintro e w2 ⟨rfl,hrd2,hq2⟩
    have hg2:=grown_trans hg1 hq2
    have HRD2:=Lib.hid hrd2
    have hz2:=hq2.size
    clear hrd2 hq2
    go_wp2_with (go_at_call 84;refine (plain_none _ (by simp) rfl).mono ?_)
    rintro e w3 hq
    obtain ⟨t,rfl,rfl⟩:=hq
    go_wp2
    go_ret3
    exact ⟨hg2,by rw [← HR.out];exact ⟨rfl,_,HRD2.out⟩⟩
   | cons c2 r2 =>
    have hp2 : c2≠[]∧c2.length≤1000000:=by
     obtain ⟨a,k,l,i,_,_,_,_,h5,h6⟩:=h
     have h7:=(ldrop_cons h6).2.2
     have:=(ldrop_cons h7).2.1
     exact h5 c2 (List.mem_of_getElem? this)
    have hR2 : (match namedS c2 with | some rows => some ([],rows,r2) | none => match plainM c2 with | none => none | some t => some (t,[],r2))=R:=hR
    clear h hR
    cases hn : namedS c2 with
    | some rows =>
     simp only [hn] at hR2
     obtain ⟨b,rfl,hnb,rfl⟩:=namedS_some hn
     have hne:=namedL_ne hnb
     have HNE:=Lib.hid hne
     have HNB:=Lib.hid hnb
     have HR:=Lib.hid hR2
     clear hn hR2 hnb hne
     go_enter Try.func81,Try.ntmps81
     go_wp2_with (go_at_call 74;refine (next_cons _ HRD.out).mono ?_)
     rintro e w1 ⟨rfl,hrd1,hq1⟩
     have hg1:=grown_trans hg0 hq1
     have HRD1:=Lib.hid hrd1
     have hz1:=hq1.size
     clear hrd1 hq1
     go_wp2_with (go_at_call 74;refine (next_cons _ HRD1.out).mono ?_)
     rintro e w2 ⟨rfl,hrd2,hq2⟩
     have hg2:=grown_trans hg1 hq2
     have HRD2:=Lib.hid hrd2
     have hz2:=hq2.size
     clear hrd2 hq2
     go_wp2_with (go_at_call 83;refine (Named_yes _ HNB.out).mono ?_)
     rintro e w3 hq
     obtain ⟨a,k,rfl,hsl,hb3⟩:=hq
     have hg3:=grown_trans hg2 (grown_of_below hb3 (some g))
     have HRD3:=Lib.hid (HRD2.out.later hb3)
     have HSL:=Lib.hid hsl
     clear hsl
     go_wp2
     go_ret3
     exact ⟨hg3,by rw [← HR.out];exact ⟨HRD3.out,.inr ⟨HNE.out,a,k,rfl,HSL.out.mono fun x hx _ => by omega⟩⟩⟩
    | none =>
     simp only [hn] at hR2
     match c2,hp2,hn with
     | [],hp,_ => exact absurd rfl hp.1
     | [b],_,hn =>
      have HNB:=Lib.hid (namedS_none hn)
      clear hn
      cases hpm : plainM [b] with
      | none =>
       simp only [hpm] at hR2
       have HR:=Lib.hid hR2
       have HPM:=Lib.hid hpm
       clear hR2 hpm
       go_enter Try.func81,Try.ntmps81
       go_wp2_with (go_at_call 74;refine (next_cons _ HRD.out).mono ?_)
       rintro e w1 ⟨rfl,hrd1,hq1⟩
       have hg1:=grown_trans hg0 hq1
       have HRD1:=Lib.hid hrd1
       have hz1:=hq1.size
       clear hrd1 hq1
       go_wp2_with (go_at_call 74;refine (next_cons _ HRD1.out).mono ?_)
       rintro e w2 ⟨rfl,hrd2,hq2⟩
       have hg2:=grown_trans hg1 hq2
       have HRD2:=Lib.hid hrd2
       have hz2:=hq2.size
       clear hrd2 hq2
       go_wp2_with (go_at_call 83;refine (Named_no _ HNB.out).mono ?_)
       rintro e w3 hq
       obtain ⟨v,rfl,hb3⟩:=hq
       have hg3:=grown_trans hg2 (grown_of_below hb3 (some g))
       have HRD3:=Lib.hid (HRD2.out.later hb3)
       go_wp2_with (go_at_call 84;refine (plain_none _ (by simp) HPM.out).mono ?_)
       rintro e w4 hq
       obtain ⟨t,rfl,rfl⟩:=hq
       go_wp2
       go_ret3
       exact ⟨hg3,by rw [← HR.out];exact ⟨rfl,_,HRD3.out⟩⟩
      | some t =>
       simp only [hpm] at hR2
       have HR:=Lib.hid hR2
       have HPM:=Lib.hid hpm
       clear hR2 hpm
       go_enter Try.func81,Try.ntmps81
       go_wp2_with (go_at_call 74;refine (next_cons _ HRD.out).mono ?_)
       rintro e w1 ⟨rfl,hrd1,hq1⟩
       have hg1:=grown_trans hg0 hq1
       have HRD1:=Lib.hid hrd1
       have hz1:=hq1.size
       clear hrd1 hq1
       go_wp2_with (go_at_call 74;refine (next_cons _ HRD1.out).mono ?_)
       rintro e w2 ⟨rfl,hrd2,hq2⟩
       have hg2:=grown_trans hg1 hq2
       have HRD2:=Lib.hid hrd2
       have hz2:=hq2.size
       clear hrd2 hq2
       go_wp2_with (go_at_call 83;refine (Named_no _ HNB.out).mono ?_)
       rintro e w3 hq
       obtain ⟨v,rfl,hb3⟩:=hq
       have hg3:=grown_trans hg2 (grown_of_below hb3 (some g))
       have HRD3:=Lib.hid (HRD2.out.later hb3)
       go_wp2_with (go_at_call 84;refine (plain_some _ (by simp) HPM.out).mono ?_)
       rintro e w4 ⟨rfl,rfl⟩
       go_wp2
       go_ret3
       exact ⟨hg3,by rw [← HR.out];exact ⟨HRD3.out,.inl ⟨rfl,rfl⟩⟩⟩
     | b :: b2 :: t,hp2,hn =>
      have hpl:=hp2.2
      generalize hcc : b :: b2 :: t=cc at *
      have hcl : cc.length=t.length + 2:=by rw [← hcc];rfl
      have hne : ((cc.length : Int) == 1)=false:=by rw [beq_eq_false_iff_ne];omega
      clear hcc hcl hn
      cases hpm : plainM cc with
      | none =>
       simp only [hpm] at hR2
       have HR:=Lib.hid hR2
       have HPM:=Lib.hid hpm
       clear hR2 hpm
       go_enter Try.func81,Try.ntmps81
       go_wp2_with (go_at_call 74;refine (next_cons _ HRD.out).mono ?_)
       rintro e w1 ⟨rfl,hrd1,hq1⟩
       have hg1:=grown_trans hg0 hq1
       have HRD1:=Lib.hid hrd1
       have hz1:=hq1.size
       clear hrd1 hq1
       go_wp2_with (go_at_call 74;refine (next_cons _ HRD1.out).mono ?_)
       rintro e w2 ⟨rfl,hrd2,hq2⟩
       have hg2:=grown_trans hg1 hq2
       have HRD2:=Lib.hid hrd2
       have hz2:=hq2.size
       clear hrd2 hq2
       go_wp2_with (go_at_call 84;refine (plain_none _ (by omega) HPM.out).mono ?_)
       rintro e w4 hq
       obtain ⟨t,rfl,rfl⟩:=hq
       go_wp2
       go_ret3
       exact ⟨hg2,by rw [← HR.out];exact ⟨rfl,_,HRD2.out⟩⟩
      | some t =>
       simp only [hpm] at hR2
       have HR:=Lib.hid hR2
       have HPM:=Lib.hid hpm
       clear hR2 hpm
       go_enter Try.func81,Try.ntmps81
       go_wp2_with (go_at_call 74;refine (next_cons _ HRD.out).mono ?_)
       rintro e w1 ⟨rfl,hrd1,hq1⟩
       have hg1:=grown_trans hg0 hq1
       have HRD1:=Lib.hid hrd1
       have hz1:=hq1.size
       clear hrd1 hq1
       go_wp2_with (go_at_call 74;refine (next_cons _ HRD1.out).mono ?_)
       rintro e w2 ⟨rfl,hrd2,hq2⟩
       have hg2:=grown_trans hg1 hq2
       have HRD2:=Lib.hid hrd2
       have hz2:=hq2.size
       clear hrd2 hq2
       go_wp2_with (go_at_call 84;refine (plain_some _ (by omega) HPM.out).mono ?_)
       rintro e w4 ⟨rfl,rfl⟩
       go_wp2
       go_ret3
       exact ⟨hg2,by rw [← HR.out];exact ⟨HRD2.out,.inl ⟨rfl,rfl⟩⟩⟩
  have g93 : (c == [93])=false:=beq_eq_false_iff_ne.2 h93
  have g92 : (c == [92])=false:=beq_eq_false_iff_ne.2 h92
  have g0 : List.isEmpty c=false:=by have:=hp.1;cases c <;> simp at this ⊢
  have HR : Hid (some (c,[],r1)=R):=Lib.hid (by rw [← hR];simp [itemM,h93,h92])
  clear hR h h93 h92
  go_enter Try.func81,Try.ntmps81
  go_wp2_with (go_at_call 74;refine (next_cons _ HRD.out).mono ?_)
  rintro e w1 ⟨rfl,hrd1,hq1⟩
  have hg1:=grown_trans hg0 hq1
  have HRD1:=Lib.hid hrd1
  have hz1:=hq1.size
  clear hrd1 hq1
  go_wp2
  go_ret3
  exact ⟨hg1,by rw [← HR.out];exact ⟨HRD1.out,.inl ⟨rfl,rfl⟩⟩⟩
end Go.Proofs.Ytbgcjpefocdkkaa
