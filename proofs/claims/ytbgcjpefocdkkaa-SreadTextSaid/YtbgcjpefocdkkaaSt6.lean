/- walks of sread: a place in a text -/
import Derived.Test.YtbgcjpefocdkkaaSt1
import Derived.Test.YtbgcjpefocdkkaaSt4
import Derived.Test.YtbgcjpefocdkkaaSt5
set_option maxRecDepth 100000
namespace Go.Proofs.Ytbgcjpefocdkkaa
open Go.RowKit
/-- A place in a text, ahead of other cells. -/
def Pl (x : List Value) (w : World) (g : Nat) (s : Str) (i : Nat) : Prop:=w.heap[g]?=some (.cells (.string ⟨(s).toArray⟩ :: .int .i64 i :: x).toArray 57 (0,0))∧i≤s.length∧s.length≤1000000
theorem Pl.c0 {x : List Value} {w : World} {g : Nat} {s : Str} {i : Nat} (h : Pl x w g s i) : w.cell? ⟨g,0,none⟩=some (.string ⟨(s).toArray⟩):=by rw [Lib.cell_of_heap h.1];rfl
theorem Pl.c1 {x : List Value} {w : World} {g : Nat} {s : Str} {i : Nat} (h : Pl x w g s i) : w.cell? ⟨g,1,none⟩=some (.int .i64 i):=by rw [Lib.cell_of_heap h.1];rfl
theorem Pl.c2 {v : Value} {w : World} {g : Nat} {s : Str} {i : Nat} (h : Pl [v] w g s i) : w.cell? ⟨g,2,none⟩=some v:=by rw [Lib.cell_of_heap h.1];rfl
theorem Pl.free {x : List Value} {w : World} {g : Nat} {s : Str} {i : Nat} (h : Pl x w g s i) (j : Nat) : w.frozen? ⟨g,j,none⟩=false:=by unfold World.frozen?;rw [h.1];rfl
theorem Pl.lt {x : List Value} {w : World} {g : Nat} {s : Str} {i : Nat} (h : Pl x w g s i) : g < w.heap.size:=heap_lt h.1
theorem Pl.later {x : List Value} {w w' : World} {g : Nat} {s : Str} {i : Nat} (h : Pl x w g s i) (hb : Below w.heap.size w w') : Pl x w' g s i:=⟨(hb.block g (heap_lt h.1)).trans h.1,h.2⟩
theorem Pl.set {x : List Value} {w : World} {g : Nat} {s : Str} {i : Nat} (h : Pl x w g s i) {j : Nat} (hj : j≤s.length) : Pl x (w.setCell ⟨g,1,none⟩ (.int .i64 j)) g s j :=
 ⟨by rw [heap_setCell_same w _ _ _ _ _ h.1];rfl,hj,h.2.2⟩
theorem Pl.setHi {x : List Value} {w : World} {g : Nat} {s : Str} {i : Nat} (h : Pl x w g s i) {a : Addr} (ha : a.block≠g) (u : Value) : Pl x (w.setCell a u) g s i :=
 ⟨(heap_setCell_other w a g u (Ne.symm ha)).trans h.1,h.2⟩
theorem HasPrefix_any (l p : Str) (w : World) (_hs : l.length≤100000000) (_hp : p.length≤100000000) :
  Calls Try.prog 33 #[.string ⟨(l).toArray⟩,.string ⟨(p).toArray⟩] w fun e w' => e=.returned (.bool (p.isPrefixOf l))∧w=w':=by
 generalize hR : List.isPrefixOf p l=R
 have HR:=Lib.hid hR
 clear hR
 go_enter Try.func33,Try.ntmps33
 go_wp2
 ·go_ret;refine ⟨?_,rfl⟩;rw [← HR.out,pre_eq];try simp
 ·rename_i h2
  go_ret;refine ⟨?_,rfl⟩;rw [← HR.out,pre_eq]
  have : (List.take p.length l)≠p:=fun h => by
   have:=congrArg List.length h;simp at this;omega
  simp [this]
set_option maxHeartbeats 400000 in
theorem see_s {x : List Value} {g : Nat} {s p : Str} {i : Nat} (w : World) (h : Pl x w g s i) (hp : p.length≤1000) :
  Calls Try.prog 25 #[.pointer (some ⟨g,0,none⟩),.string ⟨(p).toArray⟩] w fun e w' => e=.returned (.bool (p.isPrefixOf (s.drop i)))∧Below w.heap.size w w':=by
 generalize hR : p.isPrefixOf (s.drop i)=R
 have HR:=Lib.hid hR
 clear hR
 have d0 : ∀ x' : ExtOf w,x'.val.cell? ⟨g,0,none⟩=some (.string ⟨(s).toArray⟩):=ExtOf.cell h.c0
 have d1 : ∀ x' : ExtOf w,x'.val.cell? ⟨g,1,none⟩=some (.int .i64 i):=ExtOf.cell h.c1
 have hi:=h.2.1
 have hl:=h.2.2
 have gk0 : (0 : Int)≤(i : Int):=by omega
 have gk1 : (i : Int)≤(s.length : Int):=by omega
 have gk2 : ((i : Int)).toNat=i:=by omega
 have HP : Hid (∀ w,Calls Try.prog 33 #[.string ⟨(s.drop i).toArray⟩,.string ⟨(p).toArray⟩] w fun e w' => e=.returned (.bool R)∧Below w.heap.size w w'):=Lib.hid fun w => by
  have:=HasPrefix_any (s.drop i) p w (by simp;omega) (by omega)
  rw [HR.out] at this
  exact this.mono fun _ _ ⟨h1,h2⟩ => ⟨h1,h2 ▸ Below.refl _ _⟩
 clear h
 go_enter Try.func25,Try.ntmps25
 go_wp2
 refine wp_region_ext (by kernel_rfl) (by kernel_rfl) ?_
 repeat (go_big_quiet_step ((go_at_call 33;exact ext_call (HP.out _))))
 refine wpQuiet_nil ?_
 rintro _ ⟨xq,rfl⟩
 go_wp2
 go_ret
 exact ⟨rfl,xq.ext⟩
theorem take_s_yes {x : List Value} {g : Nat} {s p : Str} {i : Nat} (w : World) (h : Pl x w g s i) (hp : p.length≤1000) (hy : p.isPrefixOf (s.drop i)=true) :
  Calls Try.prog 41 #[.pointer (some ⟨g,0,none⟩),.string ⟨(p).toArray⟩] w fun e w' => e=.returned (.bool true)∧Pl x w' g s (i + p.length)∧w.grownBy w' (some g):=by
 have HS:=Lib.hid (see_s w h hp)
 rw [hy] at HS
 have HPL:=Lib.hid h
 have hj : i + p.length≤s.length:=by
  rw [List.isPrefixOf_iff_prefix] at hy
  have:=hy.length_le
  have h2:=h.2.1
  rw [List.length_drop] at this
  omega
 have hl:=h.2.2
 clear h hy
 go_enter Try.func41,Try.ntmps41
 go_wp2_with (go_at_call 25;refine HS.out.mono ?_)
 rintro e w1 ⟨rfl,hst⟩
 have hg1:=grown_of_below hst (some g)
 have h1:=HPL.out.later hst
 have c1:=h1.c1
 have f1:=h1.free 1
 have HP2:=Lib.hid (h1.set hj)
 have hg2:=grown_set hg1 1 (.int .i64 ((i + p.length : Nat) : Int))
 clear hst h1 hg1 HS HPL
 push_cast at HP2 hg2
 go_wp2
 go_ret
 exact ⟨rfl,HP2.out,hg2⟩
theorem take_s_no {x : List Value} {g : Nat} {s p : Str} {i : Nat} (w : World) (h : Pl x w g s i) (hp : p.length≤1000) (hy : p.isPrefixOf (s.drop i)=false) :
  Calls Try.prog 41 #[.pointer (some ⟨g,0,none⟩),.string ⟨(p).toArray⟩] w fun e w' => e=.returned (.bool false)∧Pl x w' g s i∧w.grownBy w' (some g):=by
 have HS:=Lib.hid (see_s w h hp)
 rw [hy] at HS
 have HPL:=Lib.hid h
 clear h hy
 go_enter Try.func41,Try.ntmps41
 go_wp2_with (go_at_call 25;refine HS.out.mono ?_)
 rintro e w1 ⟨rfl,hst⟩
 have hg1:=grown_of_below hst (some g)
 have h1:=HPL.out.later hst
 clear hst
 go_wp2
 go_ret
 exact ⟨rfl,h1,hg1⟩
/-- What stands there, after a step. -/
def PlR (x : List Value) (w : World) (g : Nat) (s : Str) (i : Nat) (r : Str) : Prop:=∃ j,Pl x w g s j∧s.drop j=r∧i≤j
def NxtR (x : List Value) (g : Nat) (s : Str) (i : Nat) (q : UInt8 × Str) (w : World) (e : Ending) (w' : World) : Prop :=
 e=.returned (.int .u8 q.1.toNat)∧PlR x w' g s i q.2∧w.grownBy w' (some g)
/- the last two steps: on by one, the byte there -/
set_option maxHeartbeats 1000000 in
theorem next_s {x : List Value} {g : Nat} {s th : Str} {i : Nat} {c : UInt8} {r : Str} (w : World) (h : Pl x w g s i) (hd : s.drop i=c :: r) (_hth : th.length≤1000) :
  Calls Try.prog 28 #[.pointer (some ⟨g,0,none⟩),.string ⟨(th).toArray⟩] w fun e w' => NxtR x g s i (nxtM th (c :: r)) w e w':=by
 obtain ⟨h2,h3c,hr⟩:=drop_cons hd
 have hl:=h.2.2
 have HPL:=Lib.hid h
 have HSEE : Hid (∀ x' : ExtOf w,Calls Try.prog 25 #[.pointer (some ⟨g,0,none⟩),.string ⟨([92]).toArray⟩] x'.val fun e w' => e=.returned (.bool (decide (c.toNat=92)))∧Below x'.val.heap.size x'.val w'):=Lib.hid fun x' => (see_s (p:=[92]) _ (h.later x'.ext) (by simp)).mono fun _ _ ⟨h1,h2⟩ => ⟨by rw [h1,hd,pre1];rfl,h2⟩
 have d0 : ∀ x' : ExtOf w,x'.val.cell? ⟨g,0,none⟩=some (.string ⟨(s).toArray⟩):=ExtOf.cell h.c0
 have d1 : ∀ x' : ExtOf w,x'.val.cell? ⟨g,1,none⟩=some (.int .i64 i):=ExtOf.cell h.c1
 clear h
 by_cases h92 : c.toNat=92
 ·rw [decide_eq_true h92] at HSEE
  have gw : IntKind.i64.wrap ((i : Int) + 1)=(i : Int) + 1:=IntWalk.i64_in _ (by omega)
  cases r with
  | nil =>
   have hq : nxtM th [c]=(c,[]):=rfl
   have hlen:=drop_nil hr
   have gg : decide (i + 1 < s.length)=false:=decide_eq_false (by omega)
   have gg2 : decide ((i : Int) + 1 < (s.length : Int))=false:=decide_eq_false (by omega)
   rw [hq]
   clear hd hq hlen
   go_enter Try.func28,Try.ntmps28
   go_wp2
   refine wp_region_ext (by kernel_rfl) (by kernel_rfl) ?_
   repeat (go_big_quiet_step ((go_at_call 25;exact ext_call (HSEE.out _))))
   refine wpQuiet_nil ?_
   rintro _ ⟨xq,rfl⟩
   clear gg gg2 HSEE gw
   have hpa:=HPL.out.later xq.ext
   have hga:=grown_of_below xq.ext (some g)
   generalize xq.val=wa at *
   clear d0 d1
   obtain ⟨w4,hw4⟩ : ∃ w4,w4=wa.setCell ⟨g,1,none⟩ (.int .i64 ((i : Int) + 1)):=⟨_,rfl⟩
   have HP4 : Hid (Pl x w4 g s (i + 1)):=Lib.hid (by have:=hpa.set (j:=i + 1) (by omega);rw [hw4];push_cast at this;exact this)
   have hg4 : w.grownBy w4 (some g):=hw4 ▸ grown_set hga 1 _
   have c1:=hpa.c1
   have f1:=hpa.free 1
   push_cast at c1
   go_upto_region 4 with fail
   rw [← hw4]
   clear hw4 hpa hga c1 f1
   have e0 : ∀ x' : ExtOf w4,x'.val.cell? ⟨g,0,none⟩=some (.string ⟨(s).toArray⟩):=ExtOf.cell HP4.out.c0
   have e1 : ∀ x' : ExtOf w4,x'.val.cell? ⟨g,1,none⟩=some (.int .i64 ((i : Int) + 1)):=ExtOf.cell (by have:=HP4.out.c1;push_cast at this;exact this)
   have gw : IntKind.i64.wrap ((i : Int) + 1 - 1)=(i : Int):=by rw [show (i : Int) + 1 - 1=i by omega];exact IntWalk.i64_in _ (by omega)
   have gk0 : (0 : Int)≤(i : Int):=by omega
   have gk1 : (i : Int) < (s.length : Int):=by omega
   have gk2 : ((i : Int)).toNat=i:=by omega
   have h3:=h3c
   refine wp_region_ext (by kernel_rfl) (by kernel_rfl) ?_
   repeat (go_big_quiet_step ((fail)))
   refine wpQuiet_nil ?_
   rintro _ ⟨xq,rfl⟩
   go_wp2
   go_ret
   refine ⟨?_,⟨i + 1,HP4.out.later xq.ext,hr,by omega⟩,grown_trans hg4 (grown_of_below xq.ext (some g))⟩
   first | rfl | (simp;done) | (simp;omega) | (simp [h3];done) | (simp [h3];omega)
  | cons d r2 =>
   obtain ⟨g2,g3,gr⟩:=drop_cons hr
   have gg : decide (i + 1 < s.length)=true:=decide_eq_true (by omega)
   have gg2 : decide ((i : Int) + 1 < (s.length : Int))=true:=decide_eq_true (by omega)
   have gk0 : (0 : Int)≤(i : Int) + 1:=by omega
   have gk1 : (i : Int) + 1 < (s.length : Int):=by omega
   have gk2 : ((i : Int) + 1).toNat=i + 1:=by omega
   cases hc : th.contains d with
   | true =>
    have hq : nxtM th (c :: d :: r2)=(d,r2):=by simp only [nxtM];rw [if_pos ⟨h92,hc⟩]
    obtain ⟨k,hk⟩:=idx_hit hc
    have HIX : Hid (∀ x' : ExtOf w,Calls Try.prog 35 #[.string ⟨(th).toArray⟩,.int .u8 d.toNat] x'.val fun e w' => e=.returned (.int .i64 k)∧Below x'.val.heap.size x'.val w'):=Lib.hid fun x' => (IndexByte_eq x'.val hk).mono fun _ _ ⟨h1,h2⟩ => ⟨h1,h2 ▸ Below.refl _ _⟩
    have gi : decide ((0 : Int)≤(k : Int))=true:=decide_eq_true (by omega)
    rw [hq]
    clear hd hq hc hk h3c
    have h3:=g3
    go_enter Try.func28,Try.ntmps28
    go_wp2
    refine wp_region_ext (by kernel_rfl) (by kernel_rfl) ?_
    repeat (go_big_quiet_step ((first | (go_at_call 25;exact ext_call (HSEE.out _)) | (go_at_call 35;exact ext_call (HIX.out _)))))
    refine wpQuiet_nil ?_
    rintro _ ⟨xq,rfl⟩
    clear gg gg2 HSEE HIX gw gi gk0 gk1 gk2 h3
    have hp0:=HPL.out.later xq.ext
    have hg0:=grown_of_below xq.ext (some g)
    generalize xq.val=wz at *
    clear d0 d1
    obtain ⟨wa,hwa⟩ : ∃ wa,wa=wz.setCell ⟨g,1,none⟩ (.int .i64 ((i : Int) + 1)):=⟨_,rfl⟩
    have hpa : Pl x wa g s (i + 1):=by have:=hp0.set (j:=i + 1) (by omega);rw [hwa];push_cast at this;exact this
    have hga : w.grownBy wa (some g):=hwa ▸ grown_set hg0 1 _
    have c1:=hp0.c1
    have f1:=hp0.free 1
    go_upto_region 3 with fail
    rw [← hwa]
    clear hwa hp0 hg0 c1 f1
    obtain ⟨w4,hw4⟩ : ∃ w4,w4=wa.setCell ⟨g,1,none⟩ (.int .i64 (((i + 1) : Int) + 1)):=⟨_,rfl⟩
    have HP4 : Hid (Pl x w4 g s ((i + 1) + 1)):=Lib.hid (by have:=hpa.set (j:=(i + 1) + 1) (by omega);rw [hw4];push_cast at this;exact this)
    have hg4 : w.grownBy w4 (some g):=hw4 ▸ grown_set hga 1 _
    have c1:=hpa.c1
    have f1:=hpa.free 1
    push_cast at c1
    go_upto_region 4 with fail
    rw [← hw4]
    clear hw4 hpa hga c1 f1
    have e0 : ∀ x' : ExtOf w4,x'.val.cell? ⟨g,0,none⟩=some (.string ⟨(s).toArray⟩):=ExtOf.cell HP4.out.c0
    have e1 : ∀ x' : ExtOf w4,x'.val.cell? ⟨g,1,none⟩=some (.int .i64 (((i + 1) : Int) + 1)):=ExtOf.cell (by have:=HP4.out.c1;push_cast at this;exact this)
    have gw : IntKind.i64.wrap (((i + 1) : Int) + 1 - 1)=((i + 1) : Int):=by rw [show ((i + 1) : Int) + 1 - 1=(i + 1) by omega];exact IntWalk.i64_in _ (by omega)
    have gk0 : (0 : Int)≤((i + 1) : Int):=by omega
    have gk1 : ((i + 1) : Int) < (s.length : Int):=by omega
    have gk2 : (((i + 1) : Int)).toNat=(i + 1):=by omega
    have h3:=g3
    refine wp_region_ext (by kernel_rfl) (by kernel_rfl) ?_
    repeat (go_big_quiet_step ((fail)))
    refine wpQuiet_nil ?_
    rintro _ ⟨xq,rfl⟩
    go_wp2
    go_ret
    refine ⟨?_,⟨(i + 1) + 1,HP4.out.later xq.ext,gr,by omega⟩,grown_trans hg4 (grown_of_below xq.ext (some g))⟩
    first | rfl | (simp;done) | (simp;omega) | (simp [h3];done) | (simp [h3];omega)
   | false =>
    have hq : nxtM th (c :: d :: r2)=(c,d :: r2):=by simp only [nxtM];rw [if_neg (fun e => by rw [hc] at e;cases e.2)]
    have hk:=idx_miss (th:=th) (c:=d) (by rw [hc];decide)
    have HIX : Hid (∀ x' : ExtOf w,Calls Try.prog 35 #[.string ⟨(th).toArray⟩,.int .u8 d.toNat] x'.val fun e w' => e=.returned (.int .i64 (-1))∧Below x'.val.heap.size x'.val w'):=Lib.hid fun x' => (IndexByte_eq x'.val hk).mono fun _ _ ⟨h1,h2⟩ => ⟨h1,h2 ▸ Below.refl _ _⟩
    rw [hq]
    clear hd hq hc hk
    have h3:=g3
    go_enter Try.func28,Try.ntmps28
    go_wp2
    refine wp_region_ext (by kernel_rfl) (by kernel_rfl) ?_
    repeat (go_big_quiet_step ((first | (go_at_call 25;exact ext_call (HSEE.out _)) | (go_at_call 35;exact ext_call (HIX.out _)))))
    refine wpQuiet_nil ?_
    rintro _ ⟨xq,rfl⟩
    clear gg gg2 HSEE HIX gw gk0 gk1 gk2 h3
    have hpa:=HPL.out.later xq.ext
    have hga:=grown_of_below xq.ext (some g)
    generalize xq.val=wa at *
    clear d0 d1
    obtain ⟨w4,hw4⟩ : ∃ w4,w4=wa.setCell ⟨g,1,none⟩ (.int .i64 ((i : Int) + 1)):=⟨_,rfl⟩
    have HP4 : Hid (Pl x w4 g s (i + 1)):=Lib.hid (by have:=hpa.set (j:=i + 1) (by omega);rw [hw4];push_cast at this;exact this)
    have hg4 : w.grownBy w4 (some g):=hw4 ▸ grown_set hga 1 _
    have c1:=hpa.c1
    have f1:=hpa.free 1
    push_cast at c1
    go_upto_region 4 with fail
    rw [← hw4]
    clear hw4 hpa hga c1 f1
    have e0 : ∀ x' : ExtOf w4,x'.val.cell? ⟨g,0,none⟩=some (.string ⟨(s).toArray⟩):=ExtOf.cell HP4.out.c0
    have e1 : ∀ x' : ExtOf w4,x'.val.cell? ⟨g,1,none⟩=some (.int .i64 ((i : Int) + 1)):=ExtOf.cell (by have:=HP4.out.c1;push_cast at this;exact this)
    have gw : IntKind.i64.wrap ((i : Int) + 1 - 1)=(i : Int):=by rw [show (i : Int) + 1 - 1=i by omega];exact IntWalk.i64_in _ (by omega)
    have gk0 : (0 : Int)≤(i : Int):=by omega
    have gk1 : (i : Int) < (s.length : Int):=by omega
    have gk2 : ((i : Int)).toNat=i:=by omega
    have h3:=h3c
    refine wp_region_ext (by kernel_rfl) (by kernel_rfl) ?_
    repeat (go_big_quiet_step ((fail)))
    refine wpQuiet_nil ?_
    rintro _ ⟨xq,rfl⟩
    go_wp2
    go_ret
    refine ⟨?_,⟨i + 1,HP4.out.later xq.ext,hr,by omega⟩,grown_trans hg4 (grown_of_below xq.ext (some g))⟩
    first | rfl | (simp;done) | (simp;omega) | (simp [h3];done) | (simp [h3];omega)
 ·rw [decide_eq_false h92] at HSEE
  have hq : nxtM th (c :: r)=(c,r):=by
   cases r with
   | nil => rfl
   | cons d r2 => simp only [nxtM];rw [if_neg (fun e => h92 e.1)]
  rw [hq]
  clear hd hq
  go_enter Try.func28,Try.ntmps28
  go_wp2
  refine wp_region_ext (by kernel_rfl) (by kernel_rfl) ?_
  repeat (go_big_quiet_step ((go_at_call 25;exact ext_call (HSEE.out _))))
  refine wpQuiet_nil ?_
  rintro _ ⟨xq,rfl⟩
  clear HSEE
  have hpa:=HPL.out.later xq.ext
  have hga:=grown_of_below xq.ext (some g)
  generalize xq.val=wa at *
  clear d0 d1
  obtain ⟨w4,hw4⟩ : ∃ w4,w4=wa.setCell ⟨g,1,none⟩ (.int .i64 ((i : Int) + 1)):=⟨_,rfl⟩
  have HP4 : Hid (Pl x w4 g s (i + 1)):=Lib.hid (by have:=hpa.set (j:=i + 1) (by omega);rw [hw4];push_cast at this;exact this)
  have hg4 : w.grownBy w4 (some g):=hw4 ▸ grown_set hga 1 _
  have c1:=hpa.c1
  have f1:=hpa.free 1
  push_cast at c1
  go_upto_region 4 with fail
  rw [← hw4]
  clear hw4 hpa hga c1 f1
  have e0 : ∀ x' : ExtOf w4,x'.val.cell? ⟨g,0,none⟩=some (.string ⟨(s).toArray⟩):=ExtOf.cell HP4.out.c0
  have e1 : ∀ x' : ExtOf w4,x'.val.cell? ⟨g,1,none⟩=some (.int .i64 ((i : Int) + 1)):=ExtOf.cell (by have:=HP4.out.c1;push_cast at this;exact this)
  have gw : IntKind.i64.wrap ((i : Int) + 1 - 1)=(i : Int):=by rw [show (i : Int) + 1 - 1=i by omega];exact IntWalk.i64_in _ (by omega)
  have gk0 : (0 : Int)≤(i : Int):=by omega
  have gk1 : (i : Int) < (s.length : Int):=by omega
  have gk2 : ((i : Int)).toNat=i:=by omega
  have h3:=h3c
  refine wp_region_ext (by kernel_rfl) (by kernel_rfl) ?_
  repeat (go_big_quiet_step ((fail)))
  refine wpQuiet_nil ?_
  rintro _ ⟨xq,rfl⟩
  go_wp2
  go_ret
  refine ⟨?_,⟨i + 1,HP4.out.later xq.ext,hr,by omega⟩,grown_trans hg4 (grown_of_below xq.ext (some g))⟩
  first | rfl | (simp;done) | (simp;omega) | (simp [h3];done) | (simp [h3];omega)
end Go.Proofs.Ytbgcjpefocdkkaa
/- walks of sread: number, name -/
set_option maxRecDepth 100000
namespace Go.Proofs.Ytbgcjpefocdkkaa
open Go.RowKit
def NumS (x : List Value) (g : Nat) (s : Str) (i : Nat) (R : Option (Nat × Str)) (w : World) (e : Ending) (w' : World) : Prop:=w.grownBy w' (some g) ∧
 match R with
 | none => e=.returned (.tuple #[.int .i64 0,.bool false])∧Pl x w' g s i
 | some (n,r) => n < 10000∧e=.returned (.tuple #[.int .i64 n,.bool true])∧∃ j,Pl x w' g s j∧s.drop j=r∧i < j
def NumSRel (x : List Value) (g : Nat) (s : Str) (i : Nat) (R : Option (Nat × Str)) (w : World) (n q : Value) (wr : World) : Prop :=
 ∃ k m : Nat,k≤4∧i + k≤s.length∧m < 10 ^ k∧q=.int .i64 ((i + k : Nat) : Int)∧n=.int .i64 (m : Int)∧Pl x wr g s i∧w.grownBy wr (some g)∧Hid (numLF (s.drop (i + k)) k m=R)
set_option maxHeartbeats 1000000 in
theorem number_s {x : List Value} {g : Nat} {s : Str} {i : Nat} (w : World) (h : Pl x w g s i) :
  Calls Try.prog 42 #[.pointer (some ⟨g,0,none⟩)] w fun e w' => NumS x g s i (numRF (s.drop i)) w e w':=by
 obtain ⟨R,hR⟩ : ∃ R,numRF (s.drop i)=R:=⟨_,rfl⟩
 rw [hR]
 have HR : Hid (numLF (s.drop (i + 0)) 0 0=R):=Lib.hid hR
 have HPL:=Lib.hid h
 have hi:=h.2.1
 have hl:=h.2.2
 have d1 : ∀ x' : ExtOf w,x'.val.cell? ⟨g,1,none⟩=some (.int .i64 i):=ExtOf.cell h.c1
 clear h hR
 go_enter Try.func42,Try.ntmps42
 go_wp2
 refine wp_region_ext (by kernel_rfl) (by kernel_rfl) ?_
 repeat (go_big_quiet_step ((fail)))
 refine wpQuiet_nil ?_
 rintro _ ⟨xq,rfl⟩
 have hpq:=HPL.out.later xq.ext
 have hgq:=grown_of_below xq.ext (some g)
 generalize xq.val=wq at *
 clear d1 HPL
 have HPQ:=Lib.hid hpq
 have HGQ:=Lib.hid hgq
 clear hpq hgq
 go_wp2
 go_loopw [4,5] (fun n q wr => NumSRel x g s i R w n q wr) (fun _ q _ => s.length - (intOf q).toNat)
 case atStart => exact ⟨0,0,by omega,by omega,by simp,rfl,rfl,HPQ.out,HGQ.out,HR⟩
 case round =>
  obtain ⟨k,m,hk,hik,hm,rfl,rfl,hpl,hg,HF⟩:=hrel
  clear HR HPQ HGQ
  have hm4 : m < 10000:=Nat.lt_of_lt_of_le hm (Nat.pow_le_pow_right (by omega) hk)
  have Hm:=Lib.hid hm
  have HP:=Lib.hid hpl
  have c0:=hpl.c0
  have c1:=hpl.c1
  have f1:=hpl.free 1
  have HP2:=Lib.hid (hpl.set (j:=i + k) hik)
  have hg2:=grown_set hg 1 (.int .i64 ((i + k : Nat) : Int))
  clear hm hpl
  cases hd : s.drop (i + k) with
  | nil =>
   have h2:=drop_nil hd
   have HF' : Hid (numLF [] k m=R):=Lib.hid (by rw [← hd];exact HF.out)
   have HD : Hid (s.drop (i + k)=[]):=Lib.hid hd
   clear hd HF
   have gl : decide (i + k < s.length)=false:=decide_eq_false (by omega)
   have gl2 : decide (((i + k : Nat) : Int) < (s.length : Int))=false:=decide_eq_false (by omega)
   push_cast at gl2
   by_cases hk0 : k=0
   ·subst hk0
    have hRn : Hid (R=none):=Lib.hid (by rw [← HF'.out];(simp [numLF]))
    have gb : ((i : Int) + 0 == (i : Int))=true:=by simp
    try simp only [Nat.add_zero] at h2 h3
    first | (have gl5 : decide ((i : Int) < (s.length : Int))=true:=decide_eq_true (by omega)) | (have gl5 : decide ((i : Int) < (s.length : Int))=false:=decide_eq_false (by omega))
    go_wp2
    go_ret2
    exact ⟨hg,by rw [hRn.out];exact ⟨rfl,HP.out⟩⟩
   ·have hRs : Hid (R=some (m,[])):=Lib.hid (by rw [← HF'.out];(simp [numLF];omega))
    have gb : ((i : Int) + (k : Int) == (i : Int))=false:=by rw [beq_eq_false_iff_ne];omega
    have gb2 : (((i + k : Nat) : Int) == (i : Int))=false:=by rw [beq_eq_false_iff_ne];omega
    go_wp2
    go_ret2
    exact ⟨hg2,by rw [hRs.out];exact ⟨hm4,rfl,i + k,HP2.out,HD.out,by omega⟩⟩
  | cons c r =>
   obtain ⟨h2,h3,hr⟩:=drop_cons hd
   have HF' : Hid (numLF (c :: r) k m=R):=Lib.hid (by rw [← hd];exact HF.out)
   have Hr:=Lib.hid hr
   have HD:=Lib.hid hd
   have gl : decide (i + k < s.length)=true:=decide_eq_true (by omega)
   have gl2 : decide (((i + k : Nat) : Int) < (s.length : Int))=true:=decide_eq_true (by omega)
   push_cast at gl2
   clear hd HF hr
   by_cases hdg : 48≤c.toNat∧c.toNat≤57
   ·by_cases hk4 : k=4
    ·subst hk4
     have hRn : Hid (R=none):=Lib.hid (by rw [← HF'.out];unfold numLF;rw [if_pos hdg,if_pos rfl])
     have hz : ((i : Int) + 4 - i == 4)=true:=by rw [beq_iff_eq];omega
     obtain ⟨d1,d2⟩:=hdg
     go_wp2
     go_ret2
     exact ⟨hg,by rw [hRn.out];exact ⟨rfl,HP.out⟩⟩
    ·have HF2 : Hid (numLF r (k + 1) (10 * m + (c.toNat - 48))=R):=Lib.hid (by have h:=HF'.out;unfold numLF at h;rw [if_pos hdg,if_neg hk4] at h;exact h)
     have hz : ((i : Int) + k - i == 4)=false:=by rw [beq_eq_false_iff_ne];omega
     obtain ⟨d1,d2⟩:=hdg
     go_wp2
     go_roundw
     case rel =>
      refine ⟨k + 1,10 * m + (c.toNat - 48),by omega,by omega,?_,by go_num,?_,HP.out,hg,?_⟩
      ·have:=Hm.out;rw [Nat.pow_succ];omega
      ·congr 1;omega
      ·exact Lib.hid (by rw [show i + (k + 1)=i + k + 1 from rfl,Hr.out];exact HF2.out)
     case measure => simp [intOf];omega
   ·by_cases d1 : 48≤c.toNat
    ·have d2 : ¬ c.toNat≤57:=fun e => hdg ⟨d1,e⟩
     have q1 : decide (48≤c.toNat)=true:=decide_eq_true d1
     have q2 : decide (c.toNat≤57)=false:=decide_eq_false d2
     by_cases hk0 : k=0
     ·subst hk0
      have hRn : Hid (R=none):=Lib.hid (by rw [← HF'.out];(unfold numLF;rw [if_neg hdg,if_neg (by omega)]))
      have gb : ((i : Int) + 0 == (i : Int))=true:=by simp
      try simp only [Nat.add_zero] at h2 h3
      first | (have gl5 : decide ((i : Int) < (s.length : Int))=true:=decide_eq_true (by omega)) | (have gl5 : decide ((i : Int) < (s.length : Int))=false:=decide_eq_false (by omega))
      go_wp2
      go_ret2
      exact ⟨hg,by rw [hRn.out];exact ⟨rfl,HP.out⟩⟩
     ·have hRs : Hid (R=some (m,c :: r)):=Lib.hid (by rw [← HF'.out];(unfold numLF;rw [if_neg hdg,if_pos (by omega)]))
      have gb : ((i : Int) + (k : Int) == (i : Int))=false:=by rw [beq_eq_false_iff_ne];omega
      have gb2 : (((i + k : Nat) : Int) == (i : Int))=false:=by rw [beq_eq_false_iff_ne];omega
      go_wp2
      go_ret2
      exact ⟨hg2,by rw [hRs.out];exact ⟨hm4,rfl,i + k,HP2.out,HD.out,by omega⟩⟩
    ·have q1 : decide (48≤c.toNat)=false:=decide_eq_false d1
     by_cases hk0 : k=0
     ·subst hk0
      have hRn : Hid (R=none):=Lib.hid (by rw [← HF'.out];(unfold numLF;rw [if_neg hdg,if_neg (by omega)]))
      have gb : ((i : Int) + 0 == (i : Int))=true:=by simp
      try simp only [Nat.add_zero] at h2 h3
      first | (have gl5 : decide ((i : Int) < (s.length : Int))=true:=decide_eq_true (by omega)) | (have gl5 : decide ((i : Int) < (s.length : Int))=false:=decide_eq_false (by omega))
      go_wp2
      go_ret2
      exact ⟨hg,by rw [hRn.out];exact ⟨rfl,HP.out⟩⟩
     ·have hRs : Hid (R=some (m,c :: r)):=Lib.hid (by rw [← HF'.out];(unfold numLF;rw [if_neg hdg,if_pos (by omega)]))
      have gb : ((i : Int) + (k : Int) == (i : Int))=false:=by rw [beq_eq_false_iff_ne];omega
      have gb2 : (((i + k : Nat) : Int) == (i : Int))=false:=by rw [beq_eq_false_iff_ne];omega
      go_wp2
      go_ret2
      exact ⟨hg2,by rw [hRs.out];exact ⟨hm4,rfl,i + k,HP2.out,HD.out,by omega⟩⟩
end Go.Proofs.Ytbgcjpefocdkkaa
/- walks of sread: name; snode.Name -/
set_option maxRecDepth 100000
namespace Go.Proofs.Ytbgcjpefocdkkaa
open Go.RowKit
theorem NameByte_any (c : UInt8) (w : World) : Calls Try.prog 23 #[.int .u8 c.toNat] w fun e w' => e=.returned (.bool (nameC c))∧w=w':=by
 go_enter Try.func23,Try.ntmps23
 go_wp2
 all_goals (go_ret;refine ⟨ret_bool ?_,rfl⟩;unfold nameC;rw [Bool.eq_iff_iff];simp only [Bool.or_eq_true,decide_eq_true_eq];first | omega | (simp;omega) | skip)
theorem nameB_bad {s : Str} {c : UInt8} (h : c ∈ s) (hc : nameC c=false) : nameB s=false:=by
 cases s with
 | nil => rfl
 | cons a r =>
  simp only [nameB]
  have : (a :: r).all nameC=false:=by rw [List.all_eq_false];exact ⟨c,h,by rw [hc];decide⟩
  rw [this];simp
theorem nameB_dig {c : UInt8} {r : Str} (h : c.toNat≤57) : nameB (c :: r)=false:=by
 simp only [nameB];rw [decide_eq_false (p:=57 < c.toNat) (by omega)];simp
theorem nameB_good {c : UInt8} {r : Str} (h : ∀ d ∈ c :: r,nameC d=true) (h1 : 57 < c.toNat) : nameB (c :: r)=decide ((c :: r).length≤64):=by
 simp only [nameB];rw [decide_eq_true h1,List.all_eq_true.2 h];simp
def NmRel (s : Str) (w : World) (q : Value) (wr : World) : Prop :=
 ∃ i : Nat,i≤s.length∧q=.int .i64 i∧wr=w∧Hid (∀ c ∈ s.take i,nameC c=true)∧Hid (0 < i→57 < (s.headD 0).toNat)
set_option maxHeartbeats 1000000 in
theorem SName_any (s : Str) (w : World) (hs : s.length≤1000000) :
  Calls Try.prog 16 #[.string ⟨(s).toArray⟩] w fun e w' => e=.returned (.bool (nameB s))∧w=w':=by
 generalize hR : nameB s=R
 have HR:=Lib.hid hR
 clear hR
 go_enter Try.func16,Try.ntmps16
 go_wp2
 go_loopw [3] (fun q wr => NmRel s w q wr) (fun q _ => s.length - (intOf q).toNat)
 case atStart => exact ⟨0,by omega,rfl,rfl,Lib.hid (by simp),Lib.hid (by omega)⟩
 case round =>
  obtain ⟨i,hi,rfl,rfl,HA,HH⟩:=hrel
  cases hd : s.drop i with
  | nil =>
   have h2:=drop_nil hd
   have hil : i=s.length:=by omega
   subst hil
   have gl : decide (s.length < s.length)=false:=decide_eq_false (by omega)
   cases s with
   | nil =>
    have HR2 : Hid (R=false):=Lib.hid (by rw [← HR.out];rfl)
    clear hd HA HH HR
    go_wp2
    go_ret
    exact ⟨by rw [HR2.out];rfl,rfl⟩
   | cons c r =>
    have HR2 : Hid (R=decide ((c :: r).length≤64)):=Lib.hid (by rw [← HR.out];exact nameB_good (fun d hd => HA.out d (by rw [List.take_length];exact hd)) (HH.out (by simp)))
    clear hd HA HH HR
    go_wp2
    go_ret
    refine ⟨?_,rfl⟩
    rw [HR2.out]
    exact ret_bool (a:=decide ((r.length : Int) + 1≤64)) (by rw [Bool.eq_iff_iff];simp only [decide_eq_true_eq,List.length_cons];omega)
  | cons c r =>
   obtain ⟨h2,h3,hr⟩:=drop_cons hd
   have hmem : c ∈ s:=by rw [← h3 h2];exact List.getElem_mem h2
   have gl : decide (i < s.length)=true:=decide_eq_true h2
   have HTk : Hid (s.take (i + 1)=s.take i ++ [c]):=Lib.hid (by rw [List.take_add_one,List.getElem?_eq_getElem h2,h3 h2];rfl)
   cases hn : nameC c with
   | false =>
    have HR2 : Hid (R=false):=Lib.hid (by rw [← HR.out];exact nameB_bad hmem hn)
    have HN : Hid (∀ w : World,Calls Try.prog 23 #[.int .u8 c.toNat] w fun e w' => e=.returned (.bool false)∧w=w'):=Lib.hid (by rw [← hn];exact NameByte_any c)
    clear hd hmem hn HR HA HH hr
    go_wp2_with (go_at_call 23;refine (HN.out _).mono ?_;rintro e w1 ⟨rfl,rfl⟩)
    go_ret
    exact ⟨by rw [HR2.out];rfl,rfl⟩
   | true =>
    have HN : Hid (∀ w : World,Calls Try.prog 23 #[.int .u8 c.toNat] w fun e w' => e=.returned (.bool true)∧w=w'):=Lib.hid (by rw [← hn];exact NameByte_any c)
    have HA2 : Hid (∀ d ∈ s.take (i + 1),nameC d=true):=Lib.hid (by
     rw [HTk.out]
     intro d hd'
     rcases List.mem_append.1 hd' with hd' | hd'
     ·exact HA.out d hd'
     ·rw [List.mem_singleton] at hd';rw [hd'];exact hn)
    by_cases hi0 : i=0
    ·subst hi0
     by_cases h57 : c.toNat≤57
     ·have HR2 : Hid (R=false):=Lib.hid (by rw [← HR.out];rw [List.drop_zero] at hd;rw [hd];exact nameB_dig h57)
      clear hd hmem hn HR HA HH hr HTk HA2
      go_wp2_with (go_at_call 23;refine (HN.out _).mono ?_;rintro e w1 ⟨rfl,rfl⟩)
      go_ret
      exact ⟨by rw [HR2.out];rfl,rfl⟩
     ·have HH2 : Hid (0 < 0 + 1→57 < (s.headD 0).toNat):=Lib.hid (fun _ => by rw [List.drop_zero] at hd;rw [hd];simp;omega)
      clear hd hmem hn HA HH hr HTk
      go_wp2_with (go_at_call 23;refine (HN.out _).mono ?_;rintro e w1 ⟨rfl,rfl⟩)
      go_roundw
      case rel => exact ⟨0 + 1,by omega,by go_num,rfl,HA2,HH2⟩
      case measure => simp [intOf];omega
    ·have hz : ((i : Int) == 0)=false:=by rw [beq_eq_false_iff_ne];omega
     have HH2 : Hid (0 < i + 1→57 < (s.headD 0).toNat):=Lib.hid (fun _ => HH.out (by omega))
     clear hd hmem hn HA HH hr HTk
     go_wp2_with (go_at_call 23;refine (HN.out _).mono ?_;rintro e w1 ⟨rfl,rfl⟩)
     go_roundw
     case rel => exact ⟨i + 1,by omega,by go_num,rfl,HA2,HH2⟩
     case measure => simp [intOf];omega
theorem tw_at {α : Type} {p : α→Bool} : ∀ (l : List α) (m : Nat),(∀ c ∈ l.take m,p c=true)→(∀ c r,l.drop m=c :: r→p c=false)→l.takeWhile p=l.take m∧l.dropWhile p=l.drop m
 | [],m,_,_ => by simp
 | c :: l,0,_,h => by have:=h c l rfl;simp [this]
 | c :: l,m + 1,h1,h2 => by
  have hc : p c=true:=h1 c (by simp)
  obtain ⟨i1,i2⟩:=tw_at l m (fun d hd => h1 d (by simp [hd])) (fun d r hd => h2 d r (by simpa using hd))
  rw [List.takeWhile_cons_of_pos hc,List.dropWhile_cons_of_pos hc,i1,i2]
  exact ⟨rfl,rfl⟩
def nameS (r : Str) : Option (Str × Str):=if nameB (r.takeWhile nameC)=true then some (r.takeWhile nameC,r.dropWhile nameC) else none
def NameS (x : List Value) (g : Nat) (s : Str) (i : Nat) (R : Option (Str × Str)) (w : World) (e : Ending) (w' : World) : Prop:=w.grownBy w' (some g) ∧
 match R with
 | none => e=.returned (.tuple #[.string ⟨([]).toArray⟩,.bool false])∧Pl x w' g s i
 | some (n,r) => nameB n=true∧e=.returned (.tuple #[.string ⟨(n).toArray⟩,.bool true])∧∃ j,Pl x w' g s j∧s.drop j=r∧i < j
def NaRel (s : Str) (i : Nat) (w : World) (q : Value) (wr : World) : Prop :=
 ∃ k : Nat,i≤k∧k≤s.length∧q=.int .i64 k∧wr=w∧Hid (∀ c ∈ (s.drop i).take (k - i),nameC c=true)
set_option maxHeartbeats 1000000 in
theorem name_s {x : List Value} {g : Nat} {s : Str} {i : Nat} (w : World) (h : Pl x w g s i) :
  Calls Try.prog 43 #[.pointer (some ⟨g,0,none⟩)] w fun e w' => NameS x g s i (nameS (s.drop i)) w e w':=by
 obtain ⟨R,hR⟩ : ∃ R,R=nameS (s.drop i):=⟨_,rfl⟩
 rw [← hR]
 have HR:=Lib.hid hR
 have HPL:=Lib.hid h
 have hi:=h.2.1
 have hl:=h.2.2
 have c0:=h.c0
 have c1:=h.c1
 clear h hR
 go_enter Try.func43,Try.ntmps43
 go_wp2
 go_loopw [4] (fun q wr => NaRel s i w q wr) (fun q _ => s.length - (intOf q).toNat)
 case atStart => exact ⟨i,by omega,by omega,rfl,rfl,Lib.hid (by simp)⟩
 case round =>
  obtain ⟨k,hik0,hk,rfl,rfl,HA⟩:=hrel
  have d0 : ∀ x' : ExtOf wr,x'.val.cell? ⟨g,0,none⟩=some (.string ⟨(s).toArray⟩):=ExtOf.cell c0
  have d1 : ∀ x' : ExtOf wr,x'.val.cell? ⟨g,1,none⟩=some (.int .i64 i):=ExtOf.cell c1
  have gk0 : (0 : Int)≤(i : Int):=by omega
  have gk1 : (i : Int)≤(k : Int):=by omega
  have gk2 : (k : Int)≤(s.length : Int):=by omega
  have gk3 : ((i : Int)).toNat=i:=by omega
  have gk4 : ((k : Int)).toNat=k:=by omega
  have gk5 : (0 : Int)≤(k : Int):=by omega
  have HTW : Hid ((∀ c r,s.drop k=c :: r→nameC c=false)→R=if nameB ((s.drop i).take (k - i))=true then some ((s.drop i).take (k - i),s.drop k) else none):=Lib.hid fun hc => by
   obtain ⟨a,b⟩:=tw_at (s.drop i) (k - i) HA.out (fun c r hcr => hc c r (by rw [List.drop_drop] at hcr;rw [← hcr];congr 1;omega))
   rw [HR.out];unfold nameS;rw [a,b,List.drop_drop,show i + (k - i)=k by omega]
  cases hd : s.drop k with
  | nil =>
   have h2:=drop_nil hd
   have gl : decide ((k : Int) < (s.length : Int))=false:=decide_eq_false (by omega)
   have HRE : Hid (R=if nameB ((s.drop i).take (k - i))=true then some ((s.drop i).take (k - i),s.drop k) else none):=Lib.hid (HTW.out (fun c r e => by rw [hd] at e;cases e))
   have HN : Hid True:=Lib.hid trivial
   clear hd HTW HA HR
   go_wp2_with (go_at_call 23;refine (HN.out _).mono ?_;rintro e w1 ⟨rfl,rfl⟩)
   refine wp_region_ext (by kernel_rfl) (by kernel_rfl) ?_
   repeat (go_big_quiet_step ((fail)))
   refine wpQuiet_nil ?_
   rintro _ ⟨xq,rfl⟩
   have hpl:=HPL.out.later xq.ext
   have hg0:=grown_of_below xq.ext (some g)
   generalize xq.val=wa at *
   clear d0 d1
   have f1:=hpl.free 1
   have c0:=hpl.c0
   have c1:=hpl.c1
   have HP2:=Lib.hid (hpl.set (j:=k) (by omega))
   have hg2:=grown_set hg0 1 (.int .i64 (k : Int))
   have HP1:=Lib.hid hpl
   clear hpl
   cases hb : nameB ((s.drop i).take (k - i)) with
   | false =>
    have HR2 : Hid (R=none):=Lib.hid (by rw [HRE.out,hb];rfl)
    have HNM : Hid (∀ w : World,Calls Try.prog 16 #[.string ⟨((s.drop i).take (k - i)).toArray⟩] w fun e w' => e=.returned (.bool false)∧w=w'):=Lib.hid (fun w => by rw [← hb];exact SName_any _ w (by simp;omega))
    clear hb HRE
    go_wp2_with (go_at_call 16;refine (HNM.out _).mono ?_;rintro e w1 ⟨rfl,rfl⟩)
    go_ret2
    exact ⟨hg0,by rw [HR2.out];exact ⟨rfl,HP1.out⟩⟩
   | true =>
    have HR2 : Hid (R=some ((s.drop i).take (k - i),s.drop k)):=Lib.hid (by rw [HRE.out,hb];rfl)
    have HNM : Hid (∀ w : World,Calls Try.prog 16 #[.string ⟨((s.drop i).take (k - i)).toArray⟩] w fun e w' => e=.returned (.bool true)∧w=w'):=Lib.hid (fun w => by rw [← hb];exact SName_any _ w (by simp;omega))
    have hik : i < k:=by
     rcases Nat.lt_or_ge i k with h | h
     ·exact h
     ·rw [show k - i=0 by omega] at hb;cases hb
    have HB:=Lib.hid hb
    clear hb HRE
    go_wp2_with (go_at_call 16;refine (HNM.out _).mono ?_;rintro e w1 ⟨rfl,rfl⟩)
    go_ret2
    exact ⟨hg2,by rw [HR2.out];exact ⟨HB.out,rfl,k,HP2.out,rfl,hik⟩⟩
  | cons c r =>
   obtain ⟨h2,h3,hr⟩:=drop_cons hd
   have gl : decide ((k : Int) < (s.length : Int))=true:=decide_eq_true (by omega)
   have gl1 : (k : Int) < (s.length : Int):=by omega
   cases hn : nameC c with
   | false =>
    have HN : Hid (∀ w : World,Calls Try.prog 23 #[.int .u8 c.toNat] w fun e w' => e=.returned (.bool false)∧w=w'):=Lib.hid (by rw [← hn];exact NameByte_any c)
    have HRE : Hid (R=if nameB ((s.drop i).take (k - i))=true then some ((s.drop i).take (k - i),s.drop k) else none):=Lib.hid (HTW.out (fun c' r' e => by rw [hd] at e;injection e with e _;rw [← e];exact hn))
    clear hd HTW HA HR hn hr
    go_wp2_with (go_at_call 23;refine (HN.out _).mono ?_;rintro e w1 ⟨rfl,rfl⟩)
    refine wp_region_ext (by kernel_rfl) (by kernel_rfl) ?_
    repeat (go_big_quiet_step ((fail)))
    refine wpQuiet_nil ?_
    rintro _ ⟨xq,rfl⟩
    have hpl:=HPL.out.later xq.ext
    have hg0:=grown_of_below xq.ext (some g)
    generalize xq.val=wa at *
    clear d0 d1
    have f1:=hpl.free 1
    have c0:=hpl.c0
    have c1:=hpl.c1
    have HP2:=Lib.hid (hpl.set (j:=k) (by omega))
    have hg2:=grown_set hg0 1 (.int .i64 (k : Int))
    have HP1:=Lib.hid hpl
    clear hpl
    cases hb : nameB ((s.drop i).take (k - i)) with
    | false =>
     have HR2 : Hid (R=none):=Lib.hid (by rw [HRE.out,hb];rfl)
     have HNM : Hid (∀ w : World,Calls Try.prog 16 #[.string ⟨((s.drop i).take (k - i)).toArray⟩] w fun e w' => e=.returned (.bool false)∧w=w'):=Lib.hid (fun w => by rw [← hb];exact SName_any _ w (by simp;omega))
     clear hb HRE
     go_wp2_with (go_at_call 16;refine (HNM.out _).mono ?_;rintro e w1 ⟨rfl,rfl⟩)
     go_ret2
     exact ⟨hg0,by rw [HR2.out];exact ⟨rfl,HP1.out⟩⟩
    | true =>
     have HR2 : Hid (R=some ((s.drop i).take (k - i),s.drop k)):=Lib.hid (by rw [HRE.out,hb];rfl)
     have HNM : Hid (∀ w : World,Calls Try.prog 16 #[.string ⟨((s.drop i).take (k - i)).toArray⟩] w fun e w' => e=.returned (.bool true)∧w=w'):=Lib.hid (fun w => by rw [← hb];exact SName_any _ w (by simp;omega))
     have hik : i < k:=by
      rcases Nat.lt_or_ge i k with h | h
      ·exact h
      ·rw [show k - i=0 by omega] at hb;cases hb
     have HB:=Lib.hid hb
     clear hb HRE
     go_wp2_with (go_at_call 16;refine (HNM.out _).mono ?_;rintro e w1 ⟨rfl,rfl⟩)
     go_ret2
     exact ⟨hg2,by rw [HR2.out];exact ⟨HB.out,rfl,k,HP2.out,rfl,hik⟩⟩
   | true =>
    have HN : Hid (∀ w : World,Calls Try.prog 23 #[.int .u8 c.toNat] w fun e w' => e=.returned (.bool true)∧w=w'):=Lib.hid (by rw [← hn];exact NameByte_any c)
    have HA2 : Hid (∀ d ∈ (s.drop i).take (k + 1 - i),nameC d=true):=Lib.hid (by
     have e1 : (s.drop i).take (k + 1 - i)=(s.drop i).take (k - i) ++ [c]:=by
      rw [show k + 1 - i=(k - i) + 1 by omega,List.take_add_one,List.getElem?_drop,show i + (k - i)=k by omega,List.getElem?_eq_getElem h2,h3 h2];rfl
     rw [e1]
     intro d hd'
     rcases List.mem_append.1 hd' with hd' | hd'
     ·exact HA.out d hd'
     ·rw [List.mem_singleton] at hd';rw [hd'];exact hn)
    clear hd HTW HA hn hr d0 d1
    go_wp2_with (go_at_call 23;refine (HN.out _).mono ?_;rintro e w1 ⟨rfl,rfl⟩)
    go_roundw
    case rel => exact ⟨k + 1,by omega,by omega,by go_num,rfl,HA2⟩
    case measure => simp [intOf];omega
end Go.Proofs.Ytbgcjpefocdkkaa
