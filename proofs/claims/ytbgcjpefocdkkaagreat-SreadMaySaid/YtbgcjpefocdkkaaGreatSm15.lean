/- What rxread reads is of a size that a machine bears; how many parts and groups it has. · What rxread reads: facts of the whole (patF). -/
import Derived.Test.YtbgcjpefocdkkaaGreatSm1
import Derived.Test.YtbgcjpefocdkkaaGreatSm2
import Derived.Test.YtbgcjpefocdkkaaGreatSm3
import Derived.Test.YtbgcjpefocdkkaaGreatSm4
import Derived.Test.YtbgcjpefocdkkaaGreatSm5
import Derived.Test.YtbgcjpefocdkkaaGreatSm6
import Derived.Test.YtbgcjpefocdkkaaGreatSm7
import Derived.Test.YtbgcjpefocdkkaaGreatSm8
import Derived.Test.YtbgcjpefocdkkaaGreatSm9
import Derived.Test.YtbgcjpefocdkkaaGreatSm14
import Derived.Test.YtbgcjpefocdkkaaGreatSm10
set_option maxRecDepth 100000
namespace Go.Proofs.YtbgcjpefocdkkaaGreat
theorem sfx_ok {r r1:List Str} (h:r1 <:+ r) (ho:okC r):okC r1:=fun p hp=>ho p (h.subset hp)
theorem sfx_cons {c:Str} {r r1:List Str} (h:r1 <:+ r):r1 <:+ c::r:=h.trans (List.suffix_cons _ _)
theorem takeM_sfx {c:Str} {r r1:List Str} (h:takeM c r=some r1):r1 <:+ r:=by rw [takeM_some h];exact List.suffix_cons _ _
theorem item_sfx {r r1:List Str} {c:Str} {nm:List Row} (h:itemM r=some (c,nm,r1)):r1 <:+ r:=by
 cases r with
 | nil=>cases h
 | cons p r =>
  simp only [itemM] at h;by_cases h1:p=[93]
  ·rw [if_pos h1] at h;cases h
  rw [if_neg h1] at h;by_cases h2:p=[92]
  ·rw [if_pos h2] at h
   cases r with
   | nil=>cases h
   | cons c2 r2 =>
    simp only at h
    cases hn:namedS c2 with
    | some rows =>
     simp only [hn] at h;injection h with h;injection h with h3 h;injection h with h4 h5
     subst h5;exact sfx_cons (List.suffix_cons _ _)
    | none =>
     simp only [hn] at h;cases hpm:plainM c2 with
     | none=>simp only [hpm] at h;cases h
     | some t =>
      simp only [hpm] at h;injection h with h;injection h with h3 h;injection h with h4 h5
      subst h5;exact sfx_cons (List.suffix_cons _ _)
  ·rw [if_neg h2] at h
   injection h with h;injection h with h3 h;injection h with h4 h5
   subst h5;exact List.suffix_cons _ _
def rowsOk (rows:List Row):Prop:=∀q∈rows,q.1.length≤1000000∧q.2.length≤1000000
theorem rowsOk_one {c t:Str} (h1:c.length≤1000000) (h2:t.length≤1000000):rowsOk [(c,t)]:=by
 intro q hq;rw [List.mem_singleton] at hq;subst hq;exact⟨h1,h2⟩
theorem rowsOk_app {a b:List Row} (h1:rowsOk a) (h2:rowsOk b):rowsOk (a++b):=by
 intro q hq;rcases List.mem_append.1 hq with h|h
 ·exact h1 q h
 ·exact h2 q h
theorem classL_facts:∀(n:Nat) (rows:List Row) (r:List Str) {rows':List Row} {r1:List Str},classL n rows r=some (rows',r1)→okC r→rowsOk rows →
  r1 <:+ r∧r1.length<r.length∧rows'.length≤rows.length+4*r.length∧rowsOk rows'
 | 0,_,_,_,_,h,_,_=>by cases h
 | n+1,rows,r,rows',r1,h,ho,hr=>by
  simp only [classL] at h;cases ht:takeM [93] r with
  | some r0 =>
   simp only [ht] at h;injection h with h;injection h with h1 h2
   subst h1 h2;have e:=takeM_some ht;exact⟨takeM_sfx ht,by rw [e];simp,by omega,hr⟩
  | none =>
   simp only [ht] at h;cases hi:itemM r with
   | none=>simp only [hi] at h;cases h
   | some y =>
    obtain⟨c,nm,r2⟩:=y;simp only [hi] at h;obtain⟨f1,f2,f3,f4,f5⟩:=item_facts hi ho;have fs:=item_sfx hi;by_cases hnm:nm≠[]
    ·rw [if_pos hnm] at h
     obtain⟨g1,g2,g3,g4⟩:=classL_facts n _ _ h f5 (rowsOk_app hr f4);rw [List.length_append] at g3;exact⟨g1.trans fs,by omega,by omega,g4⟩
    ·rw [if_neg hnm] at h
     have one:∀{rr:List Str},classL n (rows++[(c,c)]) rr=some (rows',r1)→okC rr→rr <:+ r→rr.length<r.length→r1 <:+ r∧r1.length<r.length∧rows'.length≤rows.length+4*r.length∧rowsOk rows':=by
      intro rr h hoo hs hl;obtain⟨g1,g2,g3,g4⟩:=classL_facts n _ _ h hoo (rowsOk_app hr (rowsOk_one f3 f3));rw [List.length_append,List.length_singleton] at g3;exact⟨g1.trans hs,by omega,by omega,g4⟩
     cases ht2:takeM [45] r2 with
     | none=>simp only [ht2] at h;exact one h f5 fs f1
     | some r3 =>
      simp only [ht2] at h;by_cases ht3:takeM [93] r3=none
      ·rw [if_pos ht3] at h
       cases hi2:itemM r3 with
       | none=>simp only [hi2] at h;cases h
       | some y =>
        obtain⟨t,nm2,r4⟩:=y;simp only [hi2] at h;have hs3:=takeM_sfx ht2;have e3:=takeM_some ht2;obtain⟨k1,k2,k3,k4,k5⟩:=item_facts hi2 (sfx_ok hs3 f5);have ks:=item_sfx hi2;by_cases hb:nm2≠[]∨Op.bytesLess t c=true
        ·rw [if_pos hb] at h;cases h
        ·rw [if_neg hb] at h
         obtain⟨g1,g2,g3,g4⟩:=classL_facts n _ _ h k5 (rowsOk_app hr (rowsOk_one f3 k3));rw [List.length_append,List.length_singleton] at g3;have:r3.length<r2.length:=by rw [e3];simp
         exact⟨((g1.trans ks).trans hs3).trans fs,by omega,by omega,g4⟩
      ·rw [if_neg ht3] at h;exact one h f5 fs f1
theorem mrgS_ok {out:List Row} {r:Row} (h1:rowsOk out) (h2:r.1.length≤1000000∧r.2.length≤1000000):rowsOk (mrgS out r):=by
 rcases List.eq_nil_or_concat out with rfl|⟨B,q,rfl⟩
 ·rw [mrgS_nil];exact rowsOk_one h2.1 h2.2
 ·rw [List.concat_eq_append] at h1 ⊢
  have hB:rowsOk B:=fun x hx=>h1 x (List.mem_append_left _ hx)
  have hq:=h1 q (by simp);cases hl:leS r.1 q.2 with
  | true =>
   rw [mrgS_le hl];refine rowsOk_app hB (rowsOk_one hq.1 ?_);unfold mxS;by_cases hm:Op.bytesLess q.2 r.2=true
   ·rw [if_pos hm];exact h2.2
   ·rw [if_neg hm];exact hq.2
  | false =>
   rw [mrgS_gt hl];exact rowsOk_app h1 (rowsOk_one h2.1 h2.2)
theorem union_ok {rows:List Row} (h:rowsOk rows):rowsOk (unionM rows)∧(unionM rows).length≤rows.length:=by
 have h1:rowsOk (stL (filR rows)):=fun q hq=>h q ((List.mem_filter.1 ((stL_sorted _).1.mem_iff.1 hq)).1)
 refine⟨?_,?_⟩
 ·unfold unionM mrgL
  have key:∀(l out:List Row),rowsOk l→rowsOk out→rowsOk (l.foldl mrgS out):=by
   intro l;induction l with
   | nil=>intro out _ h;exact h
   | cons r l ih =>
    intro out h1 h2;exact ih _ (fun q hq=>h1 q (List.mem_cons_of_mem _ hq)) (mrgS_ok h2 (h1 r (List.mem_cons_self ..)))
  exact key _ _ h1 (by intro q hq;cases hq)
 ·unfold unionM
  have e1:=mrgL_len (stL (filR rows));have e2:=stL_len (filR rows);have e3:=filR_len rows;omega
def Fct (b:Nat) (r:List Str) (x:Rx) (r1:List Str):Prop :=
 x.small∧x.parts+2*r1.length≤2*r.length+b∧x.groups+r1.count [40]≤r.count [40]∧r1 <:+ r
theorem sfx_count {r r1:List Str} (h:r1 <:+ r) (c:Str):r1.count c≤r.count c:=h.sublist.count_le c
theorem sfx_len {r r1:List Str} (h:r1 <:+ r):r1.length≤r.length:=h.length_le
theorem small_leaf {k:Int} {c:Str} {ng:Bool} {rs:List Row} {lo hi:Int} {lz:Bool} (h1:c.length≤1000000) (h2:rs.length≤1000000) (h3:rowsOk rs):(Rx.mk k c ng rs lo hi lz []).small:=by
 simp only [Rx.small,Rx.small1,Rx.smallL];exact⟨⟨h1,h2,h3,by simp⟩,trivial⟩
theorem Fct.leaf {k:Int} {c:Str} {ng:Bool} {rs:List Row} {lo hi:Int} {lz:Bool} {b:Nat} {r r1:List Str} (h1:c.length≤1000000) (h2:rs.length≤1000000) (h3:rowsOk rs) (hk:k≠5) (hs:r1 <:+ r) (hl:r1.length<r.length):Fct b r (.mk k c ng rs lo hi lz []) r1:=by
 refine⟨small_leaf h1 h2 h3,?_,?_,hs⟩
 ·simp only [Rx.parts,Rx.partsL];omega
 ·simp only [Rx.groups,Rx.groupsL,if_neg hk];have:=sfx_count hs [40];omega
theorem rowsOk_nil:rowsOk []:=fun _ h=>by cases h
theorem esc_facts {r r1:List Str} {x:Rx} (h:escM r=.ok (x,r1)) (ho:okC r):Fct 0 r x r1:=by
 cases r with
 | nil=>cases h
 | cons c r =>
  have hc:=ho c (List.mem_cons_self ..);have big:∀b,Fct 0 (c::r) (setR (namedL b) true) r:=fun b=>Fct.leaf (by simp) (by have:=(namedL_len b).1;omega) (namedL_len b).2 (by decide) (List.suffix_cons _ _) (by simp)
  simp only [escM] at h;cases hn:namedS c with
  | some rows =>
   obtain⟨b,rfl,_,rfl⟩:=namedS_some hn;simp only [hn] at h;injection h with h;injection h with h1 h2;subst h1 h2
   exact Fct.leaf (by simp) (by have:=(namedL_len b).1;omega) (namedL_len b).2 (by decide) (List.suffix_cons _ _) (by simp)
  | none =>
   simp only [hn] at h;cases hb:bigS c with
   | some rows =>
    simp only [hb] at h;injection h with h;injection h with h1 h2;subst h1 h2
    unfold bigS at hb;by_cases g1:c=[68]
    ·rw [if_pos g1] at hb;injection hb with hb;rw [←hb];exact big _
    rw [if_neg g1] at hb;by_cases g2:c=[87]
    ·rw [if_pos g2] at hb;injection hb with hb;rw [←hb];exact big _
    rw [if_neg g2] at hb;by_cases g3:c=[83]
    ·rw [if_pos g3] at hb;injection hb with hb;rw [←hb];exact big _
    rw [if_neg g3] at hb;cases hb
   | none =>
    simp only [hb] at h;cases hp:plainM c with
    | none=>simp only [hp] at h;cases h
    | some t =>
     simp only [hp] at h;injection h with h;injection h with h1 h2;subst h1 h2
     exact Fct.leaf (by have:=plainM_len hp;omega) (by simp) rowsOk_nil (by decide) (List.suffix_cons _ _) (by simp)
theorem class_facts {r r1:List Str} {x:Rx} (h:classM r=.ok (x,r1)) (ho:okC r) (hl:r.length≤200000):Fct 0 r x r1:=by
 have hsx:((takeM [94] r).getD r) <:+ r:=by
  cases ht:takeM [94] r with
  | none=>exact List.suffix_refl _
  | some r2=>exact takeM_sfx ht
 unfold classM at h;generalize (takeM [94] r).isSome=ng at h
 generalize (takeM [94] r).getD r=r0 at h hsx
 simp only at h
 cases hc:classL (r0.length+1) [] r0 with
 | none=>simp only [hc] at h;cases h
 | some y =>
  obtain⟨rows,r2⟩:=y;simp only [hc] at h;injection h with h;injection h with h1 h2;subst h1 h2
  obtain⟨g1,g2,g3,g4⟩:=classL_facts _ _ _ hc (sfx_ok hsx ho) rowsOk_nil;have hl0:=sfx_len hsx;have hu:=union_ok g4;exact Fct.leaf (by simp) (by simp at g3;omega) hu.1 (by decide) (g1.trans hsx) (by omega)
theorem numL_sfx:∀(r:List Str) (k n:Nat) {m:Nat} {r1:List Str},numL k n r=some (m,r1)→r1 <:+ r
 | [],k,n,m,r1,h=>by
  unfold numL at h;split at h
  ·injection h with h;injection h with _ h;subst h;exact List.suffix_refl _
  ·cases h
 | c::r,k,n,m,r1,h=>by
  unfold numL at h;split at h
  ·split at h
   ·cases h
   ·exact sfx_cons (numL_sfx r _ _ h)
  ·split at h
   ·injection h with h;injection h with _ h;subst h;exact List.suffix_refl _
   ·cases h
theorem bounds_sfx {r r1:List Str} {lo hi:Int} (h:boundsM r=some (lo,hi,r1)):r1 <:+ r:=by
 unfold boundsM at h;cases h1:numL 0 0 r with
 | none=>simp only [h1] at h;cases h
 | some y =>
  obtain⟨a,s1⟩:=y;have e1:=numL_sfx _ _ _ h1;simp only [h1] at h;cases h2:takeM [125] s1 with
  | some s2 =>
   simp only [h2] at h;injection h with h;injection h with _ h;injection h with _ h;subst h
   exact(takeM_sfx h2).trans e1
  | none =>
   simp only [h2] at h;cases h3:takeM [44] s1 with
   | none=>simp only [h3] at h;cases h
   | some s2 =>
    simp only [h3] at h;have e2:=(takeM_sfx h3).trans e1;cases h4:takeM [125] s2 with
    | some s3 =>
     simp only [h4] at h;injection h with h;injection h with _ h;injection h with _ h;subst h
     exact(takeM_sfx h4).trans e2
    | none =>
     simp only [h4] at h;cases h5:numL 0 0 s2 with
     | none=>simp only [h5] at h;cases h
     | some y =>
      obtain⟨b,s3⟩:=y;have e3:=(numL_sfx _ _ _ h5).trans e2;simp only [h5] at h;split at h
      ·cases h6:takeM [125] s3 with
       | none=>simp only [h6] at h;cases h
       | some s4 =>
        simp only [h6] at h;injection h with h;injection h with _ h;injection h with _ h;subst h
        exact(takeM_sfx h6).trans e3
      ·cases h
theorem small_rep {lo hi:Int} {lz:Bool} {x:Rx} (h:x.small):(repR lo hi lz x).small:=by
 simp only [repR,Rx.small,Rx.small1,Rx.smallL];exact⟨⟨by simp,by simp,by simp,by simp⟩,h,trivial⟩
theorem lazy_facts {x y:Rx} {lo hi:Int} {r r1:List Str} (h:lazyM x lo hi r=(y,r1)):(∃lz,y=repR lo hi lz x)∧r1 <:+ r:=by
 unfold lazyM at h;cases ht:takeM [63] r with
 | some r2=>simp only [ht] at h;injection h with h1 h2;subst h1 h2;exact⟨⟨_,rfl⟩,takeM_sfx ht⟩
 | none=>simp only [ht] at h;injection h with h1 h2;subst h1 h2;exact⟨⟨_,rfl⟩,List.suffix_refl _⟩
theorem quant_facts {x y:Rx} {r r1:List Str} (h:quantM x r=.ok (y,r1)):(y=x∧r1=r)∨((∃lo hi lz,y=repR lo hi lz x)∧r1 <:+ r∧r1.length<r.length):=by
 cases r with
 | nil=>simp only [quantM] at h;injection h with h;injection h with h1 h2;exact .inl ⟨h1.symm,h2.symm⟩
 | cons c r =>
  simp only [quantM] at h;have key:∀{lo hi:Int} {r2:List Str},Except.ok (lazyM x lo hi r2)=(Except.ok (y,r1):Res)→r2 <:+ r→(y=x∧r1=c::r)∨((∃lo hi lz,y=repR lo hi lz x)∧r1 <:+ c::r∧r1.length<(c::r).length):=by
   intro lo hi r2 h hs;injection h with h
   obtain⟨⟨lz,h1⟩,h2⟩:=lazy_facts h;have h3:=h2.trans hs;have:=sfx_len h3
   exact .inr ⟨⟨lo,hi,lz,h1⟩,sfx_cons h3,by simp;omega⟩
  by_cases h1:c=[42]
  ·rw [if_pos h1] at h;exact key h (List.suffix_refl _)
  rw [if_neg h1] at h;by_cases h2:c=[43]
  ·rw [if_pos h2] at h;exact key h (List.suffix_refl _)
  rw [if_neg h2] at h;by_cases h3:c=[63]
  ·rw [if_pos h3] at h;exact key h (List.suffix_refl _)
  rw [if_neg h3] at h;by_cases h4:c=[123]
  ·rw [if_pos h4] at h
   cases hb:boundsM r with
   | none=>simp only [hb] at h;cases h
   | some z =>
    obtain⟨lo,hi,r2⟩:=z;simp only [hb] at h;exact key h (bounds_sfx hb)
  ·rw [if_neg h4] at h
   injection h with h;injection h with h5 h6
   exact .inl ⟨h5.symm,h6.symm⟩
end Go.Proofs.YtbgcjpefocdkkaaGreat
namespace Go.Proofs.YtbgcjpefocdkkaaGreat
theorem partsL_app:∀(a b:List Rx),Rx.partsL (a++b)=Rx.partsL a+Rx.partsL b
 | [],b=>by simp [Rx.partsL]
 | x::a,b=>by simp only [List.cons_append,Rx.partsL,partsL_app a b];omega
theorem groupsL_app:∀(a b:List Rx),Rx.groupsL (a++b)=Rx.groupsL a+Rx.groupsL b
 | [],b=>by simp [Rx.groupsL]
 | x::a,b=>by simp only [List.cons_append,Rx.groupsL,groupsL_app a b];omega
theorem smallL_app:∀{a b:List Rx},Rx.smallL a→Rx.smallL b→Rx.smallL (a++b)
 | [],_,_,h=>h
 | _::_,_,h1,h2=>⟨h1.1,smallL_app h1.2 h2⟩
theorem flatL_cons (kd:Int) (x:Rx) (xs:List Rx):flatL kd (x::xs)=(if x.kind=kd then x.kids else [x])++flatL kd xs:=by simp [flatL]
theorem kids_facts (x:Rx) (hs:x.small):Rx.partsL x.kids+1=x.parts∧Rx.groupsL x.kids≤x.groups∧Rx.smallL x.kids:=by
 obtain⟨k,c,ng,rs,lo,hi,lz,ks⟩:=x;simp only [Rx.kids,Rx.parts,Rx.groups];exact⟨by omega,by omega,hs.2⟩
theorem flat_facts (kd:Int):∀{xs:List Rx},Rx.smallL xs→Rx.smallL (flatL kd xs)∧Rx.partsL (flatL kd xs)≤Rx.partsL xs∧Rx.groupsL (flatL kd xs)≤Rx.groupsL xs
 | [],_=>⟨trivial,Nat.le_refl _,Nat.le_refl _⟩
 | x::xs,h=>by
  obtain⟨i1,i2,i3⟩:=flat_facts kd h.2;obtain⟨k1,k2,k3⟩:=kids_facts x h.1;rw [flatL_cons,partsL_app,groupsL_app];simp only [Rx.partsL,Rx.groupsL];by_cases hk:x.kind=kd
  ·rw [if_pos hk];exact⟨smallL_app k3 i1,by omega,by omega⟩
  ·rw [if_neg hk];exact⟨smallL_app ⟨h.1,trivial⟩ i1,by simp only [Rx.partsL];omega,by simp only [Rx.groupsL];omega⟩
theorem small_list {k:Int} (hk:k≠5) {l:List Rx} (h:Rx.smallL l) (hl:l.length≤1000000):(Rx.mk k [] false [] 0 0 false l).small∧(Rx.mk k [] false [] 0 0 false l).parts=1+Rx.partsL l∧(Rx.mk k [] false [] 0 0 false l).groups=Rx.groupsL l:=by
 simp only [Rx.small,Rx.small1,Rx.parts,Rx.groups,if_neg hk];exact⟨⟨⟨by simp,by simp,by simp,hl⟩,h⟩,trivial,by omega⟩
theorem seqR_facts {xs:List Rx} (h:Rx.smallL xs) (hp:Rx.partsL xs≤1000000):(seqR xs).small∧(seqR xs).parts≤1+Rx.partsL xs∧(seqR xs).groups≤Rx.groupsL xs:=by
 obtain⟨f1,f2,f3⟩:=flat_facts 0 h;have hl:=Rx.len_parts (flatL 0 xs);have gen:∀l:List Rx,flatL 0 xs=l→(kind0 l).small∧(kind0 l).parts≤1+Rx.partsL xs∧(kind0 l).groups≤Rx.groupsL xs:=by
  rintro l rfl;obtain⟨s1,s2,s3⟩:=small_list (k:=0) (by decide) f1 (by omega);exact⟨s1,by unfold kind0;omega,by unfold kind0;omega⟩
 unfold seqR;split
 ·rename_i y hy
  rw [hy] at f1 f2 f3;simp only [Rx.partsL,Rx.groupsL] at f2 f3;exact⟨f1.1,by omega,by omega⟩
 ·rename_i l hl;exact gen _ rfl
theorem altR_facts {xs:List Rx} (h:Rx.smallL xs) (hp:Rx.partsL xs≤1000000):(altR xs).small∧(altR xs).parts≤1+Rx.partsL xs∧(altR xs).groups≤Rx.groupsL xs:=by
 obtain⟨f1,f2,f3⟩:=flat_facts 1 h;have hl:=Rx.len_parts (flatL 1 xs);unfold altR;split
 ·obtain⟨s1,s2,s3⟩:=small_list (k:=0) (l:=[]) (by decide) trivial (by simp)
  exact⟨s1,by unfold kind0;simp only [Rx.partsL] at s2;omega,by unfold kind0;simp only [Rx.groupsL] at s3;omega⟩
 ·rename_i y hy
  rw [hy] at f1 f2 f3;simp only [Rx.partsL,Rx.groupsL] at f2 f3;exact⟨f1.1,by omega,by omega⟩
 ·obtain⟨s1,s2,s3⟩:=small_list (k:=1) (by decide) f1 (by omega)
  exact⟨s1,by unfold kind1;omega,by unfold kind1;omega⟩
theorem altR_one {x:Rx} (hs:x.small):(altR [x]).small∧(altR [x]).parts≤x.parts∧(altR [x]).groups≤x.groups:=by
 obtain⟨k1,k2,k3⟩:=kids_facts x hs;obtain⟨k,c,ng,rs,lo,hi,lz,ks⟩:=x;have hks:=hs.1.2.2.2;have hfl:flatL 1 [Rx.mk k c ng rs lo hi lz ks]=if k=1 then ks else [.mk k c ng rs lo hi lz ks]:=by by_cases hk:k=1<;>simp [flatL,Rx.kind,Rx.kids,hk]
 simp only [Rx.kids] at k1 k2 k3;unfold altR;rw [hfl];by_cases h1:k=1
 ·rw [if_pos h1]
  rcases ks with _|⟨y,_|⟨z,l⟩⟩
  ·obtain⟨s1,s2,s3⟩:=small_list (k:=0) (l:=[]) (by decide) trivial (by simp)
   exact⟨s1,by show (kind0 []).parts≤_;unfold kind0;simp only [Rx.partsL] at s2 k1;omega,by show (kind0 []).groups≤_;unfold kind0;simp only [Rx.groupsL] at s3 k2;omega⟩
  ·simp only [Rx.partsL,Rx.groupsL] at k1 k2
   exact⟨k3.1,by show y.parts≤_;omega,by show y.groups≤_;omega⟩
  ·obtain⟨s1,s2,s3⟩:=small_list (k:=1) (l:=y::z::l) (by decide) k3 hks
   exact⟨s1,by show (kind1 (y::z::l)).parts≤_;unfold kind1;omega,by show (kind1 (y::z::l)).groups≤_;unfold kind1;omega⟩
 ·rw [if_neg h1]
  exact⟨hs,Nat.le_refl _,Nat.le_refl _⟩
theorem groupK_sfx {r r0:List Str} {k:Int} (h:groupK r=some (k,r0)):r0 <:+ r∧(k=5∨k=6):=by
 unfold groupK at h;cases h1:takeM [63] r with
 | none=>simp only [h1] at h;injection h with h;injection h with ha hb;subst ha hb;exact⟨List.suffix_refl _,.inl rfl⟩
 | some r1 =>
  simp only [h1] at h;cases h2:takeM [58] r1 with
  | none=>simp only [h2] at h;cases h
  | some r2 =>
   simp only [h2] at h;injection h with h;injection h with ha hb;subst ha hb
   exact⟨(takeM_sfx h2).trans (takeM_sfx h1),.inr rfl⟩
def PatFacts (pat:List Str→Nat→Res) (N:Nat):Prop:=∀(r:List Str) (d:Nat) (x:Rx) (r1:List Str),r.length≤N→pat r d=.ok (x,r1)→okC r→Fct 1 r x r1
theorem group_facts {pat:List Str→Nat→Res} {N:Nat} (hp:PatFacts pat N) {r r1:List Str} {d:Nat} {x:Rx} (h:groupM pat r d=.ok (x,r1)) (ho:okC r) (hN:r.length≤N) :
  x.small∧x.parts+2*r1.length≤2*r.length∧x.groups+r1.count [40]≤1+r.count [40]∧r1 <:+ r:=by
 unfold groupM at h;by_cases hd:16≤d
 ·rw [if_pos hd] at h;cases h
 rw [if_neg hd] at h;cases hk:groupK r with
 | none=>simp only [hk] at h;cases h
 | some y =>
  obtain⟨k,r0⟩:=y;obtain⟨k1,k2⟩:=groupK_sfx hk;simp only [hk] at h;cases hx:pat r0 (d+1) with
  | error e=>simp only [hx] at h;cases h
  | ok y =>
   obtain⟨z,r2⟩:=y;simp only [hx] at h;have hl0:=sfx_len k1;obtain⟨f1,f2,f3,f4⟩:=hp r0 (d+1) z r2 (by omega) hx (sfx_ok k1 ho);cases ht:takeM [41] r2 with
   | none=>simp only [ht] at h;cases h
   | some r3 =>
    simp only [ht] at h;injection h with h;injection h with h1 h2;subst h1 h2
    have e:=takeM_some ht;have s3:=takeM_sfx ht;have c1:=sfx_count s3 [40];have c2:=sfx_count k1 [40];refine⟨?_,?_,?_,(s3.trans f4).trans k1⟩
    ·simp only [grpR,Rx.small,Rx.small1,Rx.smallL];exact⟨⟨by simp,by simp,by simp,by simp⟩,f1,trivial⟩
    ·simp only [grpR,Rx.parts,Rx.partsL];rw [e,List.length_cons] at f2;omega
    ·simp only [grpR,Rx.groups,Rx.groupsL];split<;>omega
theorem atom_facts {pat:List Str→Nat→Res} {N:Nat} (hp:PatFacts pat N) {r r1:List Str} {d:Nat} {x:Rx} (h:atomM pat r d=.ok (x,r1)) (ho:okC r) (hN:r.length≤N+1) (hN2:N≤200000) :
  x.small∧x.parts+2*r1.length≤2*r.length∧x.groups+r1.count [40]≤r.count [40]∧r1 <:+ r∧r1.length<r.length∧x.parts+2*r1.length+(if x.parts=1 then 1 else 2)≤2*r.length:=by
 cases r with
 | nil=>cases h
 | cons c r =>
  have hc:=ho c (List.mem_cons_self ..);simp only [List.length_cons] at hN;have leaf:∀{y:Rx} {r2:List Str},Fct 0 (c::r) y r2→y.parts=1→r2.length<(c::r).length→y.small∧y.parts+2*r2.length≤2*(c::r).length∧y.groups+r2.count [40]≤(c::r).count [40]∧r2 <:+ c::r∧r2.length<(c::r).length∧y.parts+2*r2.length+(if y.parts=1 then 1 else 2)≤2*(c::r).length :=
   fun hf h1 hl=>⟨hf.1,by have:=hf.2.1;omega,hf.2.2.1,hf.2.2.2,hl,by rw [if_pos h1,h1];omega⟩
  have lift:∀{y:Rx} {r2:List Str},Fct 0 r y r2→y.parts=1→r2.length≤r.length→y.small∧y.parts+2*r2.length≤2*(c::r).length∧y.groups+r2.count [40]≤(c::r).count [40]∧r2 <:+ c::r∧r2.length<(c::r).length∧y.parts+2*r2.length+(if y.parts=1 then 1 else 2)≤2*(c::r).length :=
   fun hf h1 hl=>leaf ⟨hf.1,by simp only [List.length_cons];have:=hf.2.1;omega,by have:=hf.2.2.1;have:=sfx_count (List.suffix_cons c r) [40];omega,sfx_cons hf.2.2.2⟩ h1 (by simp;omega)
  simp only [atomM] at h;by_cases h1:c=[46]
  ·rw [if_pos h1] at h;injection h with h;injection h with ha hb;subst ha hb
   exact leaf (Fct.leaf (by simp) (by simp) rowsOk_nil (by decide) (List.suffix_cons _ _) (by simp)) rfl (by simp)
  rw [if_neg h1] at h;by_cases h2:c=[40]
  ·rw [if_pos h2] at h
   obtain⟨f1,f2,f3,f4⟩:=group_facts hp h ho.tail (by omega);have hlen:=sfx_len f4;refine⟨f1,by simp;omega,?_,sfx_cons f4,by simp;omega,by simp only [List.length_cons];split<;>omega⟩;rw [h2,List.count_cons_self];omega
  rw [if_neg h2] at h;by_cases h3:c=[91]
  ·rw [if_pos h3] at h
   have hf:=class_facts h ho.tail (by omega);have hp1:x.parts=1:=by
    unfold classM at h;simp only at h
    generalize classL _ _ _=q at h
    cases q with
    | none=>simp only at h;cases h
    | some y=>simp only at h;injection h with h;injection h with ha _;subst ha;rfl
   exact lift hf hp1 (sfx_len hf.2.2.2)
  rw [if_neg h3] at h;by_cases h4:c=[92]
  ·rw [if_pos h4] at h
   have hf:=esc_facts h ho.tail;have hp1:x.parts=1:=by
    cases r with
    | nil=>cases h
    | cons c2 r2 =>
     simp only [escM] at h;cases hn:namedS c2 with
     | some rows=>simp only [hn] at h;injection h with h;injection h with ha _;subst ha;rfl
     | none =>
      simp only [hn] at h;cases hb:bigS c2 with
      | some rows=>simp only [hb] at h;injection h with h;injection h with ha _;subst ha;rfl
      | none =>
       simp only [hb] at h;cases hpm:plainM c2 with
       | none=>simp only [hpm] at h;cases h
       | some t=>simp only [hpm] at h;injection h with h;injection h with ha _;subst ha;rfl
   exact lift hf hp1 (sfx_len hf.2.2.2)
  rw [if_neg h4] at h;by_cases h5:noAtom c=true
  ·rw [if_pos h5] at h;cases h
  ·rw [if_neg h5] at h;injection h with h;injection h with ha hb;subst ha hb
   exact leaf (Fct.leaf hc.2 (by simp) rowsOk_nil (by decide) (List.suffix_cons _ _) (by simp)) rfl (by simp)
theorem edge_facts {r r1:List Str} {x:Rx} (h:edgeM r=some (x,r1)):Fct 0 r x r1∧r1.length<r.length:=by
 cases r with
 | nil=>cases h
 | cons c r =>
  have leaf:∀(k:Int) (r2:List Str),k≠5→r2 <:+ r→Fct 0 (c::r) (rxK k) r2∧r2.length<(c::r).length:=fun k r2 hk hs =>
   ⟨Fct.leaf (by simp) (by simp) rowsOk_nil hk (sfx_cons hs) (by have:=sfx_len hs;simp;omega),by have:=sfx_len hs;simp;omega⟩
  simp only [edgeM] at h;by_cases h1:c=[94]
  ·rw [if_pos h1] at h;injection h with h;injection h with ha hb;subst ha hb;exact leaf 8 r (by decide) (List.suffix_refl _)
  rw [if_neg h1] at h;by_cases h2:c=[36]
  ·rw [if_pos h2] at h;injection h with h;injection h with ha hb;subst ha hb;exact leaf 9 r (by decide) (List.suffix_refl _)
  rw [if_neg h2] at h;by_cases h3:c=[92]
  ·rw [if_pos h3] at h
   cases h4:takeM [98] r with
   | some r2=>simp only [h4] at h;injection h with h;injection h with ha hb;subst ha hb;exact leaf 10 r2 (by decide) (takeM_sfx h4)
   | none =>
    simp only [h4] at h;cases h5:takeM [66] r with
    | some r2=>simp only [h5] at h;injection h with h;injection h with ha hb;subst ha hb;exact leaf 11 r2 (by decide) (takeM_sfx h5)
    | none=>simp only [h5] at h;cases h
  ·rw [if_neg h3] at h;cases h
theorem term_facts {pat:List Str→Nat→Res} {N:Nat} (hp:PatFacts pat N) {r r1:List Str} {d:Nat} {x:Rx} (h:termM pat r d=.ok (x,r1)) (ho:okC r) (hN:r.length≤N+1) (hN2:N≤200000):Fct 0 r x r1∧r1.length<r.length:=by
 unfold termM at h;cases he:edgeM r with
 | some y=>simp only [he] at h;injection h with h;subst h;exact edge_facts he
 | none =>
  simp only [he] at h;cases ha:atomM pat r d with
  | error e=>simp only [ha] at h;cases h
  | ok y =>
   obtain⟨z,r2⟩:=y;simp only [ha] at h;obtain⟨f1,f2,f3,f4,f5,f6⟩:=atom_facts hp ha ho hN hN2;rcases quant_facts h with⟨rfl,rfl⟩|⟨⟨lo,hi,lz,rfl⟩,q2,q3⟩
   ·exact⟨⟨f1,by omega,f3,f4⟩,f5⟩
   ·have c1:=sfx_count q2 [40]
    refine⟨⟨small_rep f1,?_,?_,q2.trans f4⟩,by omega⟩
    ·simp only [repR,Rx.parts,Rx.partsL];omega
    ·simp only [repR,Rx.groups,Rx.groupsL];simp;omega
theorem patL_facts {trm:List Str→Res} {N:Nat} (ht:∀(r:List Str) (x:Rx) (r1:List Str),r.length≤N→trm r=.ok (x,r1)→okC r→Fct 0 r x r1∧r1.length<r.length) (hN2:N≤200000) :
  ∀(n:Nat) (alts terms:List Rx) (r:List Str) {x:Rx} {r1:List Str},patL trm n alts terms r=.ok (x,r1)→okC r→r.length≤N→Rx.smallL alts→Rx.smallL terms→Rx.partsL alts+Rx.partsL terms+2*r.length≤450000 →
   x.small∧x.parts+2*r1.length≤2*r.length+(if alts=[] then 1+Rx.partsL terms else Rx.partsL alts+Rx.partsL terms+2)∧x.groups+r1.count [40]≤r.count [40]+Rx.groupsL alts+Rx.groupsL terms∧r1 <:+ r
 | 0,_,_,_,_,_,h,_,_,_,_,_=>by cases h
 | n+1,alts,terms,r,x,r1,h,ho,hr,ha,hm,hb=>by
  obtain⟨s1,s2,s3⟩:=seqR_facts hm (by omega);have hap:=smallL_app ha (show Rx.smallL [seqR terms] from⟨s1,trivial⟩);have hpp:Rx.partsL (alts++[seqR terms])=Rx.partsL alts+(seqR terms).parts:=by rw [partsL_app];simp only [Rx.partsL];omega
  have hgg:Rx.groupsL (alts++[seqR terms])=Rx.groupsL alts+(seqR terms).groups:=by rw [groupsL_app];simp only [Rx.groupsL];omega
  have fin:(altR (alts++[seqR terms])).small∧(altR (alts++[seqR terms])).parts≤(if alts=[] then 1+Rx.partsL terms else Rx.partsL alts+Rx.partsL terms+2)∧(altR (alts++[seqR terms])).groups≤Rx.groupsL alts+Rx.groupsL terms:=by
   by_cases hn:alts=[]
   ·subst hn
    obtain⟨o1,o2,o3⟩:=altR_one s1;rw [if_pos rfl];exact⟨o1,by show (altR [seqR terms]).parts≤_;omega,by show (altR [seqR terms]).groups≤_;simp only [Rx.groupsL];omega⟩
   ·rw [if_neg hn]
    obtain⟨o1,o2,o3⟩:=altR_facts hap (by omega);exact⟨o1,by omega,by omega⟩
  simp only [patL] at h;cases r with
  | nil =>
   simp only at h
   injection h with h;injection h with h1 h2;subst h1 h2
   exact⟨fin.1,by have:=fin.2.1;simp;omega,by have:=fin.2.2;simp;omega,List.suffix_refl _⟩
  | cons c r =>
   simp only at h
   simp only [List.length_cons] at hr hb;by_cases h1:c=[41]
   ·rw [if_pos h1] at h
    injection h with h;injection h with h2 h3;subst h2 h3
    exact⟨fin.1,by have:=fin.2.1;omega,by have:=fin.2.2;omega,List.suffix_refl _⟩
   rw [if_neg h1] at h;by_cases h2:c=[124]
   ·rw [if_pos h2] at h
    obtain⟨i1,i2,i3,i4⟩:=patL_facts ht hN2 n _ _ _ h ho.tail (by omega) hap trivial (by rw [hpp];simp only [Rx.partsL];omega);have c1:=sfx_count (List.suffix_cons c r) [40];rw [if_neg (by simp),hpp] at i2;rw [hgg] at i3;simp only [Rx.partsL,Rx.groupsL] at i2 i3;refine⟨i1,?_,by omega,sfx_cons i4⟩;simp only [List.length_cons];by_cases hn:alts=[]
    ·subst hn;rw [if_pos rfl];simp only [Rx.partsL] at i2;omega
    ·rw [if_neg hn];omega
   ·rw [if_neg h2] at h
    cases hx:trm (c::r) with
    | error e=>simp only [hx] at h;cases h
    | ok y =>
     obtain⟨z,r2⟩:=y;simp only [hx] at h;obtain⟨⟨f1,f2,f3,f4⟩,f5⟩:=ht _ _ _ (by simp;omega) hx ho;simp only [List.length_cons] at f2 f5;have hpt:Rx.partsL (terms++[z])=Rx.partsL terms+z.parts:=by rw [partsL_app];simp only [Rx.partsL];omega
     have hgt:Rx.groupsL (terms++[z])=Rx.groupsL terms+z.groups:=by rw [groupsL_app];simp only [Rx.groupsL];omega
     obtain⟨i1,i2,i3,i4⟩:=patL_facts ht hN2 n _ _ _ h (sfx_ok f4 ho) (by omega) ha (smallL_app hm ⟨f1,trivial⟩) (by rw [hpt];omega);rw [hpt] at i2;rw [hgt] at i3;refine⟨i1,?_,by omega,i4.trans f4⟩;simp only [List.length_cons];split at i2
     ·rename_i hn;rw [if_pos hn];omega
     ·rename_i hn;rw [if_neg hn];omega
theorem pat_facts:∀(n:Nat),PatFacts (patF n) 200000
 | 0=>fun r d x r1 _ h _=>by cases h
 | n+1=>fun r d x r1 hr h ho=>by
  have ih:=pat_facts n;have ht:∀(r:List Str) (x:Rx) (r1:List Str),r.length≤200000→termM (patF n) r d=.ok (x,r1)→okC r→Fct 0 r x r1∧r1.length<r.length:=fun r x r1 hr h ho=>term_facts ih h ho (by omega) (by omega)
  obtain⟨i1,i2,i3,i4⟩:=patL_facts ht (by omega) _ [] [] r h ho hr trivial trivial (by simp only [Rx.partsL];omega);rw [if_pos rfl] at i2;simp only [Rx.partsL,Rx.groupsL] at i2 i3;exact⟨i1,by omega,by omega,i4⟩
end Go.Proofs.YtbgcjpefocdkkaaGreat
set_option maxRecDepth 100000
namespace Go.Proofs.YtbgcjpefocdkkaaGreat
open Go.RowKit
def errOk (res:Res):Prop:=∀q,res=.error q→q≠0
theorem errOk_err {q:Int} (h:q≠0):errOk (.error q):=fun _ e=>by injection e with e;rw [←e];exact h
theorem errOk_ok (y:Rx × List Str):errOk (.ok y):=fun _ e=>by cases e
theorem esc_err (r:List Str):errOk (escM r):=by
 cases r with
 | nil=>exact errOk_err (by decide)
 | cons c r =>
  simp only [escM];cases namedS c with
  | some rows=>exact errOk_ok _
  | none =>
   cases bigS c with
   | some rows=>exact errOk_ok _
   | none =>
    cases plainM c with
    | none=>exact errOk_err (by decide)
    | some t=>exact errOk_ok _
theorem class_err (r:List Str):errOk (classM r):=by
 unfold classM;simp only
 generalize classL _ _ _=q
 cases q with
 | none=>exact errOk_err (by decide)
 | some y=>exact errOk_ok _
theorem quant_err (x:Rx) (r:List Str):errOk (quantM x r):=by
 cases r with
 | nil=>exact errOk_ok _
 | cons c r =>
  simp only [quantM];by_cases h1:c=[42]
  ·rw [if_pos h1];exact errOk_ok _
  rw [if_neg h1];by_cases h2:c=[43]
  ·rw [if_pos h2];exact errOk_ok _
  rw [if_neg h2];by_cases h3:c=[63]
  ·rw [if_pos h3];exact errOk_ok _
  rw [if_neg h3];by_cases h4:c=[123]
  ·rw [if_pos h4]
   cases boundsM r with
   | none=>exact errOk_err (by decide)
   | some y=>exact errOk_ok _
  ·rw [if_neg h4];exact errOk_ok _
theorem group_err {pat:List Str→Nat→Res} (hp:∀r d,errOk (pat r d)) (r:List Str) (d:Nat):errOk (groupM pat r d):=by
 unfold groupM;by_cases hd:16≤d
 ·rw [if_pos hd];exact errOk_err (by decide)
 rw [if_neg hd];cases groupK r with
 | none=>exact errOk_err (by decide)
 | some y =>
  simp only
  cases hx:pat y.2 (d+1) with
  | error e=>exact fun q hq=>hp _ _ _ (hx.trans hq)
  | ok z =>
   simp only
   cases takeM [41] z.2 with
   | none=>exact errOk_err (by decide)
   | some r=>exact errOk_ok _
theorem atom_err {pat:List Str→Nat→Res} (hp:∀r d,errOk (pat r d)) (r:List Str) (d:Nat):errOk (atomM pat r d):=by
 cases r with
 | nil=>exact errOk_err (by decide)
 | cons c r =>
  simp only [atomM];by_cases h1:c=[46]
  ·rw [if_pos h1];exact errOk_ok _
  rw [if_neg h1];by_cases h2:c=[40]
  ·rw [if_pos h2];exact group_err hp _ _
  rw [if_neg h2];by_cases h3:c=[91]
  ·rw [if_pos h3];exact class_err _
  rw [if_neg h3];by_cases h4:c=[92]
  ·rw [if_pos h4];exact esc_err _
  rw [if_neg h4];by_cases h5:noAtom c=true
  ·rw [if_pos h5];exact errOk_err (by decide)
  ·rw [if_neg h5];exact errOk_ok _
theorem term_err {pat:List Str→Nat→Res} (hp:∀r d,errOk (pat r d)) (r:List Str) (d:Nat):errOk (termM pat r d):=by
 unfold termM;cases edgeM r with
 | some y=>exact errOk_ok _
 | none =>
  simp only
  cases hx:atomM pat r d with
  | error e=>exact fun q hq=>atom_err hp _ _ _ (hx.trans hq)
  | ok y=>exact quant_err _ _
theorem patL_err {trm:List Str→Res} (ht:∀r,errOk (trm r)):∀(n:Nat) (alts terms:List Rx) (r:List Str),errOk (patL trm n alts terms r)
 | 0,_,_,_=>errOk_err (by decide)
 | n+1,alts,terms,[]=>errOk_ok _
 | n+1,alts,terms,c::r=>by
  simp only [patL];by_cases h1:c=[41]
  ·rw [if_pos h1];exact errOk_ok _
  rw [if_neg h1];by_cases h2:c=[124]
  ·rw [if_pos h2];exact patL_err ht n _ _ _
  rw [if_neg h2];cases hx:trm (c::r) with
  | error e=>exact fun q hq=>ht _ _ (hx.trans hq)
  | ok y=>exact patL_err ht n _ _ _
theorem pat_err:∀(n:Nat) (r:List Str) (d:Nat),errOk (patF n r d)
 | 0,_,_=>errOk_err (by decide)
 | n+1,r,d=>patL_err (fun r=>term_err (pat_err n) r d) _ _ _ _
def PatC (n:Nat):Prop:=∀(g d:Nat) (r:List Str) (w:World),Rd w g r d→r.length<n→d≤16 →
 Calls Tryz.prog 89 #[.pointer (some ⟨g,0,none⟩)] w fun e w'=>ResPost g d w.heap.size w (patF n r d) e w'
theorem RdT.setDeep {T:TypeId} {u:Value} {w:World} {g:Nat} {r:List Str} (h:RdT T [u] w g r) (v:Value):RdT T [v] (w.setCell ⟨g,2,none⟩ v) g r:=by
 obtain⟨a,c,l,i,h1,h2,h3⟩:=h;refine⟨a,c,l,i,?_,h2.keep (Kept.setLow _ fun b hb=>Nat.ne_of_lt hb),h3⟩;rw [heap_setCell_same w _ _ _ _ _ h1];rfl
theorem RdT.free2 {T:TypeId} {u:Value} {w:World} {g:Nat} {r:List Str} (h:RdT T [u] w g r):w.frozen? ⟨g,2,none⟩=false:=by
 obtain⟨a,c,l,i,h1,_⟩:=h;unfold World.frozen?;rw [h1];rfl
def set8 (w:World) (b:Nat) (u0 u1 u2 u3 u4 u5 u6 u7:Value):World :=
 (((((((w.setCell ⟨b,0,none⟩ u0).setCell ⟨b,1,none⟩ u1).setCell ⟨b,2,none⟩ u2).setCell ⟨b,3,none⟩ u3).setCell ⟨b,4,none⟩ u4).setCell ⟨b,5,none⟩ u5).setCell ⟨b,6,none⟩ u6).setCell ⟨b,7,none⟩ u7
theorem set8_kept {S:Nat→Prop} (w:World) (b:Nat) {u0 u1 u2 u3 u4 u5 u6 u7:Value} (hS:∀k,S k→k≠b):Kept S w (set8 w b u0 u1 u2 u3 u4 u5 u6 u7):=by
 have h:∀{w':World} (a:Addr) (u:Value),a.block=b→Kept S w w'→Kept S w (w'.setCell a u):=fun a u ha hk=>hk.trans (Kept.setLow u fun k hk=>by rw [ha];exact hS k hk)
 unfold set8;iterate 8 (refine h _ _ rfl ?_)
 exact⟨Nat.le_refl _,fun _ _ _=>rfl⟩
theorem set8_size (w:World) (b:Nat) {u0 u1 u2 u3 u4 u5 u6 u7:Value}:(set8 w b u0 u1 u2 u3 u4 u5 u6 u7).heap.size=w.heap.size:=by unfold set8;simp
theorem grown_set8 {w0 w:World} {row:Option Nat} {b:Nat} {u0 u1 u2 u3 u4 u5 u6 u7:Value} (h:w0.grownBy w row) (hb:w0.heap.size≤b):w0.grownBy (set8 w b u0 u1 u2 u3 u4 u5 u6 u7) row:=by
 unfold set8;iterate 8 (refine grown_setNew ?_ hb _)
 exact h
theorem RdT.set8 {T:TypeId} {x:List Value} {w:World} {g:Nat} {r:List Str} {b:Nat} {u0 u1 u2 u3 u4 u5 u6 u7:Value} (h:RdT T x w g r) (hb:g<b):RdT T x (set8 w b u0 u1 u2 u3 u4 u5 u6 u7) g r:=by
 unfold Go.Proofs.YtbgcjpefocdkkaaGreat.set8;iterate 8 (refine RdT.setHi ?_ hb _)
 exact h
theorem grown_alloc {w0 w:World} {row:Option Nat} (h:w0.grownBy w row) (o:Obj):w0.grownBy (w.alloc o) row:=grown_trans h (grown_of_below ((Below.refl _ _).alloc (Nat.le_refl _) _) _)
theorem set8_new (w:World) (b:Nat) {u0 u1 u2 u3 u4 u5 u6 u7:Value} {cs:Array Value} {t:TypeId}:((set8 w b u0 u1 u2 u3 u4 u5 u6 u7).alloc (.cells cs t)).heap[w.heap.size]?=some (.cells cs t (0,0)):=by
 have:=heap_alloc_new (set8 w b u0 u1 u2 u3 u4 u5 u6 u7) (.cells cs t)
 rw [set8_size] at this;exact this
set_option maxHeartbeats 1000000 in
theorem rgroup_any {n:Nat} (hp:PatC n) {g d:Nat} {r:List Str} (w:World) (h:Rd w g r d) (hl:r.length<n) (hd:d≤16) :
  Calls Tryz.prog 130 #[.pointer (some ⟨g,0,none⟩)] w fun e w'=>ResPost g d w.heap.size w (groupM (patF n) r d) e w':=by
 obtain⟨R,hR⟩:∃R,groupM (patF n) r d=R:=⟨_,rfl⟩;rw [hR];unfold groupM at hR;have HP:=Lib.hid hp;clear hp;by_cases hd16:16≤d
 ·rw [if_pos hd16] at hR
  have HR:=Lib.hid hR;clear hR;have c2:=(h.later ((Below.refl w.heap.size w).alloc (Nat.le_refl _) (.cells #[.int .i64 0,.string ⟨#[]⟩,.bool false,.slice none 0 0,.int .i64 0,.int .i64 0,.bool false,.slice none 0 0] 34))).cell2;have hd16':d=16:=by omega
  have hde:decide ((16:Int)≤(d:Int))=true:=by simp;omega
  obtain⟨w0,hw0⟩:∃w0,w0=w.alloc (.cells #[.int .i64 0,.string ⟨#[]⟩,.bool false,.slice none 0 0,.int .i64 0,.int .i64 0,.bool false,.slice none 0 0] 34):=⟨_,rfl⟩;obtain⟨hb0,hz0,hby0⟩:=alloc1 w hw0;have HRD:=Lib.hid (h.later hb0);rw [hw0] at HRD;have HW0:=Lib.hid hw0;have HBY0:=Lib.hid hby0;have hgg:w.grownBy w0 (some g):=grown_of_below hb0 _;have hgr:g<w.heap.size:=h.lt;clear hw0 hby0 h;have hby:=HBY0.out;rw [HW0.out] at hby hgg;obtain⟨f0,f1,f2,f3,f4,f5,f6,f7,f8⟩:=bx_cells (c:=[]) hby;clear hby hd16';go_enter Tryz.func130,Tryz.ntmps130
  go_wp2
  refine bodyPost_ret (v:=.tuple #[.agg #[.int .i64 0,.string ⟨([]).toArray⟩,.bool false,.slice none 0 0,.int .i64 0,.int .i64 0,.bool false,.slice none 0 0],.int .i64 8]) (by simp [results,Tryz.results130,go_sem,f0,f1,f2,f3,f4,f5,f6,f7]) rfl ?_;refine⟨?_,?_⟩
  ·iterate 0 (refine grown_setNew ?_ (by first|omega|(simp;done)|(simp;omega)) _)
   exact hgg
  ·rw [←HR.out]
   refine⟨rfl,?_⟩;iterate 0 (refine RdE.setHi ?_ (by first|omega|(simp;done)|(simp;omega)) _)
   exact⟨_,HRD.out⟩
 rw [if_neg hd16] at hR;cases h1:takeM [63] r with
 | none =>
  simp only [groupK,h1] at hR;have HR:=Lib.hid hR;have H1:=Lib.hid h1;clear hR h1;have c2:=(h.later ((Below.refl w.heap.size w).alloc (Nat.le_refl _) (.cells #[.int .i64 0,.string ⟨#[]⟩,.bool false,.slice none 0 0,.int .i64 0,.int .i64 0,.bool false,.slice none 0 0] 34))).cell2;obtain⟨w0,hw0⟩:∃w0,w0=w.alloc (.cells #[.int .i64 0,.string ⟨#[]⟩,.bool false,.slice none 0 0,.int .i64 0,.int .i64 0,.bool false,.slice none 0 0] 34):=⟨_,rfl⟩;obtain⟨hb0,hz0,hby0⟩:=alloc1 w hw0;have HRD:=Lib.hid (h.later hb0);rw [hw0] at HRD;have HW0:=Lib.hid hw0;have HBY0:=Lib.hid hby0;have hgg:w.grownBy w0 (some g):=grown_of_below hb0 _;have hgr:g<w.heap.size:=h.lt;clear hw0 hby0 h;go_enter Tryz.func130,Tryz.ntmps130
  go_wp2_with (go_at_call 134;refine(take_none _ HRD.out H1.out (by simp)).mono ?_)
  rintro e w1 ⟨rfl,hrd1,hq1⟩;rw [←HW0.out] at hq1;have hg1:=grown_trans hgg hq1;have HBY1:=Lib.hid (box_grown HBY0.out hq1 (by omega));have hz1:=hq1.size;have HRD1:=Lib.hid hrd1;clear hrd1 hq1 c2;have c2:=(HRD1.out).cell2;have hf2:=(HRD1.out).free2;have hrdd:Rd ((w1).setCell ⟨g,2,none⟩ (.int .i64 ((d:Int)+1))) g r (d+1):=(HRD1.out).setDeep _;have HRDD:=Lib.hid hrdd;have hgd:=grown_set hg1 2 (.int .i64 ((d:Int)+1));have hbyd:=box_other HBY1.out (a:=⟨g,2,none⟩) (by first|omega|(simp;done)|(simp;omega)) (.int .i64 ((d:Int)+1));have HBYD:=Lib.hid hbyd;have HPAT:=Lib.hid (HP.out g (d+1) r _ HRDD.out (by omega) (by omega));clear hrdd hbyd;go_wp2_with (go_at_call 89;refine HPAT.out.mono ?_)
  rintro e w5 hq;clear c2 hf2 HPAT;cases hpr:patF n r (d+1) with
  | error q =>
   rw [hpr] at hq;obtain⟨hq5,rfl,r9,hrd9⟩:=hq;have hq0:q≠0:=pat_err n r (d+1) q hpr;have HR2:Hid (Except.error q=R):=Lib.hid (by rw [←HR.out];simp only [hpr]);have HR:=HR2;have hg5:=grown_trans hgd hq5;have hby5:=box_grown HBYD.out hq5 (by omega);have hb6:Below w5.heap.size w5 (w5.alloc (.cells #[.int .i64 0,.string ⟨#[]⟩,.bool false,.slice none 0 0,.int .i64 0,.int .i64 0,.bool false,.slice none 0 0] 34)):=(Below.refl _ _).alloc (Nat.le_refl _) _;have hrd6:=hrd9.later hb6;have c6:=hrd6.cell2;have hf6:=hrd6.free2;have HRD7:=Lib.hid (hrd6.setDeep (.int .i64 (d:Int)));have hg7:=grown_set (grown_trans hg5 (grown_of_below hb6 (some g))) 2 (.int .i64 (d:Int));have ed:((d+1:Nat):Int)-1=d:=by omega
   have ne1:(q != 0)=true:=by simp [bne,hq0]
   obtain⟨f0,f1,f2,f3,f4,f5,f6,f7,f8⟩:=bx_cells (c:=[]) (box_other ((hb6.block _ (heap_lt hby5)).trans hby5) (a:=⟨g,2,none⟩) (by first|omega|(simp;done)|(simp;omega)) (.int .i64 (d:Int)));clear hpr hby5 hrd9 hrd6 hb6;unfold rxv0;go_wp2
   refine bodyPost_ret (v:=.tuple #[.agg #[.int .i64 0,.string ⟨([]).toArray⟩,.bool false,.slice none 0 0,.int .i64 0,.int .i64 0,.bool false,.slice none 0 0],.int .i64 q]) (by simp [results,Tryz.results130,go_sem,f0,f1,f2,f3,f4,f5,f6,f7]) rfl ?_;refine⟨?_,?_⟩
   ·iterate 8 (refine grown_setNew ?_ (by first|omega|(simp;done)|(simp;omega)) _)
    exact hg7
   ·rw [←HR.out]
    refine⟨rfl,?_⟩;iterate 8 (refine RdE.setHi ?_ (by first|omega|(simp;done)|(simp;omega)) _)
    exact⟨_,HRD7.out⟩
  | ok y =>
   obtain⟨x,r3⟩:=y;rw [hpr] at hq;obtain⟨hq5,cc,rfl,hxv,hrd5⟩:=hq;have hg5:=grown_trans hgd hq5;have hzd:=hgd.size;have hz5:=hq5.size;have hby5:=box_grown HBYD.out hq5 (by omega);have HBX5:=Lib.hid hby5;obtain⟨k,c,ng,rs,lo,hi,lz,ks⟩:=x;have hxv0:=hxv;obtain⟨ra,rc,ka,kc,rfl,hrs,hks⟩:=hxv.open_;clear hrs hks hxv hby5;have HXV:=Lib.hid (hxv0.mono (S':=fun b=>w.heap.size≤b∧b≠w.heap.size) fun b hb hlt=>by have:=hgd.size;simp only [World.size_setCell] at hb;constructor<;>omega);clear hxv0;unfold rxc at HXV ⊢;obtain⟨w6,hw6⟩:∃w6,w6=(w5.alloc (.cells #[.int .i64 k,.string ⟨(c).toArray⟩,.bool ng,.slice ra rs.length rc,.int .i64 lo,.int .i64 hi,.bool lz,.slice ka ks.length kc] 34)).setCell ⟨g,2,none⟩ (.int .i64 (d:Int)):=⟨_,rfl⟩;have hb6:Below w5.heap.size w5 (w5.alloc (.cells #[.int .i64 k,.string ⟨(c).toArray⟩,.bool ng,.slice ra rs.length rc,.int .i64 lo,.int .i64 hi,.bool lz,.slice ka ks.length kc] 34)):=(Below.refl _ _).alloc (Nat.le_refl _) _;have hrd6:=hrd5.later hb6;have c6:=hrd6.cell2;have hf6:=hrd6.free2;have hrd7:Rd w6 g r3 d:=hw6▸hrd6.setDeep (.int .i64 (d:Int));have hg7:w.grownBy w6 (some g):=hw6▸grown_set (grown_trans hg5 (grown_of_below hb6 (some g))) 2 (.int .i64 (d:Int));have hby7:w6.heap[w.heap.size]?=some (.cells #[.int .i64 0,.string ⟨#[]⟩,.bool false,.slice none 0 0,.int .i64 0,.int .i64 0,.bool false,.slice none 0 0] 34 (0,0)):=hw6▸box_other ((hb6.block _ (heap_lt HBX5.out)).trans HBX5.out) (a:=⟨g,2,none⟩) (by first|omega|(simp;done)|(simp;omega)) (.int .i64 (d:Int));have hbz7:w6.heap[w5.heap.size]?=some (.cells #[.int .i64 k,.string ⟨(c).toArray⟩,.bool ng,.slice ra rs.length rc,.int .i64 lo,.int .i64 hi,.bool lz,.slice ka ks.length kc] 34 (0,0)):=hw6▸box_other (heap_alloc_new w5 _) (a:=⟨g,2,none⟩) (by first|omega|(simp;done)|(simp;omega)) (.int .i64 (d:Int));have hxv7:RxV w6 (fun b=>w.heap.size≤b∧b≠w.heap.size) _ _:=hw6▸(HXV.out.later hb6).keep (Kept.setLow (a:=⟨g,2,none⟩) (.int .i64 (d:Int)) (fun b hb=>by have:w.heap.size≤b∧b≠w.heap.size:=hb;first|omega|(simp;done)|(simp;omega)));have HRD7:=Lib.hid hrd7;have HBY7:=Lib.hid hby7;have HBZ7:=Lib.hid hbz7;have HXV7:=Lib.hid hxv7;have hz7:w5.heap.size+1≤w6.heap.size:=by rw [hw6];simp
   have ed:((d+1:Nat):Int)-1=d:=by omega
   clear hrd5 hrd6 hrd7 hby7 hbz7 hxv7 HXV HBX5 hb6;cases ht:takeM [41] r3 with
   | none =>
    have HR2:Hid (Except.error 10=R):=Lib.hid (by rw [←HR.out];simp only [hpr,ht]);have HR:=HR2;have HT:=Lib.hid ht;have HRD8:=HRD7;rw [hw6] at HRD8;have HW6:=Lib.hid hw6;clear hpr ht hw6;go_wp2_with (go_at_call 134;refine(take_none _ HRD8.out HT.out (by simp)).mono ?_)
    rintro e w9 ⟨rfl,hrd9,hq9⟩;rw [←HW6.out] at hq9;have hg9:=grown_trans hg7 hq9;have HRD9:=Lib.hid hrd9;obtain⟨f0,f1,f2,f3,f4,f5,f6,f7,f8⟩:=bx_cells (c:=[]) (box_grown HBY7.out hq9 (by omega));clear hrd9 hq9 c6 hf6;go_wp2
    refine bodyPost_ret (v:=.tuple #[.agg #[.int .i64 0,.string ⟨([]).toArray⟩,.bool false,.slice none 0 0,.int .i64 0,.int .i64 0,.bool false,.slice none 0 0],.int .i64 10]) (by simp [results,Tryz.results130,go_sem,f0,f1,f2,f3,f4,f5,f6,f7]) rfl ?_;refine⟨?_,?_⟩
    ·iterate 8 (refine grown_setNew ?_ (by first|omega|(simp;done)|(simp;omega)) _)
     exact hg9
    ·rw [←HR.out]
     refine⟨rfl,?_⟩;iterate 8 (refine RdE.setHi ?_ (by first|omega|(simp;done)|(simp;omega)) _)
     exact⟨_,HRD9.out⟩
   | some r4 =>
    have HR2:Hid (Except.ok (grpR 5 (.mk k c ng rs lo hi lz ks),r4)=R):=Lib.hid (by rw [←HR.out];simp only [hpr,ht]);have HR:=HR2;have HT:=Lib.hid ht;have HRD8:=HRD7;rw [hw6] at HRD8;have HW6:=Lib.hid hw6;clear hpr ht hw6;go_wp2_with (go_at_call 134;refine(take_some _ HRD8.out HT.out).mono ?_)
    rintro e w9 ⟨rfl,hrd9,hq9⟩;rw [←HW6.out] at hq9;have hg9:=grown_trans hg7 hq9;have hz9:=hq9.size;have hne9:w.heap.size≠w9.heap.size:=by omega
    have hlt9:w.heap.size<w9.heap.size:=by omega
    have hby9:=box_grown HBY7.out hq9 (by omega);have HRD9:=Lib.hid hrd9;obtain⟨f0,f1,f2,f3,f4,f5,f6,f7,f8⟩:=bx_cells (c:=[]) hby9;obtain⟨e0,e1,e2,e3,e4,e5,e6,e7,e8⟩:=bx_cells (box_grown HBZ7.out hq9 (by omega));have HXV9:=Lib.hid (HXV7.out.keep (Kept.grown hq9 fun b hb=>by have:w.heap.size≤b∧b≠w.heap.size:=hb;omega));clear hrd9 hq9 c6 hf6 hby9;go_wp2
    refine bodyPost_ret (v:=.tuple #[.agg #[.int .i64 5,.string ⟨#[]⟩,.bool false,.slice none 0 0,.int .i64 0,.int .i64 0,.bool false,.slice (some ⟨w9.heap.size,0,none⟩) 1 1],.int .i64 0]) (by simp [results,Tryz.results130,go_sem,f0,f1,f2,f3,f4,f5,f6,f7,hlt9]) rfl ?_;refine⟨grown_alloc (grown_set8 hg9 (Nat.le_refl _)) _,?_⟩;rw [←HR.out];refine⟨rxc 5 [] false none ([]:List Row).length 0 0 0 false (some ⟨w9.heap.size,0,none⟩) [Rx.mk k c ng rs lo hi lz ks].length 1,rfl,RxV.mono (S:=fun b=>w.heap.size≤b∧b≠w.heap.size) (fun b hb _=>hb.1) (RxV.close (SlS.none_ _ _ _ _) (RxSl.one ((HXV9.out.keep (set8_kept w9 w.heap.size fun b hb=>hb.2)).later ((Below.refl _ _).alloc (Nat.le_refl _) _)) (set8_new w9 w.heap.size) ⟨by omega,by omega⟩)),?_⟩;exact(HRD9.out.set8 hgr).later ((Below.refl _ _).alloc (Nat.le_refl _) _)
 | some r1 =>
  cases h2:takeM [58] r1 with
  | none =>
   simp only [groupK,h1,h2] at hR;have HR:=Lib.hid hR;have H1:=Lib.hid h1;have H2:=Lib.hid h2;clear hR h1 h2;have c2:=(h.later ((Below.refl w.heap.size w).alloc (Nat.le_refl _) (.cells #[.int .i64 0,.string ⟨#[]⟩,.bool false,.slice none 0 0,.int .i64 0,.int .i64 0,.bool false,.slice none 0 0] 34))).cell2;obtain⟨w0,hw0⟩:∃w0,w0=w.alloc (.cells #[.int .i64 0,.string ⟨#[]⟩,.bool false,.slice none 0 0,.int .i64 0,.int .i64 0,.bool false,.slice none 0 0] 34):=⟨_,rfl⟩;obtain⟨hb0,hz0,hby0⟩:=alloc1 w hw0;have HRD:=Lib.hid (h.later hb0);rw [hw0] at HRD;have HW0:=Lib.hid hw0;have HBY0:=Lib.hid hby0;have hgg:w.grownBy w0 (some g):=grown_of_below hb0 _;have hgr:g<w.heap.size:=h.lt;clear hw0 hby0 h;go_enter Tryz.func130,Tryz.ntmps130
   go_wp2_with (go_at_call 134;refine(take_some _ HRD.out H1.out).mono ?_)
   rintro e w1 ⟨rfl,hrd1,hq1⟩;rw [←HW0.out] at hq1;have hg1:=grown_trans hgg hq1;have HBY1:=Lib.hid (box_grown HBY0.out hq1 (by omega));have HRD1:=Lib.hid hrd1;clear hrd1 hq1 c2;go_wp2_with (go_at_call 134;refine(take_none _ HRD1.out H2.out (by simp)).mono ?_)
   rintro e w2 ⟨rfl,hrd2,hq2⟩;have hg2:=grown_trans hg1 hq2;have HRD2:=Lib.hid hrd2;obtain⟨f0,f1,f2,f3,f4,f5,f6,f7,f8⟩:=bx_cells (c:=[]) (box_grown HBY1.out hq2 (by omega));clear hrd2 hq2;go_wp2
   refine bodyPost_ret (v:=.tuple #[.agg #[.int .i64 0,.string ⟨([]).toArray⟩,.bool false,.slice none 0 0,.int .i64 0,.int .i64 0,.bool false,.slice none 0 0],.int .i64 10]) (by simp [results,Tryz.results130,go_sem,f0,f1,f2,f3,f4,f5,f6,f7]) rfl ?_;refine⟨?_,?_⟩
   ·iterate 8 (refine grown_setNew ?_ (by first|omega|(simp;done)|(simp;omega)) _)
    exact hg2
   ·rw [←HR.out]
    refine⟨rfl,?_⟩;iterate 8 (refine RdE.setHi ?_ (by first|omega|(simp;done)|(simp;omega)) _)
    exact⟨_,HRD2.out⟩
  | some r2 =>
   simp only [groupK,h1,h2] at hR;have HR:=Lib.hid hR;have H1:=Lib.hid h1;have H2:=Lib.hid h2;have hl2:r2.length<n:=by
    have e1:=takeM_some h1;have e2:=takeM_some h2;subst e1 e2;simp at hl;omega
   clear hR h1 h2 hl;have c2:=(h.later ((Below.refl w.heap.size w).alloc (Nat.le_refl _) (.cells #[.int .i64 0,.string ⟨#[]⟩,.bool false,.slice none 0 0,.int .i64 0,.int .i64 0,.bool false,.slice none 0 0] 34))).cell2;obtain⟨w0,hw0⟩:∃w0,w0=w.alloc (.cells #[.int .i64 0,.string ⟨#[]⟩,.bool false,.slice none 0 0,.int .i64 0,.int .i64 0,.bool false,.slice none 0 0] 34):=⟨_,rfl⟩;obtain⟨hb0,hz0,hby0⟩:=alloc1 w hw0;have HRD:=Lib.hid (h.later hb0);rw [hw0] at HRD;have HW0:=Lib.hid hw0;have HBY0:=Lib.hid hby0;have hgg:w.grownBy w0 (some g):=grown_of_below hb0 _;have hgr:g<w.heap.size:=h.lt;clear hw0 hby0 h;go_enter Tryz.func130,Tryz.ntmps130
   go_wp2_with (go_at_call 134;refine(take_some _ HRD.out H1.out).mono ?_)
   rintro e w1 ⟨rfl,hrd1,hq1⟩;rw [←HW0.out] at hq1;have hg1:=grown_trans hgg hq1;have HBY1:=Lib.hid (box_grown HBY0.out hq1 (by omega));have hz1:=hq1.size;have HRD1:=Lib.hid hrd1;clear hrd1 hq1 c2;go_wp2_with (go_at_call 134;refine(take_some _ HRD1.out H2.out).mono ?_)
   rintro e w2 ⟨rfl,hrd2,hq2⟩;have hg2:=grown_trans hg1 hq2;have HBY2:=Lib.hid (box_grown HBY1.out hq2 (by omega));have hz2:=hq2.size;have HRD2:=Lib.hid hrd2;clear hrd2 hq2;have c2:=(HRD2.out).cell2;have hf2:=(HRD2.out).free2;have hrdd:Rd ((w2).setCell ⟨g,2,none⟩ (.int .i64 ((d:Int)+1))) g r2 (d+1):=(HRD2.out).setDeep _;have HRDD:=Lib.hid hrdd;have hgd:=grown_set hg2 2 (.int .i64 ((d:Int)+1));have hbyd:=box_other HBY2.out (a:=⟨g,2,none⟩) (by first|omega|(simp;done)|(simp;omega)) (.int .i64 ((d:Int)+1));have HBYD:=Lib.hid hbyd;have HPAT:=Lib.hid (HP.out g (d+1) r2 _ HRDD.out (by omega) (by omega));clear hrdd hbyd;go_wp2_with (go_at_call 89;refine HPAT.out.mono ?_)
   rintro e w5 hq;clear c2 hf2 HPAT;cases hpr:patF n r2 (d+1) with
   | error q =>
    rw [hpr] at hq;obtain⟨hq5,rfl,r9,hrd9⟩:=hq;have hq0:q≠0:=pat_err n r2 (d+1) q hpr;have HR2:Hid (Except.error q=R):=Lib.hid (by rw [←HR.out];simp only [hpr]);have HR:=HR2;have hg5:=grown_trans hgd hq5;have hby5:=box_grown HBYD.out hq5 (by omega);have hb6:Below w5.heap.size w5 (w5.alloc (.cells #[.int .i64 0,.string ⟨#[]⟩,.bool false,.slice none 0 0,.int .i64 0,.int .i64 0,.bool false,.slice none 0 0] 34)):=(Below.refl _ _).alloc (Nat.le_refl _) _;have hrd6:=hrd9.later hb6;have c6:=hrd6.cell2;have hf6:=hrd6.free2;have HRD7:=Lib.hid (hrd6.setDeep (.int .i64 (d:Int)));have hg7:=grown_set (grown_trans hg5 (grown_of_below hb6 (some g))) 2 (.int .i64 (d:Int));have ed:((d+1:Nat):Int)-1=d:=by omega
    have ne1:(q != 0)=true:=by simp [bne,hq0]
    obtain⟨f0,f1,f2,f3,f4,f5,f6,f7,f8⟩:=bx_cells (c:=[]) (box_other ((hb6.block _ (heap_lt hby5)).trans hby5) (a:=⟨g,2,none⟩) (by first|omega|(simp;done)|(simp;omega)) (.int .i64 (d:Int)));clear hpr hby5 hrd9 hrd6 hb6;unfold rxv0;go_wp2
    refine bodyPost_ret (v:=.tuple #[.agg #[.int .i64 0,.string ⟨([]).toArray⟩,.bool false,.slice none 0 0,.int .i64 0,.int .i64 0,.bool false,.slice none 0 0],.int .i64 q]) (by simp [results,Tryz.results130,go_sem,f0,f1,f2,f3,f4,f5,f6,f7]) rfl ?_;refine⟨?_,?_⟩
    ·iterate 8 (refine grown_setNew ?_ (by first|omega|(simp;done)|(simp;omega)) _)
     exact hg7
    ·rw [←HR.out]
     refine⟨rfl,?_⟩;iterate 8 (refine RdE.setHi ?_ (by first|omega|(simp;done)|(simp;omega)) _)
     exact⟨_,HRD7.out⟩
   | ok y =>
    obtain⟨x,r3⟩:=y;rw [hpr] at hq;obtain⟨hq5,cc,rfl,hxv,hrd5⟩:=hq;have hg5:=grown_trans hgd hq5;have hzd:=hgd.size;have hz5:=hq5.size;have hby5:=box_grown HBYD.out hq5 (by omega);have HBX5:=Lib.hid hby5;obtain⟨k,c,ng,rs,lo,hi,lz,ks⟩:=x;have hxv0:=hxv;obtain⟨ra,rc,ka,kc,rfl,hrs,hks⟩:=hxv.open_;clear hrs hks hxv hby5;have HXV:=Lib.hid (hxv0.mono (S':=fun b=>w.heap.size≤b∧b≠w.heap.size) fun b hb hlt=>by have:=hgd.size;simp only [World.size_setCell] at hb;constructor<;>omega);clear hxv0;unfold rxc at HXV ⊢;obtain⟨w6,hw6⟩:∃w6,w6=(w5.alloc (.cells #[.int .i64 k,.string ⟨(c).toArray⟩,.bool ng,.slice ra rs.length rc,.int .i64 lo,.int .i64 hi,.bool lz,.slice ka ks.length kc] 34)).setCell ⟨g,2,none⟩ (.int .i64 (d:Int)):=⟨_,rfl⟩;have hb6:Below w5.heap.size w5 (w5.alloc (.cells #[.int .i64 k,.string ⟨(c).toArray⟩,.bool ng,.slice ra rs.length rc,.int .i64 lo,.int .i64 hi,.bool lz,.slice ka ks.length kc] 34)):=(Below.refl _ _).alloc (Nat.le_refl _) _;have hrd6:=hrd5.later hb6;have c6:=hrd6.cell2;have hf6:=hrd6.free2;have hrd7:Rd w6 g r3 d:=hw6▸hrd6.setDeep (.int .i64 (d:Int));have hg7:w.grownBy w6 (some g):=hw6▸grown_set (grown_trans hg5 (grown_of_below hb6 (some g))) 2 (.int .i64 (d:Int));have hby7:w6.heap[w.heap.size]?=some (.cells #[.int .i64 0,.string ⟨#[]⟩,.bool false,.slice none 0 0,.int .i64 0,.int .i64 0,.bool false,.slice none 0 0] 34 (0,0)):=hw6▸box_other ((hb6.block _ (heap_lt HBX5.out)).trans HBX5.out) (a:=⟨g,2,none⟩) (by first|omega|(simp;done)|(simp;omega)) (.int .i64 (d:Int));have hbz7:w6.heap[w5.heap.size]?=some (.cells #[.int .i64 k,.string ⟨(c).toArray⟩,.bool ng,.slice ra rs.length rc,.int .i64 lo,.int .i64 hi,.bool lz,.slice ka ks.length kc] 34 (0,0)):=hw6▸box_other (heap_alloc_new w5 _) (a:=⟨g,2,none⟩) (by first|omega|(simp;done)|(simp;omega)) (.int .i64 (d:Int));have hxv7:RxV w6 (fun b=>w.heap.size≤b∧b≠w.heap.size) _ _:=hw6▸(HXV.out.later hb6).keep (Kept.setLow (a:=⟨g,2,none⟩) (.int .i64 (d:Int)) (fun b hb=>by have:w.heap.size≤b∧b≠w.heap.size:=hb;first|omega|(simp;done)|(simp;omega)));have HRD7:=Lib.hid hrd7;have HBY7:=Lib.hid hby7;have HBZ7:=Lib.hid hbz7;have HXV7:=Lib.hid hxv7;have hz7:w5.heap.size+1≤w6.heap.size:=by rw [hw6];simp
    have ed:((d+1:Nat):Int)-1=d:=by omega
    clear hrd5 hrd6 hrd7 hby7 hbz7 hxv7 HXV HBX5 hb6;cases ht:takeM [41] r3 with
    | none =>
     have HR2:Hid (Except.error 10=R):=Lib.hid (by rw [←HR.out];simp only [hpr,ht]);have HR:=HR2;have HT:=Lib.hid ht;have HRD8:=HRD7;rw [hw6] at HRD8;have HW6:=Lib.hid hw6;clear hpr ht hw6;go_wp2_with (go_at_call 134;refine(take_none _ HRD8.out HT.out (by simp)).mono ?_)
     rintro e w9 ⟨rfl,hrd9,hq9⟩;rw [←HW6.out] at hq9;have hg9:=grown_trans hg7 hq9;have HRD9:=Lib.hid hrd9;obtain⟨f0,f1,f2,f3,f4,f5,f6,f7,f8⟩:=bx_cells (c:=[]) (box_grown HBY7.out hq9 (by omega));clear hrd9 hq9 c6 hf6;go_wp2
     refine bodyPost_ret (v:=.tuple #[.agg #[.int .i64 0,.string ⟨([]).toArray⟩,.bool false,.slice none 0 0,.int .i64 0,.int .i64 0,.bool false,.slice none 0 0],.int .i64 10]) (by simp [results,Tryz.results130,go_sem,f0,f1,f2,f3,f4,f5,f6,f7]) rfl ?_;refine⟨?_,?_⟩
     ·iterate 8 (refine grown_setNew ?_ (by first|omega|(simp;done)|(simp;omega)) _)
      exact hg9
     ·rw [←HR.out]
      refine⟨rfl,?_⟩;iterate 8 (refine RdE.setHi ?_ (by first|omega|(simp;done)|(simp;omega)) _)
      exact⟨_,HRD9.out⟩
    | some r4 =>
     have HR2:Hid (Except.ok (grpR 6 (.mk k c ng rs lo hi lz ks),r4)=R):=Lib.hid (by rw [←HR.out];simp only [hpr,ht]);have HR:=HR2;have HT:=Lib.hid ht;have HRD8:=HRD7;rw [hw6] at HRD8;have HW6:=Lib.hid hw6;clear hpr ht hw6;go_wp2_with (go_at_call 134;refine(take_some _ HRD8.out HT.out).mono ?_)
     rintro e w9 ⟨rfl,hrd9,hq9⟩;rw [←HW6.out] at hq9;have hg9:=grown_trans hg7 hq9;have hz9:=hq9.size;have hne9:w.heap.size≠w9.heap.size:=by omega
     have hlt9:w.heap.size<w9.heap.size:=by omega
     have hby9:=box_grown HBY7.out hq9 (by omega);have HRD9:=Lib.hid hrd9;obtain⟨f0,f1,f2,f3,f4,f5,f6,f7,f8⟩:=bx_cells (c:=[]) hby9;obtain⟨e0,e1,e2,e3,e4,e5,e6,e7,e8⟩:=bx_cells (box_grown HBZ7.out hq9 (by omega));have HXV9:=Lib.hid (HXV7.out.keep (Kept.grown hq9 fun b hb=>by have:w.heap.size≤b∧b≠w.heap.size:=hb;omega));clear hrd9 hq9 c6 hf6 hby9;go_wp2
     refine bodyPost_ret (v:=.tuple #[.agg #[.int .i64 6,.string ⟨#[]⟩,.bool false,.slice none 0 0,.int .i64 0,.int .i64 0,.bool false,.slice (some ⟨w9.heap.size,0,none⟩) 1 1],.int .i64 0]) (by simp [results,Tryz.results130,go_sem,f0,f1,f2,f3,f4,f5,f6,f7,hlt9]) rfl ?_;refine⟨grown_alloc (grown_set8 hg9 (Nat.le_refl _)) _,?_⟩;rw [←HR.out];refine⟨rxc 6 [] false none ([]:List Row).length 0 0 0 false (some ⟨w9.heap.size,0,none⟩) [Rx.mk k c ng rs lo hi lz ks].length 1,rfl,RxV.mono (S:=fun b=>w.heap.size≤b∧b≠w.heap.size) (fun b hb _=>hb.1) (RxV.close (SlS.none_ _ _ _ _) (RxSl.one ((HXV9.out.keep (set8_kept w9 w.heap.size fun b hb=>hb.2)).later ((Below.refl _ _).alloc (Nat.le_refl _) _)) (set8_new w9 w.heap.size) ⟨by omega,by omega⟩)),?_⟩;exact(HRD9.out.set8 hgr).later ((Below.refl _ _).alloc (Nat.le_refl _) _)
end Go.Proofs.YtbgcjpefocdkkaaGreat
