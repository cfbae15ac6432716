/- walk of snode.Deep -/
import Derived.Test.YtbgcjpefocdkkaaSx1
import Derived.Test.YtbgcjpefocdkkaaSx2
import Derived.Test.YtbgcjpefocdkkaaSx3
import Derived.Test.YtbgcjpefocdkkaaSx4
import Derived.Test.YtbgcjpefocdkkaaSx5
import Derived.Test.YtbgcjpefocdkkaaSx6
import Derived.Test.YtbgcjpefocdkkaaSx7
import Derived.Test.YtbgcjpefocdkkaaSx8
import Derived.Test.YtbgcjpefocdkkaaSx9
import Derived.Test.YtbgcjpefocdkkaaSx10
import Derived.Test.YtbgcjpefocdkkaaSx11
import Derived.Test.YtbgcjpefocdkkaaSx12
import Derived.Lib.ItoaMem
import Derived.Test.YtbgcjpefocdkkaaSx13
import Derived.Test.YtbgcjpefocdkkaaSx14
import Derived.Test.YtbgcjpefocdkkaaSx15
import Derived.Test.YtbgcjpefocdkkaaSx16
import Derived.Test.YtbgcjpefocdkkaaSx17
import Derived.Test.YtbgcjpefocdkkaaSx18
import Derived.Test.YtbgcjpefocdkkaaSx19
import Derived.Test.YtbgcjpefocdkkaaSx20
import Derived.Test.YtbgcjpefocdkkaaSx26
import Derived.Test.YtbgcjpefocdkkaaSx21
import Derived.Test.YtbgcjpefocdkkaaSx22
import Derived.Test.YtbgcjpefocdkkaaSx23
import Derived.Test.YtbgcjpefocdkkaaSx24
import Derived.Test.YtbgcjpefocdkkaaSx25
set_option maxRecDepth 100000
namespace Go.Proofs.Ytbgcjpefocdkkaa
open Go.RowKit
def DpRel (ks:List Sn) (R:Nat) (w:World) (t q:Value) (wr:World):Prop :=
 ∃(k d:Nat),q=.int .i64 k∧t=.int .i64 d∧k≤ks.length∧d≤100000000∧Below w.heap.size w wr∧Hid (max d (Sn.deepL (ks.drop k))=R)
theorem sdeep_parts:∀(N:Nat) (x:Sn),x.parts≤N→x.deep≤x.parts
 | 0,x,h=>by have:=Sn.parts_pos x;omega
 | N+1,.mk k t n hh u f o ks,h=>by
  have key:∀l:List Sn,Sn.partsL l≤N→Sn.deepL l≤Sn.partsL l:=by
   intro l;induction l with
   | nil=>intro _;simp [Sn.deepL]
   | cons y r ih =>
    intro hl;simp only [Sn.partsL] at hl;have h1:=sdeep_parts N y (by omega);have h2:=ih (by omega);simp only [Sn.deepL,Sn.partsL];omega
  simp only [Sn.parts] at h;have:=key ks (by omega)
  simp only [Sn.deep,Sn.parts];split<;>omega
theorem deepLS_parts:∀l:List Sn,Sn.deepL l≤Sn.partsL l
 | []=>by simp [Sn.deepL]
 | x::r=>by have:=sdeep_parts _ x (Nat.le_refl _);have:=deepLS_parts r;simp only [Sn.deepL,Sn.partsL];omega
set_option maxHeartbeats 1000000 in
theorem SDeep_any (S:Nat→Prop):∀(N:Nat) (ks:List Sn),Sn.partsL ks<N→Sn.partsL ks≤1000000→∀(a:Option Addr) (c:Nat) (w:World),SnSl w S a ks.length ks →
  Calls Try.prog 12 #[.slice a ks.length c] w fun e w'=>e=.returned (.int .i64 (Sn.deepL ks))∧Below w.heap.size w w'
 | 0,ks,h,_,_,_,_,_=>by omega
 | N+1,ks,h,hm,a,c,w,hx=>by
  have hlen:=Sn.len_parts ks;have hdl:=deepLS_parts ks;have ih:=fun(y:Sn) (hy:y.parts≤Sn.partsL ks)=>SDeep_any S N y.kids (by obtain⟨_,_,_,_,_,_,_,l⟩:=y;simp only [Sn.parts] at hy;simp only [Sn.kids];omega) (by obtain⟨_,_,_,_,_,_,_,l⟩:=y;simp only [Sn.parts] at hy;simp only [Sn.kids];omega)
  have IH:=Lib.hid ih;have HX:=Lib.hid hx;obtain⟨R,hR⟩:∃R,Sn.deepL ks=R:=⟨_,rfl⟩;have HR0:Hid (max 0 (Sn.deepL (ks.drop 0))=R):=Lib.hid (by simpa using hR);have hR6:R≤1000000:=by omega
  rw [hR];clear hR hx ih hdl;go_enter Try.func12,Try.ntmps12
  go_wp2
  go_loopw [3,9] (fun t q wr=>DpRel ks R w t q wr) (fun _ q _=>ks.length-(intOf q).toNat)
  case atStart=>exact⟨0,0,rfl,rfl,by omega,by omega,Below.refl _ _,HR0⟩
  case round =>
   obtain⟨i,d,rfl,rfl,hi,hd9,hb,HF⟩:=hrel;clear HR0;have hB:=hb.size;cases hd:ks.drop i with
   | nil =>
    have h2:ks.length≤i:=by simpa using hd
    have HE:Hid (d=R):=Lib.hid (by rw [←HF.out,hd];simp [Sn.deepL]);clear hd HF;go_wp2
    go_ret
    exact⟨ret_int (by have:=HE.out;omega),hb⟩
   | cons y r =>
    obtain⟨h2,h3,hr⟩:=ldrop_cons hd;obtain⟨yk,yt,yn,yh,yu,yf,yo,ys⟩:=y;have hyp:=Sn.parts_mem (List.mem_of_getElem? h3);obtain⟨b,o,cc,rfl,hS,hbB,hyv,hcc⟩:=(HX.out.later hb).at_ h3;have hrg:wr.rangeAt b (o+i*18) cc:=fun j v hj=>by rw [Nat.add_assoc];exact hcc j v hj
    have hcl:=hyv.len;obtain⟨fc,oa,oc,ka,kc,hA⟩:=hyv.at_;have Hr:=Lib.hid hr;have HE:Hid (max d (max (Sn.deepL ys+(if yh then 1 else 0)) (Sn.deepL r))=R):=Lib.hid (by rw [←HF.out,hd];rfl);obtain⟨W5,hW5⟩:∃W5,W5=wr.alloc (.cells cc.toArray 36):=⟨_,rfl⟩;have HW5:Hid ((wr.alloc (.cells #[.int .i64 0,.string ⟨#[]⟩,.int .i64 0,.bool false,.bool false,.int .i64 0,.string ⟨#[]⟩,.bool false,.slice none 0 0,.int .i64 0,.int .i64 0,.bool false,.slice none 0 0,.slice none 0 0,.bool false,.bool false,.slice none 0 0,.slice none 0 0] 36)).setRow wr.heap.size cc.toArray=W5):=Lib.hid (by rw [hW5];exact World.setRow_alloc_new _ _ _ _);have hb5:Below wr.heap.size wr W5:=by rw [hW5];exact(Below.refl _ _).alloc (Nat.le_refl _) _
    have HBX:Hid (W5.heap[wr.heap.size]?=some (.cells cc.toArray 36 (0,0))):=Lib.hid (by rw [hW5];exact heap_alloc_new _ _);have HIH:Hid (Calls Try.prog 12 #[.slice ka ys.length kc] W5 fun e w'=>e=.returned (.int .i64 (Sn.deepL ys))∧Below W5.heap.size W5 w'):=Lib.hid (IH.out _ hyp ka kc W5 (hA.kv.later hb5));obtain⟨_,_,_,k3,_,_,k17,_⟩:=hA.box HBX.out;have HA:=Lib.hid hA;have HONE:Hid (∀u∈cc.toArray.toList,u.oneCell'=true):=Lib.hid (fun u hu=>hyv.one u (by simpa using hu));have hle:max d (Sn.deepL ys+(if yh then 1 else 0))≤R:=by have:=HE.out;omega
    clear hd HF hr h3 hyv hcc hW5 hA;cases yh with
    | true =>
     simp only [if_true] at hle;go_wp2_with (first
      | (refine wpList_ldW rfl 36 (.tmp 11) rfl b (o+i*18) rfl cc _ hrg snip_under rfl (by rw [snip_size,hcl]) ?_)
      | (refine wpList_stW rfl 36 (.tmp 5) (.tmp 12) rfl (wr.heap.size) (cc.toArray) rfl rfl 36 (#[.int .i64 0,.string ⟨#[]⟩,.int .i64 0,.bool false,.bool false,.int .i64 0,.string ⟨#[]⟩,.bool false,.slice none 0 0,.int .i64 0,.int .i64 0,.bool false,.slice none 0 0,.slice none 0 0,.bool false,.bool false,.slice none 0 0,.slice none 0 0]) (heap_alloc_new wr _) (snip_size) (by simp [hcl]) rfl (HONE.out) (W:=W5) (HW5.out) ?_)
      | (go_at_call 12;refine HIH.out.mono ?_;rintro e w1 ⟨rfl,hb1⟩;have hx1:=(hb1.block _ (heap_lt HBX.out)).trans HBX.out;obtain⟨_,_,_,k31,_,_,_,_⟩:=HA.out.box hx1))
     go_roundw
     case rel=>exact⟨i+1,(max d (Sn.deepL ys+1)),by go_num,(by congr 1;first|(rw [wrap64_in _ (by omega)];split<;>omega)|(split<;>omega)),by omega,by omega,(hb.trans (hb5.mono hB)).trans (hb1.mono (Nat.le_trans hB hb5.size)),Lib.hid (by rw [Hr.out];have h:=HE.out;first|(rw [if_pos (by decide)] at h;omega)|(rw [if_neg (by decide)] at h;omega))⟩
     case measure=>simp [intOf];omega
    | false =>
     simp only [Bool.false_eq_true,if_false,Nat.add_zero] at hle;go_wp2_with (first
      | (refine wpList_ldW rfl 36 (.tmp 11) rfl b (o+i*18) rfl cc _ hrg snip_under rfl (by rw [snip_size,hcl]) ?_)
      | (refine wpList_stW rfl 36 (.tmp 5) (.tmp 12) rfl (wr.heap.size) (cc.toArray) rfl rfl 36 (#[.int .i64 0,.string ⟨#[]⟩,.int .i64 0,.bool false,.bool false,.int .i64 0,.string ⟨#[]⟩,.bool false,.slice none 0 0,.int .i64 0,.int .i64 0,.bool false,.slice none 0 0,.slice none 0 0,.bool false,.bool false,.slice none 0 0,.slice none 0 0]) (heap_alloc_new wr _) (snip_size) (by simp [hcl]) rfl (HONE.out) (W:=W5) (HW5.out) ?_)
      | (go_at_call 12;refine HIH.out.mono ?_;rintro e w1 ⟨rfl,hb1⟩;have hx1:=(hb1.block _ (heap_lt HBX.out)).trans HBX.out;obtain⟨_,_,_,k31,_,_,_,_⟩:=HA.out.box hx1))
     go_roundw
     case rel=>exact⟨i+1,(max d (Sn.deepL ys)),by go_num,(by congr 1;first|(rw [wrap64_in _ (by omega)];split<;>omega)|(split<;>omega)),by omega,by omega,(hb.trans (hb5.mono hB)).trans (hb1.mono (Nat.le_trans hB hb5.size)),Lib.hid (by rw [Hr.out];have h:=HE.out;first|(rw [if_pos (by decide)] at h;omega)|(rw [if_neg (by decide)] at h;omega))⟩
     case measure=>simp [intOf];omega
end Go.Proofs.Ytbgcjpefocdkkaa
set_option maxRecDepth 100000
namespace Go.Proofs.Ytbgcjpefocdkkaa
open Go.RowKit
theorem str_infoC:(Try.prog.info? 9).map (fun i=>(i.zero,i.size,i.bytes))=some (some (.string ⟨#[]⟩),1,16):=by kernel_rfl
theorem scells_one (l:List Str):∀u∈scells l,u.oneCell'=true:=fun u hu=>by
 simp only [scells,List.mem_map] at hu;obtain⟨_,_,rfl⟩:=hu;rfl
set_option maxHeartbeats 1000000 in
theorem StrClone_any (a:Option Addr) (n c:Nat) (l:List Str) (w:World) (hl:n=l.length) (h:Sl w w.heap.size a 1 n (scells l)) (hn:n≤1000000) :
  Calls Try.prog 30 #[.slice a n c] w fun e w'=>∃a' c',e=.returned (.slice a' n c')∧SlS w' (fun b=>w.heap.size≤b) a' 1 n (scells l)∧Below w.heap.size w w':=by
 subst hl;obtain⟨ir,hir⟩:=info_parts str_infoC;cases a with
 | none =>
  have h0:l=[]:=by
   rcases Nat.eq_zero_or_pos l.length with h0|h0
   ·exact List.eq_nil_of_length_eq_zero h0
   ·obtain⟨b,o,e,_⟩:=h.2 h0;cases e
  subst h0;have hq:(binOp .eql 34 (.slice none 0 c) (.slice none 0 0)).run Try.prog w=.ok (.bool true) w:=Go.run_eql_slice_nil w _ _ none 0 c Try.underlying34;go_enter Try.func30,Try.ntmps30
  go_wp2
  go_ret
  exact⟨none,0,rfl,SlS.none_ _ _ _ _,Below.refl _ _⟩
 | some ad =>
  have HS:=Lib.hid (h.alloc_self (.cells #[] 9));have hq:(binOp .eql 34 (.slice (some ad) l.length c) (.slice none 0 0)).run Try.prog w=.ok (.bool false) w:=Go.run_eql_slice_nil w _ _ (some ad) _ c Try.underlying34;clear h;go_enter Try.func30,Try.ntmps30
  go_wp2_with (at_builtin;refine wpList_appM w.heap.size 9 rfl _ _ 34 rfl Try.underlying34 hir rfl (by decide) rfl (World.ownsRow_made w #[] 0 (Nat.le_refl _) (by simp [maxLen]) rfl) rfl HS.out (scells_one l) (by omega) (by omega) (by decide) (by simp) ?_)
  intro v1 w1 ho1 hg1 hb1 _;obtain⟨a1,c1,rfl⟩:=own_form ho1;go_wp2
  go_ret
  refine⟨a1,c1,by simp,by simpa using own_slS ho1,((Below.refl _ _).alloc (Nat.le_refl _) _).trans hb1⟩
set_option maxHeartbeats 1000000 in
theorem FmClone_any (a:Option Addr) (n c:Nat) (l:List Fm) (w:World) (hl:n=l.length) (h:Sl w w.heap.size a 5 n (fcells l)) (hn:n≤1000000) :
  Calls Try.prog 37 #[.slice a n c] w fun e w'=>∃a' c',e=.returned (.slice a' n c')∧SlS w' (fun b=>w.heap.size≤b) a' 5 n (fcells l)∧Below w.heap.size w w':=by
 subst hl;obtain⟨ir,hir⟩:=info_parts fm_info;cases a with
 | none =>
  have h0:l=[]:=by
   rcases Nat.eq_zero_or_pos l.length with h0|h0
   ·exact List.eq_nil_of_length_eq_zero h0
   ·obtain⟨b,o,e,_⟩:=h.2 h0;cases e
  subst h0;have hq:(binOp .eql 31 (.slice none 0 c) (.slice none 0 0)).run Try.prog w=.ok (.bool true) w:=Go.run_eql_slice_nil w _ _ none 0 c Try.underlying31;go_enter Try.func37,Try.ntmps37
  go_wp2
  go_ret
  exact⟨none,0,rfl,SlS.none_ _ _ _ _,Below.refl _ _⟩
 | some ad =>
  have HS:=Lib.hid (h.alloc_self (.cells #[] 82));have hq:(binOp .eql 31 (.slice (some ad) l.length c) (.slice none 0 0)).run Try.prog w=.ok (.bool false) w:=Go.run_eql_slice_nil w _ _ (some ad) _ c Try.underlying31;clear h;go_enter Try.func37,Try.ntmps37
  go_wp2_with (at_builtin;refine wpList_appM w.heap.size 82 rfl _ _ 31 rfl Try.underlying31 hir rfl (by decide) rfl (World.ownsRow_made w #[] 0 (Nat.le_refl _) (by simp [maxLen]) rfl) rfl HS.out (fcells_one' l) (by omega) (by omega) (by decide) (by simp) ?_)
  intro v1 w1 ho1 hg1 hb1 _;obtain⟨a1,c1,rfl⟩:=own_form ho1;go_wp2
  go_ret
  refine⟨a1,c1,by simp,by simpa using own_slS ho1,((Below.refl _ _).alloc (Nat.le_refl _) _).trans hb1⟩
end Go.Proofs.Ytbgcjpefocdkkaa
set_option maxRecDepth 100000
namespace Go.Proofs.Ytbgcjpefocdkkaa
open Go.RowKit
theorem form_size:(Try.prog.info? 33).map (·.size)=some 11:=by kernel_rfl
theorem rx_size:(Try.prog.info? 30).map (·.size)=some 8:=by kernel_rfl
theorem form_under:Try.prog.underlying 33=some (.struct (Try.prog.fieldsOf 33)):=by kernel_rfl
theorem rx_under:Try.prog.underlying 30=some (.struct (Try.prog.fieldsOf 30)):=by kernel_rfl
def RxP (B:Nat) (X:Rx):Value→World→Prop:=fun v W=>∃rc',v=.agg rc'.toArray∧RxV W (fun b=>B≤b) rc' X
def SlP (B sz n:Nat) (cs:List Value):Value→World→Prop:=fun v W=>∃a c,v=.slice a n c∧SlS W (fun b=>B≤b) a sz n cs
def XFs (B b1:Nat) (rc:List Value) (X:Rx) (fa:Option Addr) (fcp:Nat) (fs:List Fm):List (Value→World→Prop) :=
 [eqP (.pointer (some ⟨b1,0,none⟩)),eqP (.agg rc.toArray),RxP B X,eqP (.pointer (some ⟨b1,8,none⟩)),eqP (.slice fa fs.length fcp),SlP B 5 fs.length (fcells fs),eqP (.pointer (some ⟨b1,0,none⟩))]
theorem RxP.mono {B:Nat} {X:Rx} (v:Value) (w w':World) (hb:Below w.heap.size w w') (h:RxP B X v w):RxP B X v w':=by
 obtain⟨rc',h1,h2⟩:=h;exact⟨rc',h1,h2.later hb⟩
theorem SlP.mono {B sz n:Nat} {cs:List Value} (v:Value) (w w':World) (hb:Below w.heap.size w w') (h:SlP B sz n cs v w):SlP B sz n cs v w':=by
 obtain⟨a,c,h1,h2⟩:=h;exact⟨a,c,h1,h2.keep (Kept.all hb)⟩
theorem XFs_mono (B b1:Nat) (rc:List Value) (X:Rx) (fa:Option Addr) (fcp:Nat) (fs:List Fm):MonoF (XFs B b1 rc X fa fcp fs) :=
 .eq (.eq (.cons RxP.mono (.eq (.eq (.cons SlP.mono (.eq .nil))))))
def XRI (B b1:Nat) (rc:List Value) (X:Rx) (fa:Option Addr) (fcp:Nat) (fs:List Fm) (A0:Act) (W0:World) (L:Nat→Bool) (a:Act) (w':World):Prop :=
 ∃V:Nat→Value,Fm2 [3,4,5,6,7,8,9] V A0 a∧BelI W0 (XFs B b1 rc X fa fcp fs) V L w'
theorem setsL_below {w0 w:World} {b:Nat} (h:Below w0.heap.size w0 w) (hb:w0.heap.size≤b):∀(vs:List Value) (o:Nat),Below w0.heap.size w0 (setsL b o vs w):=by
 intro vs;induction vs generalizing w with
 | nil=>intro o;exact h
 | cons v r ih=>intro o;exact ih (h.setCell hb _) (o+1)
theorem below_setRow {w0 w:World} {b:Nat} (h:Below w0.heap.size w0 w) (hb:w0.heap.size≤b) (cs:Array Value):Below w0.heap.size w0 (w.setRow b cs) :=
 ⟨h.os,h.tape,h.output,by rw [sr_size];exact h.size,fun k hk=>(sr_other cs (by omega)).trans (h.block k hk)⟩
theorem res_box1 {fn:Func} {p:Tmp} {ty t:TypeId} {tmps:Array Value} {w:World} {b:Nat} {cs:Array Value} {f:Nat × Nat} {fs:Array Field} {n:Nat} (hr:fn.results=#[.cell p ty]) (hu:Try.prog.underlying ty=some (.struct fs)) (hi:(Try.prog.info? ty).map (·.size)=some n)
  (h:w.heap[b]?=some (.cells cs t f)) (hn:cs.size=n) (hp:tmps.getD p undef=.pointer (some ⟨b,0,none⟩)):(results fn tmps).run Try.prog w=.ok (.agg cs) w:=by
 subst hn;exact results_cell_row hr tmps w b t cs f _ hp h hu rfl hi
set_option maxHeartbeats 4000000 in
theorem XClone_any (S:Nat→Prop) (f:Tf) (hsm:f.small) (fc:List Value) (w:World) (hv:TfV w S fc f) :
  Calls Try.prog 29 #[.agg fc.toArray] w fun e w'=>∃fc',e=.returned (.agg fc'.toArray)∧TfV w' (fun b=>w.heap.size≤b) fc' f∧Below w.heap.size w w':=by
 obtain⟨rk,rch,rng,rrs,rlo,rhi,rlz,rks,ra,rcp,rka,rkc,fa,fcp,hc⟩:=hv.open_;obtain⟨X,fs,fd,al⟩:=f;obtain⟨hx,hp,hfs⟩:=hsm;have hxe:X=.mk rk rch rng rrs rlo rhi rlz rks:=hc.rx;obtain⟨W0,hW0⟩:∃W0,W0=(w.alloc (.cells fc.toArray 33)).alloc (.cells #[.int .i64 0,.string ⟨#[]⟩,.bool false,.slice none 0 0,.int .i64 0,.int .i64 0,.bool false,.slice none 0 0,.slice none 0 0,.bool false,.bool false] 33):=⟨_,rfl⟩;have hb0:Below w.heap.size w W0:=by rw [hW0];exact((Below.refl _ _).alloc (Nat.le_refl _) _).alloc (by simp) _
 have hz0:W0.heap.size=w.heap.size+2:=by rw [hW0];simp
 have HB1:Hid (W0.heap[w.heap.size]?=some (.cells fc.toArray 33 (0,0))):=Lib.hid (by rw [hW0,Below.heap_alloc _ _ _ (by simp)];exact heap_alloc_new w _);have HB2:Hid (W0.heap[w.heap.size+1]?=some (.cells #[.int .i64 0,.string ⟨#[]⟩,.bool false,.slice none 0 0,.int .i64 0,.int .i64 0,.bool false,.slice none 0 0,.slice none 0 0,.bool false,.bool false] 33 (0,0))):=Lib.hid (by
  have:=heap_alloc_new (w.alloc (.cells fc.toArray 33)) (.cells #[.int .i64 0,.string ⟨#[]⟩,.bool false,.slice none 0 0,.int .i64 0,.int .i64 0,.bool false,.slice none 0 0,.slice none 0 0,.bool false,.bool false] 33)
  rw [hW0];simpa using this)
 have HXV:Hid (RxV W0 S (rxc rk rch rng ra rrs.length rcp rlo rhi rlz rka rks.length rkc) X):=Lib.hid (hxe▸hc.rv.later hb0);have HFS:Hid (SlS W0 S fa 5 fs.length (fcells fs)):=Lib.hid (hc.fv.keep (Kept.all hb0));have HXS:=Lib.hid hx;obtain⟨rc,hrc⟩:∃rc,rc=rxc rk rch rng ra rrs.length rcp rlo rhi rlz rka rks.length rkc:=⟨_,rfl⟩;have hl8:rc.length=8:=by rw [hrc];rfl
 have hfce:fc=[.int .i64 rk,.string ⟨(rch).toArray⟩,.bool rng,.slice ra rrs.length rcp,.int .i64 rlo,.int .i64 rhi,.bool rlz,.slice rka rks.length rkc,.slice fa fs.length fcp,.bool fd,.bool al]:=hc.eq;subst hfce;have HW0:=Lib.hid hW0;have HRC:=Lib.hid hrc;clear hv hc hx hxe hW0;go_enter Try.func29,Try.ntmps29
 go_upto_region 1 with fail
 rw [←HW0.out];refine wp_region_relyE 7 (by kernel_rfl) (by kernel_rfl) (fun A0 W0 L a w'=>XRI (w.heap.size+2) w.heap.size rc X fa fcp fs A0 W0 L a w') ?_;intro A0 HA;have hsz:A0.tmps.size=12:=by rw [HA.out];rfl
 have hnd:[3,4,5,6,7,8,9].Nodup:=by decide
 have hbd:∀d∈[3,4,5,6,7,8,9],d<A0.tmps.size:=by rw [hsz];decide
 have e1:A0.tmps[1]?=some (.pointer (some ⟨w.heap.size,0,none⟩)):=by rw [HA.out];rfl
 have hM:=XFs_mono (w.heap.size+2) w.heap.size rc X fa fcp fs;have hbx:∀w',Below W0.heap.size W0 w'→w'.heap[w.heap.size]?=some (.cells (rc++[Value.slice fa fs.length fcp,Value.bool fd,Value.bool al]).toArray 33 (0,0)):=fun w' h=>by rw [HRC.out];exact(h.block _ (heap_lt HB1.out)).trans HB1.out
 refine⟨?_,?_,?_⟩
 ·obtain⟨V,hV⟩:=putsL_own A0 [3,4,5,6,7,8,9]
  exact⟨V,⟨hV⟩,BelI.start _ _ _⟩
 ·refine⟨?_,?_,?_,?_,?_,?_,?_,trivial⟩
  ·skip
   intro L a w' hL hd hI;obtain⟨V,hf,hB⟩:=hI;simp [DepsOk,Region.binds] at hd
   have e:=ev_of ((hf.out (t:=1) (by decide)).trans e1);refine rs_val (wanted_none rfl) (v:=.pointer (some ⟨w.heap.size,0,none⟩)) (w':=w') (by simp only [execOp,e];kernel_rfl) ?_;exact⟨_,hf.put hnd hbd 0 rfl _,hB.same hM 0 rfl⟩
  ·skip
   intro L a w' hL hd hI;obtain⟨V,hf,hB⟩:=hI;simp [DepsOk,Region.binds] at hd
   refine wpList_ldW rfl 30 (.tmp 3) rfl w.heap.size 0 (ev_of ((hf.ins hnd hbd 0 rfl).trans (congrArg some (show V 0=.pointer (some ⟨w.heap.size,0,none⟩) from hB.at_ 0 (by simp [hd]))))) rc _ (range_blk (hbx w' hB.ext)) rx_under rfl (by rw [rx_size,hl8]) ?_;refine wpList_nil ?_;exact⟨_,hf.put hnd hbd 1 rfl _,hB.same hM 1 rfl⟩
  ·skip
   intro L a w' hL hd hI;obtain⟨V,hf,hB⟩:=hI;simp [DepsOk,Region.binds] at hd
   have e:=(ev_of ((hf.ins hnd hbd 1 rfl).trans (congrArg some (show V 1=.agg rc.toArray from hB.at_ 1 (by simp [hd])))));have hxv:=HXV.out.later hB.ext;rw [←HRC.out] at hxv;refine rs_call (wanted_none rfl) (ex_call (vs:=#[.agg rc.toArray]) rfl Try.func36 (by kernel_rfl) (by rw [List.map_toArray];simp only [List.map_cons,List.map_nil,e])) ((Clone_any S X.parts X (Nat.le_refl _) HXS.out rc w' hxv).mono ?_);rintro e9 w9 ⟨rc',rfl,hv9,hb9⟩;refine⟨_,rfl,?_⟩;exact⟨_,hf.put hnd hbd 2 rfl _,hB.step hM 2 hb9 ⟨rc',rfl,hv9.mono fun b hb _=>by have:=hB.ext.size;have:w'.heap.size≤b:=hb;show w.heap.size+2≤b;omega⟩⟩
  ·skip
   intro L a w' hL hd hI;obtain⟨V,hf,hB⟩:=hI;simp [DepsOk,Region.binds] at hd
   have e:=ev_of ((hf.out (t:=1) (by decide)).trans e1);refine rs_val (wanted_none rfl) (v:=.pointer (some ⟨w.heap.size,8,none⟩)) (w':=w') (by simp only [execOp,e];kernel_rfl) ?_;exact⟨_,hf.put hnd hbd 3 rfl _,hB.same hM 3 rfl⟩
  ·skip
   intro L a w' hL hd hI;obtain⟨V,hf,hB⟩:=hI;simp [DepsOk,Region.binds] at hd
   have e:=(hf.ins hnd hbd 3 rfl).trans (congrArg some (show V 3=.pointer (some ⟨w.heap.size,8,none⟩) from hB.at_ 3 (by simp [hd])));have hcell:w'.cell? ⟨w.heap.size,8,none⟩=some (.slice fa fs.length fcp):=by rw [Lib.cell_of_heap (hbx w' hB.ext)];simp [hl8]
   refine rs_val (wanted_none rfl) (ex_load rfl e (u:=.slice fa fs.length fcp) (by go_simp)) ?_;exact⟨_,hf.put hnd hbd 4 rfl _,hB.same hM 4 rfl⟩
  ·skip
   intro L a w' hL hd hI;obtain⟨V,hf,hB⟩:=hI;simp [DepsOk,Region.binds] at hd
   have e:=(ev_of ((hf.ins hnd hbd 4 rfl).trans (congrArg some (show V 4=.slice fa fs.length fcp from hB.at_ 4 (by simp [hd])))));refine rs_call (wanted_none rfl) (ex_call (vs:=#[.slice fa fs.length fcp]) rfl Try.func37 (by kernel_rfl) (by rw [List.map_toArray];simp only [List.map_cons,List.map_nil,e])) ((FmClone_any fa fs.length fcp fs w' rfl (HFS.out.keep (Kept.all hB.ext)).sl hfs).mono ?_);rintro e9 w9 ⟨a9,c9,rfl,hv9,hb9⟩;refine⟨_,rfl,?_⟩;exact⟨_,hf.put hnd hbd 5 rfl _,hB.step hM 5 hb9 ⟨a9,c9,rfl,hv9.mono fun b hb _=>by have:=hB.ext.size;have:w'.heap.size≤b:=hb;show w.heap.size+2≤b;omega⟩⟩
  ·skip
   intro L a w' hL hd hI;obtain⟨V,hf,hB⟩:=hI;simp [DepsOk,Region.binds] at hd
   have e:=ev_of ((hf.out (t:=1) (by decide)).trans e1);refine rs_val (wanted_none rfl) (v:=.pointer (some ⟨w.heap.size,0,none⟩)) (w':=w') (by simp only [execOp,e];kernel_rfl) ?_;exact⟨_,hf.put hnd hbd 6 rfl _,hB.same hM 6 rfl⟩
 ·intro L a w' hL hI
  obtain⟨V,hf,hB⟩:=hI;obtain⟨rc',hv2,hxv⟩:=(show RxP (w.heap.size+2) X (V 2) w' from hB.at_ 2 (hL 2 (by decide)));obtain⟨a9,c9,hv5,hsv⟩:=(show SlP (w.heap.size+2) 5 fs.length (fcells fs) (V 5) w' from hB.at_ 5 (hL 5 (by decide)));have hv6:V 6=.pointer (some ⟨w.heap.size,0,none⟩):=hB.at_ 6 (hL 6 (by decide));have hbx':=hbx w' hB.ext;have hby:=(hB.ext.block _ (heap_lt HB2.out)).trans HB2.out;have hbw:=bel2 hb0 hB.ext;have ha:=hf.eq;have hA:=HA.out;obtain⟨qk,qch,qng,qrs,qlo,qhi,qlz,qks⟩:=X;obtain⟨qa,qc,qb,qd,rfl,hq1,hq2⟩:=hxv.open_;unfold rxc at hv2;have HXV':=Lib.hid (RxV.close (k:=qk) (c:=qch) (ng:=qng) (lo:=qlo) (hi:=qhi) (lz:=qlz) (rc:=qc) (kc:=qd) hq1 hq2);have HSV:=Lib.hid hsv;have HBW:=Lib.hid hbw;have HBX:=Lib.hid hbx';have HBY:=Lib.hid hby;have hzw:=hB.ext.size;subst ha;subst hA;simp only [putsL,hv2,hv5,hv6,List.drop_succ_cons,List.drop_zero];rw [HRC.out] at HBX;have hbx:=HBX.out;unfold rxc at hbx;clear hf hB hM hbd hsz e1 HA hv2 hv5 hv6 hxv hsv hq1 hq2 hbx' hby hL HB1 HB2 HXV HFS HXS HW0;have z0:=blk_cell hbx 0 rfl;have z1:=blk_cell hbx 1 rfl;have z2:=blk_cell hbx 2 rfl;have z3:=blk_cell hbx 3 rfl;have z4:=blk_cell hbx 4 rfl;have z5:=blk_cell hbx 5 rfl;have z6:=blk_cell hbx 6 rfl;have z7:=blk_cell hbx 7 rfl;have z8:=blk_cell hbx 8 rfl;have zf:=blk_free hbx;obtain⟨W7,hW7⟩:∃W7,W7=(((((((((w'.setCell ⟨w.heap.size,0,none⟩ (.int .i64 qk)).setCell ⟨w.heap.size,1,none⟩ (.string ⟨(qch).toArray⟩)).setCell ⟨w.heap.size,2,none⟩ (.bool qng)).setCell ⟨w.heap.size,3,none⟩ (.slice qa qrs.length qc)).setCell ⟨w.heap.size,4,none⟩ (.int .i64 qlo)).setCell ⟨w.heap.size,5,none⟩ (.int .i64 qhi)).setCell ⟨w.heap.size,6,none⟩ (.bool qlz)).setCell ⟨w.heap.size,7,none⟩ (.slice qb qks.length qd)).setCell ⟨w.heap.size,8,none⟩ (.slice a9 fs.length c9)):=⟨_,rfl⟩;have hW7':W7=setsL w.heap.size 0 [.int .i64 qk,.string ⟨(qch).toArray⟩,.bool qng,.slice qa qrs.length qc,.int .i64 qlo,.int .i64 qhi,.bool qlz,.slice qb qks.length qd,.slice a9 fs.length c9] w':=hW7;have HX7:Hid (W7.heap[w.heap.size]?=some (.cells #[.int .i64 qk,.string ⟨(qch).toArray⟩,.bool qng,.slice qa qrs.length qc,.int .i64 qlo,.int .i64 qhi,.bool qlz,.slice qb qks.length qd,.slice a9 fs.length c9,.bool fd,.bool al] 33 (0,0))):=Lib.hid (by
   rw [hW7'];exact setsL_mid (post:=[.bool fd,.bool al]) [.int .i64 qk,.string ⟨(qch).toArray⟩,.bool qng,.slice qa qrs.length qc,.int .i64 qlo,.int .i64 qhi,.bool qlz,.slice qb qks.length qd,.slice a9 fs.length c9] [.int .i64 rk,.string ⟨(rch).toArray⟩,.bool rng,.slice ra rrs.length rcp,.int .i64 rlo,.int .i64 rhi,.bool rlz,.slice rka rks.length rkc,.slice fa fs.length fcp] [] hbx rfl)
  have HY7:Hid (W7.heap[w.heap.size+1]?=some (.cells #[.int .i64 0,.string ⟨#[]⟩,.bool false,.slice none 0 0,.int .i64 0,.int .i64 0,.bool false,.slice none 0 0,.slice none 0 0,.bool false,.bool false] 33 (0,0))):=Lib.hid (by rw [hW7',setsL_other (by omega)];exact HBY.out);have HBW7:Hid (Below w.heap.size w W7):=Lib.hid (by rw [hW7'];exact setsL_below HBW.out (Nat.le_refl _) _ _);have hk7:Kept (fun b=>w.heap.size+2≤b) w' W7:=⟨by rw [hW7',setsL_size];exact Nat.le_refl _,fun b hb _=>by have:w.heap.size+2≤b:=hb;rw [hW7',setsL_other (by omega)]⟩;have HV7:Hid (TfV W7 (fun b=>w.heap.size+2≤b) [.int .i64 qk,.string ⟨(qch).toArray⟩,.bool qng,.slice qa qrs.length qc,.int .i64 qlo,.int .i64 qhi,.bool qlz,.slice qb qks.length qd,.slice a9 fs.length c9,.bool fd,.bool al] ⟨.mk qk qch qng qrs qlo qhi qlz qks,fs,fd,al⟩):=Lib.hid ⟨_,a9,c9,HXV'.out.keep hk7,HSV.out.keep hk7,rfl⟩;have HON7:=Lib.hid HV7.out.one;clear hW7';go_upto_region 2 with fail
  rw [←hW7];clear hW7 z0 z1 z2 z3 z4 z5 z6 z7 z8 zf hbx hk7;have HB9:=Lib.hid (sr_heap (w:=W7) (cs:=#[.int .i64 qk,.string ⟨(qch).toArray⟩,.bool qng,.slice qa qrs.length qc,.int .i64 qlo,.int .i64 qhi,.bool qlz,.slice qb qks.length qd,.slice a9 fs.length c9,.bool fd,.bool al]) HY7.out);go_wp2_with (first|(refine wpList_ldW rfl 33 (.tmp 1) rfl (w.heap.size) 0 rfl ([.int .i64 qk,.string ⟨(qch).toArray⟩,.bool qng,.slice qa qrs.length qc,.int .i64 qlo,.int .i64 qhi,.bool qlz,.slice qb qks.length qd,.slice a9 fs.length c9,.bool fd,.bool al]) _ (range_blk (ds:=[]) (HX7.out)) form_under rfl (by rw [form_size];rfl) ?_)|(refine wpList_stW rfl 33 (.tmp 2) (.tmp 11) rfl ((w.heap.size+1)) (#[.int .i64 qk,.string ⟨(qch).toArray⟩,.bool qng,.slice qa qrs.length qc,.int .i64 qlo,.int .i64 qhi,.bool qlz,.slice qb qks.length qd,.slice a9 fs.length c9,.bool fd,.bool al]) rfl rfl 33 (#[.int .i64 0,.string ⟨#[]⟩,.bool false,.slice none 0 0,.int .i64 0,.int .i64 0,.bool false,.slice none 0 0,.slice none 0 0,.bool false,.bool false]) (HY7.out) (form_size) rfl rfl (HON7.out) (W:=(W7.setRow (w.heap.size+1) #[.int .i64 qk,.string ⟨(qch).toArray⟩,.bool qng,.slice qa qrs.length qc,.int .i64 qlo,.int .i64 qhi,.bool qlz,.slice qb qks.length qd,.slice a9 fs.length c9,.bool fd,.bool al])) (rfl) ?_))
  refine bodyPost_ret (res_box1 Try.results29 form_under form_size HB9.out rfl rfl) rfl ?_;refine⟨_,rfl,(HV7.out.keep ⟨by rw [sr_size];exact Nat.le_refl _,fun b hb _=>sr_other _ (by have:w.heap.size+2≤b:=hb;omega)⟩).mono fun b hb _=>by have:w.heap.size+2≤b:=hb;show w.heap.size≤b;omega,below_setRow HBW7.out (by omega) _⟩
end Go.Proofs.Ytbgcjpefocdkkaa
set_option maxRecDepth 100000
namespace Go.Proofs.Ytbgcjpefocdkkaa
open Go.RowKit
theorem blk_any {w:World} {g:Nat} {cc:List Value} {t:TypeId} {f:Nat × Nat} (h:w.heap[g]?=some (.cells cc.toArray t f)) (j:Nat) (hj:j<cc.length):∃v,w.cell? ⟨g,j,none⟩=some v :=
 ⟨cc[j],by rw [Lib.cell_of_heap h];simp [hj]⟩
def TfP (B:Nat) (f:Tf):Value→World→Prop:=fun v W=>∃fc',v=.agg fc'.toArray∧TfV W (fun b=>B≤b) fc' f
def SnP (B:Nat) (ks:List Sn):Value→World→Prop:=fun v W=>∃a c,v=.slice a ks.length c∧SnSl W (fun b=>B≤b) a ks.length ks
theorem TfP.mono {B:Nat} {f:Tf} (v:Value) (w w':World) (hb:Below w.heap.size w w') (h:TfP B f v w):TfP B f v w':=by
 obtain⟨rc',h1,h2⟩:=h;exact⟨rc',h1,h2.keep (Kept.all hb)⟩
theorem SnP.mono {B:Nat} {ks:List Sn} (v:Value) (w w':World) (hb:Below w.heap.size w w') (h:SnP B ks v w):SnP B ks v w':=by
 obtain⟨a,c,h1,h2⟩:=h;exact⟨a,c,h1,h2.later hb⟩
def KFs (B b1:Nat) (fc:List Value) (f:Tf) (oa:Option Addr) (oc:Nat) (os:List Str) (ka:Option Addr) (kc:Nat) (ks:List Sn):List (Value→World→Prop) :=
 [eqP (.pointer (some ⟨b1,5,none⟩)),eqP (.agg fc.toArray),TfP B f,eqP (.pointer (some ⟨b1,16,none⟩)),eqP (.slice oa os.length oc),SlP B 1 os.length (scells os),eqP (.pointer (some ⟨b1,17,none⟩)),eqP (.slice ka ks.length kc),SnP B ks,eqP (.pointer (some ⟨b1,5,none⟩))]
theorem KFs_mono (B b1:Nat) (fc:List Value) (f:Tf) (oa:Option Addr) (oc:Nat) (os:List Str) (ka:Option Addr) (kc:Nat) (ks:List Sn):MonoF (KFs B b1 fc f oa oc os ka kc ks) :=
 .eq (.eq (.cons TfP.mono (.eq (.eq (.cons SlP.mono (.eq (.eq (.cons SnP.mono (.eq .nil)))))))))
def KRI (B b1:Nat) (fc:List Value) (f:Tf) (oa:Option Addr) (oc:Nat) (os:List Str) (ka:Option Addr) (kc:Nat) (ks:List Sn) (A0:Act) (W0:World) (L:Nat→Bool) (a:Act) (w':World):Prop :=
 ∃V:Nat→Value,Fm2 [12,13,14,15,16,17,18,19,20,21] V A0 a∧BelI W0 (KFs B b1 fc f oa oc os ka kc ks) V L w'
def SCloneC (y:Sn):Prop:=∀(S:Nat→Prop) (ka:Option Addr) (kc:Nat) (w:World),SnSl w S ka y.kids.length y.kids →
 Calls Try.prog 20 #[.slice ka y.kids.length kc] w fun e w'=>∃a' c',e=.returned (.slice a' y.kids.length c')∧SnSl w' (fun b=>w.heap.size≤b) a' y.kids.length y.kids∧Below w.heap.size w w'
def CkRel (ks:List Sn) (w:World) (v q:Value) (wr:World):Prop :=
 ∃i:Nat,q=.int .i64 i∧i≤ks.length∧Below w.heap.size w wr∧OwnN wr w.heap.size (fun b=>w.heap.size≤b) v (ks.take i)
set_option maxHeartbeats 4000000 in
theorem SClone_step (S:Nat→Prop) (ks:List Sn) (hsm:Sn.smallL ks) (hkl:ks.length≤1000000) (IH0:∀y∈ks,SCloneC y) (a:Option Addr) (c:Nat) (w:World) (hx:SnSl w S a ks.length ks) :
  Calls Try.prog 20 #[.slice a ks.length c] w fun e w'=>∃a' c',e=.returned (.slice a' ks.length c')∧SnSl w' (fun b=>w.heap.size≤b) a' ks.length ks∧Below w.heap.size w w':=by
 have IH:=Lib.hid IH0;have HX:=Lib.hid hx;have HSM:=Lib.hid (fun y hy=>Sn.small_mem hsm y hy);obtain⟨iN,hiN⟩:=info_parts snip_info;clear hx hsm IH0;go_enter Try.func20,Try.ntmps20
 go_wp2
 go_loopw [3,8] (fun v q wr=>CkRel ks w v q wr) (fun _ q _=>ks.length-(intOf q).toNat)
 case atStart=>exact⟨0,rfl,by omega,Below.refl _ _,by rw [List.take_zero];exact OwnN.nil _ _ _⟩
 case round =>
  obtain⟨i,rfl,hi,hb,ho⟩:=hrel;have hB0:=hb.size;cases hd:ks.drop i with
  | nil =>
   have h2:ks.length≤i:=by simpa using hd
   rw [List.take_of_length_le h2] at ho;obtain⟨va,vc,rfl⟩:=ho.form;have HO:=Lib.hid ho.sl.2;clear hd ho;go_wp2
   go_ret
   exact⟨va,vc,rfl,HO.out.mono fun b hb _=>by rcases hb with hb|hb<;>exact hb,hb⟩
  | cons y r =>
   obtain⟨h2,h3,hr⟩:=ldrop_cons hd;have hym:=List.mem_of_getElem? h3;have HTK:Hid (ks.take (i+1)=ks.take i++[y]):=Lib.hid (by rw [List.take_add_one,h3];rfl);have hys:=HSM.out y hym;have hyc:=IH.out y hym;obtain⟨yk,yt,yn,yh,yu,yf,yo,ys⟩:=y;obtain⟨hyf,hyo,hysl,hyt,_⟩:=hys;have HYF:=Lib.hid hyf;have HYC:Hid (∀(S:Nat→Prop) (ka:Option Addr) (kc:Nat) (w:World),SnSl w S ka ys.length ys →
    Calls Try.prog 20 #[.slice ka ys.length kc] w fun e w'=>∃a' c',e=.returned (.slice a' ys.length c')∧SnSl w' (fun b=>w.heap.size≤b) a' ys.length ys∧Below w.heap.size w w'):=Lib.hid hyc
   obtain⟨b,o,cc,hae,hS,hbB,hyv,hcc⟩:=(HX.out.later hb).at_ h3;have hrg:wr.rangeAt b (o+i*18) cc:=fun j v hj=>by rw [Nat.add_assoc];exact hcc j v hj
   have hcl:=hyv.len;obtain⟨fc,oa,oc,ka,kc,hA⟩:=hyv.at_;obtain⟨W5,hW5⟩:∃W5,W5=wr.alloc (.cells cc.toArray 36):=⟨_,rfl⟩;have HW5:Hid ((wr.alloc (.cells #[.int .i64 0,.string ⟨#[]⟩,.int .i64 0,.bool false,.bool false,.int .i64 0,.string ⟨#[]⟩,.bool false,.slice none 0 0,.int .i64 0,.int .i64 0,.bool false,.slice none 0 0,.slice none 0 0,.bool false,.bool false,.slice none 0 0,.slice none 0 0] 36)).setRow wr.heap.size cc.toArray=W5):=Lib.hid (by rw [hW5];exact World.setRow_alloc_new _ _ _ _);have hb5:Below wr.heap.size wr W5:=by rw [hW5];exact(Below.refl _ _).alloc (Nat.le_refl _) _
   have hz5:W5.heap.size=wr.heap.size+1:=by rw [hW5];simp
   have HBX:Hid (W5.heap[wr.heap.size]?=some (.cells cc.toArray 36 (0,0))):=Lib.hid (by rw [hW5];exact heap_alloc_new _ _);have HONE:Hid (∀u∈cc.toArray.toList,u.oneCell'=true):=Lib.hid (fun u hu=>hyv.one u (by simpa using hu));have HFV:=Lib.hid (hA.fv.keep (Kept.all hb5));have HOV:=Lib.hid (hA.ov.keep (Kept.all hb5));have HKV:=Lib.hid (hA.kv.later hb5);have hfl:=hA.fl;have HA:=Lib.hid hA;have hbw5:=hb.trans (hb5.mono hB0);have HO5:=Lib.hid ho;have HB5:=Lib.hid hb5;have hli:(ks.take i).length=i:=by rw [List.length_take];omega
   subst hae;clear hd hr h3 hyv hcc hW5 hA hyc hym ho hyf;go_upto_region 5 with(first
     | (refine wpList_ldW rfl 36 (.tmp 10) rfl b (o+i*18) rfl cc _ hrg snip_under rfl (by rw [snip_size,hcl]) ?_)
     | (refine wpList_stW rfl 36 (.tmp 5) (.tmp 11) rfl (wr.heap.size) (cc.toArray) rfl rfl 36 (#[.int .i64 0,.string ⟨#[]⟩,.int .i64 0,.bool false,.bool false,.int .i64 0,.string ⟨#[]⟩,.bool false,.slice none 0 0,.int .i64 0,.int .i64 0,.bool false,.slice none 0 0,.slice none 0 0,.bool false,.bool false,.slice none 0 0,.slice none 0 0]) (heap_alloc_new wr _) (snip_size) (by simp [hcl]) rfl (HONE.out) (W:=W5) (HW5.out) ?_))
   clear HW5 hrg;refine wp_region_relyE 10 (by kernel_rfl) (by kernel_rfl) (fun A0 W0 L a w'=>KRI W5.heap.size wr.heap.size fc yf oa oc yo ka kc ys A0 W0 L a w') ?_;intro A0 HAA;have hsz:A0.tmps.size=30:=by rw [HAA.out];rfl
   have hnd:[12,13,14,15,16,17,18,19,20,21].Nodup:=by decide
   have hbd:∀d∈[12,13,14,15,16,17,18,19,20,21],d<A0.tmps.size:=by rw [hsz];decide
   have e5:A0.tmps[5]?=some (.pointer (some ⟨wr.heap.size,0,none⟩)):=by rw [HAA.out];rfl
   have hM:=KFs_mono W5.heap.size wr.heap.size fc yf oa oc yo ka kc ys;have hbx:∀w',Below W5.heap.size W5 w'→w'.heap[wr.heap.size]?=some (.cells cc.toArray 36 (0,0)):=fun w' h=>(h.block _ (heap_lt HBX.out)).trans HBX.out
   refine⟨?_,?_,?_⟩
   ·obtain⟨V,hV⟩:=putsL_own A0 [12,13,14,15,16,17,18,19,20,21]
    exact⟨V,⟨hV⟩,BelI.start _ _ _⟩
   ·refine⟨?_,?_,?_,?_,?_,?_,?_,?_,?_,?_,trivial⟩
    ·skip
     intro L a w' hL hd hI;obtain⟨V,hf,hB⟩:=hI;simp [DepsOk,Region.binds] at hd
     have e:=ev_of ((hf.out (t:=5) (by decide)).trans e5);refine rs_val (wanted_none rfl) (v:=.pointer (some ⟨wr.heap.size,5,none⟩)) (w':=w') (by simp only [execOp,e];kernel_rfl) ?_;exact⟨_,hf.put hnd hbd 0 rfl _,hB.same hM 0 rfl⟩
    ·skip
     intro L a w' hL hd hI;obtain⟨V,hf,hB⟩:=hI;simp [DepsOk,Region.binds] at hd
     obtain⟨_,_,_,_,_,_,_,q8⟩:=HA.out.box (hbx w' hB.ext);refine wpList_ldW rfl 33 (.tmp 12) rfl wr.heap.size 5 (ev_of ((hf.ins hnd hbd 0 rfl).trans (congrArg some (show V 0=.pointer (some ⟨wr.heap.size,5,none⟩) from hB.at_ 0 (by simp [hd]))))) fc _ q8 form_under rfl (by rw [form_size,hfl]) ?_;refine wpList_nil ?_;exact⟨_,hf.put hnd hbd 1 rfl _,hB.same hM 1 rfl⟩
    ·skip
     intro L a w' hL hd hI;obtain⟨V,hf,hB⟩:=hI;simp [DepsOk,Region.binds] at hd
     have e:=(ev_of ((hf.ins hnd hbd 1 rfl).trans (congrArg some (show V 1=.agg fc.toArray from hB.at_ 1 (by simp [hd])))));refine rs_call (wanted_none rfl) (ex_call (vs:=#[.agg fc.toArray]) rfl Try.func29 (by kernel_rfl) (by rw [List.map_toArray];simp only [List.map_cons,List.map_nil,e])) ((XClone_any S yf HYF.out fc w' (HFV.out.keep (Kept.all hB.ext))).mono ?_);rintro e9 w9 ⟨fc',rfl,hv9,hb9⟩;refine⟨_,rfl,?_⟩;exact⟨_,hf.put hnd hbd 2 rfl _,hB.step hM 2 hb9 ⟨fc',rfl,hv9.mono fun b hb _=>Nat.le_trans hB.ext.size hb⟩⟩
    ·skip
     intro L a w' hL hd hI;obtain⟨V,hf,hB⟩:=hI;simp [DepsOk,Region.binds] at hd
     have e:=ev_of ((hf.out (t:=5) (by decide)).trans e5);refine rs_val (wanted_none rfl) (v:=.pointer (some ⟨wr.heap.size,16,none⟩)) (w':=w') (by simp only [execOp,e];kernel_rfl) ?_;exact⟨_,hf.put hnd hbd 3 rfl _,hB.same hM 3 rfl⟩
    ·skip
     intro L a w' hL hd hI;obtain⟨V,hf,hB⟩:=hI;simp [DepsOk,Region.binds] at hd
     obtain⟨_,_,_,_,_,q6,_,_⟩:=HA.out.box (hbx w' hB.ext);refine rs_val (wanted_none rfl) (ex_load rfl ((hf.ins hnd hbd 3 rfl).trans (congrArg some (show V 3=.pointer (some ⟨wr.heap.size,16,none⟩) from hB.at_ 3 (by simp [hd])))) (u:=.slice oa yo.length oc) (by go_simp)) ?_;exact⟨_,hf.put hnd hbd 4 rfl _,hB.same hM 4 rfl⟩
    ·skip
     intro L a w' hL hd hI;obtain⟨V,hf,hB⟩:=hI;simp [DepsOk,Region.binds] at hd
     have e:=(ev_of ((hf.ins hnd hbd 4 rfl).trans (congrArg some (show V 4=.slice oa yo.length oc from hB.at_ 4 (by simp [hd])))));refine rs_call (wanted_none rfl) (ex_call (vs:=#[.slice oa yo.length oc]) rfl Try.func30 (by kernel_rfl) (by rw [List.map_toArray];simp only [List.map_cons,List.map_nil,e])) ((StrClone_any oa yo.length oc yo w' rfl (HOV.out.keep (Kept.all hB.ext)).sl hyo).mono ?_);rintro e9 w9 ⟨a9,c9,rfl,hv9,hb9⟩;refine⟨_,rfl,?_⟩;exact⟨_,hf.put hnd hbd 5 rfl _,hB.step hM 5 hb9 ⟨a9,c9,rfl,hv9.mono fun b hb _=>Nat.le_trans hB.ext.size hb⟩⟩
    ·skip
     intro L a w' hL hd hI;obtain⟨V,hf,hB⟩:=hI;simp [DepsOk,Region.binds] at hd
     have e:=ev_of ((hf.out (t:=5) (by decide)).trans e5);refine rs_val (wanted_none rfl) (v:=.pointer (some ⟨wr.heap.size,17,none⟩)) (w':=w') (by simp only [execOp,e];kernel_rfl) ?_;exact⟨_,hf.put hnd hbd 6 rfl _,hB.same hM 6 rfl⟩
    ·skip
     intro L a w' hL hd hI;obtain⟨V,hf,hB⟩:=hI;simp [DepsOk,Region.binds] at hd
     obtain⟨_,_,_,_,_,_,q7,_⟩:=HA.out.box (hbx w' hB.ext);refine rs_val (wanted_none rfl) (ex_load rfl ((hf.ins hnd hbd 6 rfl).trans (congrArg some (show V 6=.pointer (some ⟨wr.heap.size,17,none⟩) from hB.at_ 6 (by simp [hd])))) (u:=.slice ka ys.length kc) (by go_simp)) ?_;exact⟨_,hf.put hnd hbd 7 rfl _,hB.same hM 7 rfl⟩
    ·skip
     intro L a w' hL hd hI;obtain⟨V,hf,hB⟩:=hI;simp [DepsOk,Region.binds] at hd
     have e:=(ev_of ((hf.ins hnd hbd 7 rfl).trans (congrArg some (show V 7=.slice ka ys.length kc from hB.at_ 7 (by simp [hd])))));refine rs_call (wanted_none rfl) (ex_call (vs:=#[.slice ka ys.length kc]) rfl Try.func20 (by kernel_rfl) (by rw [List.map_toArray];simp only [List.map_cons,List.map_nil,e])) ((HYC.out S ka kc w' (HKV.out.later hB.ext)).mono ?_);rintro e9 w9 ⟨a9,c9,rfl,hv9,hb9⟩;refine⟨_,rfl,?_⟩;exact⟨_,hf.put hnd hbd 8 rfl _,hB.step hM 8 hb9 ⟨a9,c9,rfl,hv9.mono fun b hb _=>Nat.le_trans hB.ext.size hb⟩⟩
    ·skip
     intro L a w' hL hd hI;obtain⟨V,hf,hB⟩:=hI;simp [DepsOk,Region.binds] at hd
     have e:=ev_of ((hf.out (t:=5) (by decide)).trans e5);refine rs_val (wanted_none rfl) (v:=.pointer (some ⟨wr.heap.size,5,none⟩)) (w':=w') (by simp only [execOp,e];kernel_rfl) ?_;exact⟨_,hf.put hnd hbd 9 rfl _,hB.same hM 9 rfl⟩
   ·intro L a w' hL hI
    obtain⟨V,hf,hB⟩:=hI;obtain⟨fc',hv2,hfv⟩:=(show TfP W5.heap.size yf (V 2) w' from hB.at_ 2 (hL 2 (by decide)));obtain⟨a5,c5,hv5,hov⟩:=(show SlP W5.heap.size 1 yo.length (scells yo) (V 5) w' from hB.at_ 5 (hL 5 (by decide)));obtain⟨a8,c8,hv8,hkv⟩:=(show SnP W5.heap.size ys (V 8) w' from hB.at_ 8 (hL 8 (by decide)));have hv9:V 9=.pointer (some ⟨wr.heap.size,5,none⟩):=hB.at_ 9 (hL 9 (by decide));have hbx':=hbx w' hB.ext;have ha:=hf.eq;have hA:=HAA.out;obtain⟨rk,rch,rng,rrs,rlo,rhi,rlz,rks,ra,rcp,rka,rkc,fa,fcp,hc⟩:=hfv.open_;have hfe:=hc.eq;rw [hfe] at hv2 hfv;have HFV':=Lib.hid hfv;have HOV':=Lib.hid hov;have HKV':=Lib.hid hkv;have HEX:=Lib.hid hB.ext;have hcq:=HA.out.eq;have hzw:=hB.ext.size;subst ha;subst hA;simp only [putsL,hv2,hv5,hv8,hv9,List.drop_succ_cons,List.drop_zero];have HBXX:=Lib.hid hbx';clear hf hB hM hbd hsz e5 HAA hv2 hv5 hv8 hv9 hfv hov hkv hL hc hfe hbx HFV HOV HKV HYC HYF hnd;obtain⟨z5,hz5'⟩:=blk_any hbx' 5 (by omega);obtain⟨z6,hz6'⟩:=blk_any hbx' 6 (by omega);obtain⟨z7,hz7'⟩:=blk_any hbx' 7 (by omega);obtain⟨z8,hz8'⟩:=blk_any hbx' 8 (by omega);obtain⟨z9,hz9'⟩:=blk_any hbx' 9 (by omega);obtain⟨z10,hz10'⟩:=blk_any hbx' 10 (by omega);obtain⟨z11,hz11'⟩:=blk_any hbx' 11 (by omega);obtain⟨z12,hz12'⟩:=blk_any hbx' 12 (by omega);obtain⟨z13,hz13'⟩:=blk_any hbx' 13 (by omega);obtain⟨z14,hz14'⟩:=blk_any hbx' 14 (by omega);obtain⟨z15,hz15'⟩:=blk_any hbx' 15 (by omega);obtain⟨z16,hz16'⟩:=blk_any hbx' 16 (by omega);obtain⟨z17,hz17'⟩:=blk_any hbx' 17 (by omega);have zf:=blk_free hbx';obtain⟨W7,hW7⟩:∃W7,W7=(((((((((((((w'.setCell ⟨wr.heap.size,5,none⟩ (.int .i64 rk)).setCell ⟨wr.heap.size,6,none⟩ (.string ⟨(rch).toArray⟩)).setCell ⟨wr.heap.size,7,none⟩ (.bool rng)).setCell ⟨wr.heap.size,8,none⟩ (.slice ra rrs.length rcp)).setCell ⟨wr.heap.size,9,none⟩ (.int .i64 rlo)).setCell ⟨wr.heap.size,10,none⟩ (.int .i64 rhi)).setCell ⟨wr.heap.size,11,none⟩ (.bool rlz)).setCell ⟨wr.heap.size,12,none⟩ (.slice rka rks.length rkc)).setCell ⟨wr.heap.size,13,none⟩ (.slice fa yf.fs.length fcp)).setCell ⟨wr.heap.size,14,none⟩ (.bool yf.fold)).setCell ⟨wr.heap.size,15,none⟩ (.bool yf.all)).setCell ⟨wr.heap.size,16,none⟩ (.slice a5 yo.length c5)).setCell ⟨wr.heap.size,17,none⟩ (.slice a8 ys.length c8)):=⟨_,rfl⟩;have hW7':W7=setsL wr.heap.size 5 [.int .i64 rk,.string ⟨(rch).toArray⟩,.bool rng,.slice ra rrs.length rcp,.int .i64 rlo,.int .i64 rhi,.bool rlz,.slice rka rks.length rkc,.slice fa yf.fs.length fcp,.bool yf.fold,.bool yf.all,.slice a5 yo.length c5,.slice a8 ys.length c8] w':=hW7;have HX7:Hid (W7.heap[wr.heap.size]?=some (.cells #[.int .i64 yk,.string ⟨(yt).toArray⟩,.int .i64 yn,.bool yh,.bool yu,.int .i64 rk,.string ⟨(rch).toArray⟩,.bool rng,.slice ra rrs.length rcp,.int .i64 rlo,.int .i64 rhi,.bool rlz,.slice rka rks.length rkc,.slice fa yf.fs.length fcp,.bool yf.fold,.bool yf.all,.slice a5 yo.length c5,.slice a8 ys.length c8] 36 (0,0))):=Lib.hid (by
     have h0:=HBXX.out;rw [hcq] at h0;rw [hW7'];exact setsL_mid (post:=[]) [.int .i64 rk,.string ⟨(rch).toArray⟩,.bool rng,.slice ra rrs.length rcp,.int .i64 rlo,.int .i64 rhi,.bool rlz,.slice rka rks.length rkc,.slice fa yf.fs.length fcp,.bool yf.fold,.bool yf.all,.slice a5 yo.length c5,.slice a8 ys.length c8] (fc++[.slice oa yo.length oc,.slice ka ys.length kc]) [.int .i64 yk,.string ⟨(yt).toArray⟩,.int .i64 yn,.bool yh,.bool yu] (by rw [h0];unfold snc;simp) (by simp [hfl]))
    have hk7:Kept (fun b=>W5.heap.size≤b) w' W7:=⟨by rw [hW7',setsL_size];exact Nat.le_refl _,fun b hb _=>by have:W5.heap.size≤b:=hb;rw [hW7',setsL_other (by omega)]⟩;have HBW:Hid (Below wr.heap.size wr W7):=Lib.hid (by rw [hW7'];exact setsL_below (HB5.out.trans (HEX.out.mono (by omega))) (Nat.le_refl _) _ _);have HV7:Hid (SnV W7 (fun b=>W5.heap.size≤b) [.int .i64 yk,.string ⟨(yt).toArray⟩,.int .i64 yn,.bool yh,.bool yu,.int .i64 rk,.string ⟨(rch).toArray⟩,.bool rng,.slice ra rrs.length rcp,.int .i64 rlo,.int .i64 rhi,.bool rlz,.slice rka rks.length rkc,.slice fa yf.fs.length fcp,.bool yf.fold,.bool yf.all,.slice a5 yo.length c5,.slice a8 ys.length c8] (.mk yk yt yn yh yu yf yo ys)):=Lib.hid (SnV.close (fc:=[.int .i64 rk,.string ⟨(rch).toArray⟩,.bool rng,.slice ra rrs.length rcp,.int .i64 rlo,.int .i64 rhi,.bool rlz,.slice rka rks.length rkc,.slice fa yf.fs.length fcp,.bool yf.fold,.bool yf.all]) (HFV'.out.keep hk7) (HOV'.out.keep hk7) (HKV'.out.keep hk7));have hz7:W7.heap.size=w'.heap.size:=by rw [hW7',setsL_size]
    have HON7:=Lib.hid HV7.out.one;clear hW7' hbx' hk7;go_upto_region 6 with fail
    rw [←hW7];clear hW7 hz5' hz6' hz7' hz8' hz9' hz10' hz11' hz12' hz13' hz14' hz15' hz16' hz17' zf;have hb8:Below W7.heap.size W7 (W7.alloc (.cells #[.int .i64 yk,.string ⟨(yt).toArray⟩,.int .i64 yn,.bool yh,.bool yu,.int .i64 rk,.string ⟨(rch).toArray⟩,.bool rng,.slice ra rrs.length rcp,.int .i64 rlo,.int .i64 rhi,.bool rlz,.slice rka rks.length rkc,.slice fa yf.fs.length fcp,.bool yf.fold,.bool yf.all,.slice a5 yo.length c5,.slice a8 ys.length c8] 36)):=(Below.refl _ _).alloc (Nat.le_refl _) _;have ho7:=(HO5.out.later HBW.out).later hb8;obtain⟨va,vc,rfl⟩:=HO5.out.form;obtain⟨css,hown,hrv⟩:=ho7;rw [hli] at hown hrv;have HOW:=Lib.hid hown;have HRV:=Lib.hid hrv;have HSL:=Lib.hid (Sl.lit (n:=1) (sz:=18) (heap_alloc_new W7 (.cells #[.int .i64 yk,.string ⟨(yt).toArray⟩,.int .i64 yn,.bool yh,.bool yu,.int .i64 rk,.string ⟨(rch).toArray⟩,.bool rng,.slice ra rrs.length rcp,.int .i64 rlo,.int .i64 rhi,.bool rlz,.slice rka rks.length rkc,.slice fa yf.fs.length fcp,.bool yf.fold,.bool yf.all,.slice a5 yo.length c5,.slice a8 ys.length c8] 36)) rfl);have HV8:=Lib.hid (HV7.out.later hb8);have hlt:=HO5.out.lt;rw [hli];clear hown hrv;have hsz9:w.heap.size≤W7.heap.size+1:=by omega
    have hi9:i≤10000000:=by omega
    have HZ7:=Lib.hid hz7;clear hz7;have HON8:Hid (∀u∈(#[.int .i64 yk,.string ⟨(yt).toArray⟩,.int .i64 yn,.bool yh,.bool yu,.int .i64 rk,.string ⟨(rch).toArray⟩,.bool rng,.slice ra rrs.length rcp,.int .i64 rlo,.int .i64 rhi,.bool rlz,.slice rka rks.length rkc,.slice fa yf.fs.length fcp,.bool yf.fold,.bool yf.all,.slice a5 yo.length c5,.slice a8 ys.length c8]:Array Value).toList,u.oneCell'=true):=HON7;go_wp2_with (first|(refine wpList_ldW rfl 36 (.tmp 5) rfl (wr.heap.size) 0 rfl ([.int .i64 yk,.string ⟨(yt).toArray⟩,.int .i64 yn,.bool yh,.bool yu,.int .i64 rk,.string ⟨(rch).toArray⟩,.bool rng,.slice ra rrs.length rcp,.int .i64 rlo,.int .i64 rhi,.bool rlz,.slice rka rks.length rkc,.slice fa yf.fs.length fcp,.bool yf.fold,.bool yf.all,.slice a5 yo.length c5,.slice a8 ys.length c8]) _ (range_blk (ds:=[]) (HX7.out)) snip_under rfl (by rw [snip_size];rfl) ?_)|(at_builtin;refine wpList_appM w.heap.size 36 rfl _ _ 23 rfl Try.underlying23 hiN rfl (by decide) rfl HOW.out rfl HSL.out HON8.out hi9 (by decide) (by decide) (by simp only [World.size_alloc];exact hsz9) ?_))
    intro v1 w4 ho1 hg1 hb4 hmv;have hox4:OwnN w4 w.heap.size (fun b=>w.heap.size≤b) v1 (ks.take (i+1)):=by
     rw [HTK.out];refine OwnN.app (ds:=[_]) (m:=1) HRV.out (.cons (HV8.out.mono fun b hb _=>?_) .nil) rfl ?_ hg1 hmv
     ·have hb':W5.heap.size≤b:=hb
      exact⟨by show w.heap.size≤b;omega,fun e=>by have:=(hlt b (show (Value.slice va (ks.take i).length vc).ownBlock=some b from(show (Value.slice va (ks.take i).length vc).ownBlock=(Value.slice va i vc).ownBlock by rw [hli]).trans e)).2;omega⟩
     ·rw [hli];simpa using ho1
    have hb4':Below w.heap.size w w4:=(hb.trans ((HBW.out.trans (hb8.mono HBW.out.size)).mono hB0)).trans hb4;clear ho1 hg1 hmv;go_wp2
    go_roundw
    case rel=>exact⟨i+1,by go_num,by omega,hb4',hox4⟩
    case measure=>simp [intOf];omega
theorem NClone_any (S:Nat→Prop):∀(N:Nat) (ks:List Sn),Sn.partsL ks<N→Sn.smallL ks→ks.length≤1000000→∀(a:Option Addr) (c:Nat) (w:World),SnSl w S a ks.length ks →
  Calls Try.prog 20 #[.slice a ks.length c] w fun e w'=>∃a' c',e=.returned (.slice a' ks.length c')∧SnSl w' (fun b=>w.heap.size≤b) a' ks.length ks∧Below w.heap.size w w'
 | 0,ks,h,_,_,_,_,_,_=>by omega
 | N+1,ks,h,hsm,hkl,a,c,w,hx=>SClone_step S ks hsm hkl (fun y hy S' ka kc w' hv=>by
   have h1:=Sn.parts_mem hy;have h2:=Sn.small_mem hsm y hy;obtain⟨yk,yt,yn,yh,yu,yf,yo,ys⟩:=y;obtain⟨_,_,h3,_,h4⟩:=h2;simp only [Sn.parts] at h1;exact NClone_any S' N ys (by omega) h4 h3 ka kc w' hv) a c w hx
end Go.Proofs.Ytbgcjpefocdkkaa
set_option maxRecDepth 100000
namespace Go.Proofs.Ytbgcjpefocdkkaa
open Go.RowKit
theorem readS_small {s:Str} {x:Rx} (h:readM s=.ok x):x.small∧x.parts≤1000:=by
 obtain⟨a1,a2,a3⟩:=readM_ok.1 h;have:=splitM_len s
 obtain⟨f1,f2,f3,f4⟩:=pat_facts _ _ _ _ _ (by omega) a3 (splitM_ok (by omega));exact⟨f1,by simp at f2;omega⟩
theorem flushF_cnt (tx:Str) (fs:List Fm):(flushF tx fs).length≤fs.length+1:=by unfold flushF;split<;>simp
theorem readN_cnt:∀(k:Nat) (r tx:Str) (fs:List Fm) {gs:List Fm} {s:Str},readN k r tx fs=some (gs,s)→gs.length≤fs.length+2*r.length+1
 | 0,_,_,_,_,_,h=>by cases h
 | _+1,[],_,_,_,_,h=>by cases h
 | k+1,c::r,tx,fs,gs,s,h=>by
  simp only [readN] at h;split at h
  ·injection h with h;injection h with h h';subst h;subst h'
   have:=flushF_cnt tx fs
   omega
  ·split at h
   ·split at h
    ·rename_i p hp
     obtain⟨f,s'⟩:=p;have h1:=partR_len hp;have h2:=readN_cnt k _ _ _ h;have h3:=flushF_cnt tx fs;simp at h2 ⊢
     omega
    ·have h2:=readN_cnt k _ _ _ h
     simp at h2 ⊢;omega
   ·split at h
    ·have h2:=readN_cnt k _ _ _ h
     simp at h2 ⊢
     omega
    ·have h2:=readN_cnt k _ _ _ h
     simp at h2 ⊢;omega
theorem formM_small {r:Str} {f:Tf} {s:Str} (h:formM r=some (f,s)) (hr:r.length≤100000):f.small:=by
 cases r with
 | nil=>cases h
 | cons c r =>
  simp only [formM] at h;split at h
  ·split at h
   ·cases h
   ·rename_i heq
    split at h
    ·cases h
    ·rename_i hx
     split at h
     ·cases h
     ·cases h
     ·rename_i heq2
      obtain⟨h1,h2⟩:=flagT_form h;have h3:=readN_cnt _ _ _ _ heq2;have h4:=(rxSp_sfx r []).length_le;rw [heq] at h4;obtain⟨h5,h6⟩:=readS_small hx;unfold Tf.small;rw [h1,h2];simp at h3 h4 hr
      exact⟨h5,by omega,by omega⟩
  ·cases h
theorem optL_cnt:∀(n:Nat) (r:Str) (o:List Str) (t:Str),r.length≤n→(optL r o t).1.length≤o.length+r.length+1
 | _,[],o,t,_=>by simp [optL]
 | 0,c::r,o,t,h=>by simp at h
 | n+1,c::r,o,t,h=>by
  simp only [List.length_cons] at h;rw [optL_cons];split
  ·simp
  ·split
   ·have:=optL_cnt n r (o++[t]) [] (by omega);simp at this ⊢;omega
   ·have h1:=nxtM_len fiveS c r
    have:=optL_cnt n (nxtM fiveS (c::r)).2 o (t++[(nxtM fiveS (c::r)).1]) (by omega);simp;omega
theorem Hd.small {x:Sn} (h:Hd x):x.small∧x.kids=[]∧x.opts=[]:=by
 rcases h with⟨n,_,rfl⟩|⟨t,ht,rfl⟩
 ·exact⟨⟨tf0_small,by simp,by simp,by simp,trivial⟩,rfl,rfl⟩
 ·refine⟨⟨tf0_small,by simp,by simp,?_,trivial⟩,rfl,rfl⟩
  cases t with
  | nil=>cases ht
  | cons c r=>simp only [nameB,Bool.and_eq_true,decide_eq_true_eq] at ht;have:=ht.1.1;omega
theorem Hd.give_small {x:Sn} (h:Hd x) {ks:List Sn} (h1:Sn.smallL ks) (h2:ks.length≤1000000):(x.give ks).small:=by
 obtain⟨hs,_,_⟩:=h.small;obtain⟨k,t,n,hh,u,f,o,l⟩:=x;obtain⟨a,b,_,d,_⟩:=hs;exact⟨a,b,h2,d,h1⟩
theorem Hd.turn_small {x:Sn} (h:Hd x) {f:Tf} (hf:f.small):(x.turn f).small:=by
 obtain⟨hs,_,_⟩:=h.small;obtain⟨k,t,n,hh,u,f',o,l⟩:=x;obtain⟨a,b,c,d,e⟩:=hs;exact⟨hf,b,c,d,e⟩
theorem Hd.choose_small {x:Sn} (h:Hd x) {o:List Str} (ho:o.length≤1000000):(x.choose o).small:=by
 obtain⟨hs,_,_⟩:=h.small;obtain⟨k,t,n,hh,u,f',o',l⟩:=x;obtain⟨a,b,c,d,e⟩:=hs;exact⟨a,ho,c,d,e⟩
theorem braced_small {ps:Str→List Sn × Str} {x y:Sn} {r s:Str} (hx:Hd x) (hr:r.length≤100000) (hps:∀t,t.length<r.length→Sn.smallL (ps t).1∧(ps t).1.length≤1000000) (h:bracedS ps x r=some (y,s)):y.small:=by
 cases r with
 | nil=>cases h
 | cons c r =>
  simp only [bracedS] at h;split at h
  ·injection h with h;injection h with h h';subst h;exact hx.small.1
  ·split at h
   ·obtain⟨h1,h2⟩:=hps r (by simp)
    split at h
    ·cases h
    ·injection h with h;injection h with h h';subst h;exact hx.give_small h1 h2
   ·split at h
    ·unfold optsM at h
     split at h
     ·split at h
      ·injection h with h;injection h with h h';subst h
       have:=optL_cnt r.length r [] [] (Nat.le_refl _)
       simp at this hr
       exact hx.choose_small (by omega)
      ·cases h
     ·cases h
    ·split at h
     ·cases h
     ·rename_i heq
      injection h with h;injection h with h h';subst h
      exact hx.turn_small (formM_small heq hr)
theorem textS_small {t:Str} (h:t.length≤1000000):(textS t).small:=⟨tf0_small,by simp,by simp,h,trivial⟩
theorem withT_small {t:Str} (h:t.length≤1000000):Sn.smallL (withT [] t):=by
 unfold withT;split
 ·trivial
 ·exact⟨textS_small h,trivial⟩
theorem parts_cntL (ins:Bool) (t r:Str):(partsS ins [] t r).1.length≤r.length+1:=by
 have h1:=((parts_good r.length).2 ins t r (Nat.le_refl _)).2.2.1;have h2:=Sn.len_parts (partsS ins [] t r).1;have:=tl_le t
 omega
theorem parts_small:∀(N:Nat),N≤100000→(∀r x s,r.length≤N→partS r=some (x,s)→x.small)∧(∀ins t r,r.length≤N→t.length+r.length≤100000→Sn.smallL (partsS ins [] t r).1)
 | 0,_=>by
  refine⟨fun r x s h hp=>?_,fun ins t r h ht=>?_⟩
  ·have:r=[]:=List.eq_nil_of_length_eq_zero (by omega)
   subst this;rw [partS_nil] at hp;cases hp
  ·have:r=[]:=List.eq_nil_of_length_eq_zero (by omega)
   subst this;rw [partsS_nil];exact withT_small (by omega)
 | N+1,hN=>by
  obtain⟨ih1,ih2⟩:=parts_small N (by omega);have k1:∀r x s,r.length≤N+1→partS r=some (x,s)→x.small:=fun r x s hr h=>by
   rw [partS_eq] at h;cases r with
   | nil=>cases h
   | cons c r =>
    simp only [List.length_cons] at hr;simp only [wholeM] at h;split at h
    ·split at h
     ·cases h
     ·rename_i heq
      have h1:=headM_len heq;exact braced_small (headM_hd heq) (by omega) (fun t ht=>⟨ih2 true [] t (by omega) (by simp;omega),by have:=parts_cntL true [] t;omega⟩) h
    ·exact(headM_hd h).small.1
  refine⟨k1,fun ins t r hr ht=>?_⟩;cases r with
  | nil=>rw [partsS_nil];exact withT_small (by simp at ht;omega)
  | cons c r =>
   simp only [List.length_cons] at hr ht;rw [partsS_cons];split
   ·exact withT_small (by omega)
   ·split
    ·rename_i x r2 he
     have hx:partS r=some (x,r2):=by
      unfold dolM at he;split at he
      ·exact he
      ·cases he
     have h1:=partS_len hx;rw [parts_out ins r2.length (withT [] t++[x]) [] r2 (Nat.le_refl _)];refine Sn.smallL_app.2 ⟨Sn.smallL_app.2 ⟨withT_small (by omega),k1 r x r2 (by omega) hx,trivial⟩,ih2 ins [] r2 (by omega) (by simp;omega)⟩
    ·have hl:=nxtM_len three c r
     exact ih2 ins (t++[(nxtM three (c::r)).1]) (nxtM three (c::r)).2 (by omega) (by simp;omega)
theorem snip_small {s:Str} (h:s.length≤100000):Sn.smallL (snipL s)∧(snipL s).length≤1000000∧Sn.partsL (snipL s)≤1000000:=by
 rw [snipL_eq];have h1:=((parts_good s.length).2 false [] s (Nat.le_refl _)).2.2.1;have h2:=parts_cntL false [] s;exact⟨(parts_small s.length h).2 false [] s (Nat.le_refl _) (by simp;omega),by omega,by have:=tl_le [];omega⟩
end Go.Proofs.Ytbgcjpefocdkkaa
set_option maxRecDepth 100000
namespace Go.Proofs.Ytbgcjpefocdkkaa
open Go.RowKit Go.Maps Go.MapKept
def SReadPost (s:Str) (w:World) (e:Ending) (w':World):Prop:=Below w.heap.size w w' ∧
 match snipM s with
 | .error q=>e=.returned (.tuple #[.slice none 0 0,.int .i64 q])
 | .ok l=>∃(a:Option Addr) (c:Nat),e=.returned (.tuple #[.slice a l.length c,.int .i64 0])∧SnSl w' (fun b=>w.heap.size≤b) a l.length l
theorem Gr2.old {g m n:Nat} {w w1 w':World} (h:Gr2 g m w1 w') (hb:Below n w w1) (hn:n≤w1.heap.size) (hg:n≤g) (hm:n≤m):Below n w w' :=
 ⟨h.os.trans hb.os,h.tape.trans hb.tape,h.output.trans hb.output,Nat.le_trans hb.size h.size,fun k hk=>(h.block k (by omega) (by omega) (by omega)).trans (hb.block k hk)⟩
set_option maxHeartbeats 2000000 in
theorem SRead_any (s:Str) (w:World) (hs:s.length≤1000000000):Calls Try.prog 10 #[.string ⟨(s).toArray⟩] w fun e w'=>SReadPost s w e w':=by
 by_cases h8:8192<s.length
 ·have HM:Hid (snipM s=.error 4):=Lib.hid (by unfold snipM;rw [if_pos h8])
  have gl:decide ((8192:Int)<(s.length:Int))=true:=decide_eq_true (by omega);go_enter Try.func10,Try.ntmps10
  go_wp2
  go_ret2
  exact⟨Below.refl _ _,by rw [HM.out];rfl⟩
 ·have gl:decide ((8192:Int)<(s.length:Int))=false:=decide_eq_false (by omega)
  obtain⟨hsm,hln,hpn⟩:=snip_small (s:=s) (by omega);have HPN:=Lib.hid hpn;have HSM:=Lib.hid hsm;have HLN:=Lib.hid hln;have hparts:=parts_all (g:=w.heap.size+1) (m:=w.heap.size) (s:=s) (by omega);have HPP:=Lib.hid hparts;clear hparts hsm hln hpn;obtain⟨W1,hW1⟩:∃W1,W1=(w.alloc (.map #[] 0)).alloc (.cells #[.string ⟨(s).toArray⟩,.int .i64 0,.map (some w.heap.size)] 57):=⟨_,rfl⟩;have hb1:Below w.heap.size w W1:=by rw [hW1];exact((Below.refl _ _).alloc (Nat.le_refl _) _).alloc (by simp) _
  have hz1:W1.heap.size=w.heap.size+2:=by rw [hW1];simp
  have hrs:Rs (fun _=>False) W1 (w.heap.size+1) w.heap.size s 0:=by
   refine⟨⟨?_,by omega,by omega⟩,by omega,⟨#[],0,?_,fun e he=>by simp at he⟩,fun h=>h,fun h=>h,fun b h=>h.elim⟩
   ·have:=heap_alloc_new (w.alloc (.map #[] 0)) (.cells #[.string ⟨(s).toArray⟩,.int .i64 0,.map (some w.heap.size)] 57)
    rw [hW1];simpa using this
   ·rw [hW1,Below.heap_alloc _ _ _ (by simp)];exact heap_alloc_new w _
  have HPA:=Lib.hid (HPP.out (fun _=>False) W1 false 0 hrs (by omega));have HW1:=Lib.hid hW1;clear hrs hW1;have hmk:(Instr.makeMap 55 none).run Try.prog w=.ok (.map (some w.heap.size)) (w.alloc (.map #[] 0)):=rfl;go_enter Try.func10,Try.ntmps10
  go_upto_region 4 with fail
  rw [←HW1.out];go_wp2_with (go_at_call 19;refine HPA.out.mono ?_)
  rintro e w2 ⟨hg2,S2,j2,a2,c2,rfl,hr2,_,hT2,hsl2,_⟩;have hq:(partsS false [] [] (s.drop 0)).1=snipL s:=by rw [List.drop_zero,snipL_eq]
  rw [hq] at hsl2 ⊢;have hbw2:Below w.heap.size w w2:=hg2.old hb1 (by omega) (by omega) (Nat.le_refl _);have HDE:=Lib.hid (SDeep_any S2 (Sn.partsL (snipL s)+1) (snipL s) (by omega) HPN.out a2 c2 w2 hsl2);have HSL:=Lib.hid hsl2;have HBW2:=Lib.hid hbw2;clear hg2 hr2 hT2 hsl2 hq hbw2 HPA HPP HW1 hb1;by_cases hd:32<Sn.deepL (snipL s)
  ·have HM:Hid (snipM s=.error 8):=Lib.hid (by unfold snipM;rw [if_neg h8,if_pos hd])
   have gd:decide ((32:Int)<(Sn.deepL (snipL s):Int))=true:=decide_eq_true (by omega);have gdn:decide (32<Sn.deepL (snipL s))=true:=decide_eq_true hd;go_wp2_with (go_at_call 12;refine HDE.out.mono ?_;rintro e w3 ⟨rfl,hb3⟩)
   go_ret2
   exact⟨bel2 HBW2.out hb3,by rw [HM.out];rfl⟩
  ·have HM:Hid (snipM s=.ok (snipL s)):=Lib.hid (by unfold snipM;rw [if_neg h8,if_neg hd])
   have gd:decide ((32:Int)<(Sn.deepL (snipL s):Int))=false:=decide_eq_false (by omega);have gdn:decide (32<Sn.deepL (snipL s))=false:=decide_eq_false hd;go_wp2_with (first|(go_at_call 12;refine HDE.out.mono ?_;rintro e w3 ⟨rfl,hb3⟩)|(go_at_call 20;refine(NClone_any S2 (Sn.partsL (snipL s)+1) (snipL s) (by omega) HSM.out HLN.out a2 c2 _ (HSL.out.later hb3)).mono ?_))
   rintro e w4 ⟨a4,c4,rfl,hsl4,hb4⟩;have HB4:=Lib.hid (bel2 (bel2 HBW2.out hb3) hb4);have hz3:=(bel2 HBW2.out hb3).size;have HSL4:=Lib.hid (hsl4.mono (S':=fun b=>w.heap.size≤b) fun b hb _=>Nat.le_trans hz3 hb);go_wp2
   go_ret2
   exact⟨HB4.out,by rw [HM.out];exact⟨a4,c4,rfl,HSL4.out⟩⟩
theorem SRead_ok {s:Str} {l:List Sn} (w:World) (hs:s.length≤1000000000) (h:snipM s=.ok l) :
  Calls Try.prog 10 #[.string ⟨(s).toArray⟩] w fun e w'=>∃(a:Option Addr) (c:Nat),e=.returned (.tuple #[.slice a l.length c,.int .i64 0])∧Below w.heap.size w w'∧SnSl w' (fun b=>w.heap.size≤b) a l.length l:=by
 refine(SRead_any s w hs).mono ?_
 rintro e w' ⟨h1,h2⟩;rw [h] at h2;obtain⟨a,c,h3,h4⟩:=h2;exact⟨a,c,h3,h1,h4⟩
end Go.Proofs.Ytbgcjpefocdkkaa
set_option maxRecDepth 100000
namespace Go.Proofs.Ytbgcjpefocdkkaa
open Go.RowKit
def awS1:Str:=[36,123,49,58,97,36,50,125,98]
def awS2:Str:=[36,123,49,58,97]
def awL1:List Sn:=[.mk 1 [] 1 true false tf0 [] [textS [97],stopS 2],textS [98]]
theorem awS1_read:snipM awS1=.ok awL1:=by kernel_rfl
theorem awS2_read:snipM awS2=.ok [textS awS2]:=by kernel_rfl
set_option maxHeartbeats 2000000 in
theorem awake21 (w:World):Calls Try.prog 11 #[] w fun e w'=>e=.returned (.bool true)∧Below w.heap.size w w':=by
 have H1:=Lib.hid (fun w=>SRead_ok (s:=awS1) w (by decide) awS1_read);have H2:=Lib.hid (fun w=>SRead_ok (s:=awS2) w (by decide) awS2_read);unfold awS1 at H1;unfold awS2 at H2;go_enter Try.func11,Try.ntmps11
 go_wp2_with (go_at_call 10;refine(H1.out _).mono ?_)
 rintro e w1 ⟨a1,c1,rfl,hb1,hs1⟩;go_wp2_with (go_at_call 10;refine(H2.out _).mono ?_)
 rintro e w2 ⟨a2,c2,rfl,hb2,hs2⟩;have hbw:=bel2 hb1 hb2;obtain⟨b,o,x0,rfl,_,_,hx0,hc0⟩:=(hs1.later hb2).at_ (k:=0) (x:=.mk 1 [] 1 true false tf0 [] [textS [97],stopS 2]) rfl;obtain⟨b',o',x1,he,_,_,hx1,hc1⟩:=(hs1.later hb2).at_ (k:=1) (x:=textS [98]) rfl;obtain⟨b2,o2,y0,rfl,_,_,hy0,hd0⟩:=hs2.at_ (k:=0) (x:=textS [36,123,49,58,97]) rfl;injection he with he;injection he with he1 he2;subst he1;subst he2
 obtain⟨fc,oa,oc,ka,kc,A0⟩:=hx0.at_;obtain⟨fc1,oa1,oc1,ka1,kc1,A1⟩:=(show SnV w2 _ x1 (.mk 0 [98] 0 false false tf0 [] []) from hx1).at_;obtain⟨fc2,oa2,oc2,ka2,kc2,A2⟩:=(show SnV w2 _ y0 (.mk 0 [36,123,49,58,97] 0 false false tf0 [] []) from hy0).at_;obtain⟨b3,o3,z1,rfl,_,_,hz1,he1⟩:=A0.kv.at_ (k:=1) (x:=stopS 2) rfl;obtain⟨fc3,oa3,oc3,ka3,kc3,A3⟩:=(show SnV w2 _ z1 (.mk 1 [] 2 false false tf0 [] []) from hz1).at_;have q1:=hc0 2 _ A0.c2;have q2:=hc0 3 _ A0.c3;have q3:=hc0 17 _ A0.c17;have q4:=hc1 1 _ A1.c1;have q5:=hd0 1 _ A2.c1;have q6:=he1 2 _ A3.c2;simp only [Nat.zero_mul,Nat.zero_add,Nat.one_mul,←Nat.add_assoc] at q1 q2 q3 q4 q5 q6;clear A0 A1 A2 A3 hx0 hx1 hy0 hz1 hc0 hc1 hd0 he1 hs1 hs2 hb1 hb2;go_wp2
 go_ret
 exact⟨rfl,hbw⟩
end Go.Proofs.Ytbgcjpefocdkkaa
