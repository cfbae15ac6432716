/- Snippets in memory: what a value of eighteen cells is read as. -/
import Derived.Test.YtbgcjpefocdkkaaSx1
import Derived.Test.YtbgcjpefocdkkaaSx2
import Derived.Test.YtbgcjpefocdkkaaSx10
import Derived.Test.YtbgcjpefocdkkaaSx3
import Derived.Test.YtbgcjpefocdkkaaSx4
import Derived.Test.YtbgcjpefocdkkaaSx13
import Derived.Lib.ItoaMem
import Derived.Test.YtbgcjpefocdkkaaSx12
import Derived.Test.YtbgcjpefocdkkaaSx26
import Derived.Test.YtbgcjpefocdkkaaSx5
import Derived.Test.YtbgcjpefocdkkaaSx6
import Derived.Test.YtbgcjpefocdkkaaSx7
import Derived.Test.YtbgcjpefocdkkaaSx8
import Derived.Test.YtbgcjpefocdkkaaSx9
import Derived.Test.YtbgcjpefocdkkaaSx11
import Derived.Test.YtbgcjpefocdkkaaSx14
import Derived.Test.YtbgcjpefocdkkaaSx15
import Derived.Test.YtbgcjpefocdkkaaSx16
import Derived.Test.YtbgcjpefocdkkaaSx17
import Derived.Test.YtbgcjpefocdkkaaSx18
import Derived.Test.YtbgcjpefocdkkaaSx19
import Derived.Test.YtbgcjpefocdkkaaSx20
import Derived.Test.YtbgcjpefocdkkaaSx21
import Derived.Test.YtbgcjpefocdkkaaSx22
import Derived.Test.YtbgcjpefocdkkaaSx23
import Derived.Test.YtbgcjpefocdkkaaSx24
import Derived.Test.YtbgcjpefocdkkaaSx25
import Derived.Test.YtbgcjpefocdkkaaSx27
import Derived.Test.YtbgcjpefocdkkaaSx28
import Derived.Test.YtbgcjpefocdkkaaSx29
set_option maxRecDepth 100000
namespace Go.Proofs.Ytbgcjpefocdkkaa
open Go.RowKit
theorem SnVs.one {w:World} {S:Nat→Prop}:∀{css:List (List Value)} {xs:List Sn},SnVs w S css xs→∀u∈css.flatten,u.oneCell'=true
 | _,_,.nil,u,hu=>by simp at hu
 | _,_,.cons h1 h2,u,hu=>by
  rw [List.flatten_cons,List.mem_append] at hu;rcases hu with hu|hu
  ·exact h1.one u hu
  ·exact h2.one u hu
end Go.Proofs.Ytbgcjpefocdkkaa
set_option maxRecDepth 100000
namespace Go.Proofs.Ytbgcjpefocdkkaa
theorem noclose:∀(n:Nat) (out:List Sn) (text r:Str),r.length≤n→125 ∉ r→(partsS true out text r).2=[]
 | _,out,text,[],_,_=>rfl
 | 0,_,_,_::_,h,_=>by simp at h
 | n+1,out,text,c::r,h,hn=>by
  simp only [List.length_cons] at h;have hc:c.toNat≠125:=fun e=>hn (by rw [show c=125 from UInt8.toNat_inj.1 e];exact List.mem_cons_self ..)
  have hr:125 ∉ r:=fun e=>hn (List.mem_cons_of_mem _ e)
  rw [partsS_cons,if_neg (fun e=>hc e.2)];split
  ·rename_i x r2 he
   have h1:r2 <:+ r:=by
    unfold dolM at he;split at he
    ·exact partS_sfx he
    ·cases he
   exact noclose n _ _ _ (by have:=h1.length_le;omega) (fun e=>hr (h1.subset e))
  ·have h1:=nxtM_sfx three c r
   exact noclose n _ _ _ (by have:=h1.length_le;omega) (fun e=>hr (h1.subset e))
theorem form_noclose {r:Str} (h:125 ∉ r):formM r=none:=by
 cases hf:formM r with
 | none=>rfl
 | some y=>exact absurd (formM_sfx (f:=y.1) (s:=y.2) hf).2 h
theorem opts_noclose (x:Sn) {r:Str} (h:125 ∉ r):optsM x r=none:=by
 cases hf:optsM x r with
 | none=>rfl
 | some y=>exact absurd (optsM_sfx (y:=y.1) (s:=y.2) hf).2 h
theorem braced_noclose (x:Sn) {r:Str} (h:125 ∉ r):bracedS (partsS true [] []) x r=none:=by
 cases r with
 | nil=>rfl
 | cons c r =>
  have hc:c.toNat≠125:=fun e=>h (by rw [show c=125 from UInt8.toNat_inj.1 e];exact List.mem_cons_self ..)
  have hr:125 ∉ r:=fun e=>h (List.mem_cons_of_mem _ e)
  simp only [bracedS];rw [if_neg hc,noclose r.length [] [] r (Nat.le_refl _) hr,opts_noclose x hr,form_noclose h];split
  ·rfl
  ·split<;>rfl
theorem part_noclose {r:Str} (h:125 ∉ r):partS (123::r)=none:=by
 rw [partS_brace];cases hh:headM r with
 | none=>rfl
 | some y =>
  obtain⟨x,r2⟩:=y;exact braced_noclose x (fun e=>h ((headM_sfx hh).subset e))
def topL (t r:Str):List Sn:=(partsS false [] t r).1
theorem topL_nil (t:Str):topL t []=withT [] t:=rfl
theorem topL_cons (t:Str) (c:UInt8) (r:Str):topL t (c::r)=match dolM partS c r with
  | some (x,r2)=>withT [] t++x::topL [] r2
  | none=>topL (t++[(nxtM three (c::r)).1]) (nxtM three (c::r)).2:=by
 unfold topL;rw [partsS_cons,if_neg (by simp)];cases he:dolM partS c r with
 | some y =>
  obtain⟨x,r2⟩:=y;simp only
  rw [parts_out false _ _ _ _ (Nat.le_refl _)];simp
 | none=>rfl
theorem part_kind {r:Str} {x:Sn} {s:Str} (h:partS r=some (x,s)):x.kind≠0:=by
 have hh:∀{r:Str} {x:Sn} {s:Str},headM r=some (x,s)→x.kind≠0:=by
  intro r x s h;unfold headM at h;split at h
  ·injection h with h;injection h with h _;subst h;exact(by decide:(1:Int)≠0)
  ·unfold nameM at h
   split at h
   ·injection h with h;injection h with h _;subst h;exact(by decide:(3:Int)≠0)
   ·cases h
 have hb:∀{ps:Str→List Sn × Str} {x y:Sn} {r s:Str},x.kind≠0→bracedS ps x r=some (y,s)→y.kind≠0:=by
  intro ps x y r s hx h;obtain⟨k,t,n,hs,u,f,o,ks⟩:=x;cases r with
  | nil=>cases h
  | cons c r =>
   simp only [bracedS] at h;split at h
   ·injection h with h;injection h with h _;subst h;exact hx
   ·split at h
    ·split at h
     ·cases h
     ·injection h with h;injection h with h _;subst h;exact hx
    ·split at h
     ·unfold optsM at h
      split at h
      ·split at h
       ·injection h with h;injection h with h _;subst h;exact(by decide:(2:Int)≠0)
       ·cases h
      ·cases h
     ·split at h
      ·cases h
      ·injection h with h;injection h with h _;subst h;exact hx
 rw [partS_eq] at h;cases r with
 | nil=>cases h
 | cons c r =>
  simp only [wholeM] at h;split at h
  ·split at h
   ·cases h
   ·rename_i heq
    exact hb (hh heq) h
  ·exact hh h
theorem join_withT (t u:Str) (l:List Sn):joinG (withT [] u++l) t=joinG l (t++u):=by
 unfold withT;split
 ·rename_i h;subst h;simp
 ·simp only [List.nil_append,List.singleton_append,joinG]
  rw [if_pos (by rfl)];rfl
theorem join_top:∀(n:Nat) (r t u:Str),r.length≤n→joinG (topL u r) t=topL (t++u) r
 | _,[],t,u,_=>by
  rw [topL_nil,topL_nil];have:=join_withT t u []
  rw [List.append_nil] at this;rw [this];rfl
 | 0,_::_,_,_,h=>by simp at h
 | n+1,c::r,t,u,h=>by
  simp only [List.length_cons] at h;rw [topL_cons,topL_cons];split
  ·rename_i x r2 he
   have h1:r2.length≤r.length∧x.kind≠0:=by
    unfold dolM at he;split at he
    ·exact⟨(partS_sfx he).length_le,part_kind he⟩
    ·cases he
   rw [join_withT];simp only [joinG];rw [if_neg h1.2,join_top n r2 [] [] (by omega)];rfl
  ·have h1:=(nxtM_sfx three c r).length_le
   rw [join_top n _ t _ (by omega),List.append_assoc]
theorem top_open {h s:Str} (hp:partS (h++s)=none) (hh:∀c∈h,c.toNat≠36∧c.toNat≠92):snipL (36::(h++s))=joinG (textS (36::h)::snipL s) []:=by
 rw [snipL_eq,snipL_eq,parts_dol false [] [] _ hp,parts_plain false [] h _ s (fun c hc=>⟨(hh c hc).1,(hh c hc).2,fun e=>by cases e⟩)];have h1:=join_top s.length s (36::h) [] (Nat.le_refl _);rw [List.append_nil] at h1;simp only [joinG];rw [if_pos (by rfl)];exact h1.symm
end Go.Proofs.Ytbgcjpefocdkkaa
set_option maxRecDepth 100000
namespace Go.Proofs.Ytbgcjpefocdkkaa
open Go.RowKit
theorem own_lit1 (w:World) (cs:Array Value) (h:cs.size=18):(w.alloc (.cells cs 36)).ownsRow w.heap.size 36 18 (.slice (some ⟨w.heap.size,0,none⟩) 1 1) 1 cs.toList :=
 ⟨by simp [h],.inr ⟨w.heap.size,1,cs,rfl,Nat.le_refl _,heap_alloc_new _ _,Nat.le_refl _,by decide,by simp [h],by rw [List.take_of_length_le (by simp [h])]⟩⟩
theorem top_flat:∀(n:Nat) (r t:Str),r.length≤n→125 ∉ r→Sn.deepL (topL t r)=0
 | _,[],t,_,_=>by rw [topL_nil,deepL_withT]
 | 0,_::_,_,h,_=>by simp at h
 | n+1,c::r,t,h,h1=>by
  simp only [List.length_cons] at h;have h2:125 ∉ r:=fun e=>h1 (List.mem_cons_of_mem _ e)
  rw [topL_cons];split
  ·rename_i x r2 he
   have hp:partS r=some (x,r2):=by
    unfold dolM at he;split at he
    ·exact he
    ·cases he
   have hx:x.deep=0:=by
    cases r with
    | nil=>rw [partS_nil] at hp;cases hp
    | cons d r' =>
     by_cases hd:d.toNat=123
     ·obtain rfl:d=123:=UInt8.toNat_inj.1 hd
      rw [part_noclose (fun e=>h2 (List.mem_cons_of_mem _ e))] at hp;cases hp
     ·rw [partS_bare hd] at hp
      exact(headM_hd hp).deep
   have hs:=partS_sfx hp;rw [Sn.deepL_app,deepL_withT];simp only [Sn.deepL];rw [hx,top_flat n r2 [] (by have:=hs.length_le;omega) (fun e=>h2 (hs.subset e))];rfl
  ·have h3:=nxtM_sfx three c r
   exact top_flat n _ _ (by have:=h3.length_le;omega) (fun e=>h2 (h3.subset e))
theorem tsum_app:∀a b:List Sn,tsum (a++b)=tsum a+tsum b
 | [],b=>by simp [tsum]
 | x::a,b=>by simp only [List.cons_append,tsum,tsum_app a b];omega
theorem tsum_withT (t:Str):tsum (withT [] t)=t.length:=by
 unfold withT;split
 ·rename_i h;subst h;rfl
 ·rfl
theorem top_tsum:∀(n:Nat) (r t:Str),r.length≤n→tsum (topL t r)≤t.length+r.length
 | _,[],t,_=>by rw [topL_nil,tsum_withT];omega
 | 0,_::_,_,h=>by simp at h
 | n+1,c::r,t,h=>by
  simp only [List.length_cons] at h ⊢;rw [topL_cons];split
  ·rename_i x r2 he
   have h1:r2.length≤r.length∧x.kind≠0:=by
    unfold dolM at he;split at he
    ·exact⟨(partS_sfx he).length_le,part_kind he⟩
    ·cases he
   rw [tsum_app,tsum_withT];simp only [tsum];rw [if_neg h1.2];have:=top_tsum n r2 [] (by omega)
   simp only [List.length_nil] at this;omega
  ·have h3:=(nxtM_sfx three c r).length_le
   have:=top_tsum n (nxtM three (c::r)).2 (t++[(nxtM three (c::r)).1]) (by omega)
   rw [List.length_append] at this;simp only [List.length_singleton] at this;omega
theorem snip_flat {s:Str} (h:125 ∉ s):Sn.deepL (snipL s)=0:=by rw [snipL_eq];exact top_flat s.length s [] (Nat.le_refl _) h
theorem snip_tsum (s:Str):tsum (snipL s)≤s.length:=by
 have:=top_tsum s.length s [] (Nat.le_refl _)
 rw [snipL_eq];simpa [topL] using this
theorem open_read {h s:Str} (hp:partS (h++s)=none) (hh:∀c∈h,c.toNat≠36∧c.toNat≠92∧c.toNat≠125) (hno:125 ∉ s) (hl:h.length+s.length≤8000) :
  ∃L,snipM (36::(h++s))=.ok L∧joinG (textS (36::h)::snipL s) []=L∧Sn.smallL L∧L.length≤1000000:=by
 have h1:=top_open hp (fun c hc=>⟨(hh c hc).1,(hh c hc).2.1⟩);have h2:125 ∉ 36::(h++s):=fun e=>by
  rcases List.mem_cons.1 e with e|e
  ·revert e;decide
  ·rcases List.mem_append.1 e with e|e
   ·exact(hh _ e).2.2 rfl
   ·exact hno e
 have hlen:(36::(h++s)).length≤8192:=by simp;omega
 have h3:=snip_small (s:=36::(h++s)) (by omega);exact⟨_,snipM_ok rfl hlen (by rw [snip_flat h2];omega),h1.symm,h3.1,h3.2.1⟩
theorem open_self {s:Str} (hno:125 ∉ s) (hl:s.length≤8000):snipM s=.ok (snipL s):=snipM_ok rfl (by omega) (by rw [snip_flat hno];omega)
theorem open_join {h s:Str} {L:List Sn} (hj:joinG (textS (36::h)::snipL s) []=L) (hl:h.length+s.length≤8000) (n:Nat) (hn:n=(textS (36::h)::snipL s).length) (S0:Nat→Prop) (a:Option Addr) (c:Nat) (w:World) (hx:SnSl w S0 a n (textS (36::h)::snipL s)) :
  Calls Try.prog 18 #[.slice a n c] w fun e w'=>∃a' c',e=.returned (.slice a' L.length c')∧SnSl w' (fun b=>w.heap.size≤b) a' L.length L∧Below w.heap.size w w':=by
 subst hn;subst hj;have h3:=snip_small (s:=s) (by omega);have h4:=snip_tsum s;have h5:=Sn.len_parts (snipL s);have h6:=(snip_good s).2.2.1;exact Join_any S0 (textS (36::h)::snipL s) ⟨textS_small (by simp;omega),h3.1⟩ (by simp;omega) (by show (36::h).length+tsum (snipL s)≤1000000;simp;omega) a c w hx
theorem part_open {s h:Str} (hno:125 ∉ s) (hh:125 ∉ h):partS (123::h++s)=none :=
 part_noclose (r:=h++s) (fun e=>by rcases List.mem_append.1 e with e|e;exact hh e;exact hno e)
def OnRel (s:Str) (w:World) (q:Value) (wr:World):Prop:=∃i:Nat,q=.int .i64 i∧i≤s.length∧w=wr
end Go.Proofs.Ytbgcjpefocdkkaa
set_option maxRecDepth 100000
namespace Go.Proofs.Ytbgcjpefocdkkaa
open Go.RowKit
set_option maxHeartbeats 4000000 in
theorem SreadOpen_0 (s:Str) (z:Int) (w:World) (hno:125 ∉ s) (hl:s.length≤100) (hk:low z 9=0):Calls Try.prog 7 #[.string ⟨(s).toArray⟩,.int .i64 z] w fun e w'=>e=.returned (.bool true)∧Below w.heap.size w w':=by
 have hno0:=hno;obtain⟨L,hr,hj,hsm,hLl⟩:=open_read (h:=[123,49,58]) (s:=s) (part_open hno (h:=[49,58]) (by decide)) (by decide) hno (by simp;omega);have hBl:(snipL s).length≤1000:=by
  have h5:=Sn.len_parts (snipL s);have h6:=(snip_good s).2.2.1;omega
 have H1:=Lib.hid (sreadH hr (by simp;omega));have H2:=Lib.hid (sreadH (open_self hno (by omega)) (by omega));have HJ:=Lib.hid (open_join hj (by simp;omega));have HS:=Lib.hid (nsame hsm hLl);have HL:=Lib.hid (fun w=>hk▸Low_any z 9 w (by omega) (by omega));have HNO:=Lib.hid hno0;obtain⟨iN,hiN⟩:=info_parts snip_info;obtain⟨B,hB⟩:∃B,snipL s=B:=⟨_,rfl⟩;rw [hB] at H2 HJ hBl;have dg:decide ((100:Int)<(s.length:Int))=false:=decide_eq_false (by omega);clear hr hj hsm hLl hno hno0 hB hk;go_enter Try.func7,Try.ntmps7
 go_wp2
 go_loopw [5] (fun q wr=>OnRel s w q wr) (fun q _=>s.length-(intOf q).toNat)
 case atStart=>exact⟨0,rfl,by omega,rfl⟩
 case round =>
  obtain⟨i,rfl,hi,rfl⟩:=hrel;cases hd:s.drop i with
  | cons c r =>
   obtain⟨h2,h3,hr⟩:=drop_cons hd;have hcm:c.toNat≠125:=fun e=>HNO.out (by
    obtain rfl:c=125:=UInt8.toNat_inj.1 e;rw [←h3 h2];exact List.getElem_mem h2)
   have hcb:((c.toNat:Int)==125)=false:=by rw [beq_eq_false_iff_ne];omega
   clear hd hr hcm;go_wp2
   go_roundw
   case rel=>exact⟨i+1,by go_num,by omega,rfl⟩
   case measure=>simp [intOf];omega
  | nil =>
   have h2:=drop_nil hd;clear hd HNO;go_wp2_with (go_at_call 9;refine(HL.out _).mono ?_)
   first|rintro e wl rfl hwl|rintro e wl ⟨rfl,hwl⟩
   have hb1:Below w.heap.size w wl:=by rw [←hwl];exact(Below.refl _ _).alloc (Nat.le_refl _) _
   have c1:wl.cell? ⟨w.heap.size,0,none⟩=some (.string ⟨([36,123,49,58]).toArray⟩):=by rw [←hwl];rw [Lib.cell_of_heap (heap_alloc_new _ _)];rfl
   clear hwl;go_wp2_with (go_at_call 10;refine(H1.out _ _ (by simp)).mono ?_)
   rintro e w2 ⟨a2,c2,rfl,hb2,hs2⟩;go_wp2_with (go_at_call 10;refine(H2.out _ _ rfl).mono ?_)
   rintro e w3 ⟨a3,c3,rfl,hb3,hs3⟩;have hbw3:=bel2 (bel2 hb1 hb2) hb3;have HA:=Lib.hid (hs2.later hb3);have hb4:Below w3.heap.size w3 (w3.alloc (.cells #[.int .i64 0,.string ⟨((36::[123,49,58])).toArray⟩,.int .i64 0,.bool false,.bool false,.int .i64 0,.string ⟨#[]⟩,.bool false,.slice none 0 0,.int .i64 0,.int .i64 0,.bool false,.slice none 0 0,.slice none 0 0,.bool false,.bool false,.slice none 0 0,.slice none 0 0] 36)):=(Below.refl _ _).alloc (Nat.le_refl _) _;obtain⟨css,hsl,hvs⟩:=(hs3.mono (S':=fun b=>b<w3.heap.size) (fun b _ hlt=>hlt)).later hb4;have HSL:=Lib.hid hsl.sl;have HVS:=Lib.hid (hvs.mono (S':=fun b=>b<w3.heap.size∧(Value.slice (some ⟨w3.heap.size,0,none⟩) 1 1).ownBlock≠some b) (fun b hb _=>⟨hb,fun e=>by simp [Value.ownBlock] at e;omega⟩));have HONE:=Lib.hid hvs.one;have HOW:=Lib.hid (own_lit1 w3 #[.int .i64 0,.string ⟨((36::[123,49,58])).toArray⟩,.int .i64 0,.bool false,.bool false,.int .i64 0,.string ⟨#[]⟩,.bool false,.slice none 0 0,.int .i64 0,.int .i64 0,.bool false,.slice none 0 0,.slice none 0 0,.bool false,.bool false,.slice none 0 0,.slice none 0 0] rfl);have HB4:=Lib.hid hb4;clear hb1 hb2 hb3 hs2 hs3 hb4 hsl hvs c1;go_wp2_with (at_builtin;refine wpList_appG (by rfl) w3.heap.size 36 _ _ 23 rfl Try.underlying23 hiN rfl (by decide) rfl HOW.out rfl HSL.out HONE.out (by omega) (by omega) (by decide) (by simp) ?_)
   intro v' w5 ho5 hg5 hb5 hmv;obtain⟨a5,c5,rfl⟩:=own_form ho5;have how:=OwnN.app (css:=[[.int .i64 0,.string ⟨((36::[123,49,58])).toArray⟩,.int .i64 0,.bool false,.bool false,.int .i64 0,.string ⟨#[]⟩,.bool false,.slice none 0 0,.int .i64 0,.int .i64 0,.bool false,.slice none 0 0,.slice none 0 0,.bool false,.bool false,.slice none 0 0,.slice none 0 0]]) (S:=fun b=>b<w3.heap.size) (v:=Value.slice (some ⟨w3.heap.size,0,none⟩) 1 1) (xs:=[textS (36::[123,49,58])]) (m:=B.length) (.cons (textS_v _ _ _) .nil) HVS.out rfl (by simpa using ho5) hg5 hmv;have hs5:SnSl w5 (fun _=>True) a5 (1+B.length) (textS (36::[123,49,58])::B):=by
    have:=how.sl.2.mono (S':=fun _=>True) (fun _ _ _=>trivial)
    rw [List.length_append] at this;exact this
   have hb35:=HB4.out.trans hb5;have HJ5:=Lib.hid (HJ.out (1+B.length) (by simp;omega) _ a5 c5 w5 hs5);have HB35:=Lib.hid hb35;clear ho5 hg5 hb5 hmv how hs5 hb35;go_wp2_with (go_at_call 18;refine HJ5.out.mono ?_)
   rintro e w6 ⟨a6,c6,rfl,hs6,hb6⟩;have hb36:=HB35.out.trans (hb6.mono HB35.out.size);have HSa:=Lib.hid (HS.out _ _ a2 a6 c2 c6 w6 (HA.out.later hb36) hs6);have hbw6:=bel2 hbw3 hb36;clear hs6 hb6 hb36;go_wp2_with (go_at_call 15;refine HSa.out.mono ?_)
   first|rintro e w7 rfl hb7|rintro e w7 ⟨rfl,hb7⟩
   have hbw7:=bel2 hbw6 hb7;go_wp2_with (go_at_call 11;refine(awake21 _).mono ?_;rintro e w9 ⟨rfl,hb9⟩)
   go_ret
   exact⟨rfl,bel2 hbw7 hb9⟩
set_option maxHeartbeats 4000000 in
theorem SreadOpen_1 (s:Str) (z:Int) (w:World) (hno:125 ∉ s) (hl:s.length≤100) (hk:low z 9=1):Calls Try.prog 7 #[.string ⟨(s).toArray⟩,.int .i64 z] w fun e w'=>e=.returned (.bool true)∧Below w.heap.size w w':=by
 have hno0:=hno;obtain⟨L,hr,hj,hsm,hLl⟩:=open_read (h:=[123,97,58]) (s:=s) (part_open hno (h:=[97,58]) (by decide)) (by decide) hno (by simp;omega);have hBl:(snipL s).length≤1000:=by
  have h5:=Sn.len_parts (snipL s);have h6:=(snip_good s).2.2.1;omega
 have H1:=Lib.hid (sreadH hr (by simp;omega));have H2:=Lib.hid (sreadH (open_self hno (by omega)) (by omega));have HJ:=Lib.hid (open_join hj (by simp;omega));have HS:=Lib.hid (nsame hsm hLl);have HL:=Lib.hid (fun w=>hk▸Low_any z 9 w (by omega) (by omega));have HNO:=Lib.hid hno0;obtain⟨iN,hiN⟩:=info_parts snip_info;obtain⟨B,hB⟩:∃B,snipL s=B:=⟨_,rfl⟩;rw [hB] at H2 HJ hBl;have dg:decide ((100:Int)<(s.length:Int))=false:=decide_eq_false (by omega);clear hr hj hsm hLl hno hno0 hB hk;go_enter Try.func7,Try.ntmps7
 go_wp2
 go_loopw [5] (fun q wr=>OnRel s w q wr) (fun q _=>s.length-(intOf q).toNat)
 case atStart=>exact⟨0,rfl,by omega,rfl⟩
 case round =>
  obtain⟨i,rfl,hi,rfl⟩:=hrel;cases hd:s.drop i with
  | cons c r =>
   obtain⟨h2,h3,hr⟩:=drop_cons hd;have hcm:c.toNat≠125:=fun e=>HNO.out (by
    obtain rfl:c=125:=UInt8.toNat_inj.1 e;rw [←h3 h2];exact List.getElem_mem h2)
   have hcb:((c.toNat:Int)==125)=false:=by rw [beq_eq_false_iff_ne];omega
   clear hd hr hcm;go_wp2
   go_roundw
   case rel=>exact⟨i+1,by go_num,by omega,rfl⟩
   case measure=>simp [intOf];omega
  | nil =>
   have h2:=drop_nil hd;clear hd HNO;go_wp2_with (go_at_call 9;refine(HL.out _).mono ?_)
   first|rintro e wl rfl hwl|rintro e wl ⟨rfl,hwl⟩
   have hb1:Below w.heap.size w wl:=by rw [←hwl];exact(Below.refl _ _).alloc (Nat.le_refl _) _
   have c1:wl.cell? ⟨w.heap.size,1,none⟩=some (.string ⟨([36,123,97,58]).toArray⟩):=by rw [←hwl];rw [Lib.cell_of_heap (heap_alloc_new _ _)];rfl
   clear hwl;go_wp2_with (go_at_call 10;refine(H1.out _ _ (by simp)).mono ?_)
   rintro e w2 ⟨a2,c2,rfl,hb2,hs2⟩;go_wp2_with (go_at_call 10;refine(H2.out _ _ rfl).mono ?_)
   rintro e w3 ⟨a3,c3,rfl,hb3,hs3⟩;have hbw3:=bel2 (bel2 hb1 hb2) hb3;have HA:=Lib.hid (hs2.later hb3);have hb4:Below w3.heap.size w3 (w3.alloc (.cells #[.int .i64 0,.string ⟨((36::[123,97,58])).toArray⟩,.int .i64 0,.bool false,.bool false,.int .i64 0,.string ⟨#[]⟩,.bool false,.slice none 0 0,.int .i64 0,.int .i64 0,.bool false,.slice none 0 0,.slice none 0 0,.bool false,.bool false,.slice none 0 0,.slice none 0 0] 36)):=(Below.refl _ _).alloc (Nat.le_refl _) _;obtain⟨css,hsl,hvs⟩:=(hs3.mono (S':=fun b=>b<w3.heap.size) (fun b _ hlt=>hlt)).later hb4;have HSL:=Lib.hid hsl.sl;have HVS:=Lib.hid (hvs.mono (S':=fun b=>b<w3.heap.size∧(Value.slice (some ⟨w3.heap.size,0,none⟩) 1 1).ownBlock≠some b) (fun b hb _=>⟨hb,fun e=>by simp [Value.ownBlock] at e;omega⟩));have HONE:=Lib.hid hvs.one;have HOW:=Lib.hid (own_lit1 w3 #[.int .i64 0,.string ⟨((36::[123,97,58])).toArray⟩,.int .i64 0,.bool false,.bool false,.int .i64 0,.string ⟨#[]⟩,.bool false,.slice none 0 0,.int .i64 0,.int .i64 0,.bool false,.slice none 0 0,.slice none 0 0,.bool false,.bool false,.slice none 0 0,.slice none 0 0] rfl);have HB4:=Lib.hid hb4;clear hb1 hb2 hb3 hs2 hs3 hb4 hsl hvs c1;go_wp2_with (at_builtin;refine wpList_appG (by rfl) w3.heap.size 36 _ _ 23 rfl Try.underlying23 hiN rfl (by decide) rfl HOW.out rfl HSL.out HONE.out (by omega) (by omega) (by decide) (by simp) ?_)
   intro v' w5 ho5 hg5 hb5 hmv;obtain⟨a5,c5,rfl⟩:=own_form ho5;have how:=OwnN.app (css:=[[.int .i64 0,.string ⟨((36::[123,97,58])).toArray⟩,.int .i64 0,.bool false,.bool false,.int .i64 0,.string ⟨#[]⟩,.bool false,.slice none 0 0,.int .i64 0,.int .i64 0,.bool false,.slice none 0 0,.slice none 0 0,.bool false,.bool false,.slice none 0 0,.slice none 0 0]]) (S:=fun b=>b<w3.heap.size) (v:=Value.slice (some ⟨w3.heap.size,0,none⟩) 1 1) (xs:=[textS (36::[123,97,58])]) (m:=B.length) (.cons (textS_v _ _ _) .nil) HVS.out rfl (by simpa using ho5) hg5 hmv;have hs5:SnSl w5 (fun _=>True) a5 (1+B.length) (textS (36::[123,97,58])::B):=by
    have:=how.sl.2.mono (S':=fun _=>True) (fun _ _ _=>trivial)
    rw [List.length_append] at this;exact this
   have hb35:=HB4.out.trans hb5;have HJ5:=Lib.hid (HJ.out (1+B.length) (by simp;omega) _ a5 c5 w5 hs5);have HB35:=Lib.hid hb35;clear ho5 hg5 hb5 hmv how hs5 hb35;go_wp2_with (go_at_call 18;refine HJ5.out.mono ?_)
   rintro e w6 ⟨a6,c6,rfl,hs6,hb6⟩;have hb36:=HB35.out.trans (hb6.mono HB35.out.size);have HSa:=Lib.hid (HS.out _ _ a2 a6 c2 c6 w6 (HA.out.later hb36) hs6);have hbw6:=bel2 hbw3 hb36;clear hs6 hb6 hb36;go_wp2_with (go_at_call 15;refine HSa.out.mono ?_)
   first|rintro e w7 rfl hb7|rintro e w7 ⟨rfl,hb7⟩
   have hbw7:=bel2 hbw6 hb7;go_wp2_with (go_at_call 11;refine(awake21 _).mono ?_;rintro e w9 ⟨rfl,hb9⟩)
   go_ret
   exact⟨rfl,bel2 hbw7 hb9⟩
set_option maxHeartbeats 4000000 in
theorem SreadOpen_2 (s:Str) (z:Int) (w:World) (hno:125 ∉ s) (hl:s.length≤100) (hk:low z 9=2):Calls Try.prog 7 #[.string ⟨(s).toArray⟩,.int .i64 z] w fun e w'=>e=.returned (.bool true)∧Below w.heap.size w w':=by
 have hno0:=hno;obtain⟨L,hr,hj,hsm,hLl⟩:=open_read (h:=[123,49,50,124,120,44]) (s:=s) (part_open hno (h:=[49,50,124,120,44]) (by decide)) (by decide) hno (by simp;omega);have hBl:(snipL s).length≤1000:=by
  have h5:=Sn.len_parts (snipL s);have h6:=(snip_good s).2.2.1;omega
 have H1:=Lib.hid (sreadH hr (by simp;omega));have H2:=Lib.hid (sreadH (open_self hno (by omega)) (by omega));have HJ:=Lib.hid (open_join hj (by simp;omega));have HS:=Lib.hid (nsame hsm hLl);have HL:=Lib.hid (fun w=>hk▸Low_any z 9 w (by omega) (by omega));have HNO:=Lib.hid hno0;obtain⟨iN,hiN⟩:=info_parts snip_info;obtain⟨B,hB⟩:∃B,snipL s=B:=⟨_,rfl⟩;rw [hB] at H2 HJ hBl;have dg:decide ((100:Int)<(s.length:Int))=false:=decide_eq_false (by omega);clear hr hj hsm hLl hno hno0 hB hk;go_enter Try.func7,Try.ntmps7
 go_wp2
 go_loopw [5] (fun q wr=>OnRel s w q wr) (fun q _=>s.length-(intOf q).toNat)
 case atStart=>exact⟨0,rfl,by omega,rfl⟩
 case round =>
  obtain⟨i,rfl,hi,rfl⟩:=hrel;cases hd:s.drop i with
  | cons c r =>
   obtain⟨h2,h3,hr⟩:=drop_cons hd;have hcm:c.toNat≠125:=fun e=>HNO.out (by
    obtain rfl:c=125:=UInt8.toNat_inj.1 e;rw [←h3 h2];exact List.getElem_mem h2)
   have hcb:((c.toNat:Int)==125)=false:=by rw [beq_eq_false_iff_ne];omega
   clear hd hr hcm;go_wp2
   go_roundw
   case rel=>exact⟨i+1,by go_num,by omega,rfl⟩
   case measure=>simp [intOf];omega
  | nil =>
   have h2:=drop_nil hd;clear hd HNO;go_wp2_with (go_at_call 9;refine(HL.out _).mono ?_)
   first|rintro e wl rfl hwl|rintro e wl ⟨rfl,hwl⟩
   have hb1:Below w.heap.size w wl:=by rw [←hwl];exact(Below.refl _ _).alloc (Nat.le_refl _) _
   have c1:wl.cell? ⟨w.heap.size,2,none⟩=some (.string ⟨([36,123,49,50,124,120,44]).toArray⟩):=by rw [←hwl];rw [Lib.cell_of_heap (heap_alloc_new _ _)];rfl
   clear hwl;go_wp2_with (go_at_call 10;refine(H1.out _ _ (by simp)).mono ?_)
   rintro e w2 ⟨a2,c2,rfl,hb2,hs2⟩;go_wp2_with (go_at_call 10;refine(H2.out _ _ rfl).mono ?_)
   rintro e w3 ⟨a3,c3,rfl,hb3,hs3⟩;have hbw3:=bel2 (bel2 hb1 hb2) hb3;have HA:=Lib.hid (hs2.later hb3);have hb4:Below w3.heap.size w3 (w3.alloc (.cells #[.int .i64 0,.string ⟨((36::[123,49,50,124,120,44])).toArray⟩,.int .i64 0,.bool false,.bool false,.int .i64 0,.string ⟨#[]⟩,.bool false,.slice none 0 0,.int .i64 0,.int .i64 0,.bool false,.slice none 0 0,.slice none 0 0,.bool false,.bool false,.slice none 0 0,.slice none 0 0] 36)):=(Below.refl _ _).alloc (Nat.le_refl _) _;obtain⟨css,hsl,hvs⟩:=(hs3.mono (S':=fun b=>b<w3.heap.size) (fun b _ hlt=>hlt)).later hb4;have HSL:=Lib.hid hsl.sl;have HVS:=Lib.hid (hvs.mono (S':=fun b=>b<w3.heap.size∧(Value.slice (some ⟨w3.heap.size,0,none⟩) 1 1).ownBlock≠some b) (fun b hb _=>⟨hb,fun e=>by simp [Value.ownBlock] at e;omega⟩));have HONE:=Lib.hid hvs.one;have HOW:=Lib.hid (own_lit1 w3 #[.int .i64 0,.string ⟨((36::[123,49,50,124,120,44])).toArray⟩,.int .i64 0,.bool false,.bool false,.int .i64 0,.string ⟨#[]⟩,.bool false,.slice none 0 0,.int .i64 0,.int .i64 0,.bool false,.slice none 0 0,.slice none 0 0,.bool false,.bool false,.slice none 0 0,.slice none 0 0] rfl);have HB4:=Lib.hid hb4;clear hb1 hb2 hb3 hs2 hs3 hb4 hsl hvs c1;go_wp2_with (at_builtin;refine wpList_appG (by rfl) w3.heap.size 36 _ _ 23 rfl Try.underlying23 hiN rfl (by decide) rfl HOW.out rfl HSL.out HONE.out (by omega) (by omega) (by decide) (by simp) ?_)
   intro v' w5 ho5 hg5 hb5 hmv;obtain⟨a5,c5,rfl⟩:=own_form ho5;have how:=OwnN.app (css:=[[.int .i64 0,.string ⟨((36::[123,49,50,124,120,44])).toArray⟩,.int .i64 0,.bool false,.bool false,.int .i64 0,.string ⟨#[]⟩,.bool false,.slice none 0 0,.int .i64 0,.int .i64 0,.bool false,.slice none 0 0,.slice none 0 0,.bool false,.bool false,.slice none 0 0,.slice none 0 0]]) (S:=fun b=>b<w3.heap.size) (v:=Value.slice (some ⟨w3.heap.size,0,none⟩) 1 1) (xs:=[textS (36::[123,49,50,124,120,44])]) (m:=B.length) (.cons (textS_v _ _ _) .nil) HVS.out rfl (by simpa using ho5) hg5 hmv;have hs5:SnSl w5 (fun _=>True) a5 (1+B.length) (textS (36::[123,49,50,124,120,44])::B):=by
    have:=how.sl.2.mono (S':=fun _=>True) (fun _ _ _=>trivial)
    rw [List.length_append] at this;exact this
   have hb35:=HB4.out.trans hb5;have HJ5:=Lib.hid (HJ.out (1+B.length) (by simp;omega) _ a5 c5 w5 hs5);have HB35:=Lib.hid hb35;clear ho5 hg5 hb5 hmv how hs5 hb35;go_wp2_with (go_at_call 18;refine HJ5.out.mono ?_)
   rintro e w6 ⟨a6,c6,rfl,hs6,hb6⟩;have hb36:=HB35.out.trans (hb6.mono HB35.out.size);have HSa:=Lib.hid (HS.out _ _ a2 a6 c2 c6 w6 (HA.out.later hb36) hs6);have hbw6:=bel2 hbw3 hb36;clear hs6 hb6 hb36;go_wp2_with (go_at_call 15;refine HSa.out.mono ?_)
   first|rintro e w7 rfl hb7|rintro e w7 ⟨rfl,hb7⟩
   have hbw7:=bel2 hbw6 hb7;go_wp2_with (go_at_call 11;refine(awake21 _).mono ?_;rintro e w9 ⟨rfl,hb9⟩)
   go_ret
   exact⟨rfl,bel2 hbw7 hb9⟩
set_option maxHeartbeats 4000000 in
theorem SreadOpen_7 (s:Str) (z:Int) (w:World) (hno:125 ∉ s) (hl:s.length≤100) (hk:low z 9=7):Calls Try.prog 7 #[.string ⟨(s).toArray⟩,.int .i64 z] w fun e w'=>e=.returned (.bool true)∧Below w.heap.size w w':=by
 have hno0:=hno;obtain⟨L,hr,hj,hsm,hLl⟩:=open_read (h:=[123,58]) (s:=s) (part_open hno (h:=[58]) (by decide)) (by decide) hno (by simp;omega);have hBl:(snipL s).length≤1000:=by
  have h5:=Sn.len_parts (snipL s);have h6:=(snip_good s).2.2.1;omega
 have H1:=Lib.hid (sreadH hr (by simp;omega));have H2:=Lib.hid (sreadH (open_self hno (by omega)) (by omega));have HJ:=Lib.hid (open_join hj (by simp;omega));have HS:=Lib.hid (nsame hsm hLl);have HL:=Lib.hid (fun w=>hk▸Low_any z 9 w (by omega) (by omega));have HNO:=Lib.hid hno0;obtain⟨iN,hiN⟩:=info_parts snip_info;obtain⟨B,hB⟩:∃B,snipL s=B:=⟨_,rfl⟩;rw [hB] at H2 HJ hBl;have dg:decide ((100:Int)<(s.length:Int))=false:=decide_eq_false (by omega);clear hr hj hsm hLl hno hno0 hB hk;go_enter Try.func7,Try.ntmps7
 go_wp2
 go_loopw [5] (fun q wr=>OnRel s w q wr) (fun q _=>s.length-(intOf q).toNat)
 case atStart=>exact⟨0,rfl,by omega,rfl⟩
 case round =>
  obtain⟨i,rfl,hi,rfl⟩:=hrel;cases hd:s.drop i with
  | cons c r =>
   obtain⟨h2,h3,hr⟩:=drop_cons hd;have hcm:c.toNat≠125:=fun e=>HNO.out (by
    obtain rfl:c=125:=UInt8.toNat_inj.1 e;rw [←h3 h2];exact List.getElem_mem h2)
   have hcb:((c.toNat:Int)==125)=false:=by rw [beq_eq_false_iff_ne];omega
   clear hd hr hcm;go_wp2
   go_roundw
   case rel=>exact⟨i+1,by go_num,by omega,rfl⟩
   case measure=>simp [intOf];omega
  | nil =>
   have h2:=drop_nil hd;clear hd HNO;go_wp2_with (go_at_call 9;refine(HL.out _).mono ?_)
   first|rintro e wl rfl hwl|rintro e wl ⟨rfl,hwl⟩
   have hb1:Below w.heap.size w wl:=by rw [←hwl];exact(Below.refl _ _).alloc (Nat.le_refl _) _
   have c1:wl.cell? ⟨w.heap.size,7,none⟩=some (.string ⟨([36,123,58]).toArray⟩):=by rw [←hwl];rw [Lib.cell_of_heap (heap_alloc_new _ _)];rfl
   clear hwl;go_wp2_with (go_at_call 10;refine(H1.out _ _ (by simp)).mono ?_)
   rintro e w2 ⟨a2,c2,rfl,hb2,hs2⟩;go_wp2_with (go_at_call 10;refine(H2.out _ _ rfl).mono ?_)
   rintro e w3 ⟨a3,c3,rfl,hb3,hs3⟩;have hbw3:=bel2 (bel2 hb1 hb2) hb3;have HA:=Lib.hid (hs2.later hb3);have hb4:Below w3.heap.size w3 (w3.alloc (.cells #[.int .i64 0,.string ⟨((36::[123,58])).toArray⟩,.int .i64 0,.bool false,.bool false,.int .i64 0,.string ⟨#[]⟩,.bool false,.slice none 0 0,.int .i64 0,.int .i64 0,.bool false,.slice none 0 0,.slice none 0 0,.bool false,.bool false,.slice none 0 0,.slice none 0 0] 36)):=(Below.refl _ _).alloc (Nat.le_refl _) _;obtain⟨css,hsl,hvs⟩:=(hs3.mono (S':=fun b=>b<w3.heap.size) (fun b _ hlt=>hlt)).later hb4;have HSL:=Lib.hid hsl.sl;have HVS:=Lib.hid (hvs.mono (S':=fun b=>b<w3.heap.size∧(Value.slice (some ⟨w3.heap.size,0,none⟩) 1 1).ownBlock≠some b) (fun b hb _=>⟨hb,fun e=>by simp [Value.ownBlock] at e;omega⟩));have HONE:=Lib.hid hvs.one;have HOW:=Lib.hid (own_lit1 w3 #[.int .i64 0,.string ⟨((36::[123,58])).toArray⟩,.int .i64 0,.bool false,.bool false,.int .i64 0,.string ⟨#[]⟩,.bool false,.slice none 0 0,.int .i64 0,.int .i64 0,.bool false,.slice none 0 0,.slice none 0 0,.bool false,.bool false,.slice none 0 0,.slice none 0 0] rfl);have HB4:=Lib.hid hb4;clear hb1 hb2 hb3 hs2 hs3 hb4 hsl hvs c1;go_wp2_with (at_builtin;refine wpList_appG (by rfl) w3.heap.size 36 _ _ 23 rfl Try.underlying23 hiN rfl (by decide) rfl HOW.out rfl HSL.out HONE.out (by omega) (by omega) (by decide) (by simp) ?_)
   intro v' w5 ho5 hg5 hb5 hmv;obtain⟨a5,c5,rfl⟩:=own_form ho5;have how:=OwnN.app (css:=[[.int .i64 0,.string ⟨((36::[123,58])).toArray⟩,.int .i64 0,.bool false,.bool false,.int .i64 0,.string ⟨#[]⟩,.bool false,.slice none 0 0,.int .i64 0,.int .i64 0,.bool false,.slice none 0 0,.slice none 0 0,.bool false,.bool false,.slice none 0 0,.slice none 0 0]]) (S:=fun b=>b<w3.heap.size) (v:=Value.slice (some ⟨w3.heap.size,0,none⟩) 1 1) (xs:=[textS (36::[123,58])]) (m:=B.length) (.cons (textS_v _ _ _) .nil) HVS.out rfl (by simpa using ho5) hg5 hmv;have hs5:SnSl w5 (fun _=>True) a5 (1+B.length) (textS (36::[123,58])::B):=by
    have:=how.sl.2.mono (S':=fun _=>True) (fun _ _ _=>trivial)
    rw [List.length_append] at this;exact this
   have hb35:=HB4.out.trans hb5;have HJ5:=Lib.hid (HJ.out (1+B.length) (by simp;omega) _ a5 c5 w5 hs5);have HB35:=Lib.hid hb35;clear ho5 hg5 hb5 hmv how hs5 hb35;go_wp2_with (go_at_call 18;refine HJ5.out.mono ?_)
   rintro e w6 ⟨a6,c6,rfl,hs6,hb6⟩;have hb36:=HB35.out.trans (hb6.mono HB35.out.size);have HSa:=Lib.hid (HS.out _ _ a2 a6 c2 c6 w6 (HA.out.later hb36) hs6);have hbw6:=bel2 hbw3 hb36;clear hs6 hb6 hb36;go_wp2_with (go_at_call 15;refine HSa.out.mono ?_)
   first|rintro e w7 rfl hb7|rintro e w7 ⟨rfl,hb7⟩
   have hbw7:=bel2 hbw6 hb7;go_wp2_with (go_at_call 11;refine(awake21 _).mono ?_;rintro e w9 ⟨rfl,hb9⟩)
   go_ret
   exact⟨rfl,bel2 hbw7 hb9⟩
set_option maxHeartbeats 4000000 in
theorem SreadOpen_6 (s:Str) (z:Int) (w:World) (hno:125 ∉ s) (hl:s.length≤100) (hk:low z 9=6):Calls Try.prog 7 #[.string ⟨(s).toArray⟩,.int .i64 z] w fun e w'=>e=.returned (.bool true)∧Below w.heap.size w w':=by
 have hno0:=hno;obtain⟨L,hr,hj,hsm,hLl⟩:=open_read (h:=[32]) (s:=s) (part_sp s) (by decide) hno (by simp;omega);have hBl:(snipL s).length≤1000:=by
  have h5:=Sn.len_parts (snipL s);have h6:=(snip_good s).2.2.1;omega
 have H1:=Lib.hid (sreadH hr (by simp;omega));have H2:=Lib.hid (sreadH (open_self hno (by omega)) (by omega));have HJ:=Lib.hid (open_join hj (by simp;omega));have HS:=Lib.hid (nsame hsm hLl);have HL:=Lib.hid (fun w=>hk▸Low_any z 9 w (by omega) (by omega));have HNO:=Lib.hid hno0;obtain⟨iN,hiN⟩:=info_parts snip_info;obtain⟨B,hB⟩:∃B,snipL s=B:=⟨_,rfl⟩;rw [hB] at H2 HJ hBl;have dg:decide ((100:Int)<(s.length:Int))=false:=decide_eq_false (by omega);clear hr hj hsm hLl hno hno0 hB hk;go_enter Try.func7,Try.ntmps7
 go_wp2
 go_loopw [5] (fun q wr=>OnRel s w q wr) (fun q _=>s.length-(intOf q).toNat)
 case atStart=>exact⟨0,rfl,by omega,rfl⟩
 case round =>
  obtain⟨i,rfl,hi,rfl⟩:=hrel;cases hd:s.drop i with
  | cons c r =>
   obtain⟨h2,h3,hr⟩:=drop_cons hd;have hcm:c.toNat≠125:=fun e=>HNO.out (by
    obtain rfl:c=125:=UInt8.toNat_inj.1 e;rw [←h3 h2];exact List.getElem_mem h2)
   have hcb:((c.toNat:Int)==125)=false:=by rw [beq_eq_false_iff_ne];omega
   clear hd hr hcm;go_wp2
   go_roundw
   case rel=>exact⟨i+1,by go_num,by omega,rfl⟩
   case measure=>simp [intOf];omega
  | nil =>
   have h2:=drop_nil hd;clear hd HNO;go_wp2_with (go_at_call 9;refine(HL.out _).mono ?_)
   first|rintro e wl rfl hwl|rintro e wl ⟨rfl,hwl⟩
   have hb1:Below w.heap.size w wl:=by rw [←hwl];exact(Below.refl _ _).alloc (Nat.le_refl _) _
   have c1:wl.cell? ⟨w.heap.size,6,none⟩=some (.string ⟨([36,32]).toArray⟩):=by rw [←hwl];rw [Lib.cell_of_heap (heap_alloc_new _ _)];rfl
   clear hwl;go_wp2_with (go_at_call 10;refine(H1.out _ _ (by simp)).mono ?_)
   rintro e w2 ⟨a2,c2,rfl,hb2,hs2⟩;go_wp2_with (go_at_call 10;refine(H2.out _ _ rfl).mono ?_)
   rintro e w3 ⟨a3,c3,rfl,hb3,hs3⟩;have hbw3:=bel2 (bel2 hb1 hb2) hb3;have HA:=Lib.hid (hs2.later hb3);have hb4:Below w3.heap.size w3 (w3.alloc (.cells #[.int .i64 0,.string ⟨((36::[32])).toArray⟩,.int .i64 0,.bool false,.bool false,.int .i64 0,.string ⟨#[]⟩,.bool false,.slice none 0 0,.int .i64 0,.int .i64 0,.bool false,.slice none 0 0,.slice none 0 0,.bool false,.bool false,.slice none 0 0,.slice none 0 0] 36)):=(Below.refl _ _).alloc (Nat.le_refl _) _;obtain⟨css,hsl,hvs⟩:=(hs3.mono (S':=fun b=>b<w3.heap.size) (fun b _ hlt=>hlt)).later hb4;have HSL:=Lib.hid hsl.sl;have HVS:=Lib.hid (hvs.mono (S':=fun b=>b<w3.heap.size∧(Value.slice (some ⟨w3.heap.size,0,none⟩) 1 1).ownBlock≠some b) (fun b hb _=>⟨hb,fun e=>by simp [Value.ownBlock] at e;omega⟩));have HONE:=Lib.hid hvs.one;have HOW:=Lib.hid (own_lit1 w3 #[.int .i64 0,.string ⟨((36::[32])).toArray⟩,.int .i64 0,.bool false,.bool false,.int .i64 0,.string ⟨#[]⟩,.bool false,.slice none 0 0,.int .i64 0,.int .i64 0,.bool false,.slice none 0 0,.slice none 0 0,.bool false,.bool false,.slice none 0 0,.slice none 0 0] rfl);have HB4:=Lib.hid hb4;clear hb1 hb2 hb3 hs2 hs3 hb4 hsl hvs c1;go_wp2_with (at_builtin;refine wpList_appG (by rfl) w3.heap.size 36 _ _ 23 rfl Try.underlying23 hiN rfl (by decide) rfl HOW.out rfl HSL.out HONE.out (by omega) (by omega) (by decide) (by simp) ?_)
   intro v' w5 ho5 hg5 hb5 hmv;obtain⟨a5,c5,rfl⟩:=own_form ho5;have how:=OwnN.app (css:=[[.int .i64 0,.string ⟨((36::[32])).toArray⟩,.int .i64 0,.bool false,.bool false,.int .i64 0,.string ⟨#[]⟩,.bool false,.slice none 0 0,.int .i64 0,.int .i64 0,.bool false,.slice none 0 0,.slice none 0 0,.bool false,.bool false,.slice none 0 0,.slice none 0 0]]) (S:=fun b=>b<w3.heap.size) (v:=Value.slice (some ⟨w3.heap.size,0,none⟩) 1 1) (xs:=[textS (36::[32])]) (m:=B.length) (.cons (textS_v _ _ _) .nil) HVS.out rfl (by simpa using ho5) hg5 hmv;have hs5:SnSl w5 (fun _=>True) a5 (1+B.length) (textS (36::[32])::B):=by
    have:=how.sl.2.mono (S':=fun _=>True) (fun _ _ _=>trivial)
    rw [List.length_append] at this;exact this
   have hb35:=HB4.out.trans hb5;have HJ5:=Lib.hid (HJ.out (1+B.length) (by simp;omega) _ a5 c5 w5 hs5);have HB35:=Lib.hid hb35;clear ho5 hg5 hb5 hmv how hs5 hb35;go_wp2_with (go_at_call 18;refine HJ5.out.mono ?_)
   rintro e w6 ⟨a6,c6,rfl,hs6,hb6⟩;have hb36:=HB35.out.trans (hb6.mono HB35.out.size);have HSa:=Lib.hid (HS.out _ _ a2 a6 c2 c6 w6 (HA.out.later hb36) hs6);have hbw6:=bel2 hbw3 hb36;clear hs6 hb6 hb36;go_wp2_with (go_at_call 15;refine HSa.out.mono ?_)
   first|rintro e w7 rfl hb7|rintro e w7 ⟨rfl,hb7⟩
   have hbw7:=bel2 hbw6 hb7;go_wp2_with (go_at_call 11;refine(awake21 _).mono ?_;rintro e w9 ⟨rfl,hb9⟩)
   go_ret
   exact⟨rfl,bel2 hbw7 hb9⟩
end Go.Proofs.Ytbgcjpefocdkkaa
