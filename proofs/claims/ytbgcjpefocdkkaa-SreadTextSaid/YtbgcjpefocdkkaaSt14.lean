/- Plain laws on snippets: digits, names, options. -/
import Derived.Test.YtbgcjpefocdkkaaSt13
import Derived.Test.YtbgcjpefocdkkaaSt6
import Derived.Test.YtbgcjpefocdkkaaSt10
import Derived.Test.YtbgcjpefocdkkaaSt2
import Derived.Test.YtbgcjpefocdkkaaSt11
import Derived.Test.YtbgcjpefocdkkaaSt4
set_option maxRecDepth 100000
namespace Go.Proofs.Ytbgcjpefocdkkaa
/-! ### digits -/
abbrev digU8 (c : UInt8) : Prop:=48≤c.toNat∧c.toNat≤57
theorem dig_plain {c : UInt8} (h : digU8 c) : c.toNat≠36∧c.toNat≠92∧(false=true→c.toNat≠125):=by unfold digU8 at h;refine ⟨by omega,by omega,fun e => by cases e⟩
/-! ### names -/
/-! ### options -/
theorem optL_cons (c : UInt8) (r : Str) (o : List Str) (t : Str) : optL (c :: r) o t=if c.toNat=124 then (o ++ [t],c :: r) else if c.toNat=44 then optL r (o ++ [t]) [] else optL (nxtM fiveS (c :: r)).2 o (t ++ [(nxtM fiveS (c :: r)).1]):=by
 cases r with
 | nil =>
  simp only [optL,nxtM]
 | cons d r =>
  simp only [optL,nxtM]
  split
  ·rfl
  ·split
   ·rfl
   ·split <;> rfl
theorem fiveS_iff (c : UInt8) : fiveS.contains c=true ↔ c.toNat=36∨c.toNat=125∨c.toNat=92∨c.toNat=44∨c.toNat=124:=by
 simp [fiveS,← UInt8.toNat_inj]
theorem optL_quot : ∀ (s r : Str) (o : List Str) (t : Str),optL (quot fiveS s ++ r) o t=optL r o (t ++ s)
 | [],r,o,t => by simp [quot]
 | c :: s,r,o,t => by
  cases hc : fiveS.contains c with
  | true =>
   simp only [quot,hc,if_true,List.cons_append,List.nil_append]
   rw [optL_cons,if_neg (by decide),if_neg (by decide),nxt_esc hc,optL_quot s,List.append_assoc];rfl
  | false =>
   have hn : ¬ (c.toNat=36∨c.toNat=125∨c.toNat=92∨c.toNat=44∨c.toNat=124):=fun h => by rw [(fiveS_iff c).2 h] at hc;cases hc
   simp only [quot,hc,Bool.false_eq_true,if_false,List.cons_append,List.nil_append]
   rw [optL_cons,if_neg (by omega),if_neg (by omega),nxt_plain (by omega),optL_quot s,List.append_assoc];rfl
/-- Options, one behind the other. -/
def joinQ : List Str→Str
 | [] => []
 | [a] => quot fiveS a
 | a :: b :: l => quot fiveS a ++ 44 :: joinQ (b :: l)
theorem optL_end {r : Str} (hr : r=[]∨∃ t,r=124 :: t) (o : List Str) (t : Str) : optL r o t=(o ++ [t],r):=by
 rcases hr with rfl | ⟨t',rfl⟩
 ·rfl
 ·rw [optL_cons,if_pos (by decide)]
theorem optL_join : ∀ (l : List Str) (a r : Str) (o : List Str),(r=[]∨∃ t,r=124 :: t)→optL (joinQ (a :: l) ++ r) o []=(o ++ a :: l,r)
 | [],a,r,o,hr => by
  simp only [joinQ]
  rw [optL_quot,List.nil_append,optL_end hr]
 | b :: l,a,r,o,hr => by
  simp only [joinQ]
  rw [List.append_assoc,optL_quot,List.nil_append,List.cons_append,optL_cons,if_neg (by decide),if_pos (by decide),optL_join l b r _ hr,List.append_assoc];rfl
theorem opts_yes (x : Sn) (a : Str) (l : List Str) (r : Str) : optsM x (joinQ (a :: l) ++ 124 :: 125 :: r)=some (x.choose (a :: l),r):=by
 unfold optsM
 rw [optL_join l a (124 :: 125 :: r) [] (.inr ⟨_,rfl⟩)]
 simp
theorem opts_no (x : Sn) (a : Str) (l : List Str) : optsM x (joinQ (a :: l))=none:=by
 unfold optsM
 have:=optL_join l a [] [] (.inl rfl)
 rw [List.append_nil] at this
 rw [this]
/-- '${n|..|}'. -/
theorem part_choice {n : Nat} (h : n≤9999) (a : Str) (l : List Str) (r : Str) : partS (123 :: (Lib.decDigits n ++ 124 :: (joinQ (a :: l) ++ 124 :: 125 :: r)))=some ((stopS n).choose (a :: l),r):=by
 rw [partS_brace,head_num h (by rintro c t e;injection e with e _;subst e;decide)]
 simp only [bracedS]
 rw [if_neg (by decide),if_neg (by decide),if_pos ⟨by decide,rfl⟩,opts_yes]
theorem part_choice_open {n : Nat} (h : n≤9999) (a : Str) (l : List Str) : partS (123 :: (Lib.decDigits n ++ 124 :: joinQ (a :: l)))=none:=by
 rw [partS_brace,head_num h (by rintro c t e;injection e with e _;subst e;decide)]
 simp only [bracedS]
 rw [if_neg (by decide),if_neg (by decide),if_pos ⟨by decide,rfl⟩,opts_no]
/-- Nothing begins in it: it is one text. -/
def TextOnly (u : Str) : Prop:=∀ (out : List Sn) (text : Str),∃ t,text.length≤t.length∧partsS false out text u=(withT out t,[])
theorem textOnly_nil : TextOnly []:=fun _ text => ⟨text,Nat.le_refl _,rfl⟩
theorem textOnly_cons {c : UInt8} {u : Str} (h1 : c.toNat≠36) (h2 : c.toNat≠92) (h : TextOnly u) : TextOnly (c :: u):=fun out text => by
 obtain ⟨t,ht,e⟩:=h out (text ++ [c])
 refine ⟨t,by simp at ht;omega,?_⟩
 rw [parts_step false out text (by simp) (dol_no h1 _),nxt_plain h2,e]
theorem textOnly_esc {c : UInt8} {u : Str} (h : TextOnly u) : TextOnly (92 :: c :: u):=fun out text => by
 cases h3 : three.contains c with
 | true =>
  obtain ⟨t,ht,e⟩:=h out (text ++ [c])
  refine ⟨t,by simp at ht;omega,?_⟩
  rw [parts_step false out text (by simp) (dol_no (by decide) _),nxt_esc h3,e]
 | false =>
  have hn : ¬ (c.toNat=36∨c.toNat=125∨c.toNat=92):=fun h => by rw [(three_iff c).2 h] at h3;cases h3
  obtain ⟨t,ht,e⟩:=(textOnly_cons (c:=c) (by omega) (by omega) h) out (text ++ [92])
  refine ⟨t,by simp at ht;omega,?_⟩
  rw [parts_step false out text (by simp) (dol_no (by decide) _)]
  have : nxtM three (92 :: c :: u)=(92,c :: u):=by simp only [nxtM];rw [if_neg (fun e => by rw [h3] at e;cases e.2)]
  rw [this,e]
theorem textOnly_quot : ∀ (s : Str) {u : Str},TextOnly u→TextOnly (quot fiveS s ++ u)
 | [],_,h => h
 | c :: s,_,h => by
  cases hc : fiveS.contains c with
  | true =>
   simp only [quot,hc,if_true,List.cons_append,List.nil_append]
   exact textOnly_esc (textOnly_quot s h)
  | false =>
   have hn : ¬ (c.toNat=36∨c.toNat=125∨c.toNat=92∨c.toNat=44∨c.toNat=124):=fun h => by rw [(fiveS_iff c).2 h] at hc;cases hc
   simp only [quot,hc,Bool.false_eq_true,if_false,List.cons_append,List.nil_append]
   exact textOnly_cons (by omega) (by omega) (textOnly_quot s h)
theorem textOnly_join : ∀ (l : List Str) (a : Str),TextOnly (joinQ (a :: l))
 | [],a => by
  have:=textOnly_quot a textOnly_nil
  rw [List.append_nil] at this;exact this
 | b :: l,a => textOnly_quot a (textOnly_cons (by decide) (by decide) (textOnly_join l b))
theorem textOnly_plain : ∀ (s : Str) {u : Str},(∀ c ∈ s,c.toNat≠36∧c.toNat≠92)→TextOnly u→TextOnly (s ++ u)
 | [],_,_,h => h
 | c :: s,_,hs,h => textOnly_cons (hs c (List.mem_cons_self ..)).1 (hs c (List.mem_cons_self ..)).2 (textOnly_plain s (fun c hc => hs c (List.mem_cons_of_mem _ hc)) h)
end Go.Proofs.Ytbgcjpefocdkkaa
/- walk of sread: options -/
set_option maxRecDepth 100000
namespace Go.Proofs.Ytbgcjpefocdkkaa
open Go.RowKit
theorem str_infoQ : (Try.prog.info? 9).map (fun i => (i.zero,i.size,i.bytes))=some (some (.string ⟨#[]⟩),1,16):=by kernel_rfl
theorem Pl.grownHi {x : List Value} {w w' : World} {g : Nat} {s : Str} {i : Nat} (h : Pl x w g s i) {row : Option Nat} (hg : w.grownBy w' row) (hr : row≠some g) : Pl x w' g s i :=
 ⟨(hg.block g (heap_lt h.1) (by first | exact hr | exact fun e => hr e | exact fun e => hr e.symm)).trans h.1,h.2⟩
theorem own_ne {w : World} {B g : Nat} {e : TypeId} {sz : Nat} {v : Value} {n : Nat} {xs : List Value} (h : w.ownsRow B e sz v n xs) (hg : g < B) : v.ownBlock≠some g:=fun e' => by have:=(h.lt g e').1;omega
theorem grown_row {w0 w w' : World} {v : Value} {B : Nat} {e : TypeId} {sz n : Nat} {xs : List Value} {row : Option Nat} (h : w0.grownBy w row) (hown : w.ownsRow B e sz v n xs) (hB : w0.heap.size≤B) (hg : w.grownBy w' v.ownBlock) : w0.grownBy w' row :=
 ⟨hg.os.trans h.os,hg.tape.trans h.tape,hg.output.trans h.output,Nat.le_trans h.size hg.size,fun k hk hne => (hg.block k (Nat.lt_of_lt_of_le hk h.size) (by
  intro e'
  first
   | (have:=(hown.lt k e').1;omega)
   | (have:=(hown.lt k e'.symm).1;omega))).trans (h.block k hk hne)⟩
/-- What the options are, and what stands behind them. -/
def OptS (x : List Value) (g : Nat) (s : Str) (R : List Str × Str) (w : World) (e : Ending) (w' : World) : Prop:=w.grownBy w' (some g) ∧
 ∃ (a : Option Addr) (c j : Nat),e=.returned (.tuple #[.slice a R.1.length c,.bool (List.isPrefixOf [124,125] R.2)])∧SlS w' (fun b => w.heap.size≤b) a 1 R.1.length (scells R.1)∧R.1.length≤s.length + 1∧Pl x w' g s j ∧
  s.drop j=if List.isPrefixOf [124,125] R.2=true then R.2.drop 2 else R.2
theorem OptS.mk' {x : List Value} {g : Nat} {s : Str} {o' : List Str} {rest : Str} {w w' : World} {e : Ending} {a : Option Addr} {n c j : Nat} {ok : Bool} (hg : w.grownBy w' (some g)) (he : e=.returned (.tuple #[.slice a n c,.bool ok])) (hn : o'.length=n)
  (hok : List.isPrefixOf [124,125] rest=ok) (hown : w'.ownsRow w.heap.size 9 1 (.slice a n c) n (scells o')) (hlen : n≤s.length + 1) (hp : Pl x w' g s j) (hd : s.drop j=if ok=true then rest.drop 2 else rest) : OptS x g s (o',rest) w e w':=by
 subst hn;subst hok
 exact ⟨hg,a,c,j,he,SlS.ownB hown,hlen,hp,hd⟩
def OpRel (x : List Value) (g : Nat) (s : Str) (w : World) (RX : List Str × Str) (k : Nat) (v4 v5 : Value) (wr : World) : Prop :=
 ∃ (j : Nat) (o : List Str) (t : Str),Pl x wr g s j∧s.length - j < k∧wr.ownsRow w.heap.size 9 1 v4 o.length (scells o)∧wr.ownsRow w.heap.size 5 1 v5 t.length (bcells t)∧w.grownBy wr (some g)∧o.length≤j∧t.length≤j∧Hid (optL (s.drop j) o t=RX)
/- the end: the last option is put behind, and the two bytes are looked for -/
/- behind the look at what stands there -/
set_option maxHeartbeats 4000000 in
theorem options_s {x : List Value} {g : Nat} {s : Str} {i : Nat} (w : World) (h : Pl x w g s i) :
  Calls Try.prog 49 #[.pointer (some ⟨g,0,none⟩)] w fun e w' => OptS x g s (optL (s.drop i) [] []) w e w':=by
 obtain ⟨RX,hRX⟩ : ∃ RX,optL (s.drop i) [] []=RX:=⟨_,rfl⟩
 rw [hRX]
 have HR:=Lib.hid hRX
 have hgB:=h.lt
 have hsl:=h.2.2
 obtain ⟨iS,hiS⟩:=info_parts str_infoQ
 obtain ⟨iu,hiu⟩:=info_parts u8_info
 have HPL:=Lib.hid h
 have hi:=h.2.1
 clear h hRX
 go_enter Try.func49,Try.ntmps49
 go_wp2
 go_loopg [4,5] (s.length + 1) (fun k v4 v5 wr => OpRel x g s w RX k v4 v5 wr)
 case atStart => exact ⟨i,[],[],HPL.out,by omega,World.ownsRow_nil _ _ _ _,World.ownsRow_nil _ _ _ _,grown_refl _ _,by simp,by simp,HR⟩
 case round =>
  clear HR HPL
  obtain ⟨j,o,t,hpl,hk,ho,ht,hg,hol,htl,HF⟩:=hrel
  have hj:=hpl.2.1
  have HPL:=Lib.hid hpl
  have hB:=hg.size
  have d0 : ∀ x' : ExtOf wr,x'.val.cell? ⟨g,0,none⟩=some (.string ⟨(s).toArray⟩):=ExtOf.cell hpl.c0
  have d1 : ∀ x' : ExtOf wr,x'.val.cell? ⟨g,1,none⟩=some (.int .i64 j):=ExtOf.cell hpl.c1
  clear hpl
  cases hd : s.drop j with
  | nil =>
   have h2:=drop_nil hd
   have gl : decide ((j : Int) < (s.length : Int))=false:=decide_eq_false (by omega)
   have gln : decide (j < s.length)=false:=decide_eq_false (by omega)
   have HX : Hid (RX=(o ++ [t],[])):=Lib.hid (by rw [← HF.out,hd];rfl)
   have HNO : Hid (List.isPrefixOf [124,125] (s.drop j)=false):=Lib.hid (by rw [hd];rfl)
   have HD:=Lib.hid hd
   clear hd HF
   go_wp2
   refine wp_region_ext (by kernel_rfl) (by kernel_rfl) ?_
   repeat (go_big_quiet_step ((fail)))
   refine wpQuiet_nil ?_
   rintro _ ⟨xq,rfl⟩
   have hba:=xq.ext
   have hpa:=HPL.out.later hba
   have hga:=grown_trans hg (grown_of_below hba (some g))
   generalize xq.val=wa at *
   clear d0 d1 hg
   have hoa:=own_below ho (hba.trans ((Below.refl _ _).drew))
   have hta:=own_below ht (hba.trans ((Below.refl _ _).drew))
   have hcv:=conv_own (P:=Try.prog) (src:=61) (dst:=9) Try.underlying61 Try.underlying5 Try.underlying9 hta
   have hBa : w.heap.size≤wa.drew.heap.size:=hga.size
   have HPA:=Lib.hid (hpa.later ((Below.refl _ _).drew))
   have HGA:=Lib.hid (grown_trans hga (grown_of_below ((Below.refl wa.heap.size wa).drew) (some g)))
   clear ho ht hpa hga hba
   go_wp2
   go_region_law (first
    | (refine step_app1 w.heap.size 9 (w:=wa.drew) rfl rfl _ _ 34 rfl Try.underlying34 hiS rfl (by decide) rfl hoa rfl (by first | rfl | simp) rfl (by simp [Value.oneCell']) (by omega) (by decide) hBa ?_;intro v8 w8 hown8 hg8 _ hne8;have hp8 : Pl x w8 g s j:=HPA.out.grownHi hg8 (own_ne hoa hgB))
    | (go_simp;go_at_call 41;refine (take_s_no _ hp8 (by simp) HNO.out).mono ?_;rintro e w9 ⟨rfl,hp9,hg9⟩))
   all_goals
    go_wp2
    go_ret2
    obtain ⟨a8,c8,rfl⟩:=own_form hown8
    have hown9:=own_grownG hown8 hg9 hgB
    have hgz : w.grownBy w9 (some g):=grown_trans (grown_row HGA.out hoa (Nat.le_refl _) hg8) hg9
    rw [HX.out]
    exact OptS.mk' (j:=j) hgz rfl (by simp) rfl (by rw [scells_snoc];exact hown9) (by omega) hp9 (by rw [HD.out];rfl)
  | cons c r =>
   obtain ⟨h2,h3,hr⟩:=drop_cons hd
   have gl : decide ((j : Int) < (s.length : Int))=true:=decide_eq_true (by omega)
   have gln : decide (j < s.length)=true:=decide_eq_true (by omega)
   have HSEE : Hid (∀ x' : ExtOf wr,Calls Try.prog 25 #[.pointer (some ⟨g,0,none⟩),.string ⟨([124]).toArray⟩] x'.val fun e w' => e=.returned (.bool (decide (c.toNat=124)))∧Below x'.val.heap.size x'.val w'):=Lib.hid fun x' => (see_s (p:=[124]) _ (HPL.out.later x'.ext) (by simp)).mono fun _ _ ⟨h1,h2⟩ => ⟨by rw [h1,hd,pre1];rfl,h2⟩
   have HD:=Lib.hid hd
   by_cases h124 : c.toNat=124
   ·rw [decide_eq_true h124] at HSEE
    have HX : Hid (RX=(o ++ [t],c :: r)):=Lib.hid (by rw [← HF.out,hd,optL_cons,if_pos h124])
    cases hb : List.isPrefixOf [124,125] (c :: r) with
    | true =>
     have HB:=Lib.hid hb
     have HYES : Hid (List.isPrefixOf [124,125] (s.drop j)=true):=Lib.hid (by rw [hd];exact hb)
     clear hd HF hb h3 hr h124
     go_wp2
     refine wp_region_ext (by kernel_rfl) (by kernel_rfl) ?_
     repeat (go_big_quiet_step ((go_at_call 25;exact ext_call (HSEE.out _))))
     refine wpQuiet_nil ?_
     rintro _ ⟨xq,rfl⟩
     have hba:=xq.ext
     have hpa:=HPL.out.later hba
     have hga:=grown_trans hg (grown_of_below hba (some g))
     generalize xq.val=wa at *
     clear d0 d1 hg
     clear HSEE
     have hoa:=own_below ho (hba.trans ((Below.refl _ _).drew))
     have hta:=own_below ht (hba.trans ((Below.refl _ _).drew))
     have hcv:=conv_own (P:=Try.prog) (src:=61) (dst:=9) Try.underlying61 Try.underlying5 Try.underlying9 hta
     have hBa : w.heap.size≤wa.drew.heap.size:=hga.size
     have HPA:=Lib.hid (hpa.later ((Below.refl _ _).drew))
     have HGA:=Lib.hid (grown_trans hga (grown_of_below ((Below.refl wa.heap.size wa).drew) (some g)))
     clear ho ht hpa hga hba
     go_wp2
     go_region_law (first
      | (refine step_app1 w.heap.size 9 (w:=wa.drew) rfl rfl _ _ 34 rfl Try.underlying34 hiS rfl (by decide) rfl hoa rfl (by first | rfl | simp) rfl (by simp [Value.oneCell']) (by omega) (by decide) hBa ?_;intro v8 w8 hown8 hg8 _ hne8;have hp8 : Pl x w8 g s j:=HPA.out.grownHi hg8 (own_ne hoa hgB))
      | (go_simp;go_at_call 41;refine (take_s_yes _ hp8 (by simp) HYES.out).mono ?_;rintro e w9 ⟨rfl,hp9,hg9⟩))
     all_goals
      go_wp2
      go_ret2
      obtain ⟨a8,c8,rfl⟩:=own_form hown8
      have hown9:=own_grownG hown8 hg9 hgB
      have hgz : w.grownBy w9 (some g):=grown_trans (grown_row HGA.out hoa (Nat.le_refl _) hg8) hg9
      rw [HX.out]
      exact OptS.mk' (j:=(j + 2)) hgz rfl (by simp) HB.out (by rw [scells_snoc];exact hown9) (by omega) hp9 (by rw [← List.drop_drop,HD.out];rfl)
    | false =>
     have HB:=Lib.hid hb
     have HNO : Hid (List.isPrefixOf [124,125] (s.drop j)=false):=Lib.hid (by rw [hd];exact hb)
     clear hd HF hb h3 hr h124
     go_wp2
     refine wp_region_ext (by kernel_rfl) (by kernel_rfl) ?_
     repeat (go_big_quiet_step ((go_at_call 25;exact ext_call (HSEE.out _))))
     refine wpQuiet_nil ?_
     rintro _ ⟨xq,rfl⟩
     have hba:=xq.ext
     have hpa:=HPL.out.later hba
     have hga:=grown_trans hg (grown_of_below hba (some g))
     generalize xq.val=wa at *
     clear d0 d1 hg
     clear HSEE
     have hoa:=own_below ho (hba.trans ((Below.refl _ _).drew))
     have hta:=own_below ht (hba.trans ((Below.refl _ _).drew))
     have hcv:=conv_own (P:=Try.prog) (src:=61) (dst:=9) Try.underlying61 Try.underlying5 Try.underlying9 hta
     have hBa : w.heap.size≤wa.drew.heap.size:=hga.size
     have HPA:=Lib.hid (hpa.later ((Below.refl _ _).drew))
     have HGA:=Lib.hid (grown_trans hga (grown_of_below ((Below.refl wa.heap.size wa).drew) (some g)))
     clear ho ht hpa hga hba
     go_wp2
     go_region_law (first
      | (refine step_app1 w.heap.size 9 (w:=wa.drew) rfl rfl _ _ 34 rfl Try.underlying34 hiS rfl (by decide) rfl hoa rfl (by first | rfl | simp) rfl (by simp [Value.oneCell']) (by omega) (by decide) hBa ?_;intro v8 w8 hown8 hg8 _ hne8;have hp8 : Pl x w8 g s j:=HPA.out.grownHi hg8 (own_ne hoa hgB))
      | (go_simp;go_at_call 41;refine (take_s_no _ hp8 (by simp) HNO.out).mono ?_;rintro e w9 ⟨rfl,hp9,hg9⟩))
     all_goals
      go_wp2
      go_ret2
      obtain ⟨a8,c8,rfl⟩:=own_form hown8
      have hown9:=own_grownG hown8 hg9 hgB
      have hgz : w.grownBy w9 (some g):=grown_trans (grown_row HGA.out hoa (Nat.le_refl _) hg8) hg9
      rw [HX.out]
      exact OptS.mk' (j:=j) hgz rfl (by simp) HB.out (by rw [scells_snoc];exact hown9) (by omega) hp9 (by rw [HD.out];rfl)
   ·rw [decide_eq_false h124] at HSEE
    by_cases h44 : c.toNat=44
    ·have HX : Hid (optL (s.drop (j + 1)) (o ++ [t]) []=RX):=Lib.hid (by rw [← HF.out,hd,optL_cons,if_neg h124,if_pos h44,hr])
     have HYES : Hid (List.isPrefixOf [44] (s.drop j)=true):=Lib.hid (by rw [hd,pre1];exact decide_eq_true h44)
     clear hd HF h3 hr h124 h44
     go_wp2
     refine wp_region_ext (by kernel_rfl) (by kernel_rfl) ?_
     repeat (go_big_quiet_step ((go_at_call 25;exact ext_call (HSEE.out _))))
     refine wpQuiet_nil ?_
     rintro _ ⟨xq,rfl⟩
     have hba:=xq.ext
     have hpa:=HPL.out.later hba
     have hga:=grown_trans hg (grown_of_below hba (some g))
     generalize xq.val=wa at *
     clear d0 d1 hg
     clear HSEE
     have hoa:=own_below ho hba
     have hta:=own_below ht hba
     clear ho ht hba
     go_wp2_with (go_at_call 41;refine (take_s_yes _ hpa (by simp) HYES.out).mono ?_)
     rintro e w1 ⟨rfl,hp1,hg1⟩
     have HP1:=Lib.hid hp1
     have hoo:=own_grownG hoa hg1 hgB
     have hot:=own_grownG hta hg1 hgB
     have HG1:=Lib.hid (grown_trans hga hg1)
     have hB1 : w.heap.size≤w1.heap.size:=(grown_trans hga hg1).size
     have hcv:=conv_own (P:=Try.prog) (src:=61) (dst:=9) Try.underlying61 Try.underlying5 Try.underlying9 hot
     clear hoa hta hpa hga hp1 hg1
     go_wp2_with (at_builtin;refine wpList_app1 w.heap.size 9 rfl _ _ 34 rfl Try.underlying34 hiS rfl (by decide) rfl hoo rfl (by first | rfl | simp) rfl (by simp [Value.oneCell']) (by omega) (by decide) hB1 ?_;intro v8 w8 hown8 hg8 _ hne8)
     go_roundg (s.length - j)
     case measure => omega
     case rel =>
      exact ⟨j + 1,o ++ [t],[],HP1.out.grownHi hg8 (own_ne hoo hgB),by omega,by rw [scells_snoc,List.length_append];exact hown8,World.ownsRow_nil _ _ _ _,grown_row HG1.out hoo (Nat.le_refl _) hg8,by simp;omega,by simp,HX⟩
    ·have HNO : Hid (List.isPrefixOf [44] (s.drop j)=false):=Lib.hid (by rw [hd,pre1];exact decide_eq_false h44)
     have HX : Hid (optL (nxtM fiveS (c :: r)).2 o (t ++ [(nxtM fiveS (c :: r)).1])=RX):=Lib.hid (by rw [← HF.out,hd,optL_cons,if_neg h124,if_neg h44])
     have HLN : Hid ((nxtM fiveS (c :: r)).2.length≤r.length∧r.length + 1=s.length - j):=Lib.hid ⟨nxtM_len _ _ _,by have:=congrArg List.length hd;simp at this;omega⟩
     clear hd HF h3 hr h124 h44
     go_wp2
     refine wp_region_ext (by kernel_rfl) (by kernel_rfl) ?_
     repeat (go_big_quiet_step ((go_at_call 25;exact ext_call (HSEE.out _))))
     refine wpQuiet_nil ?_
     rintro _ ⟨xq,rfl⟩
     have hba:=xq.ext
     have hpa:=HPL.out.later hba
     have hga:=grown_trans hg (grown_of_below hba (some g))
     generalize xq.val=wa at *
     clear d0 d1 hg
     clear HSEE
     have hoa:=own_below ho hba
     have hta:=own_below ht hba
     clear ho ht hba
     go_wp2_with (go_at_call 41;refine (take_s_no _ hpa (by simp) HNO.out).mono ?_)
     rintro e w1 ⟨rfl,hp1,hg1⟩
     have hoo:=own_grownG hoa hg1 hgB
     have hot:=own_grownG hta hg1 hgB
     have hgg1:=grown_trans hga hg1
     clear hoa hta hpa hga hg1
     have HNX:=Lib.hid (next_s (th:=[36,125,92,44,124]) w1 hp1 HD.out (by simp))
     clear hp1
     go_wp2_with (go_at_call 28;refine HNX.out.mono ?_)
     rintro e w2 ⟨rfl,⟨j2,hp2,hd2,hj2⟩,hg2⟩
     have HP2:=Lib.hid hp2
     have hoo2:=own_grownG hoo hg2 hgB
     have hot2:=own_grownG hot hg2 hgB
     have HG2:=Lib.hid (grown_trans hgg1 hg2)
     have hB2 : w.heap.size≤w2.heap.size:=(grown_trans hgg1 hg2).size
     have hls : s.length - j2 < s.length - j∧j < j2:=by
      have h1:=HLN.out
      have h2:=congrArg List.length hd2
      rw [List.length_drop] at h2
      have h3:=hp2.2.1
      have h4 : (nxtM [36,125,92,44,124] (c :: r)).2.length≤r.length:=h1.1
      omega
     have HD2:=Lib.hid hd2
     obtain ⟨nb,hnb⟩ : ∃ nb,nb=(nxtM [36,125,92,44,124] (c :: r)).1:=⟨_,rfl⟩
     have HX2 : Hid (optL (s.drop j2) o (t ++ [nb])=RX):=Lib.hid (by rw [hd2,hnb];exact HX.out)
     rw [← hnb]
     clear hoo hot hgg1 hp2 hg2 hd2 HX HLN HNX hnb
     go_wp2_with (at_builtin;refine wpList_app1 w.heap.size 5 rfl _ _ 61 rfl Try.underlying61 hiu rfl (by decide) rfl hot2 rfl (by first | rfl | simp) rfl (by simp [Value.oneCell']) (by omega) (by decide) hB2 ?_;intro v8 w8 hown8 hg8 _ hne8)
     go_roundg (s.length - j)
     case measure => omega
     case rel =>
      exact ⟨j2,o,t ++ [nb],HP2.out.grownHi hg8 (own_ne hot2 hgB),by omega,hoo2.kept hg8 (own_own hoo2 hot2 (by decide)),by simpa [bcells] using hown8,grown_row HG2.out hot2 (Nat.le_refl _) hg8,by omega,by simp;omega,HX2⟩
end Go.Proofs.Ytbgcjpefocdkkaa
/- Snippets in memory: what a value of eighteen cells is read as. -/
set_option maxRecDepth 100000
namespace Go.Proofs.Ytbgcjpefocdkkaa
open Go.RowKit
theorem fcells_one' (fs : List Fm) : ∀ u ∈ fcells fs,u.oneCell'=true:=by
 intro u hu
 simp only [fcells,List.mem_flatMap] at hu
 obtain ⟨f,_,hf⟩:=hu
 simp only [Fm.cells,List.mem_cons,List.not_mem_nil,or_false] at hf
 rcases hf with rfl | rfl | rfl | rfl | rfl <;> rfl
def TfV (w : World) (S : Nat→Prop) (cc : List Value) (f : Tf) : Prop :=
 ∃ (rc : List Value) (fa : Option Addr) (fc : Nat),RxV w S rc f.rx∧SlS w S fa 5 f.fs.length (fcells f.fs)∧cc=rc ++ [.slice fa f.fs.length fc,.bool f.fold,.bool f.all]
theorem TfV.keep {w w' : World} {S : Nat→Prop} (hk : Kept S w w') {c : List Value} {f : Tf} (h : TfV w S c f) : TfV w' S c f:=by
 obtain ⟨rc,fa,fc,h1,h2,h3⟩:=h
 exact ⟨rc,fa,fc,h1.keep hk,h2.keep hk,h3⟩
theorem TfV.mono {w : World} {S S' : Nat→Prop} (hS : ∀ b,S b→b < w.heap.size→S' b) {c : List Value} {f : Tf} (h : TfV w S c f) : TfV w S' c f:=by
 obtain ⟨rc,fa,fc,h1,h2,h3⟩:=h
 exact ⟨rc,fa,fc,h1.mono hS,h2.mono hS,h3⟩
theorem TfV.len {w : World} {S : Nat→Prop} {c : List Value} {f : Tf} (h : TfV w S c f) : c.length=11:=by
 obtain ⟨rc,fa,fc,h1,h2,rfl⟩:=h
 rw [List.length_append,h1.len];rfl
theorem TfV.one {w : World} {S : Nat→Prop} {c : List Value} {f : Tf} (h : TfV w S c f) : ∀ u ∈ c,u.oneCell'=true:=by
 obtain ⟨rc,fa,fc,h1,h2,rfl⟩:=h
 intro u hu
 rcases List.mem_append.1 hu with hu | hu
 ·exact h1.one u hu
 ·simp only [List.mem_cons,List.not_mem_nil,or_false] at hu
  rcases hu with rfl | rfl | rfl <;> rfl
theorem TfV.zero (w : World) (S : Nat→Prop) : TfV w S (rxc 0 [] false none ([] : List Row).length 0 0 0 false none ([] : List Rx).length 0 ++ [.slice none 0 0,.bool false,.bool false]) tf0 :=
 ⟨_,none,0,RxV.close (SlS.none_ _ _ _ _) ⟨[],SlS.none_ _ _ _ _,.nil⟩,SlS.none_ _ _ _ _,rfl⟩
/-- The eighteen cells of a part. -/
def snc (k : Int) (t : Str) (n : Int) (h u : Bool) (fc : List Value) (oa : Option Addr) (on oc : Nat) (ka : Option Addr) (kn kc : Nat) : List Value :=
 [.int .i64 k,.string ⟨(t).toArray⟩,.int .i64 n,.bool h,.bool u] ++ fc ++ [.slice oa on oc,.slice ka kn kc]
mutual
inductive SnV (w : World) (S : Nat→Prop) : List Value→Sn→Prop
 | mk {k : Int} {t : Str} {n : Int} {h u : Bool} {f : Tf} {os : List Str} {ks : List Sn} {fc : List Value} {oa ka : Option Addr} {oc kc : Nat} {css : List (List Value)} :
   TfV w S fc f→SlS w S oa 1 os.length (scells os)→SlS w S ka 18 ks.length css.flatten→SnVs w S css ks→SnV w S (snc k t n h u fc oa os.length oc ka ks.length kc) (.mk k t n h u f os ks)
inductive SnVs (w : World) (S : Nat→Prop) : List (List Value)→List Sn→Prop
 | nil : SnVs w S [] []
 | cons {c : List Value} {x : Sn} {cs : List (List Value)} {xs : List Sn} : SnV w S c x→SnVs w S cs xs→SnVs w S (c :: cs) (x :: xs)
end
mutual
theorem SnV.keep {w w' : World} {S : Nat→Prop} (hk : Kept S w w') : ∀ {c : List Value} {x : Sn},SnV w S c x→SnV w' S c x
 | _,_,.mk h0 h1 h2 h3 => .mk (h0.keep hk) (h1.keep hk) (h2.keep hk) (SnVs.keep hk h3)
theorem SnVs.keep {w w' : World} {S : Nat→Prop} (hk : Kept S w w') : ∀ {cs : List (List Value)} {xs : List Sn},SnVs w S cs xs→SnVs w' S cs xs
 | _,_,.nil => .nil
 | _,_,.cons h1 h2 => .cons (SnV.keep hk h1) (SnVs.keep hk h2)
end
mutual
theorem SnV.mono {w : World} {S S' : Nat→Prop} (hS : ∀ b,S b→b < w.heap.size→S' b) : ∀ {c : List Value} {x : Sn},SnV w S c x→SnV w S' c x
 | _,_,.mk h0 h1 h2 h3 => .mk (h0.mono hS) (h1.mono hS) (h2.mono hS) (SnVs.mono hS h3)
theorem SnVs.mono {w : World} {S S' : Nat→Prop} (hS : ∀ b,S b→b < w.heap.size→S' b) : ∀ {cs : List (List Value)} {xs : List Sn},SnVs w S cs xs→SnVs w S' cs xs
 | _,_,.nil => .nil
 | _,_,.cons h1 h2 => .cons (SnV.mono hS h1) (SnVs.mono hS h2)
end
theorem SnV.later {w w' : World} {S : Nat→Prop} {c : List Value} {x : Sn} (h : SnV w S c x) (hb : Below w.heap.size w w') : SnV w' S c x:=h.keep (Kept.all hb)
theorem SnVs.later {w w' : World} {S : Nat→Prop} {c : List (List Value)} {x : List Sn} (h : SnVs w S c x) (hb : Below w.heap.size w w') : SnVs w' S c x:=h.keep (Kept.all hb)
theorem SnV.len {w : World} {S : Nat→Prop} {c : List Value} {x : Sn} (h : SnV w S c x) : c.length=18:=by
 cases h with
 | mk h0 h1 h2 h3 => unfold snc;simp [h0.len]
theorem SnVs.length {w : World} {S : Nat→Prop} : ∀ {cs : List (List Value)} {xs : List Sn},SnVs w S cs xs→cs.length=xs.length
 | _,_,.nil => rfl
 | _,_,.cons _ h => by simp [h.length]
theorem SnVs.eights {w : World} {S : Nat→Prop} : ∀ {cs : List (List Value)} {xs : List Sn},SnVs w S cs xs→∀ c ∈ cs,c.length=18
 | _,_,.nil,c,hc => by simp at hc
 | _,_,.cons h1 h2,c,hc => by
  rcases List.mem_cons.1 hc with rfl | hc
  ·exact h1.len
  ·exact h2.eights c hc
theorem SnVs.at_ {w : World} {S : Nat→Prop} : ∀ {cs : List (List Value)} {xs : List Sn},SnVs w S cs xs→∀ {k : Nat} {x : Sn},xs[k]?=some x→∃ c,cs[k]?=some c∧SnV w S c x
 | _,_,.nil,k,x,h => by simp at h
 | _,_,.cons h1 h2,0,x,h => by simp at h;subst h;exact ⟨_,rfl,h1⟩
 | _,_,.cons h1 h2,k + 1,x,h => by simpa using h2.at_ (by simpa using h)
theorem SnVs.append {w : World} {S : Nat→Prop} : ∀ {cs ds : List (List Value)} {xs ys : List Sn},SnVs w S cs xs→SnVs w S ds ys→SnVs w S (cs ++ ds) (xs ++ ys)
 | _,_,_,_,.nil,h => h
 | _,_,_,_,.cons h1 h2,h => .cons h1 (h2.append h)
theorem SnV.one {w : World} {S : Nat→Prop} {c : List Value} {x : Sn} (h : SnV w S c x) : ∀ u ∈ c,u.oneCell'=true:=by
 cases h with
 | mk h0 h1 h2 h3 =>
  intro u hu
  unfold snc at hu
  rcases List.mem_append.1 hu with hu | hu
  ·rcases List.mem_append.1 hu with hu | hu
   ·simp only [List.mem_cons,List.not_mem_nil,or_false] at hu
    rcases hu with rfl | rfl | rfl | rfl | rfl <;> rfl
   ·exact h0.one u hu
  ·simp only [List.mem_cons,List.not_mem_nil,or_false] at hu
   rcases hu with rfl | rfl <;> rfl
/-- A slice of parts. -/
def SnSl (w : World) (S : Nat→Prop) (a : Option Addr) (n : Nat) (xs : List Sn) : Prop:=∃ css,SlS w S a 18 n css.flatten∧SnVs w S css xs
theorem SnSl.keep {w w' : World} {S : Nat→Prop} {a : Option Addr} {n : Nat} {xs : List Sn} (h : SnSl w S a n xs) (hk : Kept S w w') : SnSl w' S a n xs:=by
 obtain ⟨css,h1,h2⟩:=h
 exact ⟨css,h1.keep hk,h2.keep hk⟩
theorem SnSl.later {w w' : World} {S : Nat→Prop} {a : Option Addr} {n : Nat} {xs : List Sn} (h : SnSl w S a n xs) (hb : Below w.heap.size w w') : SnSl w' S a n xs:=h.keep (Kept.all hb)
theorem SnSl.mono {w : World} {S S' : Nat→Prop} {a : Option Addr} {n : Nat} {xs : List Sn} (h : SnSl w S a n xs) (hS : ∀ b,S b→b < w.heap.size→S' b) : SnSl w S' a n xs:=by
 obtain ⟨css,h1,h2⟩:=h
 exact ⟨css,h1.mono hS,h2.mono hS⟩
theorem SnSl.nil (w : World) (S : Nat→Prop) (a : Option Addr) : SnSl w S a 0 []:=⟨[],SlS.none_ _ _ _ _,.nil⟩
theorem flat_len {C : Nat} : ∀ {cs : List (List Value)},(∀ c ∈ cs,c.length=C)→cs.flatten.length=cs.length * C
 | [],_ => by simp
 | c :: cs,h => by rw [List.flatten_cons,List.length_append,flat_len (fun x hx => h x (List.mem_cons_of_mem _ hx)),h c (List.mem_cons_self ..),List.length_cons,Nat.succ_mul];omega
theorem SnSl.len {w : World} {S : Nat→Prop} {a : Option Addr} {n : Nat} {xs : List Sn} (h : SnSl w S a n xs) : n=xs.length:=by
 obtain ⟨css,h1,h2⟩:=h
 have h3:=h1.1
 rw [flat_len h2.eights,h2.length] at h3;omega
/-- Element k of a slice of parts: its cells. -/
theorem SnSl.at_ {w : World} {S : Nat→Prop} {a : Option Addr} {n : Nat} {xs : List Sn} (h : SnSl w S a n xs) {k : Nat} {x : Sn} (hk : xs[k]?=some x) :
  ∃ b o c,a=some ⟨b,o,none⟩∧S b∧b < w.heap.size∧SnV w S c x∧∀ (j : Nat) (u : Value),c[j]?=some u→w.cell? ⟨b,o + (k * 18 + j),none⟩=some u:=by
 have hn:=h.len
 obtain ⟨css,h1,h2⟩:=h
 have hlt:=(List.getElem?_eq_some_iff.1 hk).1
 obtain ⟨b,o,e1,e2,e3,e4⟩:=h1.2 (by omega)
 obtain ⟨c,hc,hv⟩:=h2.at_ hk
 exact ⟨b,o,c,e1,e2,e3,hv,fun j u hj => e4 _ u (flat_at h2.eights hc hj)⟩
/-- A transform's cells, one by one. -/
structure TfCells (fc : List Value) (f : Tf) (w : World) (S : Nat→Prop) (rk : Int) (rch : Str) (rng : Bool) (rrs : List Row) (rlo rhi : Int) (rlz : Bool) (rks : List Rx) (ra : Option Addr) (rcp : Nat) (rka : Option Addr) (rkc : Nat) (fa : Option Addr) (fcp : Nat) : Prop where
 eq : fc=[.int .i64 rk,.string ⟨(rch).toArray⟩,.bool rng,.slice ra rrs.length rcp,.int .i64 rlo,.int .i64 rhi,.bool rlz,.slice rka rks.length rkc,.slice fa f.fs.length fcp,.bool f.fold,.bool f.all]
 rx : f.rx=.mk rk rch rng rrs rlo rhi rlz rks
 rv : RxV w S (rxc rk rch rng ra rrs.length rcp rlo rhi rlz rka rks.length rkc) (.mk rk rch rng rrs rlo rhi rlz rks)
 fv : SlS w S fa 5 f.fs.length (fcells f.fs)
theorem TfV.open_ {w : World} {S : Nat→Prop} {fc : List Value} {f : Tf} (h : TfV w S fc f) : ∃ rk rch rng rrs rlo rhi rlz rks ra rcp rka rkc fa fcp,TfCells fc f w S rk rch rng rrs rlo rhi rlz rks ra rcp rka rkc fa fcp:=by
 obtain ⟨rc,fa,fcp,h1,h2,rfl⟩:=h
 obtain ⟨rx,fs,fd,al⟩:=f
 obtain ⟨rk,rch,rng,rrs,rlo,rhi,rlz,rks⟩:=rx
 have h0:=h1
 obtain ⟨ra,rcp,rka,rkc,rfl,_,_⟩:=h1.open_
 exact ⟨rk,rch,rng,rrs,rlo,rhi,rlz,rks,ra,rcp,rka,rkc,fa,fcp,rfl,rfl,h0,h2⟩
/-- A value that is a part, told field by field. -/
theorem SnV.open_ {w : World} {S : Nat→Prop} {cc : List Value} {k : Int} {t : Str} {n : Int} {h u : Bool} {f : Tf} {os : List Str} {ks : List Sn} (hv : SnV w S cc (.mk k t n h u f os ks)) :
  ∃ fc oa oc ka kc,cc=snc k t n h u fc oa os.length oc ka ks.length kc∧TfV w S fc f∧SlS w S oa 1 os.length (scells os)∧SnSl w S ka ks.length ks:=by
 cases hv with
 | mk h0 h1 h2 h3 => exact ⟨_,_,_,_,_,rfl,h0,h1,_,h2,h3⟩
theorem SnV.close {w : World} {S : Nat→Prop} {k : Int} {t : Str} {n : Int} {h u : Bool} {f : Tf} {os : List Str} {ks : List Sn} {fc : List Value} {oa ka : Option Addr} {oc kc : Nat} (h0 : TfV w S fc f) (h1 : SlS w S oa 1 os.length (scells os)) (h2 : SnSl w S ka ks.length ks) :
  SnV w S (snc k t n h u fc oa os.length oc ka ks.length kc) (.mk k t n h u f os ks):=by
 obtain ⟨css,a,b⟩:=h2
 exact .mk h0 h1 a b
theorem SnSl.one {w : World} {S : Nat→Prop} {b : Nat} {cc : List Value} {x : Sn} {t : TypeId} (h : SnV w S cc x) (hb : w.heap[b]?=some (.cells cc.toArray t (0,0))) (hS : S b) : SnSl w S (some ⟨b,0,none⟩) 1 [x]:=by
 refine ⟨[cc],⟨by simp [h.len],fun _ => ⟨b,0,rfl,hS,heap_lt hb,fun j u hu => ?_⟩⟩,.cons h .nil⟩
 rw [Lib.cell_of_heap hb]
 simpa using hu
/-- Parts in a row that the call owns; what they lead to lies in S, and not in that row. -/
def OwnN (w : World) (B : Nat) (S : Nat→Prop) (v : Value) (xs : List Sn) : Prop :=
 ∃ css,w.ownsRow B 36 18 v xs.length css.flatten∧SnVs w (fun b => S b∧v.ownBlock≠some b) css xs
theorem OwnN.nil (w : World) (B : Nat) (S : Nat→Prop) : OwnN w B S (.slice none 0 0) []:=⟨[],World.ownsRow_nil _ _ _ _,.nil⟩
theorem OwnN.later {w w' : World} {B : Nat} {S : Nat→Prop} {v : Value} {xs : List Sn} (h : OwnN w B S v xs) (hb : Below w.heap.size w w') : OwnN w' B S v xs:=by
 obtain ⟨css,h1,h2⟩:=h
 exact ⟨css,own_below h1 hb,h2.later hb⟩
theorem OwnN.form {w : World} {B : Nat} {S : Nat→Prop} {v : Value} {xs : List Sn} (h : OwnN w B S v xs) : ∃ (a : Option Addr) (c : Nat),v=.slice a xs.length c:=by
 obtain ⟨css,h1,_⟩:=h
 exact own_form h1
theorem OwnN.lt {w : World} {B : Nat} {S : Nat→Prop} {v : Value} {xs : List Sn} (h : OwnN w B S v xs) : ∀ k,v.ownBlock=some k→B≤k∧k < w.heap.size:=by
 obtain ⟨css,h1,_⟩:=h
 exact fun k hk => h1.lt k hk
end Go.Proofs.Ytbgcjpefocdkkaa
