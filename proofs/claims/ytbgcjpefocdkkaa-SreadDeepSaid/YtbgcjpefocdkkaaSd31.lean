/- walk of gimletlaw21.SreadDeep -/
import Derived.Test.YtbgcjpefocdkkaaSd30
set_option maxRecDepth 100000
namespace Go.Proofs.Ytbgcjpefocdkkaa
open Go.RowKit
theorem rep_next (u : Str) : ∀ n,rep u (n + 1)=rep u n ++ u
 | 0 => by simp [rep]
 | n + 1 => by
  have:=rep_next u n
  show u ++ rep u (n + 1)=u ++ rep u n ++ u
  rw [this,List.append_assoc]
theorem rep_len (u : Str) : ∀ n,(rep u n).length=n * u.length
 | 0 => by simp [rep]
 | n + 1 => by simp only [rep,List.length_append,rep_len u n,Nat.succ_mul];omega
def dbl : Nat→Str
 | 0 => [97,98]
 | n + 1 => dbl n ++ dbl n
theorem dbl_len : ∀ n,(dbl n).length=2 ^ (n + 1)
 | 0 => rfl
 | n + 1 => by simp only [dbl,List.length_append,dbl_len n];rw [Nat.pow_succ 2 (n + 1)];omega
theorem dbl_chars : ∀ n,∀ c ∈ dbl n,c=97∨c=98
 | 0,c,h => by simpa [dbl] using h
 | n + 1,c,h => by
  simp only [dbl,List.mem_append] at h
  rcases h with h | h <;> exact dbl_chars n c h
theorem dbl_small {j : Nat} (h : j≤12) : (dbl j).length≤8192∧((dbl j).length < 8192 ↔ j < 12):=by
 rw [dbl_len]
 rcases (show j=0∨j=1∨j=2∨j=3∨j=4∨j=5∨j=6∨j=7∨j=8∨j=9∨j=10∨j=11∨j=12 by omega) with rfl | rfl | rfl | rfl | rfl | rfl | rfl | rfl | rfl | rfl | rfl | rfl | rfl <;> decide
def lngS (n : Nat) : Str:=(dbl 12 ++ [120,121,122]).take n
theorem lngS_len {n : Nat} (h : n≤8195) : (lngS n).length=n:=by
 unfold lngS
 rw [List.length_take,List.length_append,dbl_len]
 simp;omega
theorem lngS_plain (n : Nat) : ∀ c ∈ lngS n,c.toNat≠36∧c.toNat≠92∧(false=true→c.toNat≠125):=fun c h => by
 have h:=List.mem_of_mem_take h
 rcases List.mem_append.1 h with h | h
 ·rcases dbl_chars 12 c h with rfl | rfl <;> decide
 ·simp only [List.mem_cons,List.not_mem_nil,or_false] at h
  rcases h with rfl | rfl | rfl <;> decide
theorem snip_plain {u : Str} (h : ∀ c ∈ u,c.toNat≠36∧c.toNat≠92∧(false=true→c.toNat≠125)) : snipL u=withT [] u:=by
 have:=parts_plain false [] u [] [] h
 rw [List.append_nil,List.nil_append,partsS_nil] at this
 rw [snipL_eq,this]
theorem lng_read {n : Nat} (h1 : 1≤n) (h : n≤8192) : snipM (lngS n)=.ok [textS (lngS n)]:=by
 have hl:=lngS_len (n:=n) (by omega)
 have hw : withT [] (lngS n)=[textS (lngS n)]:=by
  unfold withT;rw [if_neg (fun e => by rw [e] at hl;simp at hl;omega)];rfl
 unfold snipM
 rw [if_neg (by omega),snip_plain (lngS_plain n),hw]
 rfl
theorem lng_no {n : Nat} (h0 : n≤8195) (h : 8192 < n) : snipM (lngS n)=.error 4:=by
 unfold snipM;rw [if_pos (by rw [lngS_len h0];exact h)]
theorem opn_read {k : Nat} (h1 : 1≤k) (h : k≤34) : snipM (rep opnD k)=.ok [textS (rep opnD k)]:=by
 have hl:=rep_len opnD k
 have h4 : opnD.length=4:=rfl
 rw [h4] at hl
 have hw : withT [] (rep opnD k)=[textS (rep opnD k)]:=by
  unfold withT;rw [if_neg (fun e => by rw [e] at hl;simp at hl;omega)];rfl
 have e : snipL (rep opnD k)=[textS (rep opnD k)]:=by rw [snipL_eq,open_text k []];simpa using hw
 unfold snipM
 rw [if_neg (by omega),e]
 rfl
def nstS (k : Nat) : Str:=rep opnD k ++ rep [125] k
theorem nst_len (k : Nat) : (nstS k).length=5 * k:=by
 unfold nstS
 rw [List.length_append,rep_len,rep_len]
 simp [opnD];omega
theorem nst_read {k : Nat} (h1 : 1≤k) (h : k≤34) : snipM (nstS k)=if 32 < k then .error 8 else .ok (nestD k):=by
 have hl:=nst_len k
 obtain ⟨j,rfl⟩ : ∃ j,k=j + 1:=⟨k - 1,by omega⟩
 unfold snipM
 rw [if_neg (by omega),show snipL (nstS (j + 1))=nestD (j + 1) from nest_top j,nest_deep]
def SdA (d : Nat) (w : World) (k : Nat) (t q : Value) (wr : World) : Prop:=∃ i : Nat,t=.string ⟨(rep opnD i).toArray⟩∧q=.int .i64 i∧i≤30 + d∧30 + d - i < k∧w=wr
def SdB (d : Nat) (w : World) (k : Nat) (t q : Value) (wr : World) : Prop:=∃ i : Nat,t=.string ⟨(rep opnD (30 + d) ++ rep [125] i).toArray⟩∧q=.int .i64 i∧i≤30 + d∧30 + d - i < k∧w=wr
def SdC (w : World) (k : Nat) (t : Value) (wr : World) : Prop:=∃ j : Nat,t=.string ⟨(dbl j).toArray⟩∧j≤12∧12 - j < k∧w=wr
/- to the third loop's end: T the first text; OPEN: is it open; ARM1: the first reading -/
/- from the third loop on: H2: the second reading -/
set_option maxHeartbeats 4000000 in
theorem SreadDeep_open0 (deep long : Int) (w : World) (hc : low long 3=0) : Calls Try.prog 3 #[.int .i64 deep,.bool true,.int .i64 long] w fun e w' => e=.returned (.bool true)∧Below w.heap.size w w':=by
 have hl1:=low_lt deep (n:=5) (by omega)
 obtain ⟨d,hd⟩ : ∃ d : Nat,low deep 5=d:=⟨(low deep 5).toNat,by omega⟩
 have hd4 : d≤4:=by omega
 have HL1:=Lib.hid (fun w => hd ▸ Low_any deep 5 w (by omega) (by omega))
 have HL2 : Hid (∀ w,Calls Try.prog 9 #[.int .i64 long,.int .i64 3] w fun e w' => e=.returned (.int .i64 0)∧w=w'):=Lib.hid (fun w => by have:=Low_any long 3 w (by omega) (by omega);rw [hc] at this;exact this)
 obtain ⟨U,hU⟩ : ∃ U : Str,lngS 8191=U:=⟨_,rfl⟩
 have hUl:=lngS_len (n:=8191) (by omega)
 have hUn:=lng_read (n:=8191) (by omega) (by omega)
 rw [hU] at hUl hUn
 have H2:=Lib.hid (fun w => SRead_ok w (by omega) hUn)
 have HU:=Lib.hid hU
 have H1:=Lib.hid (fun w => SRead_ok w (by rw [rep_len];simp [opnD];omega) (opn_read (k:=30 + d) (by omega) (by omega)))
 clear hl1 hd hc hU hUn
 go_enter Try.func3,Try.ntmps3
 go_wp2_with (go_at_call 9;refine (HL1.out _).mono ?_)
 rintro e wl ⟨rfl,rfl⟩
 go_wp2
 go_loopg [8,9] (31 + d) (fun k t q wr => SdA d w k t q wr)
 case atStart => exact ⟨0,rfl,rfl,by omega,by omega,rfl⟩
 case round =>
  obtain ⟨i,rfl,rfl,hi,hk,rfl⟩:=hrel
  by_cases hik : i < 30 + d
  ·have g1 : decide ((i : Int) < 30 + (d : Int))=true:=decide_eq_true (by omega)
   have hrl : (rep opnD i).length≤200:=by rw [rep_len];simp [opnD];omega
   go_wp2
   go_roundg (30 + d - i)
   case measure => omega
   case rel => exact ⟨i + 1,by (rw [rep_next];simp [opnD]),by go_num,by omega,by omega,rfl⟩
  ·obtain rfl : i=30 + d:=by omega
   have g1 : decide (((30 + d : Nat) : Int) < 30 + (d : Int))=false:=decide_eq_false (by omega)
   go_wp2
   go_loopg [10,11] (31 + d) (fun k t q wr => SdB d w k t q wr)
   case atStart => exact ⟨0,by simp [rep],rfl,by omega,by omega,rfl⟩
   case round =>
    obtain ⟨i,rfl,rfl,hi,hk,rfl⟩:=hrel
    by_cases hik : i < 30 + d
    ·have g2 : decide ((i : Int) < 30 + (d : Int))=true:=decide_eq_true (by omega)
     have hrl : (rep opnD (30 + d) ++ rep [125] i).length≤400:=by rw [List.length_append,rep_len,rep_len];simp [opnD];omega
     have hrl2 : (rep opnD (30 + d)).length + (rep [125] i).length≤400:=by simpa using hrl
     go_wp2
     go_roundg (30 + d - i)
     case measure => omega
     case rel => exact ⟨i + 1,by (rw [rep_next];try simp),by go_num,by omega,by omega,rfl⟩
    ·obtain rfl : i=30 + d:=by omega
     go_wp2_with (go_at_call 10;refine (H1.out _).mono ?_)
     rintro e w1 ⟨a1,c1,rfl,hb1,hs1⟩
     go_wp2
     go_loopg [14] 13 (fun k t wr => SdC w1 k t wr)
     case atStart => exact ⟨0,by first | rfl | (simp [dbl];done),by omega,by omega,rfl⟩
     case round =>
      obtain ⟨j,rfl,hj,hjk,rfl⟩:=hrel
      obtain ⟨D,hD⟩ : ∃ D,dbl j=D:=⟨_,rfl⟩
      obtain ⟨hj1,hj2⟩:=dbl_small hj
      rw [hD] at hj1 hj2 ⊢
      by_cases hj12 : j < 12
      ·have g3 : decide ((D.length : Int) < 8192)=true:=decide_eq_true (by have:=hj2.2 hj12;omega)
       have HD:=Lib.hid (show dbl (j + 1)=D ++ D by rw [← hD];rfl)
       clear hD hj2
       go_wp2
       go_roundg (12 - j)
       case measure => omega
       case rel => exact ⟨j + 1,by (rw [HD.out];try simp),by omega,by omega,rfl⟩
      ·have hj : j=12:=by omega
       have g3 : decide ((D.length : Int) < 8192)=false:=decide_eq_false (by have:=hj2;omega)
       have HLG : Hid (∀ n,(D ++ [120,121,122]).take n=lngS n):=Lib.hid fun n => by unfold lngS;rw [← hD,hj]
       have hDl : D.length=8192:=by omega
       clear hD hj2 hj12 hjk
       go_wp2_with (go_at_call 9;refine (HL2.out _).mono ?_)
       rintro e wl ⟨rfl,rfl⟩
       have hge : 8192≤D.length:=by omega
       clear hj hDl
       go_wp2_with (go_at_call 10;rw [HLG.out,HU.out];refine (H2.out _).mono ?_)
       rintro e w2 ⟨a2,c2,rfl,hb2,hs2⟩
       obtain ⟨b0,o0,x0,rfl,_,_,hx0,hc0⟩:=(hs1.later hb2).at_ (k:=0) (x:=textS (rep opnD (30 + d))) rfl
       obtain ⟨fc0,oa0,oc0,ka0,kc0,A0⟩:=(show SnV _ _ x0 (.mk 0 (rep opnD (30 + d)) 0 false false tf0 [] []) from hx0).at_
       have q0:=hc0 1 _ (A0).c1
       simp only [Nat.zero_mul,Nat.zero_add] at q0
       clear hx0 hc0 A0
       obtain ⟨b2,o2,x2,rfl,_,_,hx2,hc2⟩:=(hs2).at_ (k:=0) (x:=textS (U)) rfl
       obtain ⟨fc2,oa2,oc2,ka2,kc2,A2⟩:=(show SnV _ _ x2 (.mk 0 (U) 0 false false tf0 [] []) from hx2).at_
       have q2:=hc2 1 _ (A2).c1
       simp only [Nat.zero_mul,Nat.zero_add] at q2
       clear hx2 hc2 A2
       go_wp2_with (go_at_call 11;refine (awake21 _).mono ?_;rintro e w9 ⟨rfl,hb9⟩)
       go_ret
       exact ⟨rfl,bel2 (bel2 hb1 hb2) hb9⟩
set_option maxHeartbeats 4000000 in
theorem SreadDeep_open1 (deep long : Int) (w : World) (hc : low long 3=1) : Calls Try.prog 3 #[.int .i64 deep,.bool true,.int .i64 long] w fun e w' => e=.returned (.bool true)∧Below w.heap.size w w':=by
 have hl1:=low_lt deep (n:=5) (by omega)
 obtain ⟨d,hd⟩ : ∃ d : Nat,low deep 5=d:=⟨(low deep 5).toNat,by omega⟩
 have hd4 : d≤4:=by omega
 have HL1:=Lib.hid (fun w => hd ▸ Low_any deep 5 w (by omega) (by omega))
 have HL2 : Hid (∀ w,Calls Try.prog 9 #[.int .i64 long,.int .i64 3] w fun e w' => e=.returned (.int .i64 1)∧w=w'):=Lib.hid (fun w => by have:=Low_any long 3 w (by omega) (by omega);rw [hc] at this;exact this)
 obtain ⟨U,hU⟩ : ∃ U : Str,lngS 8192=U:=⟨_,rfl⟩
 have hUl:=lngS_len (n:=8192) (by omega)
 have hUn:=lng_read (n:=8192) (by omega) (by omega)
 rw [hU] at hUl hUn
 have H2:=Lib.hid (fun w => SRead_ok w (by omega) hUn)
 have HU:=Lib.hid hU
 have H1:=Lib.hid (fun w => SRead_ok w (by rw [rep_len];simp [opnD];omega) (opn_read (k:=30 + d) (by omega) (by omega)))
 clear hl1 hd hc hU hUn
 go_enter Try.func3,Try.ntmps3
 go_wp2_with (go_at_call 9;refine (HL1.out _).mono ?_)
 rintro e wl ⟨rfl,rfl⟩
 go_wp2
 go_loopg [8,9] (31 + d) (fun k t q wr => SdA d w k t q wr)
 case atStart => exact ⟨0,rfl,rfl,by omega,by omega,rfl⟩
 case round =>
  obtain ⟨i,rfl,rfl,hi,hk,rfl⟩:=hrel
  by_cases hik : i < 30 + d
  ·have g1 : decide ((i : Int) < 30 + (d : Int))=true:=decide_eq_true (by omega)
   have hrl : (rep opnD i).length≤200:=by rw [rep_len];simp [opnD];omega
   go_wp2
   go_roundg (30 + d - i)
   case measure => omega
   case rel => exact ⟨i + 1,by (rw [rep_next];simp [opnD]),by go_num,by omega,by omega,rfl⟩
  ·obtain rfl : i=30 + d:=by omega
   have g1 : decide (((30 + d : Nat) : Int) < 30 + (d : Int))=false:=decide_eq_false (by omega)
   go_wp2
   go_loopg [10,11] (31 + d) (fun k t q wr => SdB d w k t q wr)
   case atStart => exact ⟨0,by simp [rep],rfl,by omega,by omega,rfl⟩
   case round =>
    obtain ⟨i,rfl,rfl,hi,hk,rfl⟩:=hrel
    by_cases hik : i < 30 + d
    ·have g2 : decide ((i : Int) < 30 + (d : Int))=true:=decide_eq_true (by omega)
     have hrl : (rep opnD (30 + d) ++ rep [125] i).length≤400:=by rw [List.length_append,rep_len,rep_len];simp [opnD];omega
     have hrl2 : (rep opnD (30 + d)).length + (rep [125] i).length≤400:=by simpa using hrl
     go_wp2
     go_roundg (30 + d - i)
     case measure => omega
     case rel => exact ⟨i + 1,by (rw [rep_next];try simp),by go_num,by omega,by omega,rfl⟩
    ·obtain rfl : i=30 + d:=by omega
     go_wp2_with (go_at_call 10;refine (H1.out _).mono ?_)
     rintro e w1 ⟨a1,c1,rfl,hb1,hs1⟩
     go_wp2
     go_loopg [14] 13 (fun k t wr => SdC w1 k t wr)
     case atStart => exact ⟨0,by first | rfl | (simp [dbl];done),by omega,by omega,rfl⟩
     case round =>
      obtain ⟨j,rfl,hj,hjk,rfl⟩:=hrel
      obtain ⟨D,hD⟩ : ∃ D,dbl j=D:=⟨_,rfl⟩
      obtain ⟨hj1,hj2⟩:=dbl_small hj
      rw [hD] at hj1 hj2 ⊢
      by_cases hj12 : j < 12
      ·have g3 : decide ((D.length : Int) < 8192)=true:=decide_eq_true (by have:=hj2.2 hj12;omega)
       have HD:=Lib.hid (show dbl (j + 1)=D ++ D by rw [← hD];rfl)
       clear hD hj2
       go_wp2
       go_roundg (12 - j)
       case measure => omega
       case rel => exact ⟨j + 1,by (rw [HD.out];try simp),by omega,by omega,rfl⟩
      ·have hj : j=12:=by omega
       have g3 : decide ((D.length : Int) < 8192)=false:=decide_eq_false (by have:=hj2;omega)
       have HLG : Hid (∀ n,(D ++ [120,121,122]).take n=lngS n):=Lib.hid fun n => by unfold lngS;rw [← hD,hj]
       have hDl : D.length=8192:=by omega
       clear hD hj2 hj12 hjk
       go_wp2_with (go_at_call 9;refine (HL2.out _).mono ?_)
       rintro e wl ⟨rfl,rfl⟩
       have hge : 8192≤D.length:=by omega
       clear hj hDl
       go_wp2_with (go_at_call 10;rw [HLG.out,HU.out];refine (H2.out _).mono ?_)
       rintro e w2 ⟨a2,c2,rfl,hb2,hs2⟩
       obtain ⟨b0,o0,x0,rfl,_,_,hx0,hc0⟩:=(hs1.later hb2).at_ (k:=0) (x:=textS (rep opnD (30 + d))) rfl
       obtain ⟨fc0,oa0,oc0,ka0,kc0,A0⟩:=(show SnV _ _ x0 (.mk 0 (rep opnD (30 + d)) 0 false false tf0 [] []) from hx0).at_
       have q0:=hc0 1 _ (A0).c1
       simp only [Nat.zero_mul,Nat.zero_add] at q0
       clear hx0 hc0 A0
       obtain ⟨b2,o2,x2,rfl,_,_,hx2,hc2⟩:=(hs2).at_ (k:=0) (x:=textS (U)) rfl
       obtain ⟨fc2,oa2,oc2,ka2,kc2,A2⟩:=(show SnV _ _ x2 (.mk 0 (U) 0 false false tf0 [] []) from hx2).at_
       have q2:=hc2 1 _ (A2).c1
       simp only [Nat.zero_mul,Nat.zero_add] at q2
       clear hx2 hc2 A2
       go_wp2_with (go_at_call 11;refine (awake21 _).mono ?_;rintro e w9 ⟨rfl,hb9⟩)
       go_ret
       exact ⟨rfl,bel2 (bel2 hb1 hb2) hb9⟩
set_option maxHeartbeats 4000000 in
theorem SreadDeep_open2 (deep long : Int) (w : World) (hc : low long 3=2) : Calls Try.prog 3 #[.int .i64 deep,.bool true,.int .i64 long] w fun e w' => e=.returned (.bool true)∧Below w.heap.size w w':=by
 have hl1:=low_lt deep (n:=5) (by omega)
 obtain ⟨d,hd⟩ : ∃ d : Nat,low deep 5=d:=⟨(low deep 5).toNat,by omega⟩
 have hd4 : d≤4:=by omega
 have HL1:=Lib.hid (fun w => hd ▸ Low_any deep 5 w (by omega) (by omega))
 have HL2 : Hid (∀ w,Calls Try.prog 9 #[.int .i64 long,.int .i64 3] w fun e w' => e=.returned (.int .i64 2)∧w=w'):=Lib.hid (fun w => by have:=Low_any long 3 w (by omega) (by omega);rw [hc] at this;exact this)
 obtain ⟨U,hU⟩ : ∃ U : Str,lngS 8193=U:=⟨_,rfl⟩
 have hUl:=lngS_len (n:=8193) (by omega)
 have hUn:=lng_no (n:=8193) (by omega) (by omega)
 rw [hU] at hUl hUn
 have H2:=Lib.hid (fun w => SRead_no w (by omega) hUn)
 have HU:=Lib.hid hU
 have H1:=Lib.hid (fun w => SRead_ok w (by rw [rep_len];simp [opnD];omega) (opn_read (k:=30 + d) (by omega) (by omega)))
 clear hl1 hd hc hU hUn
 go_enter Try.func3,Try.ntmps3
 go_wp2_with (go_at_call 9;refine (HL1.out _).mono ?_)
 rintro e wl ⟨rfl,rfl⟩
 go_wp2
 go_loopg [8,9] (31 + d) (fun k t q wr => SdA d w k t q wr)
 case atStart => exact ⟨0,rfl,rfl,by omega,by omega,rfl⟩
 case round =>
  obtain ⟨i,rfl,rfl,hi,hk,rfl⟩:=hrel
  by_cases hik : i < 30 + d
  ·have g1 : decide ((i : Int) < 30 + (d : Int))=true:=decide_eq_true (by omega)
   have hrl : (rep opnD i).length≤200:=by rw [rep_len];simp [opnD];omega
   go_wp2
   go_roundg (30 + d - i)
   case measure => omega
   case rel => exact ⟨i + 1,by (rw [rep_next];simp [opnD]),by go_num,by omega,by omega,rfl⟩
  ·obtain rfl : i=30 + d:=by omega
   have g1 : decide (((30 + d : Nat) : Int) < 30 + (d : Int))=false:=decide_eq_false (by omega)
   go_wp2
   go_loopg [10,11] (31 + d) (fun k t q wr => SdB d w k t q wr)
   case atStart => exact ⟨0,by simp [rep],rfl,by omega,by omega,rfl⟩
   case round =>
    obtain ⟨i,rfl,rfl,hi,hk,rfl⟩:=hrel
    by_cases hik : i < 30 + d
    ·have g2 : decide ((i : Int) < 30 + (d : Int))=true:=decide_eq_true (by omega)
     have hrl : (rep opnD (30 + d) ++ rep [125] i).length≤400:=by rw [List.length_append,rep_len,rep_len];simp [opnD];omega
     have hrl2 : (rep opnD (30 + d)).length + (rep [125] i).length≤400:=by simpa using hrl
     go_wp2
     go_roundg (30 + d - i)
     case measure => omega
     case rel => exact ⟨i + 1,by (rw [rep_next];try simp),by go_num,by omega,by omega,rfl⟩
    ·obtain rfl : i=30 + d:=by omega
     go_wp2_with (go_at_call 10;refine (H1.out _).mono ?_)
     rintro e w1 ⟨a1,c1,rfl,hb1,hs1⟩
     go_wp2
     go_loopg [14] 13 (fun k t wr => SdC w1 k t wr)
     case atStart => exact ⟨0,by first | rfl | (simp [dbl];done),by omega,by omega,rfl⟩
     case round =>
      obtain ⟨j,rfl,hj,hjk,rfl⟩:=hrel
      obtain ⟨D,hD⟩ : ∃ D,dbl j=D:=⟨_,rfl⟩
      obtain ⟨hj1,hj2⟩:=dbl_small hj
      rw [hD] at hj1 hj2 ⊢
      by_cases hj12 : j < 12
      ·have g3 : decide ((D.length : Int) < 8192)=true:=decide_eq_true (by have:=hj2.2 hj12;omega)
       have HD:=Lib.hid (show dbl (j + 1)=D ++ D by rw [← hD];rfl)
       clear hD hj2
       go_wp2
       go_roundg (12 - j)
       case measure => omega
       case rel => exact ⟨j + 1,by (rw [HD.out];try simp),by omega,by omega,rfl⟩
      ·have hj : j=12:=by omega
       have g3 : decide ((D.length : Int) < 8192)=false:=decide_eq_false (by have:=hj2;omega)
       have HLG : Hid (∀ n,(D ++ [120,121,122]).take n=lngS n):=Lib.hid fun n => by unfold lngS;rw [← hD,hj]
       have hDl : D.length=8192:=by omega
       clear hD hj2 hj12 hjk
       go_wp2_with (go_at_call 9;refine (HL2.out _).mono ?_)
       rintro e wl ⟨rfl,rfl⟩
       have hge : 8192≤D.length:=by omega
       clear hj hDl
       go_wp2_with (go_at_call 10;rw [HLG.out,HU.out];refine (H2.out _).mono ?_)
       rintro e w2 ⟨rfl,hb2⟩
       obtain ⟨b0,o0,x0,rfl,_,_,hx0,hc0⟩:=(hs1.later hb2).at_ (k:=0) (x:=textS (rep opnD (30 + d))) rfl
       obtain ⟨fc0,oa0,oc0,ka0,kc0,A0⟩:=(show SnV _ _ x0 (.mk 0 (rep opnD (30 + d)) 0 false false tf0 [] []) from hx0).at_
       have q0:=hc0 1 _ (A0).c1
       simp only [Nat.zero_mul,Nat.zero_add] at q0
       clear hx0 hc0 A0
       go_wp2_with (go_at_call 11;refine (awake21 _).mono ?_;rintro e w9 ⟨rfl,hb9⟩)
       go_ret
       exact ⟨rfl,bel2 (bel2 hb1 hb2) hb9⟩
set_option maxHeartbeats 4000000 in
theorem SreadDeep_ok0 (deep long : Int) (w : World) (hc : low long 3=0) (hdr : low deep 5≤2) : Calls Try.prog 3 #[.int .i64 deep,.bool false,.int .i64 long] w fun e w' => e=.returned (.bool true)∧Below w.heap.size w w':=by
 have hl1:=low_lt deep (n:=5) (by omega)
 obtain ⟨d,hd⟩ : ∃ d : Nat,low deep 5=d:=⟨(low deep 5).toNat,by omega⟩
 have hd4 : d≤4:=by omega
 have HL1:=Lib.hid (fun w => hd ▸ Low_any deep 5 w (by omega) (by omega))
 have HL2 : Hid (∀ w,Calls Try.prog 9 #[.int .i64 long,.int .i64 3] w fun e w' => e=.returned (.int .i64 0)∧w=w'):=Lib.hid (fun w => by have:=Low_any long 3 w (by omega) (by omega);rw [hc] at this;exact this)
 obtain ⟨U,hU⟩ : ∃ U : Str,lngS 8191=U:=⟨_,rfl⟩
 have hUl:=lngS_len (n:=8191) (by omega)
 have hUn:=lng_read (n:=8191) (by omega) (by omega)
 rw [hU] at hUl hUn
 have H2:=Lib.hid (fun w => SRead_ok w (by omega) hUn)
 have HU:=Lib.hid hU
 have hnl:=nst_len (30 + d)
 have hnr:=nst_read (k:=30 + d) (by omega) (by omega)
 obtain ⟨T,hT⟩ : ∃ T,nstS (30 + d)=T:=⟨_,rfl⟩
 have hTe : rep opnD (30 + d) ++ rep [125] (30 + d)=T:=hT
 have HTE:=Lib.hid hTe
 rw [hT] at hnl hnr
 rw [if_neg (by omega)] at hnr
 have hlen : (nestD (30 + d)).length=1:=by rw [show 30 + d=(29 + d) + 1 by omega];rfl
 have hdp:=nest_deep (30 + d)
 have hpp : Sn.partsL (nestD (30 + d))≤1000000:=by
  obtain ⟨_,_,h3⟩:=snip_small (s:=T) (by omega)
  have : snipL T=nestD (30 + d):=by rw [← hT,show 30 + d=(29 + d) + 1 by omega];exact nest_top _
  rw [← this];exact h3
 obtain ⟨NL,hNL⟩ : ∃ NL,nestD (30 + d)=NL:=⟨_,rfl⟩
 rw [hNL] at hnr hlen hdp hpp
 have H1 : Hid (∀ w,Calls Try.prog 10 #[.string ⟨(T).toArray⟩] w fun e w' => ∃ (a : Option Addr) (c : Nat),e=.returned (.tuple #[.slice a 1 c,.int .i64 0])∧Below w.heap.size w w'∧SnSl w' (fun b => w.heap.size≤b) a NL.length NL):=Lib.hid (fun w => by
  have:=SRead_ok w (by omega) hnr
  rw [hlen] at this ⊢;exact this)
 have HLEN:=Lib.hid hlen
 have HDPP:=Lib.hid (show ∀ (S : Nat→Prop) (a : Option Addr) (c : Nat) (w : World),SnSl w S a NL.length NL→Calls Try.prog 12 #[.slice a 1 c] w fun e w' => e=.returned (.int .i64 (30 + (d : Int)))∧Below w.heap.size w w' from fun S a c w h => by
  have:=SDeep_any S (Sn.partsL NL + 1) NL (by omega) hpp a c w h
  rw [hdp,hlen] at this
  exact this.mono fun e w' ⟨h1,h2⟩ => ⟨by rw [h1];congr 1,h2⟩)
 clear hT hTe hlen hdp hNL hpp
 have gk : decide ((32 : Int) < 30 + (d : Int))=false:=decide_eq_false (by omega)
 clear hl1 hd hc hU hUn hdr hnr
 go_enter Try.func3,Try.ntmps3
 go_wp2_with (go_at_call 9;refine (HL1.out _).mono ?_)
 rintro e wl ⟨rfl,rfl⟩
 go_wp2
 go_loopg [8,9] (31 + d) (fun k t q wr => SdA d w k t q wr)
 case atStart => exact ⟨0,rfl,rfl,by omega,by omega,rfl⟩
 case round =>
  obtain ⟨i,rfl,rfl,hi,hk,rfl⟩:=hrel
  by_cases hik : i < 30 + d
  ·have g1 : decide ((i : Int) < 30 + (d : Int))=true:=decide_eq_true (by omega)
   have hrl : (rep opnD i).length≤200:=by rw [rep_len];simp [opnD];omega
   go_wp2
   go_roundg (30 + d - i)
   case measure => omega
   case rel => exact ⟨i + 1,by (rw [rep_next];simp [opnD]),by go_num,by omega,by omega,rfl⟩
  ·obtain rfl : i=30 + d:=by omega
   have g1 : decide (((30 + d : Nat) : Int) < 30 + (d : Int))=false:=decide_eq_false (by omega)
   go_wp2
   go_loopg [10,11] (31 + d) (fun k t q wr => SdB d w k t q wr)
   case atStart => exact ⟨0,by simp [rep],rfl,by omega,by omega,rfl⟩
   case round =>
    obtain ⟨i,rfl,rfl,hi,hk,rfl⟩:=hrel
    by_cases hik : i < 30 + d
    ·have g2 : decide ((i : Int) < 30 + (d : Int))=true:=decide_eq_true (by omega)
     have hrl : (rep opnD (30 + d) ++ rep [125] i).length≤400:=by rw [List.length_append,rep_len,rep_len];simp [opnD];omega
     have hrl2 : (rep opnD (30 + d)).length + (rep [125] i).length≤400:=by simpa using hrl
     go_wp2
     go_roundg (30 + d - i)
     case measure => omega
     case rel => exact ⟨i + 1,by (rw [rep_next];try simp),by go_num,by omega,by omega,rfl⟩
    ·obtain rfl : i=30 + d:=by omega
     go_wp2_with (go_at_call 10;rw [HTE.out];refine (H1.out _).mono ?_)
     rintro e w1 ⟨a1,c1,rfl,hb1,hs1⟩
     go_wp2
     go_loopg [14] 13 (fun k t wr => SdC w1 k t wr)
     case atStart => exact ⟨0,by first | rfl | (simp [dbl];done),by omega,by omega,rfl⟩
     case round =>
      obtain ⟨j,rfl,hj,hjk,rfl⟩:=hrel
      obtain ⟨D,hD⟩ : ∃ D,dbl j=D:=⟨_,rfl⟩
      obtain ⟨hj1,hj2⟩:=dbl_small hj
      rw [hD] at hj1 hj2 ⊢
      by_cases hj12 : j < 12
      ·have g3 : decide ((D.length : Int) < 8192)=true:=decide_eq_true (by have:=hj2.2 hj12;omega)
       have HD:=Lib.hid (show dbl (j + 1)=D ++ D by rw [← hD];rfl)
       clear hD hj2
       go_wp2
       go_roundg (12 - j)
       case measure => omega
       case rel => exact ⟨j + 1,by (rw [HD.out];try simp),by omega,by omega,rfl⟩
      ·have hj : j=12:=by omega
       have g3 : decide ((D.length : Int) < 8192)=false:=decide_eq_false (by have:=hj2;omega)
       have HLG : Hid (∀ n,(D ++ [120,121,122]).take n=lngS n):=Lib.hid fun n => by unfold lngS;rw [← hD,hj]
       have hDl : D.length=8192:=by omega
       clear hD hj2 hj12 hjk
       go_wp2_with (go_at_call 9;refine (HL2.out _).mono ?_)
       rintro e wl ⟨rfl,rfl⟩
       have hge : 8192≤D.length:=by omega
       clear hj hDl
       go_wp2_with (go_at_call 10;rw [HLG.out,HU.out];refine (H2.out _).mono ?_)
       rintro e w2 ⟨a2,c2,rfl,hb2,hs2⟩
       have HDP:=Lib.hid (HDPP.out _ a1 c1 w2 (hs1.later hb2))
       obtain ⟨b2,o2,x2,rfl,_,_,hx2,hc2⟩:=(hs2).at_ (k:=0) (x:=textS (U)) rfl
       obtain ⟨fc2,oa2,oc2,ka2,kc2,A2⟩:=(show SnV _ _ x2 (.mk 0 (U) 0 false false tf0 [] []) from hx2).at_
       have q2:=hc2 1 _ (A2).c1
       simp only [Nat.zero_mul,Nat.zero_add] at q2
       clear hx2 hc2 A2
       go_wp2_with (first | (go_at_call 12;refine HDP.out.mono ?_;rintro e w8 ⟨rfl,hb8⟩) | (go_at_call 11;refine (awake21 _).mono ?_;rintro e w9 ⟨rfl,hb9⟩))
       go_ret
       exact ⟨rfl,bel2 (bel2 (bel2 hb1 hb2) hb8) hb9⟩
set_option maxHeartbeats 4000000 in
theorem SreadDeep_ok1 (deep long : Int) (w : World) (hc : low long 3=1) (hdr : low deep 5≤2) : Calls Try.prog 3 #[.int .i64 deep,.bool false,.int .i64 long] w fun e w' => e=.returned (.bool true)∧Below w.heap.size w w':=by
 have hl1:=low_lt deep (n:=5) (by omega)
 obtain ⟨d,hd⟩ : ∃ d : Nat,low deep 5=d:=⟨(low deep 5).toNat,by omega⟩
 have hd4 : d≤4:=by omega
 have HL1:=Lib.hid (fun w => hd ▸ Low_any deep 5 w (by omega) (by omega))
 have HL2 : Hid (∀ w,Calls Try.prog 9 #[.int .i64 long,.int .i64 3] w fun e w' => e=.returned (.int .i64 1)∧w=w'):=Lib.hid (fun w => by have:=Low_any long 3 w (by omega) (by omega);rw [hc] at this;exact this)
 obtain ⟨U,hU⟩ : ∃ U : Str,lngS 8192=U:=⟨_,rfl⟩
 have hUl:=lngS_len (n:=8192) (by omega)
 have hUn:=lng_read (n:=8192) (by omega) (by omega)
 rw [hU] at hUl hUn
 have H2:=Lib.hid (fun w => SRead_ok w (by omega) hUn)
 have HU:=Lib.hid hU
 have hnl:=nst_len (30 + d)
 have hnr:=nst_read (k:=30 + d) (by omega) (by omega)
 obtain ⟨T,hT⟩ : ∃ T,nstS (30 + d)=T:=⟨_,rfl⟩
 have hTe : rep opnD (30 + d) ++ rep [125] (30 + d)=T:=hT
 have HTE:=Lib.hid hTe
 rw [hT] at hnl hnr
 rw [if_neg (by omega)] at hnr
 have hlen : (nestD (30 + d)).length=1:=by rw [show 30 + d=(29 + d) + 1 by omega];rfl
 have hdp:=nest_deep (30 + d)
 have hpp : Sn.partsL (nestD (30 + d))≤1000000:=by
  obtain ⟨_,_,h3⟩:=snip_small (s:=T) (by omega)
  have : snipL T=nestD (30 + d):=by rw [← hT,show 30 + d=(29 + d) + 1 by omega];exact nest_top _
  rw [← this];exact h3
 obtain ⟨NL,hNL⟩ : ∃ NL,nestD (30 + d)=NL:=⟨_,rfl⟩
 rw [hNL] at hnr hlen hdp hpp
 have H1 : Hid (∀ w,Calls Try.prog 10 #[.string ⟨(T).toArray⟩] w fun e w' => ∃ (a : Option Addr) (c : Nat),e=.returned (.tuple #[.slice a 1 c,.int .i64 0])∧Below w.heap.size w w'∧SnSl w' (fun b => w.heap.size≤b) a NL.length NL):=Lib.hid (fun w => by
  have:=SRead_ok w (by omega) hnr
  rw [hlen] at this ⊢;exact this)
 have HLEN:=Lib.hid hlen
 have HDPP:=Lib.hid (show ∀ (S : Nat→Prop) (a : Option Addr) (c : Nat) (w : World),SnSl w S a NL.length NL→Calls Try.prog 12 #[.slice a 1 c] w fun e w' => e=.returned (.int .i64 (30 + (d : Int)))∧Below w.heap.size w w' from fun S a c w h => by
  have:=SDeep_any S (Sn.partsL NL + 1) NL (by omega) hpp a c w h
  rw [hdp,hlen] at this
  exact this.mono fun e w' ⟨h1,h2⟩ => ⟨by rw [h1];congr 1,h2⟩)
 clear hT hTe hlen hdp hNL hpp
 have gk : decide ((32 : Int) < 30 + (d : Int))=false:=decide_eq_false (by omega)
 clear hl1 hd hc hU hUn hdr hnr
 go_enter Try.func3,Try.ntmps3
 go_wp2_with (go_at_call 9;refine (HL1.out _).mono ?_)
 rintro e wl ⟨rfl,rfl⟩
 go_wp2
 go_loopg [8,9] (31 + d) (fun k t q wr => SdA d w k t q wr)
 case atStart => exact ⟨0,rfl,rfl,by omega,by omega,rfl⟩
 case round =>
  obtain ⟨i,rfl,rfl,hi,hk,rfl⟩:=hrel
  by_cases hik : i < 30 + d
  ·have g1 : decide ((i : Int) < 30 + (d : Int))=true:=decide_eq_true (by omega)
   have hrl : (rep opnD i).length≤200:=by rw [rep_len];simp [opnD];omega
   go_wp2
   go_roundg (30 + d - i)
   case measure => omega
   case rel => exact ⟨i + 1,by (rw [rep_next];simp [opnD]),by go_num,by omega,by omega,rfl⟩
  ·obtain rfl : i=30 + d:=by omega
   have g1 : decide (((30 + d : Nat) : Int) < 30 + (d : Int))=false:=decide_eq_false (by omega)
   go_wp2
   go_loopg [10,11] (31 + d) (fun k t q wr => SdB d w k t q wr)
   case atStart => exact ⟨0,by simp [rep],rfl,by omega,by omega,rfl⟩
   case round =>
    obtain ⟨i,rfl,rfl,hi,hk,rfl⟩:=hrel
    by_cases hik : i < 30 + d
    ·have g2 : decide ((i : Int) < 30 + (d : Int))=true:=decide_eq_true (by omega)
     have hrl : (rep opnD (30 + d) ++ rep [125] i).length≤400:=by rw [List.length_append,rep_len,rep_len];simp [opnD];omega
     have hrl2 : (rep opnD (30 + d)).length + (rep [125] i).length≤400:=by simpa using hrl
     go_wp2
     go_roundg (30 + d - i)
     case measure => omega
     case rel => exact ⟨i + 1,by (rw [rep_next];try simp),by go_num,by omega,by omega,rfl⟩
    ·obtain rfl : i=30 + d:=by omega
     go_wp2_with (go_at_call 10;rw [HTE.out];refine (H1.out _).mono ?_)
     rintro e w1 ⟨a1,c1,rfl,hb1,hs1⟩
     go_wp2
     go_loopg [14] 13 (fun k t wr => SdC w1 k t wr)
     case atStart => exact ⟨0,by first | rfl | (simp [dbl];done),by omega,by omega,rfl⟩
     case round =>
      obtain ⟨j,rfl,hj,hjk,rfl⟩:=hrel
      obtain ⟨D,hD⟩ : ∃ D,dbl j=D:=⟨_,rfl⟩
      obtain ⟨hj1,hj2⟩:=dbl_small hj
      rw [hD] at hj1 hj2 ⊢
      by_cases hj12 : j < 12
      ·have g3 : decide ((D.length : Int) < 8192)=true:=decide_eq_true (by have:=hj2.2 hj12;omega)
       have HD:=Lib.hid (show dbl (j + 1)=D ++ D by rw [← hD];rfl)
       clear hD hj2
       go_wp2
       go_roundg (12 - j)
       case measure => omega
       case rel => exact ⟨j + 1,by (rw [HD.out];try simp),by omega,by omega,rfl⟩
      ·have hj : j=12:=by omega
       have g3 : decide ((D.length : Int) < 8192)=false:=decide_eq_false (by have:=hj2;omega)
       have HLG : Hid (∀ n,(D ++ [120,121,122]).take n=lngS n):=Lib.hid fun n => by unfold lngS;rw [← hD,hj]
       have hDl : D.length=8192:=by omega
       clear hD hj2 hj12 hjk
       go_wp2_with (go_at_call 9;refine (HL2.out _).mono ?_)
       rintro e wl ⟨rfl,rfl⟩
       have hge : 8192≤D.length:=by omega
       clear hj hDl
       go_wp2_with (go_at_call 10;rw [HLG.out,HU.out];refine (H2.out _).mono ?_)
       rintro e w2 ⟨a2,c2,rfl,hb2,hs2⟩
       have HDP:=Lib.hid (HDPP.out _ a1 c1 w2 (hs1.later hb2))
       obtain ⟨b2,o2,x2,rfl,_,_,hx2,hc2⟩:=(hs2).at_ (k:=0) (x:=textS (U)) rfl
       obtain ⟨fc2,oa2,oc2,ka2,kc2,A2⟩:=(show SnV _ _ x2 (.mk 0 (U) 0 false false tf0 [] []) from hx2).at_
       have q2:=hc2 1 _ (A2).c1
       simp only [Nat.zero_mul,Nat.zero_add] at q2
       clear hx2 hc2 A2
       go_wp2_with (first | (go_at_call 12;refine HDP.out.mono ?_;rintro e w8 ⟨rfl,hb8⟩) | (go_at_call 11;refine (awake21 _).mono ?_;rintro e w9 ⟨rfl,hb9⟩))
       go_ret
       exact ⟨rfl,bel2 (bel2 (bel2 hb1 hb2) hb8) hb9⟩
set_option maxHeartbeats 4000000 in
theorem SreadDeep_ok2 (deep long : Int) (w : World) (hc : low long 3=2) (hdr : low deep 5≤2) : Calls Try.prog 3 #[.int .i64 deep,.bool false,.int .i64 long] w fun e w' => e=.returned (.bool true)∧Below w.heap.size w w':=by
 have hl1:=low_lt deep (n:=5) (by omega)
 obtain ⟨d,hd⟩ : ∃ d : Nat,low deep 5=d:=⟨(low deep 5).toNat,by omega⟩
 have hd4 : d≤4:=by omega
 have HL1:=Lib.hid (fun w => hd ▸ Low_any deep 5 w (by omega) (by omega))
 have HL2 : Hid (∀ w,Calls Try.prog 9 #[.int .i64 long,.int .i64 3] w fun e w' => e=.returned (.int .i64 2)∧w=w'):=Lib.hid (fun w => by have:=Low_any long 3 w (by omega) (by omega);rw [hc] at this;exact this)
 obtain ⟨U,hU⟩ : ∃ U : Str,lngS 8193=U:=⟨_,rfl⟩
 have hUl:=lngS_len (n:=8193) (by omega)
 have hUn:=lng_no (n:=8193) (by omega) (by omega)
 rw [hU] at hUl hUn
 have H2:=Lib.hid (fun w => SRead_no w (by omega) hUn)
 have HU:=Lib.hid hU
 have hnl:=nst_len (30 + d)
 have hnr:=nst_read (k:=30 + d) (by omega) (by omega)
 obtain ⟨T,hT⟩ : ∃ T,nstS (30 + d)=T:=⟨_,rfl⟩
 have hTe : rep opnD (30 + d) ++ rep [125] (30 + d)=T:=hT
 have HTE:=Lib.hid hTe
 rw [hT] at hnl hnr
 rw [if_neg (by omega)] at hnr
 have hlen : (nestD (30 + d)).length=1:=by rw [show 30 + d=(29 + d) + 1 by omega];rfl
 have hdp:=nest_deep (30 + d)
 have hpp : Sn.partsL (nestD (30 + d))≤1000000:=by
  obtain ⟨_,_,h3⟩:=snip_small (s:=T) (by omega)
  have : snipL T=nestD (30 + d):=by rw [← hT,show 30 + d=(29 + d) + 1 by omega];exact nest_top _
  rw [← this];exact h3
 obtain ⟨NL,hNL⟩ : ∃ NL,nestD (30 + d)=NL:=⟨_,rfl⟩
 rw [hNL] at hnr hlen hdp hpp
 have H1 : Hid (∀ w,Calls Try.prog 10 #[.string ⟨(T).toArray⟩] w fun e w' => ∃ (a : Option Addr) (c : Nat),e=.returned (.tuple #[.slice a 1 c,.int .i64 0])∧Below w.heap.size w w'∧SnSl w' (fun b => w.heap.size≤b) a NL.length NL):=Lib.hid (fun w => by
  have:=SRead_ok w (by omega) hnr
  rw [hlen] at this ⊢;exact this)
 have HLEN:=Lib.hid hlen
 have HDPP:=Lib.hid (show ∀ (S : Nat→Prop) (a : Option Addr) (c : Nat) (w : World),SnSl w S a NL.length NL→Calls Try.prog 12 #[.slice a 1 c] w fun e w' => e=.returned (.int .i64 (30 + (d : Int)))∧Below w.heap.size w w' from fun S a c w h => by
  have:=SDeep_any S (Sn.partsL NL + 1) NL (by omega) hpp a c w h
  rw [hdp,hlen] at this
  exact this.mono fun e w' ⟨h1,h2⟩ => ⟨by rw [h1];congr 1,h2⟩)
 clear hT hTe hlen hdp hNL hpp
 have gk : decide ((32 : Int) < 30 + (d : Int))=false:=decide_eq_false (by omega)
 clear hl1 hd hc hU hUn hdr hnr
 go_enter Try.func3,Try.ntmps3
 go_wp2_with (go_at_call 9;refine (HL1.out _).mono ?_)
 rintro e wl ⟨rfl,rfl⟩
 go_wp2
 go_loopg [8,9] (31 + d) (fun k t q wr => SdA d w k t q wr)
 case atStart => exact ⟨0,rfl,rfl,by omega,by omega,rfl⟩
 case round =>
  obtain ⟨i,rfl,rfl,hi,hk,rfl⟩:=hrel
  by_cases hik : i < 30 + d
  ·have g1 : decide ((i : Int) < 30 + (d : Int))=true:=decide_eq_true (by omega)
   have hrl : (rep opnD i).length≤200:=by rw [rep_len];simp [opnD];omega
   go_wp2
   go_roundg (30 + d - i)
   case measure => omega
   case rel => exact ⟨i + 1,by (rw [rep_next];simp [opnD]),by go_num,by omega,by omega,rfl⟩
  ·obtain rfl : i=30 + d:=by omega
   have g1 : decide (((30 + d : Nat) : Int) < 30 + (d : Int))=false:=decide_eq_false (by omega)
   go_wp2
   go_loopg [10,11] (31 + d) (fun k t q wr => SdB d w k t q wr)
   case atStart => exact ⟨0,by simp [rep],rfl,by omega,by omega,rfl⟩
   case round =>
    obtain ⟨i,rfl,rfl,hi,hk,rfl⟩:=hrel
    by_cases hik : i < 30 + d
    ·have g2 : decide ((i : Int) < 30 + (d : Int))=true:=decide_eq_true (by omega)
     have hrl : (rep opnD (30 + d) ++ rep [125] i).length≤400:=by rw [List.length_append,rep_len,rep_len];simp [opnD];omega
     have hrl2 : (rep opnD (30 + d)).length + (rep [125] i).length≤400:=by simpa using hrl
     go_wp2
     go_roundg (30 + d - i)
     case measure => omega
     case rel => exact ⟨i + 1,by (rw [rep_next];try simp),by go_num,by omega,by omega,rfl⟩
    ·obtain rfl : i=30 + d:=by omega
     go_wp2_with (go_at_call 10;rw [HTE.out];refine (H1.out _).mono ?_)
     rintro e w1 ⟨a1,c1,rfl,hb1,hs1⟩
     go_wp2
     go_loopg [14] 13 (fun k t wr => SdC w1 k t wr)
     case atStart => exact ⟨0,by first | rfl | (simp [dbl];done),by omega,by omega,rfl⟩
     case round =>
      obtain ⟨j,rfl,hj,hjk,rfl⟩:=hrel
      obtain ⟨D,hD⟩ : ∃ D,dbl j=D:=⟨_,rfl⟩
      obtain ⟨hj1,hj2⟩:=dbl_small hj
      rw [hD] at hj1 hj2 ⊢
      by_cases hj12 : j < 12
      ·have g3 : decide ((D.length : Int) < 8192)=true:=decide_eq_true (by have:=hj2.2 hj12;omega)
       have HD:=Lib.hid (show dbl (j + 1)=D ++ D by rw [← hD];rfl)
       clear hD hj2
       go_wp2
       go_roundg (12 - j)
       case measure => omega
       case rel => exact ⟨j + 1,by (rw [HD.out];try simp),by omega,by omega,rfl⟩
      ·have hj : j=12:=by omega
       have g3 : decide ((D.length : Int) < 8192)=false:=decide_eq_false (by have:=hj2;omega)
       have HLG : Hid (∀ n,(D ++ [120,121,122]).take n=lngS n):=Lib.hid fun n => by unfold lngS;rw [← hD,hj]
       have hDl : D.length=8192:=by omega
       clear hD hj2 hj12 hjk
       go_wp2_with (go_at_call 9;refine (HL2.out _).mono ?_)
       rintro e wl ⟨rfl,rfl⟩
       have hge : 8192≤D.length:=by omega
       clear hj hDl
       go_wp2_with (go_at_call 10;rw [HLG.out,HU.out];refine (H2.out _).mono ?_)
       rintro e w2 ⟨rfl,hb2⟩
       have HDP:=Lib.hid (HDPP.out _ a1 c1 w2 (hs1.later hb2))
       go_wp2_with (first | (go_at_call 12;refine HDP.out.mono ?_;rintro e w8 ⟨rfl,hb8⟩) | (go_at_call 11;refine (awake21 _).mono ?_;rintro e w9 ⟨rfl,hb9⟩))
       go_ret
       exact ⟨rfl,bel2 (bel2 (bel2 hb1 hb2) hb8) hb9⟩
set_option maxHeartbeats 4000000 in
theorem SreadDeep_err0 (deep long : Int) (w : World) (hc : low long 3=0) (hdr : ¬ low deep 5≤2) : Calls Try.prog 3 #[.int .i64 deep,.bool false,.int .i64 long] w fun e w' => e=.returned (.bool true)∧Below w.heap.size w w':=by
 have hl1:=low_lt deep (n:=5) (by omega)
 obtain ⟨d,hd⟩ : ∃ d : Nat,low deep 5=d:=⟨(low deep 5).toNat,by omega⟩
 have hd4 : d≤4:=by omega
 have HL1:=Lib.hid (fun w => hd ▸ Low_any deep 5 w (by omega) (by omega))
 have HL2 : Hid (∀ w,Calls Try.prog 9 #[.int .i64 long,.int .i64 3] w fun e w' => e=.returned (.int .i64 0)∧w=w'):=Lib.hid (fun w => by have:=Low_any long 3 w (by omega) (by omega);rw [hc] at this;exact this)
 obtain ⟨U,hU⟩ : ∃ U : Str,lngS 8191=U:=⟨_,rfl⟩
 have hUl:=lngS_len (n:=8191) (by omega)
 have hUn:=lng_read (n:=8191) (by omega) (by omega)
 rw [hU] at hUl hUn
 have H2:=Lib.hid (fun w => SRead_ok w (by omega) hUn)
 have HU:=Lib.hid hU
 have hnl:=nst_len (30 + d)
 have hnr:=nst_read (k:=30 + d) (by omega) (by omega)
 obtain ⟨T,hT⟩ : ∃ T,nstS (30 + d)=T:=⟨_,rfl⟩
 have hTe : rep opnD (30 + d) ++ rep [125] (30 + d)=T:=hT
 have HTE:=Lib.hid hTe
 rw [hT] at hnl hnr
 rw [if_pos (by omega)] at hnr
 have H1:=Lib.hid (fun w => SRead_no w (by omega) hnr)
 clear hT hTe
 have gk : decide ((32 : Int) < 30 + (d : Int))=true:=decide_eq_true (by omega)
 clear hl1 hd hc hU hUn hdr hnr
 go_enter Try.func3,Try.ntmps3
 go_wp2_with (go_at_call 9;refine (HL1.out _).mono ?_)
 rintro e wl ⟨rfl,rfl⟩
 go_wp2
 go_loopg [8,9] (31 + d) (fun k t q wr => SdA d w k t q wr)
 case atStart => exact ⟨0,rfl,rfl,by omega,by omega,rfl⟩
 case round =>
  obtain ⟨i,rfl,rfl,hi,hk,rfl⟩:=hrel
  by_cases hik : i < 30 + d
  ·have g1 : decide ((i : Int) < 30 + (d : Int))=true:=decide_eq_true (by omega)
   have hrl : (rep opnD i).length≤200:=by rw [rep_len];simp [opnD];omega
   go_wp2
   go_roundg (30 + d - i)
   case measure => omega
   case rel => exact ⟨i + 1,by (rw [rep_next];simp [opnD]),by go_num,by omega,by omega,rfl⟩
  ·obtain rfl : i=30 + d:=by omega
   have g1 : decide (((30 + d : Nat) : Int) < 30 + (d : Int))=false:=decide_eq_false (by omega)
   go_wp2
   go_loopg [10,11] (31 + d) (fun k t q wr => SdB d w k t q wr)
   case atStart => exact ⟨0,by simp [rep],rfl,by omega,by omega,rfl⟩
   case round =>
    obtain ⟨i,rfl,rfl,hi,hk,rfl⟩:=hrel
    by_cases hik : i < 30 + d
    ·have g2 : decide ((i : Int) < 30 + (d : Int))=true:=decide_eq_true (by omega)
     have hrl : (rep opnD (30 + d) ++ rep [125] i).length≤400:=by rw [List.length_append,rep_len,rep_len];simp [opnD];omega
     have hrl2 : (rep opnD (30 + d)).length + (rep [125] i).length≤400:=by simpa using hrl
     go_wp2
     go_roundg (30 + d - i)
     case measure => omega
     case rel => exact ⟨i + 1,by (rw [rep_next];try simp),by go_num,by omega,by omega,rfl⟩
    ·obtain rfl : i=30 + d:=by omega
     go_wp2_with (go_at_call 10;rw [HTE.out];refine (H1.out _).mono ?_)
     rintro e w1 ⟨rfl,hb1⟩
     go_wp2
     go_loopg [14] 13 (fun k t wr => SdC w1 k t wr)
     case atStart => exact ⟨0,by first | rfl | (simp [dbl];done),by omega,by omega,rfl⟩
     case round =>
      obtain ⟨j,rfl,hj,hjk,rfl⟩:=hrel
      obtain ⟨D,hD⟩ : ∃ D,dbl j=D:=⟨_,rfl⟩
      obtain ⟨hj1,hj2⟩:=dbl_small hj
      rw [hD] at hj1 hj2 ⊢
      by_cases hj12 : j < 12
      ·have g3 : decide ((D.length : Int) < 8192)=true:=decide_eq_true (by have:=hj2.2 hj12;omega)
       have HD:=Lib.hid (show dbl (j + 1)=D ++ D by rw [← hD];rfl)
       clear hD hj2
       go_wp2
       go_roundg (12 - j)
       case measure => omega
       case rel => exact ⟨j + 1,by (rw [HD.out];try simp),by omega,by omega,rfl⟩
      ·have hj : j=12:=by omega
       have g3 : decide ((D.length : Int) < 8192)=false:=decide_eq_false (by have:=hj2;omega)
       have HLG : Hid (∀ n,(D ++ [120,121,122]).take n=lngS n):=Lib.hid fun n => by unfold lngS;rw [← hD,hj]
       have hDl : D.length=8192:=by omega
       clear hD hj2 hj12 hjk
       go_wp2_with (go_at_call 9;refine (HL2.out _).mono ?_)
       rintro e wl ⟨rfl,rfl⟩
       have hge : 8192≤D.length:=by omega
       clear hj hDl
       go_wp2_with (go_at_call 10;rw [HLG.out,HU.out];refine (H2.out _).mono ?_)
       rintro e w2 ⟨a2,c2,rfl,hb2,hs2⟩
       obtain ⟨b2,o2,x2,rfl,_,_,hx2,hc2⟩:=(hs2).at_ (k:=0) (x:=textS (U)) rfl
       obtain ⟨fc2,oa2,oc2,ka2,kc2,A2⟩:=(show SnV _ _ x2 (.mk 0 (U) 0 false false tf0 [] []) from hx2).at_
       have q2:=hc2 1 _ (A2).c1
       simp only [Nat.zero_mul,Nat.zero_add] at q2
       clear hx2 hc2 A2
       go_wp2_with (go_at_call 11;refine (awake21 _).mono ?_;rintro e w9 ⟨rfl,hb9⟩)
       go_ret
       exact ⟨rfl,bel2 (bel2 hb1 hb2) hb9⟩
set_option maxHeartbeats 4000000 in
theorem SreadDeep_err1 (deep long : Int) (w : World) (hc : low long 3=1) (hdr : ¬ low deep 5≤2) : Calls Try.prog 3 #[.int .i64 deep,.bool false,.int .i64 long] w fun e w' => e=.returned (.bool true)∧Below w.heap.size w w':=by
 have hl1:=low_lt deep (n:=5) (by omega)
 obtain ⟨d,hd⟩ : ∃ d : Nat,low deep 5=d:=⟨(low deep 5).toNat,by omega⟩
 have hd4 : d≤4:=by omega
 have HL1:=Lib.hid (fun w => hd ▸ Low_any deep 5 w (by omega) (by omega))
 have HL2 : Hid (∀ w,Calls Try.prog 9 #[.int .i64 long,.int .i64 3] w fun e w' => e=.returned (.int .i64 1)∧w=w'):=Lib.hid (fun w => by have:=Low_any long 3 w (by omega) (by omega);rw [hc] at this;exact this)
 obtain ⟨U,hU⟩ : ∃ U : Str,lngS 8192=U:=⟨_,rfl⟩
 have hUl:=lngS_len (n:=8192) (by omega)
 have hUn:=lng_read (n:=8192) (by omega) (by omega)
 rw [hU] at hUl hUn
 have H2:=Lib.hid (fun w => SRead_ok w (by omega) hUn)
 have HU:=Lib.hid hU
 have hnl:=nst_len (30 + d)
 have hnr:=nst_read (k:=30 + d) (by omega) (by omega)
 obtain ⟨T,hT⟩ : ∃ T,nstS (30 + d)=T:=⟨_,rfl⟩
 have hTe : rep opnD (30 + d) ++ rep [125] (30 + d)=T:=hT
 have HTE:=Lib.hid hTe
 rw [hT] at hnl hnr
 rw [if_pos (by omega)] at hnr
 have H1:=Lib.hid (fun w => SRead_no w (by omega) hnr)
 clear hT hTe
 have gk : decide ((32 : Int) < 30 + (d : Int))=true:=decide_eq_true (by omega)
 clear hl1 hd hc hU hUn hdr hnr
 go_enter Try.func3,Try.ntmps3
 go_wp2_with (go_at_call 9;refine (HL1.out _).mono ?_)
 rintro e wl ⟨rfl,rfl⟩
 go_wp2
 go_loopg [8,9] (31 + d) (fun k t q wr => SdA d w k t q wr)
 case atStart => exact ⟨0,rfl,rfl,by omega,by omega,rfl⟩
 case round =>
  obtain ⟨i,rfl,rfl,hi,hk,rfl⟩:=hrel
  by_cases hik : i < 30 + d
  ·have g1 : decide ((i : Int) < 30 + (d : Int))=true:=decide_eq_true (by omega)
   have hrl : (rep opnD i).length≤200:=by rw [rep_len];simp [opnD];omega
   go_wp2
   go_roundg (30 + d - i)
   case measure => omega
   case rel => exact ⟨i + 1,by (rw [rep_next];simp [opnD]),by go_num,by omega,by omega,rfl⟩
  ·obtain rfl : i=30 + d:=by omega
   have g1 : decide (((30 + d : Nat) : Int) < 30 + (d : Int))=false:=decide_eq_false (by omega)
   go_wp2
   go_loopg [10,11] (31 + d) (fun k t q wr => SdB d w k t q wr)
   case atStart => exact ⟨0,by simp [rep],rfl,by omega,by omega,rfl⟩
   case round =>
    obtain ⟨i,rfl,rfl,hi,hk,rfl⟩:=hrel
    by_cases hik : i < 30 + d
    ·have g2 : decide ((i : Int) < 30 + (d : Int))=true:=decide_eq_true (by omega)
     have hrl : (rep opnD (30 + d) ++ rep [125] i).length≤400:=by rw [List.length_append,rep_len,rep_len];simp [opnD];omega
     have hrl2 : (rep opnD (30 + d)).length + (rep [125] i).length≤400:=by simpa using hrl
     go_wp2
     go_roundg (30 + d - i)
     case measure => omega
     case rel => exact ⟨i + 1,by (rw [rep_next];try simp),by go_num,by omega,by omega,rfl⟩
    ·obtain rfl : i=30 + d:=by omega
     go_wp2_with (go_at_call 10;rw [HTE.out];refine (H1.out _).mono ?_)
     rintro e w1 ⟨rfl,hb1⟩
     go_wp2
     go_loopg [14] 13 (fun k t wr => SdC w1 k t wr)
     case atStart => exact ⟨0,by first | rfl | (simp [dbl];done),by omega,by omega,rfl⟩
     case round =>
      obtain ⟨j,rfl,hj,hjk,rfl⟩:=hrel
      obtain ⟨D,hD⟩ : ∃ D,dbl j=D:=⟨_,rfl⟩
      obtain ⟨hj1,hj2⟩:=dbl_small hj
      rw [hD] at hj1 hj2 ⊢
      by_cases hj12 : j < 12
      ·have g3 : decide ((D.length : Int) < 8192)=true:=decide_eq_true (by have:=hj2.2 hj12;omega)
       have HD:=Lib.hid (show dbl (j + 1)=D ++ D by rw [← hD];rfl)
       clear hD hj2
       go_wp2
       go_roundg (12 - j)
       case measure => omega
       case rel => exact ⟨j + 1,by (rw [HD.out];try simp),by omega,by omega,rfl⟩
      ·have hj : j=12:=by omega
       have g3 : decide ((D.length : Int) < 8192)=false:=decide_eq_false (by have:=hj2;omega)
       have HLG : Hid (∀ n,(D ++ [120,121,122]).take n=lngS n):=Lib.hid fun n => by unfold lngS;rw [← hD,hj]
       have hDl : D.length=8192:=by omega
       clear hD hj2 hj12 hjk
       go_wp2_with (go_at_call 9;refine (HL2.out _).mono ?_)
       rintro e wl ⟨rfl,rfl⟩
       have hge : 8192≤D.length:=by omega
       clear hj hDl
       go_wp2_with (go_at_call 10;rw [HLG.out,HU.out];refine (H2.out _).mono ?_)
       rintro e w2 ⟨a2,c2,rfl,hb2,hs2⟩
       obtain ⟨b2,o2,x2,rfl,_,_,hx2,hc2⟩:=(hs2).at_ (k:=0) (x:=textS (U)) rfl
       obtain ⟨fc2,oa2,oc2,ka2,kc2,A2⟩:=(show SnV _ _ x2 (.mk 0 (U) 0 false false tf0 [] []) from hx2).at_
       have q2:=hc2 1 _ (A2).c1
       simp only [Nat.zero_mul,Nat.zero_add] at q2
       clear hx2 hc2 A2
       go_wp2_with (go_at_call 11;refine (awake21 _).mono ?_;rintro e w9 ⟨rfl,hb9⟩)
       go_ret
       exact ⟨rfl,bel2 (bel2 hb1 hb2) hb9⟩
set_option maxHeartbeats 4000000 in
theorem SreadDeep_err2 (deep long : Int) (w : World) (hc : low long 3=2) (hdr : ¬ low deep 5≤2) : Calls Try.prog 3 #[.int .i64 deep,.bool false,.int .i64 long] w fun e w' => e=.returned (.bool true)∧Below w.heap.size w w':=by
 have hl1:=low_lt deep (n:=5) (by omega)
 obtain ⟨d,hd⟩ : ∃ d : Nat,low deep 5=d:=⟨(low deep 5).toNat,by omega⟩
 have hd4 : d≤4:=by omega
 have HL1:=Lib.hid (fun w => hd ▸ Low_any deep 5 w (by omega) (by omega))
 have HL2 : Hid (∀ w,Calls Try.prog 9 #[.int .i64 long,.int .i64 3] w fun e w' => e=.returned (.int .i64 2)∧w=w'):=Lib.hid (fun w => by have:=Low_any long 3 w (by omega) (by omega);rw [hc] at this;exact this)
 obtain ⟨U,hU⟩ : ∃ U : Str,lngS 8193=U:=⟨_,rfl⟩
 have hUl:=lngS_len (n:=8193) (by omega)
 have hUn:=lng_no (n:=8193) (by omega) (by omega)
 rw [hU] at hUl hUn
 have H2:=Lib.hid (fun w => SRead_no w (by omega) hUn)
 have HU:=Lib.hid hU
 have hnl:=nst_len (30 + d)
 have hnr:=nst_read (k:=30 + d) (by omega) (by omega)
 obtain ⟨T,hT⟩ : ∃ T,nstS (30 + d)=T:=⟨_,rfl⟩
 have hTe : rep opnD (30 + d) ++ rep [125] (30 + d)=T:=hT
 have HTE:=Lib.hid hTe
 rw [hT] at hnl hnr
 rw [if_pos (by omega)] at hnr
 have H1:=Lib.hid (fun w => SRead_no w (by omega) hnr)
 clear hT hTe
 have gk : decide ((32 : Int) < 30 + (d : Int))=true:=decide_eq_true (by omega)
 clear hl1 hd hc hU hUn hdr hnr
 go_enter Try.func3,Try.ntmps3
 go_wp2_with (go_at_call 9;refine (HL1.out _).mono ?_)
 rintro e wl ⟨rfl,rfl⟩
 go_wp2
 go_loopg [8,9] (31 + d) (fun k t q wr => SdA d w k t q wr)
 case atStart => exact ⟨0,rfl,rfl,by omega,by omega,rfl⟩
 case round =>
  obtain ⟨i,rfl,rfl,hi,hk,rfl⟩:=hrel
  by_cases hik : i < 30 + d
  ·have g1 : decide ((i : Int) < 30 + (d : Int))=true:=decide_eq_true (by omega)
   have hrl : (rep opnD i).length≤200:=by rw [rep_len];simp [opnD];omega
   go_wp2
   go_roundg (30 + d - i)
   case measure => omega
   case rel => exact ⟨i + 1,by (rw [rep_next];simp [opnD]),by go_num,by omega,by omega,rfl⟩
  ·obtain rfl : i=30 + d:=by omega
   have g1 : decide (((30 + d : Nat) : Int) < 30 + (d : Int))=false:=decide_eq_false (by omega)
   go_wp2
   go_loopg [10,11] (31 + d) (fun k t q wr => SdB d w k t q wr)
   case atStart => exact ⟨0,by simp [rep],rfl,by omega,by omega,rfl⟩
   case round =>
    obtain ⟨i,rfl,rfl,hi,hk,rfl⟩:=hrel
    by_cases hik : i < 30 + d
    ·have g2 : decide ((i : Int) < 30 + (d : Int))=true:=decide_eq_true (by omega)
     have hrl : (rep opnD (30 + d) ++ rep [125] i).length≤400:=by rw [List.length_append,rep_len,rep_len];simp [opnD];omega
     have hrl2 : (rep opnD (30 + d)).length + (rep [125] i).length≤400:=by simpa using hrl
     go_wp2
     go_roundg (30 + d - i)
     case measure => omega
     case rel => exact ⟨i + 1,by (rw [rep_next];try simp),by go_num,by omega,by omega,rfl⟩
    ·obtain rfl : i=30 + d:=by omega
     go_wp2_with (go_at_call 10;rw [HTE.out];refine (H1.out _).mono ?_)
     rintro e w1 ⟨rfl,hb1⟩
     go_wp2
     go_loopg [14] 13 (fun k t wr => SdC w1 k t wr)
     case atStart => exact ⟨0,by first | rfl | (simp [dbl];done),by omega,by omega,rfl⟩
     case round =>
      obtain ⟨j,rfl,hj,hjk,rfl⟩:=hrel
      obtain ⟨D,hD⟩ : ∃ D,dbl j=D:=⟨_,rfl⟩
      obtain ⟨hj1,hj2⟩:=dbl_small hj
      rw [hD] at hj1 hj2 ⊢
      by_cases hj12 : j < 12
      ·have g3 : decide ((D.length : Int) < 8192)=true:=decide_eq_true (by have:=hj2.2 hj12;omega)
       have HD:=Lib.hid (show dbl (j + 1)=D ++ D by rw [← hD];rfl)
       clear hD hj2
       go_wp2
       go_roundg (12 - j)
       case measure => omega
       case rel => exact ⟨j + 1,by (rw [HD.out];try simp),by omega,by omega,rfl⟩
      ·have hj : j=12:=by omega
       have g3 : decide ((D.length : Int) < 8192)=false:=decide_eq_false (by have:=hj2;omega)
       have HLG : Hid (∀ n,(D ++ [120,121,122]).take n=lngS n):=Lib.hid fun n => by unfold lngS;rw [← hD,hj]
       have hDl : D.length=8192:=by omega
       clear hD hj2 hj12 hjk
       go_wp2_with (go_at_call 9;refine (HL2.out _).mono ?_)
       rintro e wl ⟨rfl,rfl⟩
       have hge : 8192≤D.length:=by omega
       clear hj hDl
       go_wp2_with (go_at_call 10;rw [HLG.out,HU.out];refine (H2.out _).mono ?_)
       rintro e w2 ⟨rfl,hb2⟩
       go_wp2_with (go_at_call 11;refine (awake21 _).mono ?_;rintro e w9 ⟨rfl,hb9⟩)
       go_ret
       exact ⟨rfl,bel2 (bel2 hb1 hb2) hb9⟩
theorem SreadDeep_walk (deep : Int) (op : Bool) (long : Int) (w : World) : Calls Try.prog 3 #[.int .i64 deep,.bool op,.int .i64 long] w fun e w' => e=.returned (.bool true)∧Below w.heap.size w w':=by
 have hl:=low_lt long (n:=3) (by omega)
 rcases (show low long 3=0∨low long 3=1∨low long 3=2 by omega) with hc | hc | hc
 ·cases op with
  | true => exact SreadDeep_open0 deep long w hc
  | false => by_cases hd : low deep 5≤2;exact SreadDeep_ok0 deep long w hc hd;exact SreadDeep_err0 deep long w hc hd
 ·cases op with
  | true => exact SreadDeep_open1 deep long w hc
  | false => by_cases hd : low deep 5≤2;exact SreadDeep_ok1 deep long w hc hd;exact SreadDeep_err1 deep long w hc hd
 ·cases op with
  | true => exact SreadDeep_open2 deep long w hc
  | false => by_cases hd : low deep 5≤2;exact SreadDeep_ok2 deep long w hc hd;exact SreadDeep_err2 deep long w hc hd
end Go.Proofs.Ytbgcjpefocdkkaa
