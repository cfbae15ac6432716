/- What a regular expression is told as, told plainly. -/
import Derived.Test.YtbmakifbppocaaaGreatDoorSs1
import Derived.Test.YtbmakifbppocaaaGreatDoorSs3
import Derived.Shelf.Strconv.Itoa0
import Derived.Shelf.Strconv.Itoa1
import Derived.Shelf.LaysM
import Derived.Shelf.Strconv.Itoa2
import Derived.Shelf.Strconv.Itoa3
import Derived.Test.YtbmakifbppocaaaGreatDoorProg
import Derived.Test.YtbmakifbppocaaaGreatDoorSs2
set_option maxRecDepth 100000
namespace Go.Proofs.YtbmakifbppocaaaGreatDoor
def escL (th c:Str):Str :=
 if c=[10] then [92,110] else if c=[13] then [92,114] else if c=[9] then [92,116] else if c=[12] then [92,102] else if c=[11] then [92,118]
 else if th.contains (c.headD 0)=true then 92 :: c else c
def oftS (lo hi:Int):Str :=
 if lo=0∧hi=-1 then [42] else if lo=1∧hi=-1 then [43] else if lo=0∧hi=1 then [63] else if lo=hi then 123 :: (dec lo++[125])
 else if hi=-1 then 123 :: (dec lo++[44,125]) else 123 :: (dec lo++44 :: (dec hi++[125]))
def th1:Str:=[94,36,92,46,42,43,63,40,41,91,93,123,125,124,47]
def th2:Str:=[94,45,92,91,93,47]
def rowS (r:Str × Str):Str:=escL th2 r.1++(if r.2=r.1 then [] else 45 :: escL th2 r.2)
def setS (ng:Bool) (rs:List (Str × Str)):Str:=91 :: ((if ng=true then [94] else [])++(rs.flatMap rowS++[93]))
namespace Rx
mutual
def tell:Rx→Str
 | mk k c ng rs lo hi lz ks =>
  if k=0 then tellL ks
  else if k=1 then tellA false ks
  else if k=2 then escL th1 c
  else if k=3 then [46]
  else if k=8 then [94]
  else if k=9 then [36]
  else if k=10 then [92,98]
  else if k=11 then [92,66]
  else if k=4 then setS ng rs
  else if k=5 then 40 :: (tellL ks++[41])
  else if k=6 then 40 :: 63 :: 58 :: (tellL ks++[41])
  else tellL ks++(oftS lo hi++(if lz=true then [63] else []))
def tellL:List Rx→Str
 | []=>[]
 | x :: r=>tell x++tellL r
def tellA:Bool→List Rx→Str
 | _,[]=>[]
 | b,x :: r=>(if b=true then [124] else [])++(tell x++tellA true r)
end
end Rx
theorem oftS_len {lo hi:Int} (h0:0≤lo) (h1:lo≤255) (h2:hi=-1∨lo≤hi∧hi≤255):(oftS lo hi).length≤12:=by
 have a:=dec_len h0 (by omega:lo≤9999)
 unfold oftS
 split
 ·simp
 split
 ·simp
 split
 ·simp
 split
 ·simp;omega
 split
 ·simp;omega
 ·have b:=dec_len (n:=hi) (by omega) (by omega)
  simp;omega
theorem escL_len (th c:Str):(escL th c).length≤c.length+1:=by
 unfold escL
 (repeat' split) <;> simp_all
theorem wf_mk {k:Int} {c:Str} {ng:Bool} {rs:List (Str × Str)} {lo hi:Int} {lz:Bool} {ks:List Rx} (h:(Rx.mk k c ng rs lo hi lz ks).wf=true):fieldsB (.mk k c ng rs lo hi lz ks)=true∧Rx.wfL ks=true:=by
 simpa [Rx.wf] using h
theorem wfL_mem:∀ {ks:List Rx} {x:Rx},Rx.wfL ks=true→x ∈ ks→x.wf=true
 | [],_,_,h=>by simp at h
 | y :: r,x,hs,h=>by
  simp only [Rx.wfL,Bool.and_eq_true] at hs
  rcases List.mem_cons.1 h with rfl | h
  ·exact hs.1
  ·exact wfL_mem hs.2 h
theorem kind_le {k:Int} {c:Str} {ng:Bool} {rs:List (Str × Str)} {lo hi:Int} {lz:Bool} {ks:List Rx} (h:fieldsB (.mk k c ng rs lo hi lz ks)=true) :
  k=0∨k=1∨k=2∨k=3∨k=4∨k=5∨k=6∨k=7∨k=8∨k=9∨k=10∨k=11:=by
 by_cases a:k=0∨k=1∨k=2∨k=3∨k=4∨k=5∨k=6∨k=7∨k=8∨k=9∨k=10∨k=11
 ·exact a
 ·exfalso
  simp only [fieldsB] at h
  rw [if_neg (by omega),if_neg (by omega),if_neg (by omega),if_neg (by omega),if_neg (by omega),if_neg (by omega),if_neg (by omega)] at h
  cases h
theorem proper_ne {c:Str} (h:properB c=true):c≠[]:=by rintro rfl;cases h
theorem rows_ne:∀ {rs:List (Str × Str)} {p:Option Str},rowsL p rs=true→∀ r ∈ rs,r.1≠[]∧r.2≠[]
 | [],_,_,r,hr=>by simp at hr
 | r0 :: rs,p,h,r,hr=>by
  simp only [rowsL,Bool.and_eq_true] at h
  rcases List.mem_cons.1 hr with rfl | hr
  ·have h1:=h.1.1
   simp only [rowB,Bool.and_eq_true] at h1
   exact ⟨proper_ne h1.1.1,proper_ne h1.1.2⟩
  ·exact rows_ne h.2 r hr
end Go.Proofs.YtbmakifbppocaaaGreatDoor
namespace Go.Proofs
open Go.Shelf
def Tryz.laysM171_ren:Go.Shelf.Ren:=⟨fun | 171=>19 | 243=>30 | 246=>43 | 283=>57 | 284=>58 | 285=>59 | 286=>60 | 129=>75 | 317=>74 | 318=>76 | 319=>77 | 320=>78 | 337=>91 | 338=>92 | n=>n,fun | 3=>3 | 9=>9 | 2=>2 | 4=>4 | 171=>81 | 0=>0 | 53=>82 | 37=>41 | 5=>5 | 173=>85 | 212=>93 | 51=>94 | 20=>20 | 213=>95 | 46=>97 | 232=>109 | 233=>110 | n=>n,fun | 17=>1 | 18=>2 | 19=>3 | n=>n⟩
theorem Tryz.laysM171:Go.Proofs.LaysM.n171 Tryz.prog Tryz.laysM171_ren:={
 mixed:=by kernel_rfl
 f129:=Tryz.func75.trans (congrArg some (by kernel_rfl))
 f171:=Tryz.func19.trans (congrArg some (by kernel_rfl))
 f243:=Tryz.func30.trans (congrArg some (by kernel_rfl))
 f246:=Tryz.func43.trans (congrArg some (by kernel_rfl))
 f283:=Tryz.func57.trans (congrArg some (by kernel_rfl))
 f284:=Tryz.func58.trans (congrArg some (by kernel_rfl))
 f285:=Tryz.func59.trans (congrArg some (by kernel_rfl))
 f286:=Tryz.func60.trans (congrArg some (by kernel_rfl))
 f317:=Tryz.func74.trans (congrArg some (by kernel_rfl))
 f318:=Tryz.func76.trans (congrArg some (by kernel_rfl))
 f319:=Tryz.func77.trans (congrArg some (by kernel_rfl))
 f320:=Tryz.func78.trans (congrArg some (by kernel_rfl))
 f337:=Tryz.func91.trans (congrArg some (by kernel_rfl))
 f338:=Tryz.func92.trans (congrArg some (by kernel_rfl))
 t0:=Tryz.underlying0
 a0:=Tryz.isAgg0
 z0:=Tryz.sizeOf0
 v0:=Tryz.zeroValue0
 t2:=Tryz.underlying2
 a2:=Tryz.isAgg2
 z2:=Tryz.sizeOf2
 v2:=Tryz.zeroValue2
 t3:=Tryz.underlying3
 a3:=Tryz.isAgg3
 z3:=Tryz.sizeOf3
 v3:=Tryz.zeroValue3
 t4:=Tryz.underlying4
 a4:=Tryz.isAgg4
 z4:=Tryz.sizeOf4
 v4:=Tryz.zeroValue4
 t5:=Tryz.underlying5
 a5:=Tryz.isAgg5
 z5:=Tryz.sizeOf5
 v5:=Tryz.zeroValue5
 t9:=Tryz.underlying9
 a9:=Tryz.isAgg9
 z9:=Tryz.sizeOf9
 v9:=Tryz.zeroValue9
 t20:=Tryz.underlying20
 a20:=Tryz.isAgg20
 z20:=Tryz.sizeOf20
 v20:=Tryz.zeroValue20
 t37:=Tryz.underlying41
 a37:=Tryz.isAgg41
 z37:=Tryz.sizeOf41
 v37:=Tryz.zeroValue41
 t46:=Tryz.underlying97
 a46:=Tryz.isAgg97
 z46:=Tryz.sizeOf97
 v46:=Tryz.zeroValue97
 t51:=Tryz.underlying94
 a51:=Tryz.isAgg94
 z51:=Tryz.sizeOf94
 v51:=Tryz.zeroValue94
 t53:=Tryz.underlying82
 a53:=Tryz.isAgg82
 z53:=Tryz.sizeOf82
 v53:=Tryz.zeroValue82
 t171:=Tryz.underlying81
 a171:=Tryz.isAgg81
 z171:=Tryz.sizeOf81
 v171:=Tryz.zeroValue81
 t173:=Tryz.underlying85
 a173:=Tryz.isAgg85
 z173:=Tryz.sizeOf85
 v173:=Tryz.zeroValue85
 t212:=Tryz.underlying93
 a212:=Tryz.isAgg93
 z212:=Tryz.sizeOf93
 v212:=Tryz.zeroValue93
 t213:=Tryz.underlying95
 a213:=Tryz.isAgg95
 z213:=Tryz.sizeOf95
 t232:=Tryz.underlying109
 a232:=Tryz.isAgg109
 z232:=Tryz.sizeOf109
 v232:=Tryz.zeroValue109
 t233:=Tryz.underlying110
 a233:=Tryz.isAgg110
 z233:=Tryz.sizeOf110
 v233:=Tryz.zeroValue110
 g17:=by kernel_rfl
 g18:=by kernel_rfl
 g19:=by kernel_rfl
 i0:=by kernel_rfl
 i2:=by kernel_rfl
 i3:=by kernel_rfl
 i4:=by kernel_rfl
 i5:=by kernel_rfl
 i9:=by kernel_rfl
 i20:=by kernel_rfl
 i37:=by kernel_rfl
 i46:=by kernel_rfl
 i51:=by kernel_rfl
 i53:=by kernel_rfl
 i171:=by kernel_rfl
 i173:=by kernel_rfl
 i212:=by kernel_rfl
 i232:=by kernel_rfl
 i233:=by kernel_rfl
 m17:=by kernel_rfl
 m18:=by kernel_rfl
 m19:=by kernel_rfl }
open Go.RowKit Go.Sort Go.Lib in
theorem Tryz.strconv_Itoa (n : Int) (h0 : -9223372036854775808 ≤ n) (h1 : n ≤ 9223372036854775807) (w : World) (htab : Lib.TabIs Tryz.prog w "internal/strconv.uint64pow10" .u64 Lib.pow10Tab) :
  Calls Tryz.prog 19 #[.int .i64 n] w fun e w'=>e=.returned (.string ⟨(Lib.itoa n).toArray⟩)∧∃ k os,w'=grow (w.drewN k) os:=Any.strconv_Itoa Tryz.laysM171 n h0 h1 w htab
end Go.Proofs
set_option maxRecDepth 100000
namespace Go.Proofs.YtbmakifbppocaaaGreatDoor
open Go.RowKit
/-- The library's table of powers of ten, as it is laid. -/
def Tab (w : World) : Prop := Lib.TabIs Tryz.prog w "internal/strconv.uint64pow10" .u64 Lib.pow10Tab
theorem tab_name : ∃ g, Tryz.prog.globalNamed "internal/strconv.uint64pow10" = some g := by
 have h : (Tryz.prog.globalNamed "internal/strconv.uint64pow10").isSome = true := by kernel_rfl
 exact Option.isSome_iff_exists.1 h
theorem Tab.keep {w w':World} (h:Tab w) (hb:Below w.heap.size w w'):Tab w':=by
 obtain ⟨g,hg⟩:=tab_name
 unfold Tab Lib.TabIs World.var? at h ⊢
 rw [hg] at h ⊢
 simp only [Option.bind_some] at h ⊢
 have hlt:g < w.heap.size:=by
  rcases Nat.lt_or_ge g w.heap.size with h' | h'
  ·exact h'
  ·rw [Array.getElem?_eq_none h'] at h;cases h
 rw [hb.block g hlt]
 exact h
theorem tab_num : Tryz.prog.globalNamed "internal/strconv.uint64pow10" = some 1 := by kernel_rfl
theorem Tab.lt {w:World} (h:Tab w):1 < w.heap.size:=by
 unfold Tab Lib.TabIs World.var? at h
 rw [tab_num] at h
 simp only [Option.bind_some] at h
 rcases Nat.lt_or_ge 1 w.heap.size with h' | h'
 ·exact h'
 ·rw [Array.getElem?_eq_none h'] at h;cases h
theorem Tab.keepB {w w':World} {B:Nat} (h:Tab w) (hg:1 < B) (hb:Below B w w'):Tab w':=by
 unfold Tab Lib.TabIs World.var? at h ⊢
 rw [tab_num] at h ⊢
 simp only [Option.bind_some] at h ⊢
 rw [hb.block _ hg]
 exact h
theorem below_grow (w:World) (n:Nat) (os:Array Obj):Below w.heap.size w (Sort.grow (w.drewN n) os) :=
 ⟨rfl,rfl,rfl,by simp [Sort.grow],fun k hk=>by simp [Sort.grow,Array.getElem?_append_left hk]⟩
theorem Itoa_any (n:Int) (w:World) (h0:0≤n) (h1:n≤100000) (ht:Tab w) :
  Calls Tryz.prog 19 #[.int .i64 n] w fun e w'=>e=.returned (.string ⟨(dec n).toArray⟩)∧Below w.heap.size w w':=by
 refine (Tryz.strconv_Itoa n (by omega) (by omega) w ht).mono ?_
 rintro e w' ⟨rfl,k,os,rfl⟩
 obtain ⟨m,rfl⟩:=Int.eq_ofNat_of_zero_le h0
 refine ⟨?_,below_grow w k os⟩
 rw [Lib.itoa_nonneg];rfl
end Go.Proofs.YtbmakifbppocaaaGreatDoor
set_option maxRecDepth 100000
namespace Go.Proofs.YtbmakifbppocaaaGreatDoor
open Go.RowKit
set_option maxHeartbeats 1000000 in
theorem escape_any (th c:Str) (w:World) (hc:c≠[]) (hs:c.length≤10000000) :
  Calls Tryz.prog 81 #[.string ⟨(c).toArray⟩,.string ⟨(th).toArray⟩] w fun e w'=>e=.returned (.string ⟨(escL th c).toArray⟩)∧w=w':=by
 cases c with
 | nil=>exact absurd rfl hc
 | cons a r =>
  clear hc
  simp only [List.length_cons] at hs
  generalize hR:escL th (a :: r)=R
  have HR:=Lib.hid hR
  clear hR
  by_cases hm:th.contains a=true
  ·obtain ⟨k,hk⟩:=idx_hit hm
   have HK:=Lib.hid hk
   have HM:=Lib.hid hm
   clear hk hm
   go_enter Tryz.func81,Tryz.ntmps81
   go_wp2_with (go_at_call 28;refine (IndexByte_eq _ HK.out).mono ?_;rintro e w1 ⟨rfl,rfl⟩)
   all_goals
    go_ret
    refine ⟨ret_str ?_,rfl⟩
    rw [← HR.out]
    have hm:=HM.out
    clear HR HM HK
    unfold escL
    (repeat' split) <;> simp_all
  ·have hk:=idx_miss hm
   have HK:=Lib.hid hk
   have HM:=Lib.hid hm
   clear hk hm
   go_enter Tryz.func81,Tryz.ntmps81
   go_wp2_with (go_at_call 28;refine (IndexByte_eq _ HK.out).mono ?_;rintro e w1 ⟨rfl,rfl⟩)
   all_goals
    go_ret
    refine ⟨ret_str ?_,rfl⟩
    rw [← HR.out]
    have hm:=HM.out
    clear HR HM HK
    unfold escL
    (repeat' split) <;> simp_all
set_option maxHeartbeats 1000000 in
theorem often_any (lo hi:Int) (w:World) (h0:0≤lo) (h1:lo≤255) (h2:hi=-1∨lo≤hi∧hi≤255) (ht:Tab w) :
  Calls Tryz.prog 83 #[.int .i64 lo,.int .i64 hi] w fun e w'=>e=.returned (.string ⟨(oftS lo hi).toArray⟩)∧Below w.heap.size w w':=by
 generalize hR:oftS lo hi=R
 have HR:=Lib.hid hR
 clear hR
 have HT:=Lib.hid ht
 have hl:=dec_len h0 (by omega:lo≤9999)
 clear ht
 rcases h2 with rfl | ⟨h3,h4⟩
 ·by_cases hl0:lo=0
  ·subst hl0
   go_enter Tryz.func83,Tryz.ntmps83
   go_wp2
   go_ret
   exact ⟨ret_str (by rw [← HR.out];simp [oftS]),Below.refl _ _⟩
  by_cases hl1:lo=1
  ·subst hl1
   go_enter Tryz.func83,Tryz.ntmps83
   go_wp2
   go_ret
   exact ⟨ret_str (by rw [← HR.out];simp [oftS]),Below.refl _ _⟩
  have e0:(lo == 0)=false:=by simpa using hl0
  have e1:(lo == 1)=false:=by simpa using hl1
  have e2:(lo == -1)=false:=(by rw [beq_eq_false_iff_ne];omega)
  have HR2:Hid (R=123 :: (dec lo++[44,125])):=Lib.hid (by
   rw [← HR.out];unfold oftS
   rw [if_neg (by omega),if_neg (by omega),if_neg (by omega),if_neg (by omega),if_pos rfl])
  clear hl0 hl1 HR
  go_enter Tryz.func83,Tryz.ntmps83
  go_wp2_with (go_at_call 19;refine (Itoa_any _ _ (by omega) (by omega) HT.out).mono ?_;rintro e w1 ⟨rfl,hb1⟩)
  go_ret
  exact ⟨ret_str (by rw [HR2.out] <;> simp),hb1⟩
 ·have hh:=dec_len (n:=hi) (by omega) (by omega)
  have e2:(hi == -1)=false:=by rw [beq_eq_false_iff_ne];omega
  by_cases hlh:lo=hi
  ·subst hlh
   have HR2:Hid (R=123 :: (dec lo++[125])):=Lib.hid (by
    rw [← HR.out];unfold oftS
    rw [if_neg (by omega),if_neg (by omega),if_neg (by omega),if_pos rfl])
   clear HR
   by_cases hl0:lo=0
   ·subst hl0
    go_enter Tryz.func83,Tryz.ntmps83
    go_wp2_with (go_at_call 19;refine (Itoa_any _ _ (by omega) (by omega) HT.out).mono ?_;rintro e w1 ⟨rfl,hb1⟩)
    go_ret
    exact ⟨ret_str (by rw [HR2.out] <;> simp),hb1⟩
   by_cases hl1:lo=1
   ·subst hl1
    go_enter Tryz.func83,Tryz.ntmps83
    go_wp2_with (go_at_call 19;refine (Itoa_any _ _ (by omega) (by omega) HT.out).mono ?_;rintro e w1 ⟨rfl,hb1⟩)
    go_ret
    exact ⟨ret_str (by rw [HR2.out] <;> simp),hb1⟩
   ·have e0:(lo == 0)=false:=by simpa using hl0
    have e1:(lo == 1)=false:=by simpa using hl1
    clear hl0 hl1
    go_enter Tryz.func83,Tryz.ntmps83
    go_wp2_with (go_at_call 19;refine (Itoa_any _ _ (by omega) (by omega) HT.out).mono ?_;rintro e w1 ⟨rfl,hb1⟩)
    go_ret
    exact ⟨ret_str (by rw [HR2.out] <;> simp),hb1⟩
  ·by_cases hq:lo=0∧hi=1
   ·obtain ⟨rfl,rfl⟩:=hq
    go_enter Tryz.func83,Tryz.ntmps83
    go_wp2
    go_ret
    exact ⟨ret_str (by rw [← HR.out];simp [oftS]),Below.refl _ _⟩
   have HR2:Hid (R=123 :: (dec lo++44 :: (dec hi++[125]))):=Lib.hid (by
    rw [← HR.out];unfold oftS
    rw [if_neg (by omega),if_neg (by omega),if_neg (by omega),if_neg hlh,if_neg (by omega)])
   have e3:(lo == hi)=false:=by simpa using hlh
   clear HR
   by_cases hl0:lo=0
   ·subst hl0
    have e4:(hi == 1)=false:=by rw [beq_eq_false_iff_ne];omega
    clear hq hlh
    go_enter Tryz.func83,Tryz.ntmps83
    go_wp2_with (go_at_call 19;refine (Itoa_any _ _ (by omega) (by omega) HT.out).mono ?_)
    first | rintro e w1 rfl hb1 | rintro e w1 ⟨rfl,hb1⟩
    have HT2:=Lib.hid (HT.out.keep hb1)
    go_wp2_with (go_at_call 19;refine (Itoa_any _ _ (by omega) (by omega) HT2.out).mono ?_)
    first | rintro e w2 rfl hb2 | rintro e w2 ⟨rfl,hb2⟩
    go_wp2
    go_ret
    exact ⟨ret_str (by rw [HR2.out] <;> simp),hb1.trans (hb2.mono hb1.size)⟩
   by_cases hl1:lo=1
   ·subst hl1
    clear hq hlh
    go_enter Tryz.func83,Tryz.ntmps83
    go_wp2_with (go_at_call 19;refine (Itoa_any _ _ (by omega) (by omega) HT.out).mono ?_)
    first | rintro e w1 rfl hb1 | rintro e w1 ⟨rfl,hb1⟩
    have HT2:=Lib.hid (HT.out.keep hb1)
    go_wp2_with (go_at_call 19;refine (Itoa_any _ _ (by omega) (by omega) HT2.out).mono ?_)
    first | rintro e w2 rfl hb2 | rintro e w2 ⟨rfl,hb2⟩
    go_wp2
    go_ret
    exact ⟨ret_str (by rw [HR2.out] <;> simp),hb1.trans (hb2.mono hb1.size)⟩
   ·have e0:(lo == 0)=false:=by simpa using hl0
    have e1:(lo == 1)=false:=by simpa using hl1
    clear hl0 hl1 hq hlh
    go_enter Tryz.func83,Tryz.ntmps83
    go_wp2_with (go_at_call 19;refine (Itoa_any _ _ (by omega) (by omega) HT.out).mono ?_)
    first | rintro e w1 rfl hb1 | rintro e w1 ⟨rfl,hb1⟩
    have HT2:=Lib.hid (HT.out.keep hb1)
    go_wp2_with (go_at_call 19;refine (Itoa_any _ _ (by omega) (by omega) HT2.out).mono ?_)
    first | rintro e w2 rfl hb2 | rintro e w2 ⟨rfl,hb2⟩
    go_wp2
    go_ret
    exact ⟨ret_str (by rw [HR2.out] <;> simp),hb1.trans (hb2.mono hb1.size)⟩
end Go.Proofs.YtbmakifbppocaaaGreatDoor
set_option maxRecDepth 100000
namespace Go.Proofs.YtbmakifbppocaaaGreatDoor
open Go.RowKit
theorem Fr.held {B g:Nat} {w w':World} (h:Fr B [g] [5] w w') {k:Nat} {cs:Array Value} {T:TypeId} {m:Nat × Nat} (hk:w.heap[k]?=some (.cells cs T m)) (hT:T≠5) (hg:k≠g):w'.heap[k]?=some (.cells cs T m) :=
 (h.block k (heap_lt hk) (by simpa using hg) (.inr (by intro e he;simp at he;subst he;simp [tagOf,hk,hT]))).trans hk
def SetRel (B g:Nat) (rs:List (Str × Str)) (T:Str) (w1:World) (q:Value) (wr:World):Prop :=
 ∃ (k:Nat) (acc:Str),k≤rs.length∧q=.int .i64 k∧Bld B g acc wr∧Fr B [g] [5] w1 wr∧acc.length≤20000000∧Hid (acc++(rs.drop k).flatMap rowS=T)
set_option maxHeartbeats 4000000 in
theorem set_any (B g:Nat) (acc:Str) (kd:Int) (c:Str) (ng:Bool) (ra:Option Addr) (rs:List (Str × Str)) (rc:Nat) (lo hi:Int) (lz:Bool) (ka:Option Addr) (kn kc:Nat) (w:World)
  (hbl:Bld B g acc w) (hB:B≤w.heap.size) (hr:Sl w B ra 2 rs.length (rcells rs)) (hne:∀ r ∈ rs,r.1≠[]∧r.2≠[]) (hsz:∀ r ∈ rs,r.1.length≤1000000∧r.2.length≤1000000) (hrl:rs.length≤1000000)
  (hlen:(acc++setS ng rs).length≤10000000) :
  Calls Tryz.prog 82 #[.pointer (some ⟨g,0,none⟩),.agg #[.int .i64 kd,.string ⟨(c).toArray⟩,.bool ng,.slice ra rs.length rc,.int .i64 lo,.int .i64 hi,.bool lz,.slice ka kn kc]] w fun e w'=>e=.returned (.tuple #[])∧Bld B g (acc++setS ng rs) w'∧Fr B [g] [5] w w':=by
 have HNE:=Lib.hid hne
 have HSZ:=Lib.hid hsz
 clear hne hsz
 have hal:acc.length≤10000000:=by simp only [List.length_append] at hlen;omega
 have hgl0:=hbl.lt
 cases ng with
 | false =>
  simp only [setS,List.length_append,List.length_cons,Bool.false_eq_true,if_false,List.nil_append] at hlen
  go_enter Tryz.func82,Tryz.ntmps82
  go_wp2_with (go_at_call 20;refine (WriteByte_any B _ (acc) 91 _ (hbl.alloc _) (by first | omega | (simp;done) | (simp;omega)) (by first | omega | (simp;done) | (simp;omega)) (by decide) (by decide)).mono ?_)
  first | rintro e w1 rfl hbl1 hfr1 | rintro e w1 ⟨rfl,hbl1,hfr1⟩
  have hbx0:=hfr1.held (heap_alloc_new w _) (by decide) (Nat.ne_of_gt hbl.lt)
  have z2:w1.cell? ⟨w.heap.size,2,none⟩=some (.bool false):=by rw [Lib.cell_of_heap hbx0];rfl
  clear hbx0
  have hbx1:=(hfr1).held (heap_alloc_new w _) (by decide) (Nat.ne_of_gt hbl.lt)
  have z3:w1.cell? ⟨w.heap.size,3,none⟩=some (.slice ra rs.length rc):=by rw [Lib.cell_of_heap hbx1];rfl
  have hB1:B≤w1.heap.size:=by have:=(hfr1).size;simp at this;omega
  have HR1:=Lib.hid (hr.keep (((Below.refl B w).alloc hB _).trans ((hfr1).below (by simp;omega) (by simp;exact hbl.le))))
  obtain ⟨T,hT⟩:∃ T,(acc++[91])++rs.flatMap rowS=T:=⟨_,rfl⟩
  have HT0:Hid ((acc++[91])++(rs.drop 0).flatMap rowS=T):=Lib.hid hT
  have HTL:T.length≤15000000:=by rw [← hT];have h:=hlen;simp only [List.length_append,List.length_cons,List.length_nil] at h ⊢;omega
  have HTT:=Lib.hid hT
  have HFR0:=Lib.hid hfr1
  have HBX:=Lib.hid hbx1
  clear hT hbx1
  go_wp2
  go_loopw [15] (fun q wr=>SetRel B g rs T w1 q wr) (fun q _=>rs.length - (intOf q).toNat)
  case atStart=>exact ⟨0,acc++[91],by omega,rfl,hbl1,Fr.refl _ _ _ _,by have h:=hlen;simp only [List.length_append,List.length_cons,List.length_nil] at h ⊢;omega,HT0⟩
  case round =>
   obtain ⟨k,ac,hk,rfl,hblr,hfrr,hacl,HF⟩:=hrel
   clear HT0 z3
   have hBr:B≤wr.heap.size:=Nat.le_trans hB1 hfrr.size
   have hbB:=hfrr.below hB1 (by simp;exact hbl.le)
   have hgl:=hblr.lt
   cases hd:rs.drop k with
   | nil =>
    have h2:rs.length≤k:=by simpa using hd
    have HE:Hid (ac=T):=Lib.hid (by rw [← HF.out,hd];simp)
    clear hd HF
    go_wp2_with (go_at_call 20;refine (WriteByte_any B _ (ac) 93 _ (hblr) (by first | omega | (simp;done) | (simp;omega)) (by first | omega | (simp;done) | (simp;omega)) (by decide) (by decide)).mono ?_)
    first | rintro e w9 rfl hbl9 hfr9 | rintro e w9 ⟨rfl,hbl9,hfr9⟩
    go_wp2_with fail
    go_end0
    refine ⟨rfl,?_,((((Fr.refl B [g] [5] w).alloc _).trans HFR0.out).trans hfrr).trans hfr9⟩
    have h:=hbl9
    rw [HE.out,← HTT.out] at h
    simpa [setS] using h
   | cons r0 r =>
    obtain ⟨h2,h3,hr0⟩:=ldrop_cons hd
    obtain ⟨n1,n2⟩:=HNE.out r0 (List.mem_of_getElem? h3)
    obtain ⟨b,o,rfl,hbb,c0,c1⟩:=(HR1.out.keep hbB).row h3
    obtain ⟨f,t⟩:=r0
    replace n1:f≠[]:=n1
    replace n2:t≠[]:=n2
    replace c0:wr.cell? ⟨b,o+k * 2,none⟩=some (.string ⟨(f).toArray⟩):=c0
    replace c1:wr.cell? ⟨b,o+k * 2+1,none⟩=some (.string ⟨(t).toArray⟩):=c1
    have HE:Hid (ac++(rowS (f,t)++r.flatMap rowS)=T):=Lib.hid (by rw [← HF.out,hd];rfl)
    have Hr:=Lib.hid hr0
    have hsl:ac.length+(escL th2 f).length+(if t=f then 0 else (escL th2 t).length+1)≤15000000:=by
     have h:=congrArg List.length HE.out
     simp only [List.length_append,rowS] at h
     split <;> simp_all <;> omega
    obtain ⟨l1,l2⟩:=HSZ.out (f,t) (List.mem_of_getElem? h3)
    replace l1:f.length≤1000000:=l1
    replace l2:t.length≤1000000:=l2
    have q1:=escL_len th2 f
    have q2:=escL_len th2 t
    have N1:=Lib.hid n1;have N2:=Lib.hid n2
    clear hd HF hr0 h3 n1 n2
    go_wp2_with (first | (go_at_call 81;refine (escape_any _ _ _ N1.out (by omega)).mono ?_;rintro e w2 ⟨rfl,rfl⟩;rw [show [94,45,92,91,93,47]=th2 from rfl]) | (go_at_call 18;refine (WriteString_any B _ (ac) _ _ (hblr.alloc _) (by first | omega | (simp;done) | (simp;omega)) (by first | omega | (simp;done) | (simp;omega)) (by first | omega | (simp;done) | (simp;omega))).mono ?_))
    first | rintro e w2 rfl hbl2 hfr2 | rintro e w2 ⟨rfl,hbl2,hfr2⟩
    have hbx2:=hfr2.held (heap_alloc_new wr _) (by decide) (Nat.ne_of_gt hgl)
    have y0:w2.cell? ⟨wr.heap.size,0,none⟩=some (.string ⟨(f).toArray⟩):=by rw [Lib.cell_of_heap hbx2];rfl
    have y1:w2.cell? ⟨wr.heap.size,1,none⟩=some (.string ⟨(t).toArray⟩):=by rw [Lib.cell_of_heap hbx2];rfl
    have hf2:=((Fr.refl B [g] [5] wr).alloc _).trans hfr2
    have hB2:B≤w2.heap.size:=Nat.le_trans hBr hf2.size
    have HFR2:=Lib.hid (hfrr.trans hf2)
    have HBX2:=Lib.hid hbx2
    clear hbx2 hf2 hfr2
    by_cases htf:t=f
    ·have HT2:=Lib.hid htf
     subst htf
     go_wp2
     go_roundw
     case rel=>exact ⟨k+1,ac++escL th2 t,by omega,by go_num,hbl2,HFR2.out,by simp only [List.length_append];simp at hsl;omega,Lib.hid (by rw [Hr.out,← HE.out];simp [rowS])⟩
     case measure=>simp [intOf];omega
    ·have hne:(t == f)=false:=by simpa using htf
     have HT2:=Lib.hid htf
     rw [if_neg htf] at hsl
     clear htf
     go_wp2_with (go_at_call 20;refine (WriteByte_any B _ (ac++escL th2 f) 45 _ (hbl2) (by first | omega | (simp;done) | (simp;omega)) (by first | omega | (simp;done) | (simp;omega)) (by decide) (by decide)).mono ?_)
     first | rintro e w3 rfl hbl3 hfr3 | rintro e w3 ⟨rfl,hbl3,hfr3⟩
     have hbx3:=hfr3.held HBX2.out (by decide) (Nat.ne_of_gt hgl)
     have y2:w3.cell? ⟨wr.heap.size,1,none⟩=some (.string ⟨(t).toArray⟩):=by rw [Lib.cell_of_heap hbx3];rfl
     have hB3:B≤w3.heap.size:=Nat.le_trans hB2 hfr3.size
     have HFR3:=Lib.hid (HFR2.out.trans hfr3)
     clear hbx3 hfr3
     go_wp2_with (first | (go_at_call 81;refine (escape_any _ _ _ N2.out (by omega)).mono ?_;rintro e w4 ⟨rfl,rfl⟩;rw [show [94,45,92,91,93,47]=th2 from rfl]) | (go_at_call 18;refine (WriteString_any B _ (ac++escL th2 f++[45]) _ _ (hbl3) (by first | omega | (simp;done) | (simp;omega)) (by first | omega | (simp;done) | (simp;omega)) (by first | omega | (simp;done) | (simp;omega))).mono ?_))
     first | rintro e w4 rfl hbl4 hfr4 | rintro e w4 ⟨rfl,hbl4,hfr4⟩
     go_wp2_with fail
     go_roundw
     case rel=>exact ⟨k+1,ac++escL th2 f++[45]++escL th2 t,by omega,by go_num,hbl4,HFR3.out.trans hfr4,by simp only [List.length_append,List.length_cons,List.length_nil];omega,Lib.hid (by rw [Hr.out,← HE.out];simp [rowS,HT2.out])⟩
     case measure=>simp [intOf];omega
 | true =>
  simp only [setS,List.length_append,List.length_cons,if_true,List.length_nil] at hlen
  go_enter Tryz.func82,Tryz.ntmps82
  go_wp2_with (go_at_call 20;refine (WriteByte_any B _ (acc) 91 _ (hbl.alloc _) (by first | omega | (simp;done) | (simp;omega)) (by first | omega | (simp;done) | (simp;omega)) (by decide) (by decide)).mono ?_)
  first | rintro e w1 rfl hbl1 hfr1 | rintro e w1 ⟨rfl,hbl1,hfr1⟩
  have hbx0:=hfr1.held (heap_alloc_new w _) (by decide) (Nat.ne_of_gt hbl.lt)
  have z2:w1.cell? ⟨w.heap.size,2,none⟩=some (.bool true):=by rw [Lib.cell_of_heap hbx0];rfl
  have hB1':B≤w1.heap.size:=by have:=hfr1.size;simp at this;omega
  clear hbx0
  go_wp2_with (go_at_call 20;refine (WriteByte_any B _ (acc++[91]) 94 _ (hbl1) (by first | omega | (simp;done) | (simp;omega)) (by first | omega | (simp;done) | (simp;omega)) (by decide) (by decide)).mono ?_)
  first | rintro e w1b rfl hbl1b hfr1b | rintro e w1b ⟨rfl,hbl1b,hfr1b⟩
  have hfrx:=hfr1.trans hfr1b
  clear z2
  have hbx1:=(hfrx).held (heap_alloc_new w _) (by decide) (Nat.ne_of_gt hbl.lt)
  have z3:w1b.cell? ⟨w.heap.size,3,none⟩=some (.slice ra rs.length rc):=by rw [Lib.cell_of_heap hbx1];rfl
  have hB1:B≤w1b.heap.size:=by have:=(hfrx).size;simp at this;omega
  have HR1:=Lib.hid (hr.keep (((Below.refl B w).alloc hB _).trans ((hfrx).below (by simp;omega) (by simp;exact hbl.le))))
  obtain ⟨T,hT⟩:∃ T,(acc++[91]++[94])++rs.flatMap rowS=T:=⟨_,rfl⟩
  have HT0:Hid ((acc++[91]++[94])++(rs.drop 0).flatMap rowS=T):=Lib.hid hT
  have HTL:T.length≤15000000:=by rw [← hT];have h:=hlen;simp only [List.length_append,List.length_cons,List.length_nil] at h ⊢;omega
  have HTT:=Lib.hid hT
  have HFR0:=Lib.hid hfrx
  have HBX:=Lib.hid hbx1
  clear hT hbx1
  go_wp2
  go_loopw [15] (fun q wr=>SetRel B g rs T w1b q wr) (fun q _=>rs.length - (intOf q).toNat)
  case atStart=>exact ⟨0,acc++[91]++[94],by omega,rfl,hbl1b,Fr.refl _ _ _ _,by have h:=hlen;simp only [List.length_append,List.length_cons,List.length_nil] at h ⊢;omega,HT0⟩
  case round =>
   obtain ⟨k,ac,hk,rfl,hblr,hfrr,hacl,HF⟩:=hrel
   clear HT0 z3
   have hBr:B≤wr.heap.size:=Nat.le_trans hB1 hfrr.size
   have hbB:=hfrr.below hB1 (by simp;exact hbl.le)
   have hgl:=hblr.lt
   cases hd:rs.drop k with
   | nil =>
    have h2:rs.length≤k:=by simpa using hd
    have HE:Hid (ac=T):=Lib.hid (by rw [← HF.out,hd];simp)
    clear hd HF
    go_wp2_with (go_at_call 20;refine (WriteByte_any B _ (ac) 93 _ (hblr) (by first | omega | (simp;done) | (simp;omega)) (by first | omega | (simp;done) | (simp;omega)) (by decide) (by decide)).mono ?_)
    first | rintro e w9 rfl hbl9 hfr9 | rintro e w9 ⟨rfl,hbl9,hfr9⟩
    go_wp2_with fail
    go_end0
    refine ⟨rfl,?_,((((Fr.refl B [g] [5] w).alloc _).trans HFR0.out).trans hfrr).trans hfr9⟩
    have h:=hbl9
    rw [HE.out,← HTT.out] at h
    simpa [setS] using h
   | cons r0 r =>
    obtain ⟨h2,h3,hr0⟩:=ldrop_cons hd
    obtain ⟨n1,n2⟩:=HNE.out r0 (List.mem_of_getElem? h3)
    obtain ⟨b,o,rfl,hbb,c0,c1⟩:=(HR1.out.keep hbB).row h3
    obtain ⟨f,t⟩:=r0
    replace n1:f≠[]:=n1
    replace n2:t≠[]:=n2
    replace c0:wr.cell? ⟨b,o+k * 2,none⟩=some (.string ⟨(f).toArray⟩):=c0
    replace c1:wr.cell? ⟨b,o+k * 2+1,none⟩=some (.string ⟨(t).toArray⟩):=c1
    have HE:Hid (ac++(rowS (f,t)++r.flatMap rowS)=T):=Lib.hid (by rw [← HF.out,hd];rfl)
    have Hr:=Lib.hid hr0
    have hsl:ac.length+(escL th2 f).length+(if t=f then 0 else (escL th2 t).length+1)≤15000000:=by
     have h:=congrArg List.length HE.out
     simp only [List.length_append,rowS] at h
     split <;> simp_all <;> omega
    obtain ⟨l1,l2⟩:=HSZ.out (f,t) (List.mem_of_getElem? h3)
    replace l1:f.length≤1000000:=l1
    replace l2:t.length≤1000000:=l2
    have q1:=escL_len th2 f
    have q2:=escL_len th2 t
    have N1:=Lib.hid n1;have N2:=Lib.hid n2
    clear hd HF hr0 h3 n1 n2
    go_wp2_with (first | (go_at_call 81;refine (escape_any _ _ _ N1.out (by omega)).mono ?_;rintro e w2 ⟨rfl,rfl⟩;rw [show [94,45,92,91,93,47]=th2 from rfl]) | (go_at_call 18;refine (WriteString_any B _ (ac) _ _ (hblr.alloc _) (by first | omega | (simp;done) | (simp;omega)) (by first | omega | (simp;done) | (simp;omega)) (by first | omega | (simp;done) | (simp;omega))).mono ?_))
    first | rintro e w2 rfl hbl2 hfr2 | rintro e w2 ⟨rfl,hbl2,hfr2⟩
    have hbx2:=hfr2.held (heap_alloc_new wr _) (by decide) (Nat.ne_of_gt hgl)
    have y0:w2.cell? ⟨wr.heap.size,0,none⟩=some (.string ⟨(f).toArray⟩):=by rw [Lib.cell_of_heap hbx2];rfl
    have y1:w2.cell? ⟨wr.heap.size,1,none⟩=some (.string ⟨(t).toArray⟩):=by rw [Lib.cell_of_heap hbx2];rfl
    have hf2:=((Fr.refl B [g] [5] wr).alloc _).trans hfr2
    have hB2:B≤w2.heap.size:=Nat.le_trans hBr hf2.size
    have HFR2:=Lib.hid (hfrr.trans hf2)
    have HBX2:=Lib.hid hbx2
    clear hbx2 hf2 hfr2
    by_cases htf:t=f
    ·have HT2:=Lib.hid htf
     subst htf
     go_wp2
     go_roundw
     case rel=>exact ⟨k+1,ac++escL th2 t,by omega,by go_num,hbl2,HFR2.out,by simp only [List.length_append];simp at hsl;omega,Lib.hid (by rw [Hr.out,← HE.out];simp [rowS])⟩
     case measure=>simp [intOf];omega
    ·have hne:(t == f)=false:=by simpa using htf
     have HT2:=Lib.hid htf
     rw [if_neg htf] at hsl
     clear htf
     go_wp2_with (go_at_call 20;refine (WriteByte_any B _ (ac++escL th2 f) 45 _ (hbl2) (by first | omega | (simp;done) | (simp;omega)) (by first | omega | (simp;done) | (simp;omega)) (by decide) (by decide)).mono ?_)
     first | rintro e w3 rfl hbl3 hfr3 | rintro e w3 ⟨rfl,hbl3,hfr3⟩
     have hbx3:=hfr3.held HBX2.out (by decide) (Nat.ne_of_gt hgl)
     have y2:w3.cell? ⟨wr.heap.size,1,none⟩=some (.string ⟨(t).toArray⟩):=by rw [Lib.cell_of_heap hbx3];rfl
     have hB3:B≤w3.heap.size:=Nat.le_trans hB2 hfr3.size
     have HFR3:=Lib.hid (HFR2.out.trans hfr3)
     clear hbx3 hfr3
     go_wp2_with (first | (go_at_call 81;refine (escape_any _ _ _ N2.out (by omega)).mono ?_;rintro e w4 ⟨rfl,rfl⟩;rw [show [94,45,92,91,93,47]=th2 from rfl]) | (go_at_call 18;refine (WriteString_any B _ (ac++escL th2 f++[45]) _ _ (hbl3) (by first | omega | (simp;done) | (simp;omega)) (by first | omega | (simp;done) | (simp;omega)) (by first | omega | (simp;done) | (simp;omega))).mono ?_))
     first | rintro e w4 rfl hbl4 hfr4 | rintro e w4 ⟨rfl,hbl4,hfr4⟩
     go_wp2_with fail
     go_roundw
     case rel=>exact ⟨k+1,ac++escL th2 f++[45]++escL th2 t,by omega,by go_num,hbl4,HFR3.out.trans hfr4,by simp only [List.length_append,List.length_cons,List.length_nil];omega,Lib.hid (by rw [Hr.out,← HE.out];simp [rowS,HT2.out])⟩
     case measure=>simp [intOf];omega
end Go.Proofs.YtbmakifbppocaaaGreatDoor
set_option maxRecDepth 100000
namespace Go.Proofs.YtbmakifbppocaaaGreatDoor
open Go.RowKit
def ShwPost (B g:Nat) (out:Str) (w:World) (e:Ending) (w':World):Prop:=e=.returned (.tuple #[])∧Bld B g out w'∧Fr B [g] [5] w w'
def TellRel (B g:Nat) (ks:List Rx) (f:Nat→List Rx→Str) (T:Str) (w1:World) (q:Value) (wr:World):Prop :=
 ∃ (k:Nat) (acc:Str),k≤ks.length∧q=.int .i64 k∧Bld B g acc wr∧Fr B [g] [5] w1 wr∧Hid (acc++f k (ks.drop k)=T)
theorem Kept.fr {B g:Nat} {w w':World} (h:Fr B [g] [5] w w') (hB:B≤w.heap.size) (hg:B≤g):Kept (· < B) w w':=Kept.below (h.below hB (by simpa using hg)) (fun _ h _=>h)
set_option maxHeartbeats 4000000 in
theorem show_const (B g:Nat) (acc:Str) (K:Int) (hK:K=3∨K=8∨K=9∨K=10∨K=11) (c:Str) (ng:Bool) (ra:Option Addr) (rs:List (Str × Str)) (rn rc:Nat) (lo hi:Int) (lz:Bool) (ka:Option Addr) (ks:List Rx) (kn kc:Nat) (w:World)
  (hbl:Bld B g acc w) (hB:B≤w.heap.size) (hlen:acc.length≤10000000) :
  Calls Tryz.prog 63 #[.pointer (some ⟨g,0,none⟩),.agg #[.int .i64 K,.string ⟨(c).toArray⟩,.bool ng,.slice ra rn rc,.int .i64 lo,.int .i64 hi,.bool lz,.slice ka kn kc]] w fun e w'=>ShwPost B g (acc++(Rx.mk K c ng rs lo hi lz ks).tell) w e w':=by
 have hg:=hbl.lt
 rcases hK with rfl | rfl | rfl | rfl | rfl
 ·skip
  go_enter Tryz.func63,Tryz.ntmps63
  go_wp2_with (go_at_call 20;refine (WriteByte_any B _ (acc) 46 _ (hbl.alloc _) (by first | omega | (simp;done) | (simp;omega)) (by first | omega | (simp;done) | (simp;omega)) (by decide) (by decide)).mono ?_)
  first | rintro e w1 rfl hbl1 hfr1 | rintro e w1 ⟨rfl,hbl1,hfr1⟩
  go_wp2
  go_end0
  exact ⟨rfl,by simpa [Rx.tell] using hbl1,((Fr.refl _ _ _ _).alloc _).trans hfr1⟩
 ·skip
  go_enter Tryz.func63,Tryz.ntmps63
  go_wp2_with (go_at_call 20;refine (WriteByte_any B _ (acc) 94 _ (hbl.alloc _) (by first | omega | (simp;done) | (simp;omega)) (by first | omega | (simp;done) | (simp;omega)) (by decide) (by decide)).mono ?_)
  first | rintro e w1 rfl hbl1 hfr1 | rintro e w1 ⟨rfl,hbl1,hfr1⟩
  go_wp2
  go_end0
  exact ⟨rfl,by simpa [Rx.tell] using hbl1,((Fr.refl _ _ _ _).alloc _).trans hfr1⟩
 ·skip
  go_enter Tryz.func63,Tryz.ntmps63
  go_wp2_with (go_at_call 20;refine (WriteByte_any B _ (acc) 36 _ (hbl.alloc _) (by first | omega | (simp;done) | (simp;omega)) (by first | omega | (simp;done) | (simp;omega)) (by decide) (by decide)).mono ?_)
  first | rintro e w1 rfl hbl1 hfr1 | rintro e w1 ⟨rfl,hbl1,hfr1⟩
  go_wp2
  go_end0
  exact ⟨rfl,by simpa [Rx.tell] using hbl1,((Fr.refl _ _ _ _).alloc _).trans hfr1⟩
 ·skip
  go_enter Tryz.func63,Tryz.ntmps63
  go_wp2_with (go_at_call 18;refine (WriteString_any B _ (acc) _ _ (hbl.alloc _) (by first | omega | (simp;done) | (simp;omega)) (by first | omega | (simp;done) | (simp;omega)) (by first | omega | (simp;done) | (simp;omega))).mono ?_)
  first | rintro e w1 rfl hbl1 hfr1 | rintro e w1 ⟨rfl,hbl1,hfr1⟩
  go_wp2
  go_end0
  exact ⟨rfl,by simpa [Rx.tell] using hbl1,((Fr.refl _ _ _ _).alloc _).trans hfr1⟩
 ·skip
  go_enter Tryz.func63,Tryz.ntmps63
  go_wp2_with (go_at_call 18;refine (WriteString_any B _ (acc) _ _ (hbl.alloc _) (by first | omega | (simp;done) | (simp;omega)) (by first | omega | (simp;done) | (simp;omega)) (by first | omega | (simp;done) | (simp;omega))).mono ?_)
  first | rintro e w1 rfl hbl1 hfr1 | rintro e w1 ⟨rfl,hbl1,hfr1⟩
  go_wp2
  go_end0
  exact ⟨rfl,by simpa [Rx.tell] using hbl1,((Fr.refl _ _ _ _).alloc _).trans hfr1⟩
set_option maxHeartbeats 4000000 in
theorem show_char (B g:Nat) (acc:Str) (c:Str) (ng:Bool) (ra:Option Addr) (rs:List (Str × Str)) (rn rc:Nat) (lo hi:Int) (lz:Bool) (ka:Option Addr) (ks:List Rx) (kn kc:Nat) (w:World)
  (hbl:Bld B g acc w) (hB:B≤w.heap.size) (hlen:acc.length≤10000000) (hc:c≠[]) (hcl:c.length≤1000000) :
  Calls Tryz.prog 63 #[.pointer (some ⟨g,0,none⟩),.agg #[.int .i64 2,.string ⟨(c).toArray⟩,.bool ng,.slice ra rn rc,.int .i64 lo,.int .i64 hi,.bool lz,.slice ka kn kc]] w fun e w'=>ShwPost B g (acc++(Rx.mk 2 c ng rs lo hi lz ks).tell) w e w':=by
 have HC:=Lib.hid hc
 have hq:=escL_len th1 c
 clear hc
 go_enter Tryz.func63,Tryz.ntmps63
 go_wp2_with (first | (go_at_call 81;refine (escape_any _ _ _ HC.out (by omega)).mono ?_;rintro e w2 ⟨rfl,rfl⟩;rw [show [94,36,92,46,42,43,63,40,41,91,93,123,125,124,47]=th1 from rfl]) | (go_at_call 18;refine (WriteString_any B _ (acc) _ _ (hbl.alloc _) (by first | omega | (simp;done) | (simp;omega)) (by first | omega | (simp;done) | (simp;omega)) (by first | omega | (simp;done) | (simp;omega))).mono ?_))
 first | rintro e w1 rfl hbl1 hfr1 | rintro e w1 ⟨rfl,hbl1,hfr1⟩
 go_wp2
 go_end0
 exact ⟨rfl,by simpa [Rx.tell] using hbl1,((Fr.refl _ _ _ _).alloc _).trans hfr1⟩
set_option maxHeartbeats 4000000 in
theorem show_set (B g:Nat) (acc:Str) (c:Str) (ng:Bool) (ra:Option Addr) (rs:List (Str × Str)) (rc:Nat) (lo hi:Int) (lz:Bool) (ka:Option Addr) (ks:List Rx) (kn kc:Nat) (w:World)
  (hbl:Bld B g acc w) (hB:B≤w.heap.size) (hr:Sl w B ra 2 rs.length (rcells rs)) (hne:∀ r ∈ rs,r.1≠[]∧r.2≠[]) (hsz:∀ r ∈ rs,r.1.length≤1000000∧r.2.length≤1000000) (hrl:rs.length≤1000000)
  (hlen:(acc++setS ng rs).length≤10000000) :
  Calls Tryz.prog 63 #[.pointer (some ⟨g,0,none⟩),.agg #[.int .i64 4,.string ⟨(c).toArray⟩,.bool ng,.slice ra rs.length rc,.int .i64 lo,.int .i64 hi,.bool lz,.slice ka kn kc]] w fun e w'=>ShwPost B g (acc++(Rx.mk 4 c ng rs lo hi lz ks).tell) w e w':=by
 have HNE:=Lib.hid hne
 have HSZ:=Lib.hid hsz
 have HLN:=Lib.hid hlen
 have HR:=Lib.hid (hr.keep ((Below.refl B w).alloc hB (.cells #[.int .i64 4,.string ⟨(c).toArray⟩,.bool ng,.slice ra rs.length rc,.int .i64 lo,.int .i64 hi,.bool lz,.slice ka kn kc] 32)))
 clear hne hsz hlen hr
 go_enter Tryz.func63,Tryz.ntmps63
 go_wp2_with (go_at_call 82;refine (set_any B g acc _ _ _ _ rs _ _ _ _ _ _ _ _ (hbl.alloc _) (by simp;omega) HR.out HNE.out HSZ.out hrl HLN.out).mono ?_)
 first | rintro e w1 rfl hbl1 hfr1 | rintro e w1 ⟨rfl,hbl1,hfr1⟩
 go_wp2
 go_end0
 exact ⟨rfl,by simpa [Rx.tell] using hbl1,((Fr.refl _ _ _ _).alloc _).trans hfr1⟩
end Go.Proofs.YtbmakifbppocaaaGreatDoor
set_option maxRecDepth 100000
namespace Go.Proofs.YtbmakifbppocaaaGreatDoor
open Go.RowKit
theorem any_no2 (ks:List Rx):(!anyK ks [0,1])=ks.all fun x=>decide (x.kind≠0∧x.kind≠1):=by
 induction ks with
 | nil=>rfl
 | cons x r ih =>
  simp only [anyK,List.any_cons,List.all_cons,Bool.not_or] at *
  rw [ih];congr 1
  rw [Bool.eq_iff_iff];simp
theorem any_no1 (ks:List Rx):(!anyK ks [1])=ks.all fun x=>decide (x.kind≠1):=by
 induction ks with
 | nil=>rfl
 | cons x r ih =>
  simp only [anyK,List.any_cons,List.all_cons,Bool.not_or] at *
  rw [ih];congr 1
  rw [Bool.eq_iff_iff];simp
theorem some_eq {S:Nat→Prop} {xa:Option Addr} {xc m:Nat} {xs:List Rx} {zs:List Int} {a:Option Addr} {n c:Nat} {b:Bool} (w:World) (h0:anyK xs zs=b)
  (hx:RxSl w S xa m xs) (hxn:xs.length≤100000000) (h:Sl w w.heap.size a 1 n (icells zs)) (hn:n≤100000000) :
  Calls Tryz.prog 102 #[.slice xa m xc,.slice a n c] w fun e w'=>e=.returned (.bool b)∧Below w.heap.size w w':=by
 obtain rfl:=hx.len
 subst h0
 exact some_any S xa xc xs zs a n c w hx hxn h hn
set_option maxHeartbeats 4000000 in
theorem fields_0 (S:Nat→Prop) (c:Str) (ng:Bool) (ra:Option Addr) (rs:List (Str × Str)) (rc:Nat) (lo hi:Int) (lz:Bool) (ka:Option Addr) (ks:List Rx) (kc:Nat) (w:World)
  (hx:RxSl w S ka ks.length ks) (hsm:(Rx.mk 0 c ng rs lo hi lz ks).small1) :
  Calls Tryz.prog 94 #[.agg #[.int .i64 0,.string ⟨(c).toArray⟩,.bool ng,.slice ra rs.length rc,.int .i64 lo,.int .i64 hi,.bool lz,.slice ka ks.length kc]] w fun e w'=>e=.returned (.bool (fieldsB (.mk 0 c ng rs lo hi lz ks)))∧Below w.heap.size w w':=by
 generalize hR:fieldsB (.mk 0 c ng rs lo hi lz ks)=R
 have HR:=Lib.hid hR
 clear hR
 have HS:Hid (R=(bareV c ng rs.length lo hi lz && decide (ks.length≠1) && !anyK ks [0,1])):=Lib.hid (by rw [← HR.out,← bareB_eq 0 c ng rs lo hi lz ks,any_no2];rfl)
 obtain ⟨s1,s2,s3,s4⟩:=hsm
 clear HR s3
 cases hbv:bareV c ng rs.length lo hi lz with
 | false =>
  have HB:=Lib.hid hbv
  have HR:Hid (R=false):=Lib.hid (by rw [HS.out,hbv];rfl)
  clear hbv
  go_enter Tryz.func94,Tryz.ntmps94
  go_wp2_with (go_at_call 98;refine (bare_eq _ HB.out).mono ?_;rintro e w1 ⟨rfl,hb1,hc1⟩;have hq7:=hc1 ⟨w.heap.size,7,none⟩ (.slice ka (ks.length) kc) (by simp))
  go_ret
  exact ⟨ret_bool HR.out.symm,((Below.refl _ _).alloc (Nat.le_refl _) _).trans (hb1.mono (by simp))⟩
 | true =>
  have HB:=Lib.hid hbv
  have HR:Hid (R=(decide (ks.length≠1) && !anyK ks [0,1])):=Lib.hid (by rw [HS.out,hbv];rfl)
  clear hbv
  obtain ⟨b,hab⟩:∃ b,anyK ks [0,1]=b:=⟨_,rfl⟩
  have HA:=Lib.hid hab
  rw [hab] at HR
  clear hab
  rcases ks with _ | ⟨x,_ | ⟨y,ks⟩⟩
  ·have HR2:Hid (R=!b):=Lib.hid (by rw [HR.out];simp)
   go_enter Tryz.func94,Tryz.ntmps94
   go_wp2_with (first | (((go_at_call 98;refine (bare_eq _ HB.out).mono ?_;rintro e w1 ⟨rfl,hb1,hc1⟩;have hq7:=hc1 ⟨w.heap.size,7,none⟩ (.slice ka (0) kc) (by simp)));have HX1:=Lib.hid ((hx.later ((Below.refl _ _).alloc (Nat.le_refl _) _)).later hb1)) | (go_at_call 102;refine (some_eq (zs:=[0,1]) _ HA.out (HX1.out.later ((Below.refl _ _).alloc (Nat.le_refl _) _)) (by first | omega | (simp;omega)) (Sl.lit (n:=2) (heap_alloc_new w1 (.cells #[.int .i64 0,.int .i64 1] 3)) rfl) (by decide)).mono ?_;rintro e w2 ⟨rfl,hb2⟩))
   go_ret
   exact ⟨ret_bool HR2.out.symm,(((Below.refl _ _).alloc (Nat.le_refl _) _).trans (hb1.mono (by simp))).trans ((((Below.refl w1.heap.size w1).alloc (Nat.le_refl _) _).trans (hb2.mono (by simp))).mono (by have:=hb1.size;simp at this;omega))⟩
  ·have HR2:Hid (R=false):=Lib.hid (by rw [HR.out];rfl)
   go_enter Tryz.func94,Tryz.ntmps94
   go_wp2_with (go_at_call 98;refine (bare_eq _ HB.out).mono ?_;rintro e w1 ⟨rfl,hb1,hc1⟩;have hq7:=hc1 ⟨w.heap.size,7,none⟩ (.slice ka (1) kc) (by simp))
   go_ret
   exact ⟨ret_bool HR2.out.symm,((Below.refl _ _).alloc (Nat.le_refl _) _).trans (hb1.mono (by simp))⟩
  ·have HR2:Hid (R=!b):=Lib.hid (by rw [HR.out];simp)
   simp only [List.length_cons] at s4
   go_enter Tryz.func94,Tryz.ntmps94
   go_wp2_with (first | (((go_at_call 98;refine (bare_eq _ HB.out).mono ?_;rintro e w1 ⟨rfl,hb1,hc1⟩;have hq7:=hc1 ⟨w.heap.size,7,none⟩ (.slice ka (ks.length+1+1) kc) (by simp)));have HX1:=Lib.hid ((hx.later ((Below.refl _ _).alloc (Nat.le_refl _) _)).later hb1)) | (go_at_call 102;refine (some_eq (zs:=[0,1]) _ HA.out (HX1.out.later ((Below.refl _ _).alloc (Nat.le_refl _) _)) (by first | omega | (simp;omega)) (Sl.lit (n:=2) (heap_alloc_new w1 (.cells #[.int .i64 0,.int .i64 1] 3)) rfl) (by decide)).mono ?_;rintro e w2 ⟨rfl,hb2⟩))
   go_ret
   exact ⟨ret_bool HR2.out.symm,(((Below.refl _ _).alloc (Nat.le_refl _) _).trans (hb1.mono (by simp))).trans ((((Below.refl w1.heap.size w1).alloc (Nat.le_refl _) _).trans (hb2.mono (by simp))).mono (by have:=hb1.size;simp at this;omega))⟩
set_option maxHeartbeats 4000000 in
theorem fields_1 (S:Nat→Prop) (c:Str) (ng:Bool) (ra:Option Addr) (rs:List (Str × Str)) (rc:Nat) (lo hi:Int) (lz:Bool) (ka:Option Addr) (ks:List Rx) (kc:Nat) (w:World)
  (hx:RxSl w S ka ks.length ks) (hsm:(Rx.mk 1 c ng rs lo hi lz ks).small1) :
  Calls Tryz.prog 94 #[.agg #[.int .i64 1,.string ⟨(c).toArray⟩,.bool ng,.slice ra rs.length rc,.int .i64 lo,.int .i64 hi,.bool lz,.slice ka ks.length kc]] w fun e w'=>e=.returned (.bool (fieldsB (.mk 1 c ng rs lo hi lz ks)))∧Below w.heap.size w w':=by
 generalize hR:fieldsB (.mk 1 c ng rs lo hi lz ks)=R
 have HR:=Lib.hid hR
 clear hR
 have HS:Hid (R=(bareV c ng rs.length lo hi lz && decide (1 < ks.length) && !anyK ks [1])):=Lib.hid (by rw [← HR.out,← bareB_eq 1 c ng rs lo hi lz ks,any_no1];rfl)
 obtain ⟨s1,s2,s3,s4⟩:=hsm
 clear HR s3
 cases hbv:bareV c ng rs.length lo hi lz with
 | false =>
  have HB:=Lib.hid hbv
  have HR:Hid (R=false):=Lib.hid (by rw [HS.out,hbv];rfl)
  clear hbv
  go_enter Tryz.func94,Tryz.ntmps94
  go_wp2_with (go_at_call 98;refine (bare_eq _ HB.out).mono ?_;rintro e w1 ⟨rfl,hb1,hc1⟩;have hq7:=hc1 ⟨w.heap.size,7,none⟩ (.slice ka (ks.length) kc) (by simp))
  go_ret
  exact ⟨ret_bool HR.out.symm,((Below.refl _ _).alloc (Nat.le_refl _) _).trans (hb1.mono (by simp))⟩
 | true =>
  have HB:=Lib.hid hbv
  have HR:Hid (R=(decide (1 < ks.length) && !anyK ks [1])):=Lib.hid (by rw [HS.out,hbv];rfl)
  clear hbv
  obtain ⟨b,hab⟩:∃ b,anyK ks [1]=b:=⟨_,rfl⟩
  have HA:=Lib.hid hab
  rw [hab] at HR
  clear hab
  rcases ks with _ | ⟨x,_ | ⟨y,ks⟩⟩
  ·have HR2:Hid (R=false):=Lib.hid (by rw [HR.out];rfl)
   go_enter Tryz.func94,Tryz.ntmps94
   go_wp2_with (go_at_call 98;refine (bare_eq _ HB.out).mono ?_;rintro e w1 ⟨rfl,hb1,hc1⟩;have hq7:=hc1 ⟨w.heap.size,7,none⟩ (.slice ka (0) kc) (by simp))
   go_ret
   exact ⟨ret_bool HR2.out.symm,((Below.refl _ _).alloc (Nat.le_refl _) _).trans (hb1.mono (by simp))⟩
  ·have HR2:Hid (R=false):=Lib.hid (by rw [HR.out];rfl)
   go_enter Tryz.func94,Tryz.ntmps94
   go_wp2_with (go_at_call 98;refine (bare_eq _ HB.out).mono ?_;rintro e w1 ⟨rfl,hb1,hc1⟩;have hq7:=hc1 ⟨w.heap.size,7,none⟩ (.slice ka (1) kc) (by simp))
   go_ret
   exact ⟨ret_bool HR2.out.symm,((Below.refl _ _).alloc (Nat.le_refl _) _).trans (hb1.mono (by simp))⟩
  ·have HR2:Hid (R=!b):=Lib.hid (by rw [HR.out];simp)
   simp only [List.length_cons] at s4
   go_enter Tryz.func94,Tryz.ntmps94
   go_wp2_with (first | (((go_at_call 98;refine (bare_eq _ HB.out).mono ?_;rintro e w1 ⟨rfl,hb1,hc1⟩;have hq7:=hc1 ⟨w.heap.size,7,none⟩ (.slice ka (ks.length+1+1) kc) (by simp)));have HX1:=Lib.hid ((hx.later ((Below.refl _ _).alloc (Nat.le_refl _) _)).later hb1)) | (go_at_call 102;refine (some_eq (zs:=[1]) _ HA.out (HX1.out.later ((Below.refl _ _).alloc (Nat.le_refl _) _)) (by first | omega | (simp;omega)) (Sl.lit (n:=1) (heap_alloc_new w1 (.cells #[.int .i64 1] 3)) rfl) (by decide)).mono ?_;rintro e w2 ⟨rfl,hb2⟩))
   go_ret
   exact ⟨ret_bool HR2.out.symm,(((Below.refl _ _).alloc (Nat.le_refl _) _).trans (hb1.mono (by simp))).trans ((((Below.refl w1.heap.size w1).alloc (Nat.le_refl _) _).trans (hb2.mono (by simp))).mono (by have:=hb1.size;simp at this;omega))⟩
def oneB (ks:List Rx):Bool:=match ks with | [x]=>repB x.kind | _=>false
theorem repeated_eq {k:Int} {b:Bool} (w:World) (h:repB k=b):Calls Tryz.prog 101 #[.int .i64 k] w fun e w'=>e=.returned (.bool b)∧w=w':=by
 subst h;exact repeated_any k w
set_option maxHeartbeats 4000000 in
theorem fields_7 (S:Nat→Prop) (c:Str) (ng:Bool) (ra:Option Addr) (rs:List (Str × Str)) (rc:Nat) (lo hi:Int) (lz:Bool) (ka:Option Addr) (ks:List Rx) (kc:Nat) (w:World)
  (hx:RxSl w S ka ks.length ks) (hsm:(Rx.mk 7 c ng rs lo hi lz ks).small1) :
  Calls Tryz.prog 94 #[.agg #[.int .i64 7,.string ⟨(c).toArray⟩,.bool ng,.slice ra rs.length rc,.int .i64 lo,.int .i64 hi,.bool lz,.slice ka ks.length kc]] w fun e w'=>e=.returned (.bool (fieldsB (.mk 7 c ng rs lo hi lz ks)))∧Below w.heap.size w w':=by
 generalize hR:fieldsB (.mk 7 c ng rs lo hi lz ks)=R
 have HR:=Lib.hid hR
 clear hR
 have HS:Hid (R=(bareV c ng rs.length 0 0 false && oneB ks && decide (0≤lo∧lo≤255∧(hi=-1∨lo≤hi∧hi≤255)))):=Lib.hid (by rw [← HR.out,← bareB_eq 7 c ng rs 0 0 false ks];rfl)
 obtain ⟨s1,s2,s3,s4⟩:=hsm
 clear HR s3
 cases hbv:bareV c ng rs.length 0 0 false with
 | false =>
  have HB:=Lib.hid hbv
  have HR:Hid (R=false):=Lib.hid (by rw [HS.out,hbv];rfl)
  clear hbv
  go_enter Tryz.func94,Tryz.ntmps94
  go_wp2
  go_quiet (fail)
  go_wp2_with (go_at_call 98;refine (bare_eq _ HB.out).mono ?_;rintro e w1 ⟨rfl,hb1,hc1⟩;have hq7:=hc1 ⟨w.heap.size,7,none⟩ (.slice ka (ks.length) kc) (by simp [go_sem]))
  go_ret
  exact ⟨ret_bool HR.out.symm,((((below_drewN ((Below.refl w.heap.size w).alloc (Nat.le_refl _) _) _).setCell (by simp) _).setCell (by simp) _).setCell (by simp) _).trans (hb1.mono (by simp [World.setCell]))⟩
 | true =>
  have HB:=Lib.hid hbv
  have HR:Hid (R=(oneB ks && decide (0≤lo∧lo≤255∧(hi=-1∨lo≤hi∧hi≤255)))):=Lib.hid (by rw [HS.out,hbv];rfl)
  clear hbv
  rcases ks with _ | ⟨x,_ | ⟨y,ks⟩⟩
  ·have HR2:Hid (R=false):=Lib.hid (by rw [HR.out];rfl)
   go_enter Tryz.func94,Tryz.ntmps94
   go_wp2
   go_quiet (fail)
   go_wp2_with (go_at_call 98;refine (bare_eq _ HB.out).mono ?_;rintro e w1 ⟨rfl,hb1,hc1⟩;have hq7:=hc1 ⟨w.heap.size,7,none⟩ (.slice ka (0) kc) (by simp [go_sem]))
   go_ret
   exact ⟨ret_bool HR2.out.symm,((((below_drewN ((Below.refl w.heap.size w).alloc (Nat.le_refl _) _) _).setCell (by simp) _).setCell (by simp) _).setCell (by simp) _).trans (hb1.mono (by simp [World.setCell]))⟩
  ·obtain ⟨xk,xc,xn,xr,xl,xh,xz,xs⟩:=x
   obtain ⟨b,o,_,_,_,_,rfl,_,hbB,_,_,_,q0,_⟩:=hx.cells (m:=0) rfl
   simp only [Nat.zero_mul,Nat.add_zero] at q0
   obtain ⟨rb,hrb⟩:∃ rb,repB xk=rb:=⟨_,rfl⟩
   have HRB:=Lib.hid hrb
   have HR2:Hid (R=(rb && decide (0≤lo∧lo≤255∧(hi=-1∨lo≤hi∧hi≤255)))):=Lib.hid (by rw [HR.out,← HRB.out];rfl)
   clear hrb
   cases rb
   all_goals
    go_enter Tryz.func94,Tryz.ntmps94
    go_wp2
    go_quiet (fail)
    go_wp2_with (first | (go_at_call 98;refine (bare_eq _ HB.out).mono ?_;rintro e w1 ⟨rfl,hb1,hc1⟩;have hq7:=hc1 ⟨w.heap.size,7,none⟩ (.slice (some ⟨b,o,none⟩) 1 kc) (by simp [go_sem]);have hq0:w1.cell? ⟨b,o,none⟩=some (.int .i64 xk):=hc1 _ _ (by simp [go_sem,World.cell?_alloc_lt,hbB,q0])) | (go_at_call 101;refine (repeated_eq _ HRB.out).mono ?_;rintro e w2 ⟨rfl,rfl⟩))
    all_goals
     go_ret
     refine ⟨ret_bool ?_,((((below_drewN ((Below.refl w.heap.size w).alloc (Nat.le_refl _) _) _).setCell (by simp) _).setCell (by simp) _).setCell (by simp) _).trans (hb1.mono (by simp [World.setCell]))⟩
     rw [HR2.out]
     first | rfl | (rw [Bool.true_and,Bool.eq_iff_iff];simp;omega)
  ·have HR2:Hid (R=false):=Lib.hid (by rw [HR.out];rfl)
   go_enter Tryz.func94,Tryz.ntmps94
   go_wp2
   go_quiet (fail)
   go_wp2_with (go_at_call 98;refine (bare_eq _ HB.out).mono ?_;rintro e w1 ⟨rfl,hb1,hc1⟩;have hq7:=hc1 ⟨w.heap.size,7,none⟩ (.slice ka (ks.length+1+1) kc) (by simp [go_sem]))
   go_ret
   exact ⟨ret_bool HR2.out.symm,((((below_drewN ((Below.refl w.heap.size w).alloc (Nat.le_refl _) _) _).setCell (by simp) _).setCell (by simp) _).setCell (by simp) _).trans (hb1.mono (by simp [World.setCell]))⟩
theorem fields_any (S:Nat→Prop) (K:Int) (c:Str) (ng:Bool) (ra:Option Addr) (rs:List (Str × Str)) (rc:Nat) (lo hi:Int) (lz:Bool) (ka:Option Addr) (ks:List Rx) (kc:Nat) (w:World)
  (hr:SlS w S ra 2 rs.length (rcells rs)) (hx:RxSl w S ka ks.length ks) (hsm:(Rx.mk K c ng rs lo hi lz ks).small1) :
  Calls Tryz.prog 94 #[.agg #[.int .i64 K,.string ⟨(c).toArray⟩,.bool ng,.slice ra rs.length rc,.int .i64 lo,.int .i64 hi,.bool lz,.slice ka ks.length kc]] w fun e w'=>e=.returned (.bool (fieldsB (.mk K c ng rs lo hi lz ks)))∧Below w.heap.size w w':=by
 by_cases h0:K=0
 ·subst h0;exact fields_0 S c ng ra rs rc lo hi lz ka ks kc w hx hsm
 by_cases h1:K=1
 ·subst h1;exact fields_1 S c ng ra rs rc lo hi lz ka ks kc w hx hsm
 by_cases h2:K=2
 ·subst h2;exact fields_2 c ng ra rs rc lo hi lz ka ks kc w hsm
 by_cases h4:K=4
 ·subst h4;exact fields_4 c ng ra rs rc lo hi lz ka ks kc w hr.sl hsm
 by_cases h7:K=7
 ·subst h7;exact fields_7 S c ng ra rs rc lo hi lz ka ks kc w hx hsm
 by_cases h5:K=5∨K=6
 ·exact fields_one K h5 c ng ra rs rc lo hi lz ka ks kc w hsm
 by_cases h3:K=3∨K=8∨K=9∨K=10∨K=11
 ·exact fields_none K h3 c ng ra rs rc lo hi lz ka ks kc w hsm
 ·exact fields_else K (by omega) c ng ra rs.length rs rc lo hi lz ka ks.length ks kc w
end Go.Proofs.YtbmakifbppocaaaGreatDoor
set_option maxRecDepth 100000
namespace Go.Proofs.YtbmakifbppocaaaGreatDoor
open Go.RowKit
theorem deepL_parts (ks:List Rx):Rx.deepL ks≤Rx.partsL ks:=by
 induction ks with
 | nil=>simp [Rx.deepL]
 | cons x r ih=>have:=Rx.deep_parts x;simp only [Rx.deepL,Rx.partsL];omega
def SumRel (ks:List Rx) (f:List Rx→Nat) (op:Nat→Nat→Nat) (R:Nat) (w:World) (t q:Value) (wr:World):Prop :=
 ∃ (k d:Nat),k≤ks.length∧q=.int .i64 k∧t=.int .i64 d∧d≤100000000∧Below w.heap.size w wr∧Hid (op d (f (ks.drop k))=R)
end Go.Proofs.YtbmakifbppocaaaGreatDoor
