/- walk of xform.Reads -/
import Derived.Test.YtbgcjpefocdkkaaGreatSm1
import Derived.Test.YtbgcjpefocdkkaaGreatSm11
import Derived.Test.YtbgcjpefocdkkaaGreatSm12
import Derived.Test.YtbgcjpefocdkkaaGreatSm13
import Derived.Test.YtbgcjpefocdkkaaGreatSm2
import Derived.Test.YtbgcjpefocdkkaaGreatSm3
import Derived.Test.YtbgcjpefocdkkaaGreatSm4
import Derived.Test.YtbgcjpefocdkkaaGreatSm14
import Derived.Test.YtbgcjpefocdkkaaGreatSm5
import Derived.Test.YtbgcjpefocdkkaaGreatSm6
import Derived.Test.YtbgcjpefocdkkaaGreatSm7
import Derived.Test.YtbgcjpefocdkkaaGreatSm8
import Derived.Test.YtbgcjpefocdkkaaGreatSm9
import Derived.Test.YtbgcjpefocdkkaaGreatSm10
import Derived.Test.YtbgcjpefocdkkaaGreatSm15
import Derived.Test.YtbgcjpefocdkkaaGreatSm16
import Derived.Test.YtbgcjpefocdkkaaGreatSm17
import Derived.Test.YtbgcjpefocdkkaaGreatSm18
import Derived.Maps.OwnSet
import Derived.Lib.ItoaMem
import Derived.Maps.Keyed
import Derived.StillTailTactics
import Derived.Deep.MidRow
import Derived.Laws.ResultCell
import Derived.Laws.Rows
import Derived.Laws.Tables
import Derived.Deep.WholeRow
set_option maxRecDepth 100000
namespace Go.Proofs.YtbgcjpefocdkkaaGreat
open Go.RowKit
theorem blk_cell {w:World} {g:Nat} {cs:Array Value} {t:TypeId} {m:Nat × Nat} (h:w.heap[g]?=some (.cells cs t m)) (j:Nat) {u:Value} (hj:cs[j]?=some u):w.cell? ⟨g,j,none⟩=some u:=by
 rw [Lib.cell_of_heap h];exact hj
theorem blk_free {w:World} {g:Nat} {cs:Array Value} {t:TypeId} (h:w.heap[g]?=some (.cells cs t (0,0))) (j:Nat):w.frozen? ⟨g,j,none⟩=false:=Lib.frozen_of_heap h j
theorem blk_alloc {w:World} {g:Nat} {o':Obj} (h:w.heap[g]?=some o') (o:Obj):(w.alloc o).heap[g]?=some o':=(Below.heap_alloc _ _ _ (heap_lt h)).trans h
def tfv0:Value:=.agg #[.int .i64 0,.string ⟨([]).toArray⟩,.bool false,.slice none 0 0,.int .i64 0,.int .i64 0,.bool false,.slice none 0 0,.slice none 0 0,.bool false,.bool false]
def FormPost (s:Str) (i B:Nat) (w:World) (R:Option (Tf × Str)) (e:Ending) (w':World):Prop:=Below w.heap.size w w' ∧
 match R with
 | none=>e=.returned (.tuple #[tfv0,.int .i64 0,.bool false])
 | some (f,r)=>∃(fc:List Value) (j:Nat),e=.returned (.tuple #[.agg fc.toArray,.int .i64 j,.bool true])∧TfV w' (fun b=>B≤b) fc f∧i<j∧j<s.length∧s.drop (j+1)=r
def RfRel (s:Str) (i:Nat) (w:World) (RX:Str × Str) (q v:Value) (wr:World):Prop :=
 ∃(j:Nat) (a:Str),i+1≤j∧j≤s.length∧q=.int .i64 j∧wr.ownsRow w.heap.size 5 1 v a.length (bcells a)∧wr.heap[w.heap.size]?=some (.cells #[.int .i64 0,.string ⟨([]).toArray⟩,.bool false,.slice none 0 0,.int .i64 0,.int .i64 0,.bool false,.slice none 0 0,.slice none 0 0,.bool false,.bool false] 37 (0,0))∧Below w.heap.size w wr∧a.length≤j∧Hid (rxSp (s.drop j) a=RX)
theorem formM_head {s:Str} {i:Nat} {c:UInt8} {r:Str} (h:s.drop i=c::r) (hc:c.toNat=47):formM (s.drop i)=match (rxSp r []).2 with
  | []=>none
  | _::r3=>match readM (rxSp r []).1 with
   | .error _=>none
   | .ok x=>match readX r3 [] [] with
    | none=>none
    | some (_,[])=>none
    | some (fs,_::r5)=>flagT x fs r5:=by
 rw [h];simp only [formM];rw [if_pos hc];rfl
theorem rxSp_stop {c:UInt8} (h:c.toNat=47) (r a:Str):rxSp (c::r) a=(a,c::r):=by
 cases r with
 | nil=>simp [rxSp,h]
 | cons d r=>simp [rxSp,h]
theorem rxSp_step {c:UInt8} (h:¬c.toNat=47) (h2:¬c.toNat=92) (r a:Str):rxSp (c::r) a=rxSp r (a++[c]):=by
 cases r with
 | nil=>simp [rxSp,h]
 | cons d r=>simp [rxSp,h,h2]
theorem readM_err {s:Str} {q:Int} (h:readM s=.error q):q≠0:=by
 have hc:∀l:List Str,readC l=.error q→q≠0:=by
  intro l hl;unfold readC at hl;split at hl
  ·rename_i e heq
   injection hl with hl
   subst hl;exact pat_err _ _ _ _ heq
  ·cases hl
  ·injection hl with hl;rw [←hl];decide
 unfold readM at h;split at h
 ·injection h with h;rw [←h];decide
 ·split at h
  ·exact hc _ h
  ·split at h
   ·exact hc _ h
   ·injection h with h;rw [←h];decide
theorem flags_some {tk:Str} {a f:Bool} (h:flagsM tk=some (a,f)):(tk=[]∧a=false∧f=false)∨(tk=[103]∧a=true∧f=false)∨(tk=[105]∧a=false∧f=true)∨(tk=[103,105]∧a=true∧f=true)∨(tk=[105,103]∧a=true∧f=true):=by
 unfold flagsM at h;split at h
 ·injection h with h;injection h with h1 h2;exact .inl ⟨‹_›,h1.symm,h2.symm⟩
 split at h
 ·injection h with h;injection h with h1 h2;exact .inr (.inl ⟨‹_›,h1.symm,h2.symm⟩)
 split at h
 ·injection h with h;injection h with h1 h2;exact .inr (.inr (.inl ⟨‹_›,h1.symm,h2.symm⟩))
 split at h
 ·rename_i hor
  injection h with h;injection h with h1 h2
  rcases hor with hor|hor
  ·exact .inr (.inr (.inr (.inl ⟨hor,h1.symm,h2.symm⟩)))
  ·exact .inr (.inr (.inr (.inr ⟨hor,h1.symm,h2.symm⟩)))
 ·cases h
theorem flags_none {tk:Str} (h:flagsM tk=none):(tk==[])=false∧(tk==[103])=false∧(tk==[105])=false∧(tk==[103,105])=false∧(tk==[105,103])=false:=by
 unfold flagsM at h;split at h
 ·cases h
 split at h
 ·cases h
 split at h
 ·cases h
 split at h
 ·cases h
 rename_i h1 h2 h3 h4
 exact⟨beq_eq_false_iff_ne.2 h1,beq_eq_false_iff_ne.2 h2,beq_eq_false_iff_ne.2 h3,beq_eq_false_iff_ne.2 fun e=>h4 (.inl e),beq_eq_false_iff_ne.2 fun e=>h4 (.inr e)⟩
set_option maxHeartbeats 4000000 in
theorem Reads_any (s:Str) (i:Nat) (w:World) (hi:i≤s.length) (hs:s.length≤600000) :
  Calls Tryz.prog 68 #[.string ⟨(s).toArray⟩,.int .i64 i] w fun e w'=>FormPost s i w.heap.size w (formM (s.drop i)) e w':=by
 obtain⟨R,hR⟩:∃R,R=formM (s.drop i):=⟨_,rfl⟩;rw [←hR];obtain⟨iu,hiu⟩:=info_parts u8_info;have g0:decide ((i:Int)<0)=false:=decide_eq_false (by omega);have hby0:(w.alloc (.cells #[.int .i64 0,.string ⟨([]).toArray⟩,.bool false,.slice none 0 0,.int .i64 0,.int .i64 0,.bool false,.slice none 0 0,.slice none 0 0,.bool false,.bool false] 37)).heap[w.heap.size]?=some (.cells #[.int .i64 0,.string ⟨([]).toArray⟩,.bool false,.slice none 0 0,.int .i64 0,.int .i64 0,.bool false,.slice none 0 0,.slice none 0 0,.bool false,.bool false] 37 (0,0)):=heap_alloc_new w _;have HBY0:=Lib.hid hby0;have hb0:Below w.heap.size w (w.alloc (.cells #[.int .i64 0,.string ⟨([]).toArray⟩,.bool false,.slice none 0 0,.int .i64 0,.int .i64 0,.bool false,.slice none 0 0,.slice none 0 0,.bool false,.bool false] 37)):=(Below.refl _ _).alloc (Nat.le_refl _) _;cases hd:s.drop i with
 | nil =>
  have h2:=drop_nil hd;have HE:Hid (R=none):=Lib.hid (by rw [hR,hd];rfl);have g1:decide ((s.length:Int)≤(i:Int))=true:=decide_eq_true (by omega);clear hd hR;have z0:=blk_cell hby0 0 rfl;have z1:=blk_cell hby0 1 rfl;have z2:=blk_cell hby0 2 rfl;have z3:=blk_cell hby0 3 rfl;have z4:=blk_cell hby0 4 rfl;have z5:=blk_cell hby0 5 rfl;have z6:=blk_cell hby0 6 rfl;have z7:=blk_cell hby0 7 rfl;have z8:=blk_cell hby0 8 rfl;have z9:=blk_cell hby0 9 rfl;have z10:=blk_cell hby0 10 rfl;have zf:=blk_free hby0;clear hby0;go_enter Tryz.func68,Tryz.ntmps68
  go_wp2
  refine bodyPost_ret (v:=.tuple #[tfv0,.int .i64 0,.bool false]) (by simp [results,Tryz.results68,go_sem,tfv0,z0,z1,z2,z3,z4,z5,z6,z7,z8,z9,z10]) rfl ⟨?_,by rw [HE.out];try rfl⟩
  (repeat (first|with_reducible exact Below.refl _ _|with_reducible assumption|(refine Below.setCell ?_ (by first|(simp;done)|omega) _)|(refine Below.alloc ?_ (by first|(simp;done)|(simp;omega)|omega) _)|(refine Below.drew ?_)))
 | cons c r =>
  obtain⟨h2,h3,hr⟩:=drop_cons hd;have g1:decide ((s.length:Int)≤(i:Int))=false:=decide_eq_false (by omega);by_cases c47:c.toNat=47
  ·have b47:((c.toNat:Int)==47)=true:=(by rw [beq_iff_eq];omega)
   have b47':((c.toNat:Int) != 47)=false:=by simp [bne,b47]
   have HF:Hid (R=_):=Lib.hid (hR.trans (formM_head hd c47));have HRX:Hid (rxSp (s.drop (i+1)) []=rxSp r []):=Lib.hid (by rw [hr]);generalize hRX:rxSp r []=RX at *
   clear hd hR hr hby0 c47;go_enter Tryz.func68,Tryz.ntmps68
   go_wp2
   go_loopw [1,7] (fun q v wr=>RfRel s i w RX q v wr) (fun q _ _=>s.length-(intOf q).toNat)
   case atStart=>exact⟨i+1,[],by omega,by omega,by go_num,World.ownsRow_nil _ _ _ _,HBY0.out,hb0,by simp,HRX⟩
   case round =>
    obtain⟨j,a,hij,hjl,rfl,hown,hby,hb,ha,HS⟩:=hrel;clear HRX h3 h2 g1 b47 b47' HBY0 hb0;have hB:=hb.size;have HBY:=Lib.hid hby;have hcv:=conv_own (P:=Tryz.prog) (src:=61) (dst:=9) Tryz.underlying61 Tryz.underlying5 Tryz.underlying9 hown;cases hd:s.drop j with
    | nil =>
     have h2:=drop_nil hd;have g2:decide ((j:Int)<(s.length:Int))=false:=decide_eq_false (by omega);have g3:decide ((s.length:Int)≤(j:Int))=true:=decide_eq_true (by omega);have HX:Hid (RX=(a,[])):=Lib.hid (by rw [←HS.out,hd];rfl);have HE:Hid (R=none):=Lib.hid (by rw [HF.out,HX.out]);clear hd HS HF HX;cases hx:readM a with
     | error q =>
      have HRD:=Lib.hid (Read_any a wr (by omega));rw [hx] at HRD;clear hx;go_wp2_with (go_at_call 80;refine HRD.out.mono ?_)
      rintro e w1 ⟨hb1,rfl⟩;have hb1w:Below w.heap.size w w1:=hb.trans (hb1.mono hB);have hB1:=hb1w.size;have hby1:=(hb1.block _ (heap_lt HBY.out)).trans HBY.out;have z0:=fun o=>blk_cell (blk_alloc hby1 o) 0 rfl
      have z1:=fun o=>blk_cell (blk_alloc hby1 o) 1 rfl
      have z2:=fun o=>blk_cell (blk_alloc hby1 o) 2 rfl
      have z3:=fun o=>blk_cell (blk_alloc hby1 o) 3 rfl
      have z4:=fun o=>blk_cell (blk_alloc hby1 o) 4 rfl
      have z5:=fun o=>blk_cell (blk_alloc hby1 o) 5 rfl
      have z6:=fun o=>blk_cell (blk_alloc hby1 o) 6 rfl
      have z7:=fun o=>blk_cell (blk_alloc hby1 o) 7 rfl
      have z8:=fun o=>blk_cell (blk_alloc hby1 o) 8 rfl
      have z9:=fun o=>blk_cell (blk_alloc hby1 o) 9 rfl
      have z10:=fun o=>blk_cell (blk_alloc hby1 o) 10 rfl
      have zf:=fun o=>blk_free (blk_alloc hby1 o)
      clear hby1 hby;unfold rxv0;go_wp2
      refine bodyPost_ret (v:=.tuple #[tfv0,.int .i64 0,.bool false]) (by simp [results,Tryz.results68,go_sem,tfv0,z0,z1,z2,z3,z4,z5,z6,z7,z8,z9,z10]) rfl ⟨?_,by rw [HE.out];try rfl⟩
      (repeat (first|with_reducible exact Below.refl _ _|with_reducible assumption|(refine Below.setCell ?_ (by first|(simp;done)|omega) _)|(refine Below.alloc ?_ (by first|(simp;done)|(simp;omega)|omega) _)|(refine Below.drew ?_)))
     | ok x =>
      have HRD:=Lib.hid (Read_any a wr (by omega));rw [hx] at HRD;clear hx;go_wp2_with (go_at_call 80;refine HRD.out.mono ?_)
      rintro e w1 ⟨hb1,cc,rfl,hxv⟩;obtain⟨k,ch,ng,rs,lo,hii,lz,ks⟩:=x;obtain⟨ra,rc,ka,kc,rfl,_,_⟩:=hxv.open_;have hb1w:Below w.heap.size w w1:=hb.trans (hb1.mono hB);have hB1:=hb1w.size;have hby1:=(hb1.block _ (heap_lt HBY.out)).trans HBY.out;have z0:=fun o=>blk_cell (blk_alloc hby1 o) 0 rfl
      have z1:=fun o=>blk_cell (blk_alloc hby1 o) 1 rfl
      have z2:=fun o=>blk_cell (blk_alloc hby1 o) 2 rfl
      have z3:=fun o=>blk_cell (blk_alloc hby1 o) 3 rfl
      have z4:=fun o=>blk_cell (blk_alloc hby1 o) 4 rfl
      have z5:=fun o=>blk_cell (blk_alloc hby1 o) 5 rfl
      have z6:=fun o=>blk_cell (blk_alloc hby1 o) 6 rfl
      have z7:=fun o=>blk_cell (blk_alloc hby1 o) 7 rfl
      have z8:=fun o=>blk_cell (blk_alloc hby1 o) 8 rfl
      have z9:=fun o=>blk_cell (blk_alloc hby1 o) 9 rfl
      have z10:=fun o=>blk_cell (blk_alloc hby1 o) 10 rfl
      have zf:=fun o=>blk_free (blk_alloc hby1 o)
      clear hby1 hby hxv;unfold rxc;go_wp2
      refine bodyPost_ret (v:=.tuple #[tfv0,.int .i64 0,.bool false]) (by simp [results,Tryz.results68,go_sem,tfv0,z0,z1,z2,z3,z4,z5,z6,z7,z8,z9,z10]) rfl ⟨?_,by rw [HE.out];try rfl⟩
      (repeat (first|with_reducible exact Below.refl _ _|with_reducible assumption|(refine Below.setCell ?_ (by first|(simp;done)|omega) _)|(refine Below.alloc ?_ (by first|(simp;done)|(simp;omega)|omega) _)|(refine Below.drew ?_)))
    | cons c r =>
     obtain⟨h2,h3,hr⟩:=drop_cons hd;have g2:decide ((j:Int)<(s.length:Int))=true:=decide_eq_true (by omega);have Hr:=Lib.hid hr;by_cases c47:c.toNat=47
     ·have b47:((c.toNat:Int)==47)=true:=(by rw [beq_iff_eq];omega)
      have b47':((c.toNat:Int) != 47)=false:=by simp [bne,b47]
      have g3:decide ((s.length:Int)≤(j:Int))=false:=decide_eq_false (by omega);have HX:Hid (RX=(a,c::r)):=Lib.hid (by rw [←HS.out,hd];exact rxSp_stop c47 r a);have HE1:Hid (R=match readM a with
       | .error _=>none
       | .ok x=>match readX r [] [] with
        | none=>none
        | some (_,[])=>none
        | some (fs,_::r5)=>flagT x fs r5):=Lib.hid (by rw [HF.out,HX.out])
      have HRD:=Lib.hid (Read_any a wr (by omega));clear hd HS HF HX hr c47;cases hx:readM a with
      | error q =>
       have HE:Hid (R=none):=Lib.hid (by rw [HE1.out,hx]);have hq:(q==0)=false:=by rw [beq_eq_false_iff_ne];exact readM_err hx
       have hq':(q != 0)=true:=by simp [bne,hq]
       rw [hx] at HRD;clear hx HE1;go_wp2_with (go_at_call 80;refine HRD.out.mono ?_)
       rintro e w1 ⟨hb1,rfl⟩;have hb1w:Below w.heap.size w w1:=hb.trans (hb1.mono hB);have hB1:=hb1w.size;have hby1:=(hb1.block _ (heap_lt HBY.out)).trans HBY.out;have z0:=fun o=>blk_cell (blk_alloc hby1 o) 0 rfl
       have z1:=fun o=>blk_cell (blk_alloc hby1 o) 1 rfl
       have z2:=fun o=>blk_cell (blk_alloc hby1 o) 2 rfl
       have z3:=fun o=>blk_cell (blk_alloc hby1 o) 3 rfl
       have z4:=fun o=>blk_cell (blk_alloc hby1 o) 4 rfl
       have z5:=fun o=>blk_cell (blk_alloc hby1 o) 5 rfl
       have z6:=fun o=>blk_cell (blk_alloc hby1 o) 6 rfl
       have z7:=fun o=>blk_cell (blk_alloc hby1 o) 7 rfl
       have z8:=fun o=>blk_cell (blk_alloc hby1 o) 8 rfl
       have z9:=fun o=>blk_cell (blk_alloc hby1 o) 9 rfl
       have z10:=fun o=>blk_cell (blk_alloc hby1 o) 10 rfl
       have zf:=fun o=>blk_free (blk_alloc hby1 o)
       clear hby1 hby;unfold rxv0;go_wp2
       refine bodyPost_ret (v:=.tuple #[tfv0,.int .i64 0,.bool false]) (by simp [results,Tryz.results68,go_sem,tfv0,z0,z1,z2,z3,z4,z5,z6,z7,z8,z9,z10]) rfl ⟨?_,by rw [HE.out];try rfl⟩
       (repeat (first|with_reducible exact Below.refl _ _|with_reducible assumption|(refine Below.setCell ?_ (by first|(simp;done)|omega) _)|(refine Below.alloc ?_ (by first|(simp;done)|(simp;omega)|omega) _)|(refine Below.drew ?_)))
      | ok x =>
       have HE2:Hid (R=match readX r [] [] with
        | none=>none
        | some (_,[])=>none
        | some (fs,_::r5)=>flagT x fs r5):=Lib.hid (by rw [HE1.out,hx])
       rw [hx] at HRD;clear hx HE1;have HFR:Hid (∀w:World,Calls Tryz.prog 81 #[.string ⟨(s).toArray⟩,.int .i64 ((j:Int)+1)] w fun e w'=>Below w.heap.size w w'∧ReadPostN s (j+1) w.heap.size (readX r [] []) e w'):=Lib.hid (fun w=>by
        have:=ReadN_any s (j+1) w (by omega) (by omega)
        rw [Hr.out] at this;push_cast at this;exact this)
       go_wp2_with (go_at_call 80;refine HRD.out.mono ?_)
       rintro e w1 ⟨hb1,cc,rfl,hxv⟩;obtain⟨k,ch,ng,rs,lo,hii,lz,ks⟩:=x;have hxv0:=hxv;obtain⟨ra,rc,ka,kc,rfl,_,_⟩:=hxv.open_;have HXV:=Lib.hid hxv0;have hb1w:Below w.heap.size w w1:=hb.trans (hb1.mono hB);have hB1:=hb1w.size;have HBY1:=Lib.hid ((hb1.block _ (heap_lt HBY.out)).trans HBY.out);have HZ1:=Lib.hid hb1.size;have HLT:=Lib.hid (heap_lt HBY.out);clear hby hxv hxv0;unfold rxc at HXV ⊢;go_wp2_with (go_at_call 81;refine(HFR.out _).mono ?_)
       rintro e w3 ⟨hb3,hp⟩;have hz3:=hb3.size;simp only [World.size_alloc] at hz3;have hby3:=(hb3.block _ (heap_lt (blk_alloc HBY1.out _))).trans (blk_alloc HBY1.out _);have hbx3:=(hb3.block _ (heap_lt (heap_alloc_new w1 _))).trans (heap_alloc_new w1 _);have HBX3:=Lib.hid hbx3;have HBY3:=Lib.hid hby3;have hb3w:Below w.heap.size w w3:=(hb1w.alloc hB1 _).trans (hb3.mono (by simp;omega));have hB3:=hb3w.size;have HXV3:=Lib.hid ((HXV.out.later ((Below.refl _ _).alloc (Nat.le_refl _) _)).later hb3);clear hbx3 HXV;cases hX:readX r [] [] with
       | none =>
        have HE:Hid (R=none):=Lib.hid (by rw [HE2.out,hX]);rw [hX] at hp;have hp':e=.returned (.tuple #[.slice none 0 0,.int .i64 0,.bool false]):=hp;subst hp';clear hp hX HE2 HXV3;have z0:=blk_cell hby3 0 rfl;have z1:=blk_cell hby3 1 rfl;have z2:=blk_cell hby3 2 rfl;have z3:=blk_cell hby3 3 rfl;have z4:=blk_cell hby3 4 rfl;have z5:=blk_cell hby3 5 rfl;have z6:=blk_cell hby3 6 rfl;have z7:=blk_cell hby3 7 rfl;have z8:=blk_cell hby3 8 rfl;have z9:=blk_cell hby3 9 rfl;have z10:=blk_cell hby3 10 rfl;have zf:=blk_free hby3;clear hby3;go_wp2
        refine bodyPost_ret (v:=.tuple #[tfv0,.int .i64 0,.bool false]) (by simp [results,Tryz.results68,go_sem,tfv0,z0,z1,z2,z3,z4,z5,z6,z7,z8,z9,z10]) rfl ⟨?_,by rw [HE.out];try rfl⟩
        (repeat (first|with_reducible exact Below.refl _ _|with_reducible assumption|(refine Below.setCell ?_ (by first|(simp;done)|omega) _)|(refine Below.alloc ?_ (by first|(simp;done)|(simp;omega)|omega) _)|(refine Below.drew ?_)))
       | some p =>
        obtain⟨fs,r4⟩:=p;rw [hX] at hp;obtain⟨fa,fcp,j2,rfl,hsl,hj1,hj2,hj3,_,_⟩:=hp;obtain⟨_,d,r5,rfl,hd47⟩:=readN_len _ _ _ _ hX;have HSL:=Lib.hid hsl;have HE3:Hid (R=flagT (.mk k ch ng rs lo hii lz ks) fs r5):=Lib.hid (by rw [HE2.out,hX]);have hix:Lib.indexByte (List.drop j2 s) ((125:Int)).toNat.toUInt8=match r5.dropWhile ne125 with|[]=>-1|_::_=>((r5.takeWhile ne125).length:Int)+1:=by
         rw [hj3];have e125:(125:Int).toNat.toUInt8=125:=rfl;have hb:(d==125)=false:=by rw [beq_eq_false_iff_ne];intro e;rw [e] at hd47;simp at hd47
         rw [e125];simp only [Lib.indexByte,hb];rw [idx_span];cases r5.dropWhile ne125 with
         | nil=>rfl
         | cons x y =>
          have h1:((((r5.takeWhile ne125).length:Int))==-1)=false:=by rw [beq_eq_false_iff_ne];omega
          simp only [h1,Bool.false_eq_true,if_false]
        obtain⟨_,_,hj4⟩:=drop_cons hj3;have HJ4:=Lib.hid hj4;have hspan:=List.takeWhile_append_dropWhile (p:=ne125) (l:=r5);have HE4:Hid (R=match r5.dropWhile ne125 with
         | []=>none
         | _::r2=>match flagsM (r5.takeWhile ne125) with
          | none=>none
          | some (a,f)=>some (⟨.mk k ch ng rs lo hii lz ks,fs,f,a⟩,r2)):=Lib.hid HE3.out
        clear hX HE2 hj3 hj4 hsl hd47 HE3;generalize r5.takeWhile ne125=tk at *
        generalize r5.dropWhile ne125=dw at *
        have HSP:=Lib.hid hspan;have HX0:=Lib.hid hix;clear hspan hix;cases dw with
        | nil =>
         have HIX:Hid (Lib.indexByte (List.drop j2 s) ((125:Int)).toNat.toUInt8=-1):=HX0;have HE:Hid (R=none):=HE4;clear HX0 HE4 HXV3;have z0:=blk_cell hby3 0 rfl;have z1:=blk_cell hby3 1 rfl;have z2:=blk_cell hby3 2 rfl;have z3:=blk_cell hby3 3 rfl;have z4:=blk_cell hby3 4 rfl;have z5:=blk_cell hby3 5 rfl;have z6:=blk_cell hby3 6 rfl;have z7:=blk_cell hby3 7 rfl;have z8:=blk_cell hby3 8 rfl;have z9:=blk_cell hby3 9 rfl;have z10:=blk_cell hby3 10 rfl;have zf:=blk_free hby3;clear hby3;go_wp2_with (go_at_call 36;refine(IndexByte_eq _ HIX.out).mono ?_;rintro e w4 ⟨rfl,rfl⟩)
         refine bodyPost_ret (v:=.tuple #[tfv0,.int .i64 0,.bool false]) (by simp [results,Tryz.results68,go_sem,tfv0,z0,z1,z2,z3,z4,z5,z6,z7,z8,z9,z10]) rfl ⟨?_,by rw [HE.out];try rfl⟩
         (repeat (first|with_reducible exact Below.refl _ _|with_reducible assumption|(refine Below.setCell ?_ (by first|(simp;done)|omega) _)|(refine Below.alloc ?_ (by first|(simp;done)|(simp;omega)|omega) _)|(refine Below.drew ?_)))
        | cons d2 r6 =>
         have HIX:Hid (Lib.indexByte (List.drop j2 s) ((125:Int)).toNat.toUInt8=(tk.length:Int)+1):=HX0;have HE5:Hid (R=match flagsM tk with|none=>none|some (a,f)=>some (⟨.mk k ch ng rs lo hii lz ks,fs,f,a⟩,r6)):=HE4;have hlen:j2+1+tk.length<s.length:=by
          have h1:=congrArg List.length HSP.out;have h2:=congrArg List.length HJ4.out;simp at h1 h2;omega
         obtain⟨m,hm⟩:∃m,m=tk.length:=⟨_,rfl⟩;have hK:List.take (j2+(m+1)-(j2+1)) (List.drop (j2+1) s)=tk:=by
          rw [HJ4.out,←HSP.out,show j2+(m+1)-(j2+1)=tk.length by omega,List.take_left]
         have HDR:Hid (s.drop (j2+(m+1)+1)=r6):=Lib.hid (by
          rw [show j2+(m+1)+1=j2+1+(tk.length+1) by omega,←List.drop_drop,HJ4.out,←HSP.out,List.drop_append];simp)
         rw [←hm] at HIX hlen;clear HX0 HE4 hm HSP;obtain⟨y0,y1,y2,y3,y4,y5,y6,y7,_⟩:=bx_cells HBX3.out;have z0:=fun o=>blk_cell (blk_alloc hby3 o) 0 rfl
         have z1:=fun o=>blk_cell (blk_alloc hby3 o) 1 rfl
         have z2:=fun o=>blk_cell (blk_alloc hby3 o) 2 rfl
         have z3:=fun o=>blk_cell (blk_alloc hby3 o) 3 rfl
         have z4:=fun o=>blk_cell (blk_alloc hby3 o) 4 rfl
         have z5:=fun o=>blk_cell (blk_alloc hby3 o) 5 rfl
         have z6:=fun o=>blk_cell (blk_alloc hby3 o) 6 rfl
         have z7:=fun o=>blk_cell (blk_alloc hby3 o) 7 rfl
         have z8:=fun o=>blk_cell (blk_alloc hby3 o) 8 rfl
         have z9:=fun o=>blk_cell (blk_alloc hby3 o) 9 rfl
         have z10:=fun o=>blk_cell (blk_alloc hby3 o) 10 rfl
         have zf:=fun o=>blk_free (blk_alloc hby3 o)
         clear hby3;cases hfl:flagsM tk with
         | none =>
          have HE:Hid (R=none):=Lib.hid (by rw [HE5.out,hfl]);obtain⟨t0,t1,t2,t3,t4⟩:=flags_none hfl;clear HE5 hfl HXV3;go_wp2_with (go_at_call 36;refine(IndexByte_eq _ HIX.out).mono ?_;rintro e w4 ⟨rfl,rfl⟩)
          refine bodyPost_ret (v:=.tuple #[tfv0,.int .i64 0,.bool false]) (by simp [results,Tryz.results68,go_sem,tfv0,z0,z1,z2,z3,z4,z5,z6,z7,z8,z9,z10]) rfl ⟨?_,by rw [HE.out];try rfl⟩
          (repeat (first|with_reducible exact Below.refl _ _|with_reducible assumption|(refine Below.setCell ?_ (by first|(simp;done)|omega) _)|(refine Below.alloc ?_ (by first|(simp;done)|(simp;omega)|omega) _)|(refine Below.drew ?_)))
         | some af =>
          obtain⟨al,fd⟩:=af;rcases flags_some hfl with⟨rfl,rfl,rfl⟩|⟨rfl,rfl,rfl⟩|⟨rfl,rfl,rfl⟩|⟨rfl,rfl,rfl⟩|⟨rfl,rfl,rfl⟩
          ·skip
           have HE6:Hid (R=some (⟨.mk k ch ng rs lo hii lz ks,fs,false,false⟩,r6)):=Lib.hid (by rw [HE5.out,hfl]);clear HE5 hfl;go_wp2_with (go_at_call 36;refine(IndexByte_eq _ HIX.out).mono ?_;rintro e w4 ⟨rfl,rfl⟩)
           refine bodyPost_ret (v:=.tuple #[.agg #[.int .i64 k,.string ⟨(ch).toArray⟩,.bool ng,.slice ra rs.length rc,.int .i64 lo,.int .i64 hii,.bool lz,.slice ka ks.length kc,.slice fa fs.length fcp,.bool false,.bool false],.int .i64 (j2+(m+1)),.bool true]) (by simp [results,Tryz.results68,go_sem,z0,z1,z2,z3,z4,z5,z6,z7,z8,z9,z10]) rfl ⟨?_,?_⟩
           ·(repeat (first|with_reducible exact Below.refl _ _|with_reducible assumption|(refine Below.setCell ?_ (by first|(simp;done)|omega) _)|(refine Below.alloc ?_ (by first|(simp;done)|(simp;omega)|omega) _)|(refine Below.drew ?_)))
           ·rw [HE6.out]
            refine⟨_,j2+(m+1),rfl,?_,by omega,by omega,HDR.out⟩;have hT:TfV w3 (fun b=>w.heap.size<b∧b<w3.heap.size) (rxc k ch ng ra rs.length rc lo hii lz ka ks.length kc++[.slice fa fs.length fcp,.bool false,.bool false]) ⟨.mk k ch ng rs lo hii lz ks,fs,false,false⟩ :=
             ⟨_,fa,fcp,HXV3.out.mono fun b hb hlt=>by have h1:=HLT.out;have h2:wr.heap.size≤b:=hb;constructor<;>omega,HSL.out.mono fun b hb hlt=>by have h2:(w1.alloc _).heap.size≤b:=hb;simp only [World.size_alloc] at h2;constructor<;>omega,rfl⟩
            refine TfV.mono (S:=fun b=>w.heap.size<b∧b<w3.heap.size) (fun b hb _=>by have h:w.heap.size<b∧b<w3.heap.size:=hb;omega) ?_;iterate 11 (refine TfV.keep (Kept.setLow _ (fun b hb=>by have h:w.heap.size<b∧b<w3.heap.size:=hb;simp;omega)) ?_)
            exact hT.keep (Kept.all ((Below.refl _ _).alloc (Nat.le_refl _) _))
          ·skip
           have HE6:Hid (R=some (⟨.mk k ch ng rs lo hii lz ks,fs,false,true⟩,r6)):=Lib.hid (by rw [HE5.out,hfl]);clear HE5 hfl;go_wp2_with (go_at_call 36;refine(IndexByte_eq _ HIX.out).mono ?_;rintro e w4 ⟨rfl,rfl⟩)
           refine bodyPost_ret (v:=.tuple #[.agg #[.int .i64 k,.string ⟨(ch).toArray⟩,.bool ng,.slice ra rs.length rc,.int .i64 lo,.int .i64 hii,.bool lz,.slice ka ks.length kc,.slice fa fs.length fcp,.bool false,.bool true],.int .i64 (j2+(m+1)),.bool true]) (by simp [results,Tryz.results68,go_sem,z0,z1,z2,z3,z4,z5,z6,z7,z8,z9,z10]) rfl ⟨?_,?_⟩
           ·(repeat (first|with_reducible exact Below.refl _ _|with_reducible assumption|(refine Below.setCell ?_ (by first|(simp;done)|omega) _)|(refine Below.alloc ?_ (by first|(simp;done)|(simp;omega)|omega) _)|(refine Below.drew ?_)))
           ·rw [HE6.out]
            refine⟨_,j2+(m+1),rfl,?_,by omega,by omega,HDR.out⟩;have hT:TfV w3 (fun b=>w.heap.size<b∧b<w3.heap.size) (rxc k ch ng ra rs.length rc lo hii lz ka ks.length kc++[.slice fa fs.length fcp,.bool false,.bool true]) ⟨.mk k ch ng rs lo hii lz ks,fs,false,true⟩ :=
             ⟨_,fa,fcp,HXV3.out.mono fun b hb hlt=>by have h1:=HLT.out;have h2:wr.heap.size≤b:=hb;constructor<;>omega,HSL.out.mono fun b hb hlt=>by have h2:(w1.alloc _).heap.size≤b:=hb;simp only [World.size_alloc] at h2;constructor<;>omega,rfl⟩
            refine TfV.mono (S:=fun b=>w.heap.size<b∧b<w3.heap.size) (fun b hb _=>by have h:w.heap.size<b∧b<w3.heap.size:=hb;omega) ?_;iterate 11 (refine TfV.keep (Kept.setLow _ (fun b hb=>by have h:w.heap.size<b∧b<w3.heap.size:=hb;simp;omega)) ?_)
            exact hT.keep (Kept.all ((Below.refl _ _).alloc (Nat.le_refl _) _))
          ·skip
           have HE6:Hid (R=some (⟨.mk k ch ng rs lo hii lz ks,fs,true,false⟩,r6)):=Lib.hid (by rw [HE5.out,hfl]);clear HE5 hfl;go_wp2_with (go_at_call 36;refine(IndexByte_eq _ HIX.out).mono ?_;rintro e w4 ⟨rfl,rfl⟩)
           refine bodyPost_ret (v:=.tuple #[.agg #[.int .i64 k,.string ⟨(ch).toArray⟩,.bool ng,.slice ra rs.length rc,.int .i64 lo,.int .i64 hii,.bool lz,.slice ka ks.length kc,.slice fa fs.length fcp,.bool true,.bool false],.int .i64 (j2+(m+1)),.bool true]) (by simp [results,Tryz.results68,go_sem,z0,z1,z2,z3,z4,z5,z6,z7,z8,z9,z10]) rfl ⟨?_,?_⟩
           ·(repeat (first|with_reducible exact Below.refl _ _|with_reducible assumption|(refine Below.setCell ?_ (by first|(simp;done)|omega) _)|(refine Below.alloc ?_ (by first|(simp;done)|(simp;omega)|omega) _)|(refine Below.drew ?_)))
           ·rw [HE6.out]
            refine⟨_,j2+(m+1),rfl,?_,by omega,by omega,HDR.out⟩;have hT:TfV w3 (fun b=>w.heap.size<b∧b<w3.heap.size) (rxc k ch ng ra rs.length rc lo hii lz ka ks.length kc++[.slice fa fs.length fcp,.bool true,.bool false]) ⟨.mk k ch ng rs lo hii lz ks,fs,true,false⟩ :=
             ⟨_,fa,fcp,HXV3.out.mono fun b hb hlt=>by have h1:=HLT.out;have h2:wr.heap.size≤b:=hb;constructor<;>omega,HSL.out.mono fun b hb hlt=>by have h2:(w1.alloc _).heap.size≤b:=hb;simp only [World.size_alloc] at h2;constructor<;>omega,rfl⟩
            refine TfV.mono (S:=fun b=>w.heap.size<b∧b<w3.heap.size) (fun b hb _=>by have h:w.heap.size<b∧b<w3.heap.size:=hb;omega) ?_;iterate 11 (refine TfV.keep (Kept.setLow _ (fun b hb=>by have h:w.heap.size<b∧b<w3.heap.size:=hb;simp;omega)) ?_)
            exact hT.keep (Kept.all ((Below.refl _ _).alloc (Nat.le_refl _) _))
          ·skip
           have HE6:Hid (R=some (⟨.mk k ch ng rs lo hii lz ks,fs,true,true⟩,r6)):=Lib.hid (by rw [HE5.out,hfl]);clear HE5 hfl;go_wp2_with (go_at_call 36;refine(IndexByte_eq _ HIX.out).mono ?_;rintro e w4 ⟨rfl,rfl⟩)
           refine bodyPost_ret (v:=.tuple #[.agg #[.int .i64 k,.string ⟨(ch).toArray⟩,.bool ng,.slice ra rs.length rc,.int .i64 lo,.int .i64 hii,.bool lz,.slice ka ks.length kc,.slice fa fs.length fcp,.bool true,.bool true],.int .i64 (j2+(m+1)),.bool true]) (by simp [results,Tryz.results68,go_sem,z0,z1,z2,z3,z4,z5,z6,z7,z8,z9,z10]) rfl ⟨?_,?_⟩
           ·(repeat (first|with_reducible exact Below.refl _ _|with_reducible assumption|(refine Below.setCell ?_ (by first|(simp;done)|omega) _)|(refine Below.alloc ?_ (by first|(simp;done)|(simp;omega)|omega) _)|(refine Below.drew ?_)))
           ·rw [HE6.out]
            refine⟨_,j2+(m+1),rfl,?_,by omega,by omega,HDR.out⟩;have hT:TfV w3 (fun b=>w.heap.size<b∧b<w3.heap.size) (rxc k ch ng ra rs.length rc lo hii lz ka ks.length kc++[.slice fa fs.length fcp,.bool true,.bool true]) ⟨.mk k ch ng rs lo hii lz ks,fs,true,true⟩ :=
             ⟨_,fa,fcp,HXV3.out.mono fun b hb hlt=>by have h1:=HLT.out;have h2:wr.heap.size≤b:=hb;constructor<;>omega,HSL.out.mono fun b hb hlt=>by have h2:(w1.alloc _).heap.size≤b:=hb;simp only [World.size_alloc] at h2;constructor<;>omega,rfl⟩
            refine TfV.mono (S:=fun b=>w.heap.size<b∧b<w3.heap.size) (fun b hb _=>by have h:w.heap.size<b∧b<w3.heap.size:=hb;omega) ?_;iterate 11 (refine TfV.keep (Kept.setLow _ (fun b hb=>by have h:w.heap.size<b∧b<w3.heap.size:=hb;simp;omega)) ?_)
            exact hT.keep (Kept.all ((Below.refl _ _).alloc (Nat.le_refl _) _))
          ·skip
           have HE6:Hid (R=some (⟨.mk k ch ng rs lo hii lz ks,fs,true,true⟩,r6)):=Lib.hid (by rw [HE5.out,hfl]);clear HE5 hfl;go_wp2_with (go_at_call 36;refine(IndexByte_eq _ HIX.out).mono ?_;rintro e w4 ⟨rfl,rfl⟩)
           refine bodyPost_ret (v:=.tuple #[.agg #[.int .i64 k,.string ⟨(ch).toArray⟩,.bool ng,.slice ra rs.length rc,.int .i64 lo,.int .i64 hii,.bool lz,.slice ka ks.length kc,.slice fa fs.length fcp,.bool true,.bool true],.int .i64 (j2+(m+1)),.bool true]) (by simp [results,Tryz.results68,go_sem,z0,z1,z2,z3,z4,z5,z6,z7,z8,z9,z10]) rfl ⟨?_,?_⟩
           ·(repeat (first|with_reducible exact Below.refl _ _|with_reducible assumption|(refine Below.setCell ?_ (by first|(simp;done)|omega) _)|(refine Below.alloc ?_ (by first|(simp;done)|(simp;omega)|omega) _)|(refine Below.drew ?_)))
           ·rw [HE6.out]
            refine⟨_,j2+(m+1),rfl,?_,by omega,by omega,HDR.out⟩;have hT:TfV w3 (fun b=>w.heap.size<b∧b<w3.heap.size) (rxc k ch ng ra rs.length rc lo hii lz ka ks.length kc++[.slice fa fs.length fcp,.bool true,.bool true]) ⟨.mk k ch ng rs lo hii lz ks,fs,true,true⟩ :=
             ⟨_,fa,fcp,HXV3.out.mono fun b hb hlt=>by have h1:=HLT.out;have h2:wr.heap.size≤b:=hb;constructor<;>omega,HSL.out.mono fun b hb hlt=>by have h2:(w1.alloc _).heap.size≤b:=hb;simp only [World.size_alloc] at h2;constructor<;>omega,rfl⟩
            refine TfV.mono (S:=fun b=>w.heap.size<b∧b<w3.heap.size) (fun b hb _=>by have h:w.heap.size<b∧b<w3.heap.size:=hb;omega) ?_;iterate 11 (refine TfV.keep (Kept.setLow _ (fun b hb=>by have h:w.heap.size<b∧b<w3.heap.size:=hb;simp;omega)) ?_)
            exact hT.keep (Kept.all ((Below.refl _ _).alloc (Nat.le_refl _) _))
     ·have b47:((c.toNat:Int)==47)=false:=(by rw [beq_eq_false_iff_ne];omega)
      have b47':((c.toNat:Int) != 47)=true:=by simp [bne,b47]
      by_cases c92:c.toNat=92
      ·have b92:((c.toNat:Int)==92)=true:=(by rw [beq_iff_eq];omega)
       cases r with
       | nil =>
        have HS2:Hid (rxSp (s.drop (j+1)) (a++[c])=RX):=Lib.hid (by rw [Hr.out,←HS.out,hd];simp [rxSp,c47]);have hln:=drop_nil hr;have g4:decide ((j:Int)+1<(s.length:Int))=false:=decide_eq_false (by omega);clear hd HS hr c47 c92;go_wp2_with (at_builtin;refine wpList_app1 w.heap.size 5 rfl _ _ 61 rfl Tryz.underlying61 hiu rfl (by decide) rfl hown rfl (by first|rfl|simp) rfl (by simp [Value.oneCell']) (by omega) (by decide) hB ?_;intro v1 w1 hown1 hg1 hb1 hne1)
        go_roundw
        case rel =>
         refine⟨(j+1),(a++[c]),by omega,by omega,by go_num,?_,?_,hb.trans hb1,by simp;omega,HS2⟩
         ·simpa [bcells] using hown1
         ·exact(hg1.block _ (heap_lt HBY.out) (own_tag hown HBY.out (by decide)).symm).trans HBY.out
        case measure=>simp [intOf];omega
       | cons d r2 =>
        obtain⟨k2,k3,kr⟩:=drop_cons hr;have Hkr:=Lib.hid kr;have g4:decide ((j:Int)+1<(s.length:Int))=true:=decide_eq_true (by omega);have gk0:(0:Int)≤(j:Int)+1:=by omega
        have gk1:(j:Int)+1<(s.length:Int):=by omega
        have gk2:((j:Int)+1).toNat=j+1:=by omega
        by_cases d47:d.toNat=47
        ·have d47b:((d.toNat:Int)==47)=true:=(by rw [beq_iff_eq];omega)
         have d47':((d.toNat:Int) != 47)=false:=by simp [bne,d47b]
         have HS2:Hid (rxSp (s.drop (j+2)) (a++[d])=RX):=Lib.hid (by rw [←HS.out,hd,show s.drop (j+2)=r2 from Hkr.out];simp [rxSp,c92,d47]);clear hd HS hr c47 c92 d47 kr;go_wp2_with (at_builtin;refine wpList_app1 w.heap.size 5 rfl _ _ 61 rfl Tryz.underlying61 hiu rfl (by decide) rfl hown rfl (by first|rfl|simp) rfl (by simp [Value.oneCell']) (by omega) (by decide) hB ?_;intro v1 w1 hown1 hg1 hb1 hne1)
         go_roundw
         case rel =>
          refine⟨(j+2),(a++[d]),by omega,by omega,by go_num,?_,?_,hb.trans hb1,by simp;omega,HS2⟩
          ·simpa [bcells] using hown1
          ·exact(hg1.block _ (heap_lt HBY.out) (own_tag hown HBY.out (by decide)).symm).trans HBY.out
         case measure=>simp [intOf];omega
        ·have d47b:((d.toNat:Int)==47)=false:=(by rw [beq_eq_false_iff_ne];omega)
         have d47':((d.toNat:Int) != 47)=true:=by simp [bne,d47b]
         have HS2:Hid (rxSp (s.drop (j+2)) ((a++[92])++[d])=RX):=Lib.hid (by rw [←HS.out,hd,show s.drop (j+2)=r2 from Hkr.out];simp [rxSp,c92,d47]);clear hd HS hr c47 c92 d47 kr;go_wp2_with (at_builtin;first|refine wpList_app1 w.heap.size 5 rfl _ _ 61 rfl Tryz.underlying61 hiu rfl (by decide) rfl hown rfl (by first|rfl|simp) rfl (by simp [Value.oneCell']) (by omega) (by decide) hB ?_;intro v1 w1 hown1 hg1 hb1 hne1|refine wpList_app1 w.heap.size 5 rfl _ _ 61 rfl Tryz.underlying61 hiu rfl (by decide) rfl hown1 rfl (by first|rfl|simp) rfl (by simp [Value.oneCell']) (by omega) (by decide) (by have:=hb1.size;omega) ?_;intro v2 w2 hown2 hg2 hb2 hne2)
         go_roundw
         case rel =>
          refine⟨(j+2),(a++[92]++[d]),by omega,by omega,by go_num,?_,?_,(hb.trans hb1).trans hb2,by simp;omega,HS2⟩
          ·simpa [bcells] using hown2
          ·have hx1:=(hg1.block _ (heap_lt HBY.out) (own_tag hown HBY.out (by decide)).symm).trans HBY.out
           exact(hg2.block _ (heap_lt hx1) (own_tag hown1 hx1 (by decide)).symm).trans hx1
         case measure=>simp [intOf];omega
      ·have b92:((c.toNat:Int)==92)=false:=(by rw [beq_eq_false_iff_ne];omega)
       have HS2:Hid (rxSp (s.drop (j+1)) (a++[c])=RX):=Lib.hid (by rw [Hr.out,←HS.out,hd];exact(rxSp_step c47 c92 r a).symm);clear hd HS hr c47 c92;go_wp2_with (at_builtin;refine wpList_app1 w.heap.size 5 rfl _ _ 61 rfl Tryz.underlying61 hiu rfl (by decide) rfl hown rfl (by first|rfl|simp) rfl (by simp [Value.oneCell']) (by omega) (by decide) hB ?_;intro v1 w1 hown1 hg1 hb1 hne1)
       go_roundw
       case rel =>
        refine⟨(j+1),(a++[c]),by omega,by omega,by go_num,?_,?_,hb.trans hb1,by simp;omega,HS2⟩
        ·simpa [bcells] using hown1
        ·exact(hg1.block _ (heap_lt HBY.out) (own_tag hown HBY.out (by decide)).symm).trans HBY.out
       case measure=>simp [intOf];omega
  ·have b47:((c.toNat:Int)==47)=false:=(by rw [beq_eq_false_iff_ne];omega)
   have b47':((c.toNat:Int) != 47)=true:=by simp [bne,b47]
   have HE:Hid (R=none):=Lib.hid (by rw [hR,hd];simp only [formM];rw [if_neg c47]);clear hd hR hr;have z0:=blk_cell hby0 0 rfl;have z1:=blk_cell hby0 1 rfl;have z2:=blk_cell hby0 2 rfl;have z3:=blk_cell hby0 3 rfl;have z4:=blk_cell hby0 4 rfl;have z5:=blk_cell hby0 5 rfl;have z6:=blk_cell hby0 6 rfl;have z7:=blk_cell hby0 7 rfl;have z8:=blk_cell hby0 8 rfl;have z9:=blk_cell hby0 9 rfl;have z10:=blk_cell hby0 10 rfl;have zf:=blk_free hby0;clear hby0;go_enter Tryz.func68,Tryz.ntmps68
   go_wp2
   refine bodyPost_ret (v:=.tuple #[tfv0,.int .i64 0,.bool false]) (by simp [results,Tryz.results68,go_sem,tfv0,z0,z1,z2,z3,z4,z5,z6,z7,z8,z9,z10]) rfl ⟨?_,by rw [HE.out];try rfl⟩
   (repeat (first|with_reducible exact Below.refl _ _|with_reducible assumption|(refine Below.setCell ?_ (by first|(simp;done)|omega) _)|(refine Below.alloc ?_ (by first|(simp;done)|(simp;omega)|omega) _)|(refine Below.drew ?_)))
end Go.Proofs.YtbgcjpefocdkkaaGreat
set_option maxRecDepth 100000
namespace Go.Proofs.YtbgcjpefocdkkaaGreat
open Go.RowKit
theorem snip_info:(Tryz.prog.info? 40).map (fun i=>(i.zero,i.size,i.bytes))=some (some (.agg #[.int .i64 0,.string ⟨#[]⟩,.int .i64 0,.bool false,.bool false,.int .i64 0,.string ⟨#[]⟩,.bool false,.slice none 0 0,.int .i64 0,.int .i64 0,.bool false,.slice none 0 0,.slice none 0 0,.bool false,.bool false,.slice none 0 0,.slice none 0 0]),18,224):=by kernel_rfl
theorem SnV.box {w:World} {S:Nat→Prop} {cc:List Value} {x:Sn} (h:SnV w S cc x) :
  ∃(p0:Int) (p1:Str) (p2:Int) (p3 p4:Bool) (p5:Int) (p6:Str) (p7:Bool) (p8:Option Addr) (p9 p10:Nat) (p11 p12:Int) (p13:Bool) (p14:Option Addr) (p15 p16:Nat) (p17:Option Addr) (p18 p19:Nat) (p20 p21:Bool) (p22:Option Addr) (p23 p24:Nat) (p25:Option Addr) (p26 p27:Nat),
   cc=[.int .i64 p0,.string ⟨(p1).toArray⟩,.int .i64 p2,.bool p3,.bool p4,.int .i64 p5,.string ⟨(p6).toArray⟩,.bool p7,.slice p8 p9 p10,.int .i64 p11,.int .i64 p12,.bool p13,.slice p14 p15 p16,.slice p17 p18 p19,.bool p20,.bool p21,.slice p22 p23 p24,.slice p25 p26 p27]∧p0=x.kind∧p1=x.text∧p2=x.n∧p3=x.has∧p4=x.turned∧p23=x.opts.length∧p26=x.kids.length:=by
 cases h with
 | @mk k t n hs u f os ks fc oa ka oc kc css h0 h1 h2 h3 =>
  obtain⟨rk,rch,rng,rrs,rlo,rhi,rlz,rks,ra,rcp,rka,rkc,fa,fcp,hc⟩:=h0.open_;refine⟨k,t,n,hs,u,rk,rch,rng,ra,rrs.length,rcp,rlo,rhi,rlz,rka,rks.length,rkc,fa,f.fs.length,fcp,f.fold,f.all,oa,os.length,oc,ka,ks.length,kc,?_,rfl,rfl,rfl,rfl,rfl,rfl,rfl⟩;unfold snc;rw [hc.eq];rfl
theorem textS_v (w:World) (S:Nat→Prop) (t:Str):SnV w S [.int .i64 0,.string ⟨(t).toArray⟩,.int .i64 0,.bool false,.bool false,.int .i64 0,.string ⟨#[]⟩,.bool false,.slice none 0 0,.int .i64 0,.int .i64 0,.bool false,.slice none 0 0,.slice none 0 0,.bool false,.bool false,.slice none 0 0,.slice none 0 0] (textS t) :=
 SnV.close (os:=[]) (ks:=[]) (TfV.zero w S) (SlS.none_ _ _ _ _) (SnSl.nil _ _ _)
theorem OwnN.app {w w':World} {B:Nat} {S:Nat→Prop} {v v':Value} {xs ys:List Sn} {css ds:List (List Value)} {m:Nat} (hr1:SnVs w (fun b=>S b∧v.ownBlock≠some b) css xs)
  (hr2:SnVs w (fun b=>S b∧v.ownBlock≠some b) ds ys) (hm:m=ys.length)
  (ho:w'.ownsRow B 40 18 v' (xs.length+m) (css.flatten++ds.flatten)) (hg:w.grownBy w' v.ownBlock) (hmv:Moved w v v'):OwnN w' B S v' (xs++ys):=by
 subst hm;refine⟨css++ds,by rw [List.flatten_append,List.length_append];exact ho,?_⟩;have hk:Kept (fun b=>(S b∧v.ownBlock≠some b)∧b<w.heap.size) w w':=⟨hg.size,fun b hb hlt=>hg.block b hlt (fun e=>hb.1.2 e.symm)⟩;refine(((hr1.append hr2).mono (S':=fun b=>(S b∧v.ownBlock≠some b)∧b<w.heap.size) fun b h1 h2=>⟨h1,h2⟩).keep hk).mono fun b hb _=>⟨hb.1.1,fun e=>?_⟩
 rcases hmv with h|h
 ·exact hb.1.2 (h▸e)
 ·have:=h b e;omega
theorem OwnN.mono {w:World} {B:Nat} {S S':Nat→Prop} {v:Value} {xs:List Sn} (h:OwnN w B S v xs) (hS:∀b,S b→b<w.heap.size→S' b):OwnN w B S' v xs:=by
 obtain⟨css,h1,h2⟩:=h;exact⟨css,h1,h2.mono fun b hb hlt=>⟨hS b hb.1 hlt,hb.2⟩⟩
theorem OwnN.sl {w:World} {B:Nat} {S:Nat→Prop} {a:Option Addr} {n c:Nat} {xs:List Sn} (h:OwnN w B S (.slice a n c) xs):n=xs.length∧SnSl w (fun b=>S b∨B≤b) a xs.length xs:=by
 obtain⟨css,h1,h2⟩:=h;have hn:n=xs.length:=by
  rcases h1.2 with⟨h,h0⟩|⟨g,cap,cur,h,_⟩
  ·injection h with _ h _;omega
  ·injection h with _ h _
 subst hn;refine⟨rfl,css,⟨(Sl.of_own h1).1,fun hn=>?_⟩,h2.mono fun b hb _=>.inl hb.1⟩;obtain⟨b,o,e,hlt,hc⟩:=(Sl.of_own h1).2 hn;subst e;exact⟨b,o,rfl,.inr (h1.lt b rfl).1,hlt,hc⟩
def WtPost (B:Nat) (S:Nat→Prop) (v:Value) (xs:List Sn) (w:World) (e:Ending) (w':World):Prop :=
 ∃v',e=.returned v'∧OwnN w' B S v' xs∧w.grownBy w' v.ownBlock∧Moved w v v'
set_option maxHeartbeats 2000000 in
theorem withText_any {B B':Nat} {S:Nat→Prop} {v tv:Value} {xs:List Sn} {t:Str} (w:World) (h:OwnN w B S v xs) (ht:w.ownsRow B' 5 1 tv t.length (bcells t)) (hB:B≤w.heap.size) (hx:xs.length≤1000000) (htl:t.length≤1000000) :
  Calls Tryz.prog 22 #[v,tv] w fun e w'=>WtPost B S v (withT xs t) w e w':=by
 obtain⟨a,c,rfl⟩:=h.form;obtain⟨ta,tc,rfl⟩:=own_form ht;obtain⟨iN,hiN⟩:=info_parts snip_info;cases ht0:t with
 | nil =>
  subst ht0;have HW:Hid (withT xs []=xs):=Lib.hid (by simp [withT]);have H:=Lib.hid h;clear h ht;go_enter Tryz.func22,Tryz.ntmps22
  go_wp2
  go_ret
  exact⟨_,rfl,by rw [HW.out];exact H.out,grown_refl _ _,.inl rfl⟩
 | cons d r =>
  rw [←ht0];have htp:0<t.length:=by rw [ht0];simp
  have g0:((t.length:Int)==0)=false:=by rw [beq_eq_false_iff_ne];omega
  have HW:Hid (withT xs t=xs++[textS t]):=Lib.hid (by unfold withT;rw [if_neg (by rw [ht0];simp)]);have hcv:=conv_own (P:=Tryz.prog) (src:=61) (dst:=9) Tryz.underlying61 Tryz.underlying5 Tryz.underlying9 ht;obtain⟨css,ho,hv⟩:=h;have hnb:Below w.heap.size w (w.alloc (.cells #[.int .i64 0,.string ⟨(t).toArray⟩,.int .i64 0,.bool false,.bool false,.int .i64 0,.string ⟨#[]⟩,.bool false,.slice none 0 0,.int .i64 0,.int .i64 0,.bool false,.slice none 0 0,.slice none 0 0,.bool false,.bool false,.slice none 0 0,.slice none 0 0] 40)):=(Below.refl _ _).alloc (Nat.le_refl _) _;have ho1:=own_below ho hnb;have hv1:=hv.later hnb;have hlt:=ho.lt;have hsl1:=Sl.lit (n:=1) (sz:=18) (heap_alloc_new w (.cells #[.int .i64 0,.string ⟨(t).toArray⟩,.int .i64 0,.bool false,.bool false,.int .i64 0,.string ⟨#[]⟩,.bool false,.slice none 0 0,.int .i64 0,.int .i64 0,.bool false,.slice none 0 0,.slice none 0 0,.bool false,.bool false,.slice none 0 0,.slice none 0 0] 40)) rfl;have hone:=(textS_v w S t).one;have HO1:=Lib.hid ho1;have HV1:=Lib.hid hv1;have HSL:=Lib.hid hsl1;have HNB:=Lib.hid hnb;have HONE:=Lib.hid hone;clear ho hv ho1 hv1 hsl1 hnb hone ht ht0;go_enter Tryz.func22,Tryz.ntmps22
  go_wp2_with (at_builtin;refine wpList_appM B 40 rfl _ _ 23 rfl Tryz.underlying23 hiN rfl (by decide) rfl HO1.out rfl HSL.out HONE.out (by omega) (by omega) (by decide) (by simp;omega) ?_)
  intro v7 w7 ho7 hq7 hb7 hmv;have hg7:w.grownBy w7 (Value.slice a xs.length c).ownBlock:=grown_trans (grown_of_below HNB.out _) hq7;go_wp2
  go_ret
  refine⟨_,rfl,?_,hg7,?_⟩
  ·rw [HW.out]
   refine OwnN.app (ds:=[_]) (m:=1) HV1.out (.cons (textS_v _ _ t) .nil) rfl ?_ hq7 hmv;simpa using ho7
  ·rcases hmv with hm|hm
   ·exact .inl hm
   ·exact .inr fun k hk=>by have:=hm k hk;simp at this;omega
end Go.Proofs.YtbgcjpefocdkkaaGreat
set_option maxRecDepth 100000
namespace Go.Proofs.YtbgcjpefocdkkaaGreat
open Go.RowKit Go.Maps Go.MapKept
open Go.ChangeMaps (setBlock modify_eq_set)
theorem mp_look {P:Program} {w:World} {t kt et:TypeId} {m:Nat} {es:Array MapEntry} {clock:Nat} {z key:Value} {kl:Lit} (K:Keyed P kt) (ht:P.underlying t=some (.map kt et)) (hz:(zeroValue et).run P w=.ok z w)
  (hb:w.heap[m]?=some (.map es clock)) (hk:∀x∈es.toList,∃l,keyOf P kt x.key=some l) (hkey:keyOf P kt key=some kl) :
  ((Instr.lookup t (.map (some m)) key true).run P w=.ok (.tuple #[z,.bool false]) w∧∀x∈es.toList,x.key≠key) ∨
  ∃e0∈es.toList,e0.key=key∧(Instr.lookup t (.map (some m)) key true).run P w=.ok (.tuple #[e0.val,.bool true]) w:=by
 rcases K.find w hkey es.toList hk with⟨h1,h2⟩|⟨j,e0,h1,h2,h3⟩
 ·exact Or.inl ⟨by simp [Instr.lookup,run_underlying ht,MapKept.run_getObj_map hb,K.check w _ hkey,h1,hz,Result.andThen],h2⟩
 ·exact Or.inr ⟨e0,List.mem_of_getElem? h2,h3,by simp [Instr.lookup,run_underlying ht,MapKept.run_getObj_map hb,K.check w _ hkey,h1,Result.andThen]⟩
theorem mp_store {P:Program} {w:World} {t kt et:TypeId} {m:Nat} {es:Array MapEntry} {clock:Nat} {key val:Value} {kl:Lit} (K:Keyed P kt) (ht:P.underlying t=some (.map kt et))
  (hb:w.heap[m]?=some (.map es clock)) (hk:∀x∈es.toList,∃l,keyOf P kt x.key=some l) (hkey:keyOf P kt key=some kl) :
  ∃es' clock',(Instr.mapUpdate t (.map (some m)) key val).run P w=.ok () (setBlock w m (.map es' clock'))∧∀x∈es'.toList,x∈es.toList∨(x.key=key∧x.val=val):=by
 rcases K.find w hkey es.toList hk with⟨h1,h2⟩|⟨j,e0,h1,h2,h3⟩
 ·refine⟨es.push ⟨key,val,clock⟩,clock+1,?_,fun x hx=>?_⟩
  ·simp [Instr.mapUpdate,run_underlying ht,MapKept.run_getObj_map hb,K.check w false hkey,h1,MapKept.run_setObj_map _ hb,Result.andThen,setBlock]
  ·simp only [Array.toList_push,List.mem_append,List.mem_singleton] at hx
   rcases hx with hx|rfl
   ·exact .inl hx
   ·exact .inr ⟨rfl,rfl⟩
 ·have hj:es[j]?=some e0:=by simpa using h2
  have hlist:(es.modify j (fun e'=>{ e' with key:=key,val:=val })).toList=es.toList.set j { e0 with key:=key,val:=val }:=by rw [Array.toList_modify,modify_eq_set _ _ _ _ h2]
  refine⟨es.modify j (fun e'=>{ e' with key:=key,val:=val }),clock,?_,fun x hx=>?_⟩
  ·simp [Instr.mapUpdate,run_underlying ht,MapKept.run_getObj_map hb,K.check w false hkey,h1,hj,h3,K.stays w hkey,MapKept.run_setObj_map _ hb,Result.andThen,setBlock]
  ·rw [hlist] at hx
   rcases List.mem_or_eq_of_mem_set hx with hx|rfl
   ·exact .inl hx
   ·exact .inr ⟨rfl,rfl⟩
theorem wpList_mp {P:Program} (w:World) {ops:Array Oper} {rest:List Oper} {o:Oper} {a:Act} {Q:Exit→Act→World→Prop} (hg:o.guard=none) (m x v:Operand) (t:TypeId) (hop:o.op=Op.mapUpdate t m x v)
  (kt et:TypeId) (K:Keyed P kt) (ht:P.underlying t=some (.map kt et)) (b:Nat) (es:Array MapEntry) (clock:Nat) (hm:a.eval m=.map (some b)) (hb:w.heap[b]?=some (.map es clock)) (hk:∀x∈es.toList,∃l,keyOf P kt x.key=some l)
  (key val:Value) (kl:Lit) (hx:a.eval x=key) (hv:a.eval v=val) (hkey:keyOf P kt key=some kl)
  (hK:∀es' clock',(∀x∈es'.toList,x∈es.toList∨(x.key=key∧x.val=val))→wpList P ops Q rest (a.put o.dst undef) (setBlock w b (.map es' clock'))) :
  wpList P ops Q (o::rest) a w:=by
 refine wpList_plain hg fun K' hK'=>?_
 obtain⟨es',clock',hrun,r1⟩:=mp_store (val:=val) K ht hb hk hkey;unfold Oper.wp;simp [execOp,hop,hm,hx,hv,hrun,Result.andThen]
 exact hK' _ _ (hK es' clock' r1)
theorem setBlock_heap {w:World} {b:Nat} {o o':Obj} (h:w.heap[b]?=some o):(setBlock w b o').heap[b]?=some o':=by
 have hlt:=(Array.getElem?_eq_some_iff.1 h).1;simp [setBlock,hlt]
theorem setBlock_other {w:World} {b k:Nat} (o:Obj) (h:k≠b):(setBlock w b o).heap[k]?=w.heap[k]?:=by
 simp only [setBlock];rw [Array.getElem?_setIfInBounds_ne (Ne.symm h)]
theorem setBlock_size (w:World) (b:Nat) (o:Obj):(setBlock w b o).heap.size=w.heap.size:=by simp [setBlock]
end Go.Proofs.YtbgcjpefocdkkaaGreat
set_option maxRecDepth 100000
namespace Go.Proofs.YtbgcjpefocdkkaaGreat
open Go.RowKit Go.Maps Go.MapKept
open Go.ChangeMaps (setBlock)
theorem int_key:Keyed Tryz.prog 3:=int_keyed Tryz.underlying3
theorem int_lit {k:Nat} (h:k≤100000000):keyOf Tryz.prog 3 (.int .i64 (k:Int))=some (.int .i64 (k:Int)):=keyOf_int_mk Tryz.underlying3 (by have h1:IntKind.i64.min=-9223372036854775808:=(by decide);have h2:IntKind.i64.max=9223372036854775807:=(by decide);simp only [Lit.wf,h1,h2,Bool.and_eq_true,decide_eq_true_eq];omega)
def FndV (w:World) (S:Nat→Prop) (s:Str) (k:Nat) (v:Value):Prop :=
 ∃(cc:List Value) (x:Sn) (e:Nat) (ok:Bool),v=.agg (cc++[Value.int .i64 (e:Int),Value.bool ok]).toArray∧SnV w S cc x∧e≤s.length ∧
  match partS (s.drop (k+1)) with
  | some (y,r)=>ok=true∧x=y∧s.drop e=r
  | none=>ok=false∧e=k
structure Rs (S:Nat→Prop) (w:World) (g m:Nat) (s:Str) (i:Nat):Prop where
 pl:Pl [.map (some m)] w g s i
 gm:m<g
 mp:∃es clock,w.heap[m]?=some (.map es clock)∧∀e∈es.toList,∃k:Nat,k≤s.length∧e.key=.int .i64 (k:Int)∧FndV w S s k e.val
 ng:¬S g
 nm:¬S m
 lt:∀b,S b→b<w.heap.size
theorem FndV.keep {w w':World} {S:Nat→Prop} {s:Str} {k:Nat} {v:Value} (h:FndV w S s k v) (hk:Kept S w w'):FndV w' S s k v:=by
 obtain⟨cc,x,e,ok,h1,h2,h3⟩:=h;exact⟨cc,x,e,ok,h1,h2.keep hk,h3⟩
theorem FndV.mono {w:World} {S S':Nat→Prop} {s:Str} {k:Nat} {v:Value} (h:FndV w S s k v) (hS:∀b,S b→b<w.heap.size→S' b):FndV w S' s k v:=by
 obtain⟨cc,x,e,ok,h1,h2,h3⟩:=h;exact⟨cc,x,e,ok,h1,h2.mono hS,h3⟩
theorem Rs.mlt {S:Nat→Prop} {w:World} {g m:Nat} {s:Str} {i:Nat} (h:Rs S w g m s i):m<w.heap.size:=Nat.lt_trans h.gm h.pl.lt
theorem Rs.moved {S:Nat→Prop} {w w':World} {g m:Nat} {s:Str} {i j:Nat} (h:Rs S w g m s i) (hp:Pl [.map (some m)] w' g s j) (hz:w.heap.size≤w'.heap.size) (hk:∀b,(S b∨b=m)→b<w.heap.size→w'.heap[b]?=w.heap[b]?):Rs S w' g m s j:=by
 obtain⟨es,clock,h1,h2⟩:=h.mp;have hK:Kept S w w':=⟨hz,fun b hb hlt=>hk b (.inl hb) hlt⟩;exact⟨hp,h.gm,⟨es,clock,(hk m (.inr rfl) h.mlt).trans h1,fun e he=>by
  obtain⟨k,a,b,c⟩:=h2 e he;exact⟨k,a,b,c.keep hK⟩⟩,h.ng,h.nm,fun b hb=>Nat.lt_of_lt_of_le (h.lt b hb) hz⟩
theorem Rs.place {S:Nat→Prop} {w w':World} {g m:Nat} {s:Str} {i j:Nat} (h:Rs S w g m s i) (hp:Pl [.map (some m)] w' g s j) (hg:w.grownBy w' (some g)):Rs S w' g m s j :=
 h.moved hp hg.size fun b hb hlt=>hg.block b hlt (by
  have:b≠g:=by
   rcases hb with hb|rfl
   ·rintro rfl;exact h.ng hb
   ·exact Nat.ne_of_lt h.gm
  first
   | exact this
   | exact fun e=>this (by injection e)
   | exact fun e=>this (by injection e with e;exact e.symm))
theorem Rs.later {S:Nat→Prop} {w w':World} {g m:Nat} {s:Str} {i:Nat} (h:Rs S w g m s i) (hb:Below w.heap.size w w'):Rs S w' g m s i :=
 h.moved (h.pl.later hb) hb.size fun b _ hlt=>hb.block b hlt
theorem Rs.aside {S:Nat→Prop} {w w':World} {g m:Nat} {s:Str} {i:Nat} (h:Rs S w g m s i) {row:Option Nat} (hg:w.grownBy w' row) (hr:∀b,row=some b→¬S b∧b≠g∧b≠m):Rs S w' g m s i:=by
 have hne:∀b,(S b∨b=m∨b=g)→row≠some b:=fun b hb e=>by
  obtain⟨h1,h2,h3⟩:=hr b e;rcases hb with hb|hb|hb
  ·exact h1 hb
  ·exact h3 hb
  ·exact h2 hb
 refine h.moved (h.pl.grownHi hg (hne g (.inr (.inr rfl)))) hg.size fun b hb hlt=>hg.block b hlt ?_
 have:=hne b (hb.imp id .inl)
 first
  | exact this
  | exact fun e=>this e.symm
  | exact fun e=>this e
theorem Rs.setCell {S:Nat→Prop} {w:World} {g m:Nat} {s:Str} {i:Nat} (h:Rs S w g m s i) {a:Addr} (ha:¬S a.block∧a.block≠g∧a.block≠m) (u:Value):Rs S (w.setCell a u) g m s i :=
 h.moved (h.pl.setHi ha.2.1 u) (by simp [World.setCell]) fun b hb _=>heap_setCell_other w a b u (by
  rcases hb with hb|hb
  ·rintro rfl;exact ha.1 hb
  ·rintro rfl;exact ha.2.2 hb)
theorem Rs.mono {S S':Nat→Prop} {w:World} {g m:Nat} {s:Str} {i:Nat} (h:Rs S w g m s i) (hS:∀b,S b→S' b) (ng:¬S' g) (nm:¬S' m) (lt:∀b,S' b→b<w.heap.size):Rs S' w g m s i:=by
 obtain⟨es,clock,h1,h2⟩:=h.mp;exact⟨h.pl,h.gm,⟨es,clock,h1,fun e he=>by
  obtain⟨k,a,b,c⟩:=h2 e he;exact⟨k,a,b,c.mono fun b hb _=>hS b hb⟩⟩,ng,nm,lt⟩
structure Gr2 (g m:Nat) (w w':World):Prop where
 os:w'.os=w.os
 tape:w'.tape=w.tape
 output:w'.output=w.output
 size:w.heap.size≤w'.heap.size
 block:∀k,k<w.heap.size→k≠g→k≠m→w'.heap[k]?=w.heap[k]?
theorem Gr2.refl (g m:Nat) (w:World):Gr2 g m w w:=⟨rfl,rfl,rfl,Nat.le_refl _,fun _ _ _ _=>rfl⟩
theorem Gr2.trans {g m:Nat} {a b c:World} (h:Gr2 g m a b) (k:Gr2 g m b c):Gr2 g m a c :=
 ⟨k.os.trans h.os,k.tape.trans h.tape,k.output.trans h.output,Nat.le_trans h.size k.size,fun i hi h1 h2=>(k.block i (Nat.lt_of_lt_of_le hi h.size) h1 h2).trans (h.block i hi h1 h2)⟩
theorem Gr2.grown {g m:Nat} {w w':World} (h:w.grownBy w' (some g)):Gr2 g m w w':=⟨h.os,h.tape,h.output,h.size,fun k hk hg _=>h.block k hk (by first|exact hg|exact fun e=>hg (by injection e)|exact fun e=>hg (by injection e with e;exact e.symm))⟩
theorem Gr2.below {g m:Nat} {w w':World} (h:Below w.heap.size w w'):Gr2 g m w w':=⟨h.os,h.tape,h.output,h.size,fun k hk _ _=>h.block k hk⟩
theorem Gr2.row {g m:Nat} {w0 w w':World} {v:Value} {B:Nat} (h:Gr2 g m w0 w) (hl:∀k,v.ownBlock=some k→B≤k) (hB:w0.heap.size≤B) (hg:w.grownBy w' v.ownBlock):Gr2 g m w0 w' :=
 ⟨hg.os.trans h.os,hg.tape.trans h.tape,hg.output.trans h.output,Nat.le_trans h.size hg.size,fun k hk h1 h2=>(hg.block k (Nat.lt_of_lt_of_le hk h.size) (by
  intro e;first
   | (have:=hl k e;omega)
   | (have:=hl k e.symm;omega))).trans (h.block k hk h1 h2)⟩
theorem Gr2.setNew {g m:Nat} {w0 w:World} (h:Gr2 g m w0 w) {a:Addr} (ha:w0.heap.size≤a.block) (u:Value):Gr2 g m w0 (w.setCell a u) :=
 ⟨h.os,h.tape,h.output,by simp [World.setCell];exact h.size,fun k hk h1 h2=>(heap_setCell_other w a k u (by omega)).trans (h.block k hk h1 h2)⟩
end Go.Proofs.YtbgcjpefocdkkaaGreat
set_option maxRecDepth 100000
namespace Go.Proofs.YtbgcjpefocdkkaaGreat
open Go.RowKit
theorem sr_heap {w:World} {b:Nat} {cs old:Array Value} {t:TypeId} {f:Nat × Nat} (h:w.heap[b]?=some (.cells old t f)):(w.setRow b cs).heap[b]?=some (.cells cs t f):=by
 simp [World.setRow,Array.getElem?_modify,h]
theorem sr_other {w:World} {b k:Nat} (cs:Array Value) (h:k≠b):(w.setRow b cs).heap[k]?=w.heap[k]?:=by
 simp only [World.setRow,Array.getElem?_modify];rw [if_neg (Ne.symm h)]
theorem sr_size (w:World) (b:Nat) (cs:Array Value):(w.setRow b cs).heap.size=w.heap.size:=by simp [World.setRow]
theorem res_box {fn:Func} {p u:Tmp} {ty t:TypeId} {tmps:Array Value} {w:World} {b:Nat} {cs:Array Value} {f:Nat × Nat} {fs:Array Field} {n:Nat} {v:Value} (hr:fn.results=#[.cell p ty,.tmp u]) (hu:Tryz.prog.underlying ty=some (.struct fs)) (hi:(Tryz.prog.info? ty).map (·.size)=some n)
  (h:w.heap[b]?=some (.cells cs t f)) (hn:cs.size=n) (hp:tmps.getD p undef=.pointer (some ⟨b,0,none⟩)) (hv:tmps.getD u undef=v):(results fn tmps).run Tryz.prog w=.ok (.tuple #[.agg cs,v]) w:=by
 subst hn;rw [results_cell_tmp hr,hp,hv];simp only [asAddr,Sem.run_pure,Result.andThen];rw [run_loadVar_row w b t ty cs f _ h hu rfl hi]
theorem wpList_stW {P:Program} {ops:Array Oper} {rest:List Oper} {o:Oper} {a:Act} {w W:World} {Q:Exit→Act→World→Prop} (hgd:o.guard=none) (ty:TypeId) (x y:Operand) (ho:o.op=.store ty x y)
  (g:Nat) (cells:Array Value) (hx:a.eval x=.pointer (some ⟨g,0,none⟩)) (hy:a.eval y=.agg cells)
  (t:TypeId) (old:Array Value) {n:Nat} (hg:w.heap[g]?=some (.cells old t (0,0))) (hi:(P.info? ty).map (·.size)=some n) (hn:cells.size=n)
  (hold:old.size=n) (h1:∀u∈cells.toList,u.oneCell'=true) (hW:w.setRow g cells=W)
  (h:wpList P ops Q rest (a.put o.dst undef) W):wpList P ops Q (o::rest) a w:=by
 subst hn;subst hW;exact wpList_store_row hgd ty x y ho g cells hx hy t old hg hi hold (Array.all_eq_true_iff_forall_mem.2 (fun v hv=>h1 v (by simpa using hv))) h
theorem wpList_ldW {P:Program} {ops:Array Oper} {rest:List Oper} {op:Oper} {a:Act} {w:World} {Q:Exit→Act→World→Prop} (hgd:op.guard=none) (ty:TypeId) (x:Operand) (ho:op.op=.load ty x)
  (b o:Nat) (hx:a.eval x=.pointer (some ⟨b,o,none⟩)) (cs:List Value) (d:TypeDesc) (hc:w.rangeAt b o cs)
  (hu:P.underlying ty=some d) (hd:d.isRow=true) (hi:(P.info? ty).map (·.size)=some cs.length)
  (h:wpList P ops Q rest (a.put op.dst (.agg cs.toArray)) w):wpList P ops Q (op::rest) a w:=wpList_load_mid hgd ty x ho b o hx cs d hc hu hd hi h
theorem wpList_lk {P:Program} {ops:Array Oper} {rest:List Oper} {o:Oper} {a:Act} {w:World} {Q:Exit→Act→World→Prop} (hgd:o.guard=none) (t:TypeId) (x y:Operand) (ho:o.op=.lookup t x y true) {mv kv v:Value}
  (hx:a.eval x=mv) (hy:a.eval y=kv) (hl:(Instr.lookup t mv kv true).run P w=.ok v w) (h:wpList P ops Q rest (a.put o.dst v) w):wpList P ops Q (o::rest) a w:=by
 refine wpList_plain hgd fun K hK=>?_
 unfold Oper.wp;simp [execOp,ho,hx,hy,hl,Result.andThen]
 exact hK _ _ h
theorem still_ld {P:Program} {ops:Array Oper} {rest:List Oper} {op:Oper} {a:Act} {w:World} {Q:Act→Prop} (hgd:op.guard=none) (ty:TypeId) (x:Operand) (ho:op.op=.load ty x)
  (b o:Nat) (hx:a.eval x=.pointer (some ⟨b,o,none⟩)) (cs:List Value) (d:TypeDesc) (hc:w.rangeAt b o cs)
  (hu:P.underlying ty=some d) (hd:d.isRow=true) (hi:(P.info? ty).map (·.size)=some cs.length)
  (h:wpStill P ops w Q rest (a.put op.dst (.agg cs.toArray))):wpStill P ops w Q (op::rest) a:=by
 refine wpStill_step fun K hK=>?_
 rw [if_pos (by simp [Region.wanted,hgd])];unfold Oper.still execOp;simp only [ho,hx,Instr.loadAt,Instr.sureAddr,Sem.run_bind,Sem.run_pure,Result.andThen_ok,run_loadVar_mid w b o ty cs d hc hu hd hi];rw [Oper.stillUpon_value];exact hK _ h
theorem range_blk {w:World} {b:Nat} {cs ds:List Value} {t:TypeId} {f:Nat × Nat} (h:w.heap[b]?=some (.cells (cs++ds).toArray t f)):w.rangeAt b 0 cs:=fun j v hv=>by
 rw [Nat.zero_add,Lib.cell_of_heap h];have:=(List.getElem?_eq_some_iff.1 hv).1
 simp [List.getElem?_append_left this,hv]
end Go.Proofs.YtbgcjpefocdkkaaGreat
