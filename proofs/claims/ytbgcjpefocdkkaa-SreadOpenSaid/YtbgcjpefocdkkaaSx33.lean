/- walk of gimletlaw21.SreadOpen: the beginnings that take a space -/
import Derived.Test.YtbgcjpefocdkkaaSx1
import Derived.Test.YtbgcjpefocdkkaaSx2
import Derived.Test.YtbgcjpefocdkkaaSx3
import Derived.Test.YtbgcjpefocdkkaaSx4
import Derived.Test.YtbgcjpefocdkkaaSx5
import Derived.Test.YtbgcjpefocdkkaaSx6
import Derived.Test.YtbgcjpefocdkkaaSx7
import Derived.Test.YtbgcjpefocdkkaaSx8
import Derived.Test.YtbgcjpefocdkkaaSx9
import Derived.Test.YtbgcjpefocdkkaaSx10
import Derived.Test.YtbgcjpefocdkkaaSx11
import Derived.Test.YtbgcjpefocdkkaaSx12
import Derived.Lib.ItoaMem
import Derived.Test.YtbgcjpefocdkkaaSx13
import Derived.Test.YtbgcjpefocdkkaaSx32
import Derived.Test.YtbgcjpefocdkkaaSx14
import Derived.Test.YtbgcjpefocdkkaaSx15
import Derived.Test.YtbgcjpefocdkkaaSx16
import Derived.Test.YtbgcjpefocdkkaaSx17
import Derived.Test.YtbgcjpefocdkkaaSx18
import Derived.Test.YtbgcjpefocdkkaaSx19
import Derived.Test.YtbgcjpefocdkkaaSx20
import Derived.Test.YtbgcjpefocdkkaaSx21
import Derived.Test.YtbgcjpefocdkkaaSx22
import Derived.Test.YtbgcjpefocdkkaaSx23
import Derived.Test.YtbgcjpefocdkkaaSx24
import Derived.Test.YtbgcjpefocdkkaaSx25
import Derived.Test.YtbgcjpefocdkkaaSx26
import Derived.Test.YtbgcjpefocdkkaaSx27
import Derived.Test.YtbgcjpefocdkkaaSx28
import Derived.Test.YtbgcjpefocdkkaaSx29
set_option maxRecDepth 100000
namespace Go.Proofs.Ytbgcjpefocdkkaa
open Go.RowKit
set_option maxHeartbeats 4000000 in
theorem SreadOpen_3n (s:Str) (z:Int) (w:World) (hno:125 ∉ s) (hl:s.length≤100) (hk:low z 9=3) (hz:s.length=0):Calls Try.prog 7 #[.string ⟨(s).toArray⟩,.int .i64 z] w fun e w'=>e=.returned (.bool true)∧Below w.heap.size w w':=by
 have dgi:decide ((0:Int)<(s.length:Int))=false:=decide_eq_false (by omega);have dgn:decide (0<s.length)=false:=decide_eq_false (by omega);have hno0:=hno;obtain⟨L,hr,hj,hsm,hLl⟩:=open_read (h:=[123,49]) (s:=s) (part_open hno (h:=[49]) (by decide)) (by decide) hno (by simp;omega);have hBl:(snipL s).length≤1000:=by
  have h5:=Sn.len_parts (snipL s);have h6:=(snip_good s).2.2.1;omega
 have H1:=Lib.hid (sreadH hr (by simp;omega));have H2:=Lib.hid (sreadH (open_self hno (by omega)) (by omega));have HJ:=Lib.hid (open_join hj (by simp;omega));have HS:=Lib.hid (nsame hsm hLl);have HL:=Lib.hid (fun w=>hk▸Low_any z 9 w (by omega) (by omega));have HNO:=Lib.hid hno0;obtain⟨iN,hiN⟩:=info_parts snip_info;obtain⟨B,hB⟩:∃B,snipL s=B:=⟨_,rfl⟩;rw [hB] at H2 HJ hBl;have dg:decide ((100:Int)<(s.length:Int))=false:=decide_eq_false (by omega);clear hr hj hsm hLl hno hno0 hB hk;go_enter Try.func7,Try.ntmps7
 go_wp2
 go_loopw [5] (fun q wr=>OnRel s w q wr) (fun q _=>s.length-(intOf q).toNat)
 case atStart=>exact⟨0,rfl,by omega,rfl⟩
 case round =>
  obtain⟨i,rfl,hi,rfl⟩:=hrel;cases hd:s.drop i with
  | cons c r =>
   obtain⟨h2,h3,hr⟩:=drop_cons hd;have hcm:c.toNat≠125:=fun e=>HNO.out (by
    obtain rfl:c=125:=UInt8.toNat_inj.1 e;rw [←h3 h2];exact List.getElem_mem h2)
   have hcb:((c.toNat:Int)==125)=false:=by rw [beq_eq_false_iff_ne];omega
   clear hd hr hcm;try clear dgi dgn hz
   go_wp2
   go_roundw
   case rel=>exact⟨i+1,by go_num,by omega,rfl⟩
   case measure=>simp [intOf];omega
  | nil =>
   have h2:=drop_nil hd;clear hd HNO;go_wp2_with (go_at_call 9;refine(HL.out _).mono ?_)
   first|rintro e wl rfl hwl|rintro e wl ⟨rfl,hwl⟩
   have hb1:Below w.heap.size w wl:=by rw [←hwl];exact(Below.refl _ _).alloc (Nat.le_refl _) _
   have c1:wl.cell? ⟨w.heap.size,3,none⟩=some (.string ⟨([36,123,49]).toArray⟩):=by rw [←hwl];rw [Lib.cell_of_heap (heap_alloc_new _ _)];rfl
   clear hwl;go_wp2_with (go_at_call 10;refine(H1.out _ _ (by simp)).mono ?_)
   rintro e w2 ⟨a2,c2,rfl,hb2,hs2⟩;go_wp2_with (go_at_call 10;refine(H2.out _ _ rfl).mono ?_)
   rintro e w3 ⟨a3,c3,rfl,hb3,hs3⟩;have hbw3:=bel2 (bel2 hb1 hb2) hb3;have HA:=Lib.hid (hs2.later hb3);have hb4:Below w3.heap.size w3 (w3.alloc (.cells #[.int .i64 0,.string ⟨((36::[123,49])).toArray⟩,.int .i64 0,.bool false,.bool false,.int .i64 0,.string ⟨#[]⟩,.bool false,.slice none 0 0,.int .i64 0,.int .i64 0,.bool false,.slice none 0 0,.slice none 0 0,.bool false,.bool false,.slice none 0 0,.slice none 0 0] 36)):=(Below.refl _ _).alloc (Nat.le_refl _) _;obtain⟨css,hsl,hvs⟩:=(hs3.mono (S':=fun b=>b<w3.heap.size) (fun b _ hlt=>hlt)).later hb4;have HSL:=Lib.hid hsl.sl;have HVS:=Lib.hid (hvs.mono (S':=fun b=>b<w3.heap.size∧(Value.slice (some ⟨w3.heap.size,0,none⟩) 1 1).ownBlock≠some b) (fun b hb _=>⟨hb,fun e=>by simp [Value.ownBlock] at e;omega⟩));have HONE:=Lib.hid hvs.one;have HOW:=Lib.hid (own_lit1 w3 #[.int .i64 0,.string ⟨((36::[123,49])).toArray⟩,.int .i64 0,.bool false,.bool false,.int .i64 0,.string ⟨#[]⟩,.bool false,.slice none 0 0,.int .i64 0,.int .i64 0,.bool false,.slice none 0 0,.slice none 0 0,.bool false,.bool false,.slice none 0 0,.slice none 0 0] rfl);have HB4:=Lib.hid hb4;clear hb1 hb2 hb3 hs2 hs3 hb4 hsl hvs c1;go_wp2_with (at_builtin;refine wpList_appG (by rfl) w3.heap.size 36 _ _ 23 rfl Try.underlying23 hiN rfl (by decide) rfl HOW.out rfl HSL.out HONE.out (by omega) (by omega) (by decide) (by simp) ?_)
   intro v' w5 ho5 hg5 hb5 hmv;obtain⟨a5,c5,rfl⟩:=own_form ho5;have how:=OwnN.app (css:=[[.int .i64 0,.string ⟨((36::[123,49])).toArray⟩,.int .i64 0,.bool false,.bool false,.int .i64 0,.string ⟨#[]⟩,.bool false,.slice none 0 0,.int .i64 0,.int .i64 0,.bool false,.slice none 0 0,.slice none 0 0,.bool false,.bool false,.slice none 0 0,.slice none 0 0]]) (S:=fun b=>b<w3.heap.size) (v:=Value.slice (some ⟨w3.heap.size,0,none⟩) 1 1) (xs:=[textS (36::[123,49])]) (m:=B.length) (.cons (textS_v _ _ _) .nil) HVS.out rfl (by simpa using ho5) hg5 hmv;have hs5:SnSl w5 (fun _=>True) a5 (1+B.length) (textS (36::[123,49])::B):=by
    have:=how.sl.2.mono (S':=fun _=>True) (fun _ _ _=>trivial)
    rw [List.length_append] at this;exact this
   have hb35:=HB4.out.trans hb5;have HJ5:=Lib.hid (HJ.out (1+B.length) (by simp;omega) _ a5 c5 w5 hs5);have HB35:=Lib.hid hb35;clear ho5 hg5 hb5 hmv how hs5 hb35;go_wp2_with (go_at_call 18;refine HJ5.out.mono ?_)
   rintro e w6 ⟨a6,c6,rfl,hs6,hb6⟩;have hb36:=HB35.out.trans (hb6.mono HB35.out.size);have HSa:=Lib.hid (HS.out _ _ a2 a6 c2 c6 w6 (HA.out.later hb36) hs6);have hbw6:=bel2 hbw3 hb36;clear hs6 hb6 hb36;go_wp2_with (go_at_call 15;refine HSa.out.mono ?_)
   first|rintro e w7 rfl hb7|rintro e w7 ⟨rfl,hb7⟩
   have hbw7:=bel2 hbw6 hb7;go_wp2_with (go_at_call 11;refine(awake21 _).mono ?_;rintro e w9 ⟨rfl,hb9⟩)
   go_ret
   exact⟨rfl,bel2 hbw7 hb9⟩
set_option maxHeartbeats 4000000 in
theorem SreadOpen_3s (s:Str) (z:Int) (w:World) (hno:125 ∉ s) (hl:s.length≤100) (hk:low z 9=3) (hz:0<s.length):Calls Try.prog 7 #[.string ⟨(s).toArray⟩,.int .i64 z] w fun e w'=>e=.returned (.bool true)∧Below w.heap.size w w':=by
 have dgi:decide ((0:Int)<(s.length:Int))=true:=decide_eq_true (by omega);have dgn:decide (0<s.length)=true:=decide_eq_true (by omega);have hno0:=hno;obtain⟨L,hr,hj,hsm,hLl⟩:=open_read (h:=[123,49,32]) (s:=s) (part_open hno (h:=[49,32]) (by decide)) (by decide) hno (by simp;omega);have hBl:(snipL s).length≤1000:=by
  have h5:=Sn.len_parts (snipL s);have h6:=(snip_good s).2.2.1;omega
 have H1:=Lib.hid (sreadH hr (by simp;omega));have H2:=Lib.hid (sreadH (open_self hno (by omega)) (by omega));have HJ:=Lib.hid (open_join hj (by simp;omega));have HS:=Lib.hid (nsame hsm hLl);have HL:=Lib.hid (fun w=>hk▸Low_any z 9 w (by omega) (by omega));have HNO:=Lib.hid hno0;obtain⟨iN,hiN⟩:=info_parts snip_info;obtain⟨B,hB⟩:∃B,snipL s=B:=⟨_,rfl⟩;rw [hB] at H2 HJ hBl;have dg:decide ((100:Int)<(s.length:Int))=false:=decide_eq_false (by omega);clear hr hj hsm hLl hno hno0 hB hk;go_enter Try.func7,Try.ntmps7
 go_wp2
 go_loopw [5] (fun q wr=>OnRel s w q wr) (fun q _=>s.length-(intOf q).toNat)
 case atStart=>exact⟨0,rfl,by omega,rfl⟩
 case round =>
  obtain⟨i,rfl,hi,rfl⟩:=hrel;cases hd:s.drop i with
  | cons c r =>
   obtain⟨h2,h3,hr⟩:=drop_cons hd;have hcm:c.toNat≠125:=fun e=>HNO.out (by
    obtain rfl:c=125:=UInt8.toNat_inj.1 e;rw [←h3 h2];exact List.getElem_mem h2)
   have hcb:((c.toNat:Int)==125)=false:=by rw [beq_eq_false_iff_ne];omega
   clear hd hr hcm;try clear dgi dgn hz
   go_wp2
   go_roundw
   case rel=>exact⟨i+1,by go_num,by omega,rfl⟩
   case measure=>simp [intOf];omega
  | nil =>
   have h2:=drop_nil hd;clear hd HNO;go_wp2_with (go_at_call 9;refine(HL.out _).mono ?_)
   first|rintro e wl rfl hwl|rintro e wl ⟨rfl,hwl⟩
   have hb1:Below w.heap.size w wl:=by rw [←hwl];exact(Below.refl _ _).alloc (Nat.le_refl _) _
   have c1:wl.cell? ⟨w.heap.size,3,none⟩=some (.string ⟨([36,123,49]).toArray⟩):=by rw [←hwl];rw [Lib.cell_of_heap (heap_alloc_new _ _)];rfl
   clear hwl;go_wp2_with (go_at_call 10;refine(H1.out _ _ (by simp)).mono ?_)
   rintro e w2 ⟨a2,c2,rfl,hb2,hs2⟩;go_wp2_with (go_at_call 10;refine(H2.out _ _ rfl).mono ?_)
   rintro e w3 ⟨a3,c3,rfl,hb3,hs3⟩;have hbw3:=bel2 (bel2 hb1 hb2) hb3;have HA:=Lib.hid (hs2.later hb3);have hb4:Below w3.heap.size w3 (w3.alloc (.cells #[.int .i64 0,.string ⟨((36::[123,49,32])).toArray⟩,.int .i64 0,.bool false,.bool false,.int .i64 0,.string ⟨#[]⟩,.bool false,.slice none 0 0,.int .i64 0,.int .i64 0,.bool false,.slice none 0 0,.slice none 0 0,.bool false,.bool false,.slice none 0 0,.slice none 0 0] 36)):=(Below.refl _ _).alloc (Nat.le_refl _) _;obtain⟨css,hsl,hvs⟩:=(hs3.mono (S':=fun b=>b<w3.heap.size) (fun b _ hlt=>hlt)).later hb4;have HSL:=Lib.hid hsl.sl;have HVS:=Lib.hid (hvs.mono (S':=fun b=>b<w3.heap.size∧(Value.slice (some ⟨w3.heap.size,0,none⟩) 1 1).ownBlock≠some b) (fun b hb _=>⟨hb,fun e=>by simp [Value.ownBlock] at e;omega⟩));have HONE:=Lib.hid hvs.one;have HOW:=Lib.hid (own_lit1 w3 #[.int .i64 0,.string ⟨((36::[123,49,32])).toArray⟩,.int .i64 0,.bool false,.bool false,.int .i64 0,.string ⟨#[]⟩,.bool false,.slice none 0 0,.int .i64 0,.int .i64 0,.bool false,.slice none 0 0,.slice none 0 0,.bool false,.bool false,.slice none 0 0,.slice none 0 0] rfl);have HB4:=Lib.hid hb4;clear hb1 hb2 hb3 hs2 hs3 hb4 hsl hvs c1;go_wp2_with (at_builtin;refine wpList_appG (by rfl) w3.heap.size 36 _ _ 23 rfl Try.underlying23 hiN rfl (by decide) rfl HOW.out rfl HSL.out HONE.out (by omega) (by omega) (by decide) (by simp) ?_)
   intro v' w5 ho5 hg5 hb5 hmv;obtain⟨a5,c5,rfl⟩:=own_form ho5;have how:=OwnN.app (css:=[[.int .i64 0,.string ⟨((36::[123,49,32])).toArray⟩,.int .i64 0,.bool false,.bool false,.int .i64 0,.string ⟨#[]⟩,.bool false,.slice none 0 0,.int .i64 0,.int .i64 0,.bool false,.slice none 0 0,.slice none 0 0,.bool false,.bool false,.slice none 0 0,.slice none 0 0]]) (S:=fun b=>b<w3.heap.size) (v:=Value.slice (some ⟨w3.heap.size,0,none⟩) 1 1) (xs:=[textS (36::[123,49,32])]) (m:=B.length) (.cons (textS_v _ _ _) .nil) HVS.out rfl (by simpa using ho5) hg5 hmv;have hs5:SnSl w5 (fun _=>True) a5 (1+B.length) (textS (36::[123,49,32])::B):=by
    have:=how.sl.2.mono (S':=fun _=>True) (fun _ _ _=>trivial)
    rw [List.length_append] at this;exact this
   have hb35:=HB4.out.trans hb5;have HJ5:=Lib.hid (HJ.out (1+B.length) (by simp;omega) _ a5 c5 w5 hs5);have HB35:=Lib.hid hb35;clear ho5 hg5 hb5 hmv how hs5 hb35;go_wp2_with (go_at_call 18;refine HJ5.out.mono ?_)
   rintro e w6 ⟨a6,c6,rfl,hs6,hb6⟩;have hb36:=HB35.out.trans (hb6.mono HB35.out.size);have HSa:=Lib.hid (HS.out _ _ a2 a6 c2 c6 w6 (HA.out.later hb36) hs6);have hbw6:=bel2 hbw3 hb36;clear hs6 hb6 hb36;go_wp2_with (go_at_call 15;refine HSa.out.mono ?_)
   first|rintro e w7 rfl hb7|rintro e w7 ⟨rfl,hb7⟩
   have hbw7:=bel2 hbw6 hb7;go_wp2_with (go_at_call 11;refine(awake21 _).mono ?_;rintro e w9 ⟨rfl,hb9⟩)
   go_ret
   exact⟨rfl,bel2 hbw7 hb9⟩
set_option maxHeartbeats 4000000 in
theorem SreadOpen_4n (s:Str) (z:Int) (w:World) (hno:125 ∉ s) (hl:s.length≤100) (hk:low z 9=4) (hz:s.length=0):Calls Try.prog 7 #[.string ⟨(s).toArray⟩,.int .i64 z] w fun e w'=>e=.returned (.bool true)∧Below w.heap.size w w':=by
 have dgi:decide ((0:Int)<(s.length:Int))=false:=decide_eq_false (by omega);have dgn:decide (0<s.length)=false:=decide_eq_false (by omega);have hno0:=hno;obtain⟨L,hr,hj,hsm,hLl⟩:=open_read (h:=[123]) (s:=s) (part_open hno (h:=[]) (by decide)) (by decide) hno (by simp;omega);have hBl:(snipL s).length≤1000:=by
  have h5:=Sn.len_parts (snipL s);have h6:=(snip_good s).2.2.1;omega
 have H1:=Lib.hid (sreadH hr (by simp;omega));have H2:=Lib.hid (sreadH (open_self hno (by omega)) (by omega));have HJ:=Lib.hid (open_join hj (by simp;omega));have HS:=Lib.hid (nsame hsm hLl);have HL:=Lib.hid (fun w=>hk▸Low_any z 9 w (by omega) (by omega));have HNO:=Lib.hid hno0;obtain⟨iN,hiN⟩:=info_parts snip_info;obtain⟨B,hB⟩:∃B,snipL s=B:=⟨_,rfl⟩;rw [hB] at H2 HJ hBl;have dg:decide ((100:Int)<(s.length:Int))=false:=decide_eq_false (by omega);clear hr hj hsm hLl hno hno0 hB hk;go_enter Try.func7,Try.ntmps7
 go_wp2
 go_loopw [5] (fun q wr=>OnRel s w q wr) (fun q _=>s.length-(intOf q).toNat)
 case atStart=>exact⟨0,rfl,by omega,rfl⟩
 case round =>
  obtain⟨i,rfl,hi,rfl⟩:=hrel;cases hd:s.drop i with
  | cons c r =>
   obtain⟨h2,h3,hr⟩:=drop_cons hd;have hcm:c.toNat≠125:=fun e=>HNO.out (by
    obtain rfl:c=125:=UInt8.toNat_inj.1 e;rw [←h3 h2];exact List.getElem_mem h2)
   have hcb:((c.toNat:Int)==125)=false:=by rw [beq_eq_false_iff_ne];omega
   clear hd hr hcm;try clear dgi dgn hz
   go_wp2
   go_roundw
   case rel=>exact⟨i+1,by go_num,by omega,rfl⟩
   case measure=>simp [intOf];omega
  | nil =>
   have h2:=drop_nil hd;clear hd HNO;go_wp2_with (go_at_call 9;refine(HL.out _).mono ?_)
   first|rintro e wl rfl hwl|rintro e wl ⟨rfl,hwl⟩
   have hb1:Below w.heap.size w wl:=by rw [←hwl];exact(Below.refl _ _).alloc (Nat.le_refl _) _
   have c1:wl.cell? ⟨w.heap.size,4,none⟩=some (.string ⟨([36,123]).toArray⟩):=by rw [←hwl];rw [Lib.cell_of_heap (heap_alloc_new _ _)];rfl
   clear hwl;go_wp2_with (go_at_call 10;refine(H1.out _ _ (by simp)).mono ?_)
   rintro e w2 ⟨a2,c2,rfl,hb2,hs2⟩;go_wp2_with (go_at_call 10;refine(H2.out _ _ rfl).mono ?_)
   rintro e w3 ⟨a3,c3,rfl,hb3,hs3⟩;have hbw3:=bel2 (bel2 hb1 hb2) hb3;have HA:=Lib.hid (hs2.later hb3);have hb4:Below w3.heap.size w3 (w3.alloc (.cells #[.int .i64 0,.string ⟨((36::[123])).toArray⟩,.int .i64 0,.bool false,.bool false,.int .i64 0,.string ⟨#[]⟩,.bool false,.slice none 0 0,.int .i64 0,.int .i64 0,.bool false,.slice none 0 0,.slice none 0 0,.bool false,.bool false,.slice none 0 0,.slice none 0 0] 36)):=(Below.refl _ _).alloc (Nat.le_refl _) _;obtain⟨css,hsl,hvs⟩:=(hs3.mono (S':=fun b=>b<w3.heap.size) (fun b _ hlt=>hlt)).later hb4;have HSL:=Lib.hid hsl.sl;have HVS:=Lib.hid (hvs.mono (S':=fun b=>b<w3.heap.size∧(Value.slice (some ⟨w3.heap.size,0,none⟩) 1 1).ownBlock≠some b) (fun b hb _=>⟨hb,fun e=>by simp [Value.ownBlock] at e;omega⟩));have HONE:=Lib.hid hvs.one;have HOW:=Lib.hid (own_lit1 w3 #[.int .i64 0,.string ⟨((36::[123])).toArray⟩,.int .i64 0,.bool false,.bool false,.int .i64 0,.string ⟨#[]⟩,.bool false,.slice none 0 0,.int .i64 0,.int .i64 0,.bool false,.slice none 0 0,.slice none 0 0,.bool false,.bool false,.slice none 0 0,.slice none 0 0] rfl);have HB4:=Lib.hid hb4;clear hb1 hb2 hb3 hs2 hs3 hb4 hsl hvs c1;go_wp2_with (at_builtin;refine wpList_appG (by rfl) w3.heap.size 36 _ _ 23 rfl Try.underlying23 hiN rfl (by decide) rfl HOW.out rfl HSL.out HONE.out (by omega) (by omega) (by decide) (by simp) ?_)
   intro v' w5 ho5 hg5 hb5 hmv;obtain⟨a5,c5,rfl⟩:=own_form ho5;have how:=OwnN.app (css:=[[.int .i64 0,.string ⟨((36::[123])).toArray⟩,.int .i64 0,.bool false,.bool false,.int .i64 0,.string ⟨#[]⟩,.bool false,.slice none 0 0,.int .i64 0,.int .i64 0,.bool false,.slice none 0 0,.slice none 0 0,.bool false,.bool false,.slice none 0 0,.slice none 0 0]]) (S:=fun b=>b<w3.heap.size) (v:=Value.slice (some ⟨w3.heap.size,0,none⟩) 1 1) (xs:=[textS (36::[123])]) (m:=B.length) (.cons (textS_v _ _ _) .nil) HVS.out rfl (by simpa using ho5) hg5 hmv;have hs5:SnSl w5 (fun _=>True) a5 (1+B.length) (textS (36::[123])::B):=by
    have:=how.sl.2.mono (S':=fun _=>True) (fun _ _ _=>trivial)
    rw [List.length_append] at this;exact this
   have hb35:=HB4.out.trans hb5;have HJ5:=Lib.hid (HJ.out (1+B.length) (by simp;omega) _ a5 c5 w5 hs5);have HB35:=Lib.hid hb35;clear ho5 hg5 hb5 hmv how hs5 hb35;go_wp2_with (go_at_call 18;refine HJ5.out.mono ?_)
   rintro e w6 ⟨a6,c6,rfl,hs6,hb6⟩;have hb36:=HB35.out.trans (hb6.mono HB35.out.size);have HSa:=Lib.hid (HS.out _ _ a2 a6 c2 c6 w6 (HA.out.later hb36) hs6);have hbw6:=bel2 hbw3 hb36;clear hs6 hb6 hb36;go_wp2_with (go_at_call 15;refine HSa.out.mono ?_)
   first|rintro e w7 rfl hb7|rintro e w7 ⟨rfl,hb7⟩
   have hbw7:=bel2 hbw6 hb7;go_wp2_with (go_at_call 11;refine(awake21 _).mono ?_;rintro e w9 ⟨rfl,hb9⟩)
   go_ret
   exact⟨rfl,bel2 hbw7 hb9⟩
set_option maxHeartbeats 4000000 in
theorem SreadOpen_4s (s:Str) (z:Int) (w:World) (hno:125 ∉ s) (hl:s.length≤100) (hk:low z 9=4) (hz:0<s.length):Calls Try.prog 7 #[.string ⟨(s).toArray⟩,.int .i64 z] w fun e w'=>e=.returned (.bool true)∧Below w.heap.size w w':=by
 have dgi:decide ((0:Int)<(s.length:Int))=true:=decide_eq_true (by omega);have dgn:decide (0<s.length)=true:=decide_eq_true (by omega);have hno0:=hno;obtain⟨L,hr,hj,hsm,hLl⟩:=open_read (h:=[123,32]) (s:=s) (part_open hno (h:=[32]) (by decide)) (by decide) hno (by simp;omega);have hBl:(snipL s).length≤1000:=by
  have h5:=Sn.len_parts (snipL s);have h6:=(snip_good s).2.2.1;omega
 have H1:=Lib.hid (sreadH hr (by simp;omega));have H2:=Lib.hid (sreadH (open_self hno (by omega)) (by omega));have HJ:=Lib.hid (open_join hj (by simp;omega));have HS:=Lib.hid (nsame hsm hLl);have HL:=Lib.hid (fun w=>hk▸Low_any z 9 w (by omega) (by omega));have HNO:=Lib.hid hno0;obtain⟨iN,hiN⟩:=info_parts snip_info;obtain⟨B,hB⟩:∃B,snipL s=B:=⟨_,rfl⟩;rw [hB] at H2 HJ hBl;have dg:decide ((100:Int)<(s.length:Int))=false:=decide_eq_false (by omega);clear hr hj hsm hLl hno hno0 hB hk;go_enter Try.func7,Try.ntmps7
 go_wp2
 go_loopw [5] (fun q wr=>OnRel s w q wr) (fun q _=>s.length-(intOf q).toNat)
 case atStart=>exact⟨0,rfl,by omega,rfl⟩
 case round =>
  obtain⟨i,rfl,hi,rfl⟩:=hrel;cases hd:s.drop i with
  | cons c r =>
   obtain⟨h2,h3,hr⟩:=drop_cons hd;have hcm:c.toNat≠125:=fun e=>HNO.out (by
    obtain rfl:c=125:=UInt8.toNat_inj.1 e;rw [←h3 h2];exact List.getElem_mem h2)
   have hcb:((c.toNat:Int)==125)=false:=by rw [beq_eq_false_iff_ne];omega
   clear hd hr hcm;try clear dgi dgn hz
   go_wp2
   go_roundw
   case rel=>exact⟨i+1,by go_num,by omega,rfl⟩
   case measure=>simp [intOf];omega
  | nil =>
   have h2:=drop_nil hd;clear hd HNO;go_wp2_with (go_at_call 9;refine(HL.out _).mono ?_)
   first|rintro e wl rfl hwl|rintro e wl ⟨rfl,hwl⟩
   have hb1:Below w.heap.size w wl:=by rw [←hwl];exact(Below.refl _ _).alloc (Nat.le_refl _) _
   have c1:wl.cell? ⟨w.heap.size,4,none⟩=some (.string ⟨([36,123]).toArray⟩):=by rw [←hwl];rw [Lib.cell_of_heap (heap_alloc_new _ _)];rfl
   clear hwl;go_wp2_with (go_at_call 10;refine(H1.out _ _ (by simp)).mono ?_)
   rintro e w2 ⟨a2,c2,rfl,hb2,hs2⟩;go_wp2_with (go_at_call 10;refine(H2.out _ _ rfl).mono ?_)
   rintro e w3 ⟨a3,c3,rfl,hb3,hs3⟩;have hbw3:=bel2 (bel2 hb1 hb2) hb3;have HA:=Lib.hid (hs2.later hb3);have hb4:Below w3.heap.size w3 (w3.alloc (.cells #[.int .i64 0,.string ⟨((36::[123,32])).toArray⟩,.int .i64 0,.bool false,.bool false,.int .i64 0,.string ⟨#[]⟩,.bool false,.slice none 0 0,.int .i64 0,.int .i64 0,.bool false,.slice none 0 0,.slice none 0 0,.bool false,.bool false,.slice none 0 0,.slice none 0 0] 36)):=(Below.refl _ _).alloc (Nat.le_refl _) _;obtain⟨css,hsl,hvs⟩:=(hs3.mono (S':=fun b=>b<w3.heap.size) (fun b _ hlt=>hlt)).later hb4;have HSL:=Lib.hid hsl.sl;have HVS:=Lib.hid (hvs.mono (S':=fun b=>b<w3.heap.size∧(Value.slice (some ⟨w3.heap.size,0,none⟩) 1 1).ownBlock≠some b) (fun b hb _=>⟨hb,fun e=>by simp [Value.ownBlock] at e;omega⟩));have HONE:=Lib.hid hvs.one;have HOW:=Lib.hid (own_lit1 w3 #[.int .i64 0,.string ⟨((36::[123,32])).toArray⟩,.int .i64 0,.bool false,.bool false,.int .i64 0,.string ⟨#[]⟩,.bool false,.slice none 0 0,.int .i64 0,.int .i64 0,.bool false,.slice none 0 0,.slice none 0 0,.bool false,.bool false,.slice none 0 0,.slice none 0 0] rfl);have HB4:=Lib.hid hb4;clear hb1 hb2 hb3 hs2 hs3 hb4 hsl hvs c1;go_wp2_with (at_builtin;refine wpList_appG (by rfl) w3.heap.size 36 _ _ 23 rfl Try.underlying23 hiN rfl (by decide) rfl HOW.out rfl HSL.out HONE.out (by omega) (by omega) (by decide) (by simp) ?_)
   intro v' w5 ho5 hg5 hb5 hmv;obtain⟨a5,c5,rfl⟩:=own_form ho5;have how:=OwnN.app (css:=[[.int .i64 0,.string ⟨((36::[123,32])).toArray⟩,.int .i64 0,.bool false,.bool false,.int .i64 0,.string ⟨#[]⟩,.bool false,.slice none 0 0,.int .i64 0,.int .i64 0,.bool false,.slice none 0 0,.slice none 0 0,.bool false,.bool false,.slice none 0 0,.slice none 0 0]]) (S:=fun b=>b<w3.heap.size) (v:=Value.slice (some ⟨w3.heap.size,0,none⟩) 1 1) (xs:=[textS (36::[123,32])]) (m:=B.length) (.cons (textS_v _ _ _) .nil) HVS.out rfl (by simpa using ho5) hg5 hmv;have hs5:SnSl w5 (fun _=>True) a5 (1+B.length) (textS (36::[123,32])::B):=by
    have:=how.sl.2.mono (S':=fun _=>True) (fun _ _ _=>trivial)
    rw [List.length_append] at this;exact this
   have hb35:=HB4.out.trans hb5;have HJ5:=Lib.hid (HJ.out (1+B.length) (by simp;omega) _ a5 c5 w5 hs5);have HB35:=Lib.hid hb35;clear ho5 hg5 hb5 hmv how hs5 hb35;go_wp2_with (go_at_call 18;refine HJ5.out.mono ?_)
   rintro e w6 ⟨a6,c6,rfl,hs6,hb6⟩;have hb36:=HB35.out.trans (hb6.mono HB35.out.size);have HSa:=Lib.hid (HS.out _ _ a2 a6 c2 c6 w6 (HA.out.later hb36) hs6);have hbw6:=bel2 hbw3 hb36;clear hs6 hb6 hb36;go_wp2_with (go_at_call 15;refine HSa.out.mono ?_)
   first|rintro e w7 rfl hb7|rintro e w7 ⟨rfl,hb7⟩
   have hbw7:=bel2 hbw6 hb7;go_wp2_with (go_at_call 11;refine(awake21 _).mono ?_;rintro e w9 ⟨rfl,hb9⟩)
   go_ret
   exact⟨rfl,bel2 hbw7 hb9⟩
set_option maxHeartbeats 4000000 in
theorem SreadOpen_5n (s:Str) (z:Int) (w:World) (hno:125 ∉ s) (hl:s.length≤100) (hk:low z 9=5) (hz:s.length=0):Calls Try.prog 7 #[.string ⟨(s).toArray⟩,.int .i64 z] w fun e w'=>e=.returned (.bool true)∧Below w.heap.size w w':=by
 have dgi:decide ((0:Int)<(s.length:Int))=false:=decide_eq_false (by omega);have dgn:decide (0<s.length)=false:=decide_eq_false (by omega);have hno0:=hno;obtain⟨L,hr,hj,hsm,hLl⟩:=open_read (h:=[123,98,47]) (s:=s) (part_open hno (h:=[98,47]) (by decide)) (by decide) hno (by simp;omega);have hBl:(snipL s).length≤1000:=by
  have h5:=Sn.len_parts (snipL s);have h6:=(snip_good s).2.2.1;omega
 have H1:=Lib.hid (sreadH hr (by simp;omega));have H2:=Lib.hid (sreadH (open_self hno (by omega)) (by omega));have HJ:=Lib.hid (open_join hj (by simp;omega));have HS:=Lib.hid (nsame hsm hLl);have HL:=Lib.hid (fun w=>hk▸Low_any z 9 w (by omega) (by omega));have HNO:=Lib.hid hno0;obtain⟨iN,hiN⟩:=info_parts snip_info;obtain⟨B,hB⟩:∃B,snipL s=B:=⟨_,rfl⟩;rw [hB] at H2 HJ hBl;have dg:decide ((100:Int)<(s.length:Int))=false:=decide_eq_false (by omega);clear hr hj hsm hLl hno hno0 hB hk;go_enter Try.func7,Try.ntmps7
 go_wp2
 go_loopw [5] (fun q wr=>OnRel s w q wr) (fun q _=>s.length-(intOf q).toNat)
 case atStart=>exact⟨0,rfl,by omega,rfl⟩
 case round =>
  obtain⟨i,rfl,hi,rfl⟩:=hrel;cases hd:s.drop i with
  | cons c r =>
   obtain⟨h2,h3,hr⟩:=drop_cons hd;have hcm:c.toNat≠125:=fun e=>HNO.out (by
    obtain rfl:c=125:=UInt8.toNat_inj.1 e;rw [←h3 h2];exact List.getElem_mem h2)
   have hcb:((c.toNat:Int)==125)=false:=by rw [beq_eq_false_iff_ne];omega
   clear hd hr hcm;try clear dgi dgn hz
   go_wp2
   go_roundw
   case rel=>exact⟨i+1,by go_num,by omega,rfl⟩
   case measure=>simp [intOf];omega
  | nil =>
   have h2:=drop_nil hd;clear hd HNO;go_wp2_with (go_at_call 9;refine(HL.out _).mono ?_)
   first|rintro e wl rfl hwl|rintro e wl ⟨rfl,hwl⟩
   have hb1:Below w.heap.size w wl:=by rw [←hwl];exact(Below.refl _ _).alloc (Nat.le_refl _) _
   have c1:wl.cell? ⟨w.heap.size,5,none⟩=some (.string ⟨([36,123,98,47]).toArray⟩):=by rw [←hwl];rw [Lib.cell_of_heap (heap_alloc_new _ _)];rfl
   clear hwl;go_wp2_with (go_at_call 10;refine(H1.out _ _ (by simp)).mono ?_)
   rintro e w2 ⟨a2,c2,rfl,hb2,hs2⟩;go_wp2_with (go_at_call 10;refine(H2.out _ _ rfl).mono ?_)
   rintro e w3 ⟨a3,c3,rfl,hb3,hs3⟩;have hbw3:=bel2 (bel2 hb1 hb2) hb3;have HA:=Lib.hid (hs2.later hb3);have hb4:Below w3.heap.size w3 (w3.alloc (.cells #[.int .i64 0,.string ⟨((36::[123,98,47])).toArray⟩,.int .i64 0,.bool false,.bool false,.int .i64 0,.string ⟨#[]⟩,.bool false,.slice none 0 0,.int .i64 0,.int .i64 0,.bool false,.slice none 0 0,.slice none 0 0,.bool false,.bool false,.slice none 0 0,.slice none 0 0] 36)):=(Below.refl _ _).alloc (Nat.le_refl _) _;obtain⟨css,hsl,hvs⟩:=(hs3.mono (S':=fun b=>b<w3.heap.size) (fun b _ hlt=>hlt)).later hb4;have HSL:=Lib.hid hsl.sl;have HVS:=Lib.hid (hvs.mono (S':=fun b=>b<w3.heap.size∧(Value.slice (some ⟨w3.heap.size,0,none⟩) 1 1).ownBlock≠some b) (fun b hb _=>⟨hb,fun e=>by simp [Value.ownBlock] at e;omega⟩));have HONE:=Lib.hid hvs.one;have HOW:=Lib.hid (own_lit1 w3 #[.int .i64 0,.string ⟨((36::[123,98,47])).toArray⟩,.int .i64 0,.bool false,.bool false,.int .i64 0,.string ⟨#[]⟩,.bool false,.slice none 0 0,.int .i64 0,.int .i64 0,.bool false,.slice none 0 0,.slice none 0 0,.bool false,.bool false,.slice none 0 0,.slice none 0 0] rfl);have HB4:=Lib.hid hb4;clear hb1 hb2 hb3 hs2 hs3 hb4 hsl hvs c1;go_wp2_with (at_builtin;refine wpList_appG (by rfl) w3.heap.size 36 _ _ 23 rfl Try.underlying23 hiN rfl (by decide) rfl HOW.out rfl HSL.out HONE.out (by omega) (by omega) (by decide) (by simp) ?_)
   intro v' w5 ho5 hg5 hb5 hmv;obtain⟨a5,c5,rfl⟩:=own_form ho5;have how:=OwnN.app (css:=[[.int .i64 0,.string ⟨((36::[123,98,47])).toArray⟩,.int .i64 0,.bool false,.bool false,.int .i64 0,.string ⟨#[]⟩,.bool false,.slice none 0 0,.int .i64 0,.int .i64 0,.bool false,.slice none 0 0,.slice none 0 0,.bool false,.bool false,.slice none 0 0,.slice none 0 0]]) (S:=fun b=>b<w3.heap.size) (v:=Value.slice (some ⟨w3.heap.size,0,none⟩) 1 1) (xs:=[textS (36::[123,98,47])]) (m:=B.length) (.cons (textS_v _ _ _) .nil) HVS.out rfl (by simpa using ho5) hg5 hmv;have hs5:SnSl w5 (fun _=>True) a5 (1+B.length) (textS (36::[123,98,47])::B):=by
    have:=how.sl.2.mono (S':=fun _=>True) (fun _ _ _=>trivial)
    rw [List.length_append] at this;exact this
   have hb35:=HB4.out.trans hb5;have HJ5:=Lib.hid (HJ.out (1+B.length) (by simp;omega) _ a5 c5 w5 hs5);have HB35:=Lib.hid hb35;clear ho5 hg5 hb5 hmv how hs5 hb35;go_wp2_with (go_at_call 18;refine HJ5.out.mono ?_)
   rintro e w6 ⟨a6,c6,rfl,hs6,hb6⟩;have hb36:=HB35.out.trans (hb6.mono HB35.out.size);have HSa:=Lib.hid (HS.out _ _ a2 a6 c2 c6 w6 (HA.out.later hb36) hs6);have hbw6:=bel2 hbw3 hb36;clear hs6 hb6 hb36;go_wp2_with (go_at_call 15;refine HSa.out.mono ?_)
   first|rintro e w7 rfl hb7|rintro e w7 ⟨rfl,hb7⟩
   have hbw7:=bel2 hbw6 hb7;go_wp2_with (go_at_call 11;refine(awake21 _).mono ?_;rintro e w9 ⟨rfl,hb9⟩)
   go_ret
   exact⟨rfl,bel2 hbw7 hb9⟩
set_option maxHeartbeats 4000000 in
theorem SreadOpen_5s (s:Str) (z:Int) (w:World) (hno:125 ∉ s) (hl:s.length≤100) (hk:low z 9=5) (hz:0<s.length):Calls Try.prog 7 #[.string ⟨(s).toArray⟩,.int .i64 z] w fun e w'=>e=.returned (.bool true)∧Below w.heap.size w w':=by
 have dgi:decide ((0:Int)<(s.length:Int))=true:=decide_eq_true (by omega);have dgn:decide (0<s.length)=true:=decide_eq_true (by omega);have hno0:=hno;obtain⟨L,hr,hj,hsm,hLl⟩:=open_read (h:=[123,98,47,32]) (s:=s) (part_open hno (h:=[98,47,32]) (by decide)) (by decide) hno (by simp;omega);have hBl:(snipL s).length≤1000:=by
  have h5:=Sn.len_parts (snipL s);have h6:=(snip_good s).2.2.1;omega
 have H1:=Lib.hid (sreadH hr (by simp;omega));have H2:=Lib.hid (sreadH (open_self hno (by omega)) (by omega));have HJ:=Lib.hid (open_join hj (by simp;omega));have HS:=Lib.hid (nsame hsm hLl);have HL:=Lib.hid (fun w=>hk▸Low_any z 9 w (by omega) (by omega));have HNO:=Lib.hid hno0;obtain⟨iN,hiN⟩:=info_parts snip_info;obtain⟨B,hB⟩:∃B,snipL s=B:=⟨_,rfl⟩;rw [hB] at H2 HJ hBl;have dg:decide ((100:Int)<(s.length:Int))=false:=decide_eq_false (by omega);clear hr hj hsm hLl hno hno0 hB hk;go_enter Try.func7,Try.ntmps7
 go_wp2
 go_loopw [5] (fun q wr=>OnRel s w q wr) (fun q _=>s.length-(intOf q).toNat)
 case atStart=>exact⟨0,rfl,by omega,rfl⟩
 case round =>
  obtain⟨i,rfl,hi,rfl⟩:=hrel;cases hd:s.drop i with
  | cons c r =>
   obtain⟨h2,h3,hr⟩:=drop_cons hd;have hcm:c.toNat≠125:=fun e=>HNO.out (by
    obtain rfl:c=125:=UInt8.toNat_inj.1 e;rw [←h3 h2];exact List.getElem_mem h2)
   have hcb:((c.toNat:Int)==125)=false:=by rw [beq_eq_false_iff_ne];omega
   clear hd hr hcm;try clear dgi dgn hz
   go_wp2
   go_roundw
   case rel=>exact⟨i+1,by go_num,by omega,rfl⟩
   case measure=>simp [intOf];omega
  | nil =>
   have h2:=drop_nil hd;clear hd HNO;go_wp2_with (go_at_call 9;refine(HL.out _).mono ?_)
   first|rintro e wl rfl hwl|rintro e wl ⟨rfl,hwl⟩
   have hb1:Below w.heap.size w wl:=by rw [←hwl];exact(Below.refl _ _).alloc (Nat.le_refl _) _
   have c1:wl.cell? ⟨w.heap.size,5,none⟩=some (.string ⟨([36,123,98,47]).toArray⟩):=by rw [←hwl];rw [Lib.cell_of_heap (heap_alloc_new _ _)];rfl
   clear hwl;go_wp2_with (go_at_call 10;refine(H1.out _ _ (by simp)).mono ?_)
   rintro e w2 ⟨a2,c2,rfl,hb2,hs2⟩;go_wp2_with (go_at_call 10;refine(H2.out _ _ rfl).mono ?_)
   rintro e w3 ⟨a3,c3,rfl,hb3,hs3⟩;have hbw3:=bel2 (bel2 hb1 hb2) hb3;have HA:=Lib.hid (hs2.later hb3);have hb4:Below w3.heap.size w3 (w3.alloc (.cells #[.int .i64 0,.string ⟨((36::[123,98,47,32])).toArray⟩,.int .i64 0,.bool false,.bool false,.int .i64 0,.string ⟨#[]⟩,.bool false,.slice none 0 0,.int .i64 0,.int .i64 0,.bool false,.slice none 0 0,.slice none 0 0,.bool false,.bool false,.slice none 0 0,.slice none 0 0] 36)):=(Below.refl _ _).alloc (Nat.le_refl _) _;obtain⟨css,hsl,hvs⟩:=(hs3.mono (S':=fun b=>b<w3.heap.size) (fun b _ hlt=>hlt)).later hb4;have HSL:=Lib.hid hsl.sl;have HVS:=Lib.hid (hvs.mono (S':=fun b=>b<w3.heap.size∧(Value.slice (some ⟨w3.heap.size,0,none⟩) 1 1).ownBlock≠some b) (fun b hb _=>⟨hb,fun e=>by simp [Value.ownBlock] at e;omega⟩));have HONE:=Lib.hid hvs.one;have HOW:=Lib.hid (own_lit1 w3 #[.int .i64 0,.string ⟨((36::[123,98,47,32])).toArray⟩,.int .i64 0,.bool false,.bool false,.int .i64 0,.string ⟨#[]⟩,.bool false,.slice none 0 0,.int .i64 0,.int .i64 0,.bool false,.slice none 0 0,.slice none 0 0,.bool false,.bool false,.slice none 0 0,.slice none 0 0] rfl);have HB4:=Lib.hid hb4;clear hb1 hb2 hb3 hs2 hs3 hb4 hsl hvs c1;go_wp2_with (at_builtin;refine wpList_appG (by rfl) w3.heap.size 36 _ _ 23 rfl Try.underlying23 hiN rfl (by decide) rfl HOW.out rfl HSL.out HONE.out (by omega) (by omega) (by decide) (by simp) ?_)
   intro v' w5 ho5 hg5 hb5 hmv;obtain⟨a5,c5,rfl⟩:=own_form ho5;have how:=OwnN.app (css:=[[.int .i64 0,.string ⟨((36::[123,98,47,32])).toArray⟩,.int .i64 0,.bool false,.bool false,.int .i64 0,.string ⟨#[]⟩,.bool false,.slice none 0 0,.int .i64 0,.int .i64 0,.bool false,.slice none 0 0,.slice none 0 0,.bool false,.bool false,.slice none 0 0,.slice none 0 0]]) (S:=fun b=>b<w3.heap.size) (v:=Value.slice (some ⟨w3.heap.size,0,none⟩) 1 1) (xs:=[textS (36::[123,98,47,32])]) (m:=B.length) (.cons (textS_v _ _ _) .nil) HVS.out rfl (by simpa using ho5) hg5 hmv;have hs5:SnSl w5 (fun _=>True) a5 (1+B.length) (textS (36::[123,98,47,32])::B):=by
    have:=how.sl.2.mono (S':=fun _=>True) (fun _ _ _=>trivial)
    rw [List.length_append] at this;exact this
   have hb35:=HB4.out.trans hb5;have HJ5:=Lib.hid (HJ.out (1+B.length) (by simp;omega) _ a5 c5 w5 hs5);have HB35:=Lib.hid hb35;clear ho5 hg5 hb5 hmv how hs5 hb35;go_wp2_with (go_at_call 18;refine HJ5.out.mono ?_)
   rintro e w6 ⟨a6,c6,rfl,hs6,hb6⟩;have hb36:=HB35.out.trans (hb6.mono HB35.out.size);have HSa:=Lib.hid (HS.out _ _ a2 a6 c2 c6 w6 (HA.out.later hb36) hs6);have hbw6:=bel2 hbw3 hb36;clear hs6 hb6 hb36;go_wp2_with (go_at_call 15;refine HSa.out.mono ?_)
   first|rintro e w7 rfl hb7|rintro e w7 ⟨rfl,hb7⟩
   have hbw7:=bel2 hbw6 hb7;go_wp2_with (go_at_call 11;refine(awake21 _).mono ?_;rintro e w9 ⟨rfl,hb9⟩)
   go_ret
   exact⟨rfl,bel2 hbw7 hb9⟩
set_option maxHeartbeats 4000000 in
theorem SreadOpen_8n (s:Str) (z:Int) (w:World) (hno:125 ∉ s) (hl:s.length≤100) (hk:low z 9=8) (hz:s.length=0):Calls Try.prog 7 #[.string ⟨(s).toArray⟩,.int .i64 z] w fun e w'=>e=.returned (.bool true)∧Below w.heap.size w w':=by
 have dgi:decide ((0:Int)<(s.length:Int))=false:=decide_eq_false (by omega);have dgn:decide (0<s.length)=false:=decide_eq_false (by omega);have hno0:=hno;obtain⟨L,hr,hj,hsm,hLl⟩:=open_read (h:=[123,48,120]) (s:=s) (part_open hno (h:=[48,120]) (by decide)) (by decide) hno (by simp;omega);have hBl:(snipL s).length≤1000:=by
  have h5:=Sn.len_parts (snipL s);have h6:=(snip_good s).2.2.1;omega
 have H1:=Lib.hid (sreadH hr (by simp;omega));have H2:=Lib.hid (sreadH (open_self hno (by omega)) (by omega));have HJ:=Lib.hid (open_join hj (by simp;omega));have HS:=Lib.hid (nsame hsm hLl);have HL:=Lib.hid (fun w=>hk▸Low_any z 9 w (by omega) (by omega));have HNO:=Lib.hid hno0;obtain⟨iN,hiN⟩:=info_parts snip_info;obtain⟨B,hB⟩:∃B,snipL s=B:=⟨_,rfl⟩;rw [hB] at H2 HJ hBl;have dg:decide ((100:Int)<(s.length:Int))=false:=decide_eq_false (by omega);clear hr hj hsm hLl hno hno0 hB hk;go_enter Try.func7,Try.ntmps7
 go_wp2
 go_loopw [5] (fun q wr=>OnRel s w q wr) (fun q _=>s.length-(intOf q).toNat)
 case atStart=>exact⟨0,rfl,by omega,rfl⟩
 case round =>
  obtain⟨i,rfl,hi,rfl⟩:=hrel;cases hd:s.drop i with
  | cons c r =>
   obtain⟨h2,h3,hr⟩:=drop_cons hd;have hcm:c.toNat≠125:=fun e=>HNO.out (by
    obtain rfl:c=125:=UInt8.toNat_inj.1 e;rw [←h3 h2];exact List.getElem_mem h2)
   have hcb:((c.toNat:Int)==125)=false:=by rw [beq_eq_false_iff_ne];omega
   clear hd hr hcm;try clear dgi dgn hz
   go_wp2
   go_roundw
   case rel=>exact⟨i+1,by go_num,by omega,rfl⟩
   case measure=>simp [intOf];omega
  | nil =>
   have h2:=drop_nil hd;clear hd HNO;go_wp2_with (go_at_call 9;refine(HL.out _).mono ?_)
   first|rintro e wl rfl hwl|rintro e wl ⟨rfl,hwl⟩
   have hb1:Below w.heap.size w wl:=by rw [←hwl];exact(Below.refl _ _).alloc (Nat.le_refl _) _
   have c1:wl.cell? ⟨w.heap.size,8,none⟩=some (.string ⟨([36,123,48,120]).toArray⟩):=by rw [←hwl];rw [Lib.cell_of_heap (heap_alloc_new _ _)];rfl
   clear hwl;go_wp2_with (go_at_call 10;refine(H1.out _ _ (by simp)).mono ?_)
   rintro e w2 ⟨a2,c2,rfl,hb2,hs2⟩;go_wp2_with (go_at_call 10;refine(H2.out _ _ rfl).mono ?_)
   rintro e w3 ⟨a3,c3,rfl,hb3,hs3⟩;have hbw3:=bel2 (bel2 hb1 hb2) hb3;have HA:=Lib.hid (hs2.later hb3);have hb4:Below w3.heap.size w3 (w3.alloc (.cells #[.int .i64 0,.string ⟨((36::[123,48,120])).toArray⟩,.int .i64 0,.bool false,.bool false,.int .i64 0,.string ⟨#[]⟩,.bool false,.slice none 0 0,.int .i64 0,.int .i64 0,.bool false,.slice none 0 0,.slice none 0 0,.bool false,.bool false,.slice none 0 0,.slice none 0 0] 36)):=(Below.refl _ _).alloc (Nat.le_refl _) _;obtain⟨css,hsl,hvs⟩:=(hs3.mono (S':=fun b=>b<w3.heap.size) (fun b _ hlt=>hlt)).later hb4;have HSL:=Lib.hid hsl.sl;have HVS:=Lib.hid (hvs.mono (S':=fun b=>b<w3.heap.size∧(Value.slice (some ⟨w3.heap.size,0,none⟩) 1 1).ownBlock≠some b) (fun b hb _=>⟨hb,fun e=>by simp [Value.ownBlock] at e;omega⟩));have HONE:=Lib.hid hvs.one;have HOW:=Lib.hid (own_lit1 w3 #[.int .i64 0,.string ⟨((36::[123,48,120])).toArray⟩,.int .i64 0,.bool false,.bool false,.int .i64 0,.string ⟨#[]⟩,.bool false,.slice none 0 0,.int .i64 0,.int .i64 0,.bool false,.slice none 0 0,.slice none 0 0,.bool false,.bool false,.slice none 0 0,.slice none 0 0] rfl);have HB4:=Lib.hid hb4;clear hb1 hb2 hb3 hs2 hs3 hb4 hsl hvs c1;go_wp2_with (at_builtin;refine wpList_appG (by rfl) w3.heap.size 36 _ _ 23 rfl Try.underlying23 hiN rfl (by decide) rfl HOW.out rfl HSL.out HONE.out (by omega) (by omega) (by decide) (by simp) ?_)
   intro v' w5 ho5 hg5 hb5 hmv;obtain⟨a5,c5,rfl⟩:=own_form ho5;have how:=OwnN.app (css:=[[.int .i64 0,.string ⟨((36::[123,48,120])).toArray⟩,.int .i64 0,.bool false,.bool false,.int .i64 0,.string ⟨#[]⟩,.bool false,.slice none 0 0,.int .i64 0,.int .i64 0,.bool false,.slice none 0 0,.slice none 0 0,.bool false,.bool false,.slice none 0 0,.slice none 0 0]]) (S:=fun b=>b<w3.heap.size) (v:=Value.slice (some ⟨w3.heap.size,0,none⟩) 1 1) (xs:=[textS (36::[123,48,120])]) (m:=B.length) (.cons (textS_v _ _ _) .nil) HVS.out rfl (by simpa using ho5) hg5 hmv;have hs5:SnSl w5 (fun _=>True) a5 (1+B.length) (textS (36::[123,48,120])::B):=by
    have:=how.sl.2.mono (S':=fun _=>True) (fun _ _ _=>trivial)
    rw [List.length_append] at this;exact this
   have hb35:=HB4.out.trans hb5;have HJ5:=Lib.hid (HJ.out (1+B.length) (by simp;omega) _ a5 c5 w5 hs5);have HB35:=Lib.hid hb35;clear ho5 hg5 hb5 hmv how hs5 hb35;go_wp2_with (go_at_call 18;refine HJ5.out.mono ?_)
   rintro e w6 ⟨a6,c6,rfl,hs6,hb6⟩;have hb36:=HB35.out.trans (hb6.mono HB35.out.size);have HSa:=Lib.hid (HS.out _ _ a2 a6 c2 c6 w6 (HA.out.later hb36) hs6);have hbw6:=bel2 hbw3 hb36;clear hs6 hb6 hb36;go_wp2_with (go_at_call 15;refine HSa.out.mono ?_)
   first|rintro e w7 rfl hb7|rintro e w7 ⟨rfl,hb7⟩
   have hbw7:=bel2 hbw6 hb7;go_wp2_with (go_at_call 11;refine(awake21 _).mono ?_;rintro e w9 ⟨rfl,hb9⟩)
   go_ret
   exact⟨rfl,bel2 hbw7 hb9⟩
set_option maxHeartbeats 4000000 in
theorem SreadOpen_8s (s:Str) (z:Int) (w:World) (hno:125 ∉ s) (hl:s.length≤100) (hk:low z 9=8) (hz:0<s.length):Calls Try.prog 7 #[.string ⟨(s).toArray⟩,.int .i64 z] w fun e w'=>e=.returned (.bool true)∧Below w.heap.size w w':=by
 have dgi:decide ((0:Int)<(s.length:Int))=true:=decide_eq_true (by omega);have dgn:decide (0<s.length)=true:=decide_eq_true (by omega);have hno0:=hno;obtain⟨L,hr,hj,hsm,hLl⟩:=open_read (h:=[123,48,120,32]) (s:=s) (part_open hno (h:=[48,120,32]) (by decide)) (by decide) hno (by simp;omega);have hBl:(snipL s).length≤1000:=by
  have h5:=Sn.len_parts (snipL s);have h6:=(snip_good s).2.2.1;omega
 have H1:=Lib.hid (sreadH hr (by simp;omega));have H2:=Lib.hid (sreadH (open_self hno (by omega)) (by omega));have HJ:=Lib.hid (open_join hj (by simp;omega));have HS:=Lib.hid (nsame hsm hLl);have HL:=Lib.hid (fun w=>hk▸Low_any z 9 w (by omega) (by omega));have HNO:=Lib.hid hno0;obtain⟨iN,hiN⟩:=info_parts snip_info;obtain⟨B,hB⟩:∃B,snipL s=B:=⟨_,rfl⟩;rw [hB] at H2 HJ hBl;have dg:decide ((100:Int)<(s.length:Int))=false:=decide_eq_false (by omega);clear hr hj hsm hLl hno hno0 hB hk;go_enter Try.func7,Try.ntmps7
 go_wp2
 go_loopw [5] (fun q wr=>OnRel s w q wr) (fun q _=>s.length-(intOf q).toNat)
 case atStart=>exact⟨0,rfl,by omega,rfl⟩
 case round =>
  obtain⟨i,rfl,hi,rfl⟩:=hrel;cases hd:s.drop i with
  | cons c r =>
   obtain⟨h2,h3,hr⟩:=drop_cons hd;have hcm:c.toNat≠125:=fun e=>HNO.out (by
    obtain rfl:c=125:=UInt8.toNat_inj.1 e;rw [←h3 h2];exact List.getElem_mem h2)
   have hcb:((c.toNat:Int)==125)=false:=by rw [beq_eq_false_iff_ne];omega
   clear hd hr hcm;try clear dgi dgn hz
   go_wp2
   go_roundw
   case rel=>exact⟨i+1,by go_num,by omega,rfl⟩
   case measure=>simp [intOf];omega
  | nil =>
   have h2:=drop_nil hd;clear hd HNO;go_wp2_with (go_at_call 9;refine(HL.out _).mono ?_)
   first|rintro e wl rfl hwl|rintro e wl ⟨rfl,hwl⟩
   have hb1:Below w.heap.size w wl:=by rw [←hwl];exact(Below.refl _ _).alloc (Nat.le_refl _) _
   have c1:wl.cell? ⟨w.heap.size,8,none⟩=some (.string ⟨([36,123,48,120]).toArray⟩):=by rw [←hwl];rw [Lib.cell_of_heap (heap_alloc_new _ _)];rfl
   clear hwl;go_wp2_with (go_at_call 10;refine(H1.out _ _ (by simp)).mono ?_)
   rintro e w2 ⟨a2,c2,rfl,hb2,hs2⟩;go_wp2_with (go_at_call 10;refine(H2.out _ _ rfl).mono ?_)
   rintro e w3 ⟨a3,c3,rfl,hb3,hs3⟩;have hbw3:=bel2 (bel2 hb1 hb2) hb3;have HA:=Lib.hid (hs2.later hb3);have hb4:Below w3.heap.size w3 (w3.alloc (.cells #[.int .i64 0,.string ⟨((36::[123,48,120,32])).toArray⟩,.int .i64 0,.bool false,.bool false,.int .i64 0,.string ⟨#[]⟩,.bool false,.slice none 0 0,.int .i64 0,.int .i64 0,.bool false,.slice none 0 0,.slice none 0 0,.bool false,.bool false,.slice none 0 0,.slice none 0 0] 36)):=(Below.refl _ _).alloc (Nat.le_refl _) _;obtain⟨css,hsl,hvs⟩:=(hs3.mono (S':=fun b=>b<w3.heap.size) (fun b _ hlt=>hlt)).later hb4;have HSL:=Lib.hid hsl.sl;have HVS:=Lib.hid (hvs.mono (S':=fun b=>b<w3.heap.size∧(Value.slice (some ⟨w3.heap.size,0,none⟩) 1 1).ownBlock≠some b) (fun b hb _=>⟨hb,fun e=>by simp [Value.ownBlock] at e;omega⟩));have HONE:=Lib.hid hvs.one;have HOW:=Lib.hid (own_lit1 w3 #[.int .i64 0,.string ⟨((36::[123,48,120,32])).toArray⟩,.int .i64 0,.bool false,.bool false,.int .i64 0,.string ⟨#[]⟩,.bool false,.slice none 0 0,.int .i64 0,.int .i64 0,.bool false,.slice none 0 0,.slice none 0 0,.bool false,.bool false,.slice none 0 0,.slice none 0 0] rfl);have HB4:=Lib.hid hb4;clear hb1 hb2 hb3 hs2 hs3 hb4 hsl hvs c1;go_wp2_with (at_builtin;refine wpList_appG (by rfl) w3.heap.size 36 _ _ 23 rfl Try.underlying23 hiN rfl (by decide) rfl HOW.out rfl HSL.out HONE.out (by omega) (by omega) (by decide) (by simp) ?_)
   intro v' w5 ho5 hg5 hb5 hmv;obtain⟨a5,c5,rfl⟩:=own_form ho5;have how:=OwnN.app (css:=[[.int .i64 0,.string ⟨((36::[123,48,120,32])).toArray⟩,.int .i64 0,.bool false,.bool false,.int .i64 0,.string ⟨#[]⟩,.bool false,.slice none 0 0,.int .i64 0,.int .i64 0,.bool false,.slice none 0 0,.slice none 0 0,.bool false,.bool false,.slice none 0 0,.slice none 0 0]]) (S:=fun b=>b<w3.heap.size) (v:=Value.slice (some ⟨w3.heap.size,0,none⟩) 1 1) (xs:=[textS (36::[123,48,120,32])]) (m:=B.length) (.cons (textS_v _ _ _) .nil) HVS.out rfl (by simpa using ho5) hg5 hmv;have hs5:SnSl w5 (fun _=>True) a5 (1+B.length) (textS (36::[123,48,120,32])::B):=by
    have:=how.sl.2.mono (S':=fun _=>True) (fun _ _ _=>trivial)
    rw [List.length_append] at this;exact this
   have hb35:=HB4.out.trans hb5;have HJ5:=Lib.hid (HJ.out (1+B.length) (by simp;omega) _ a5 c5 w5 hs5);have HB35:=Lib.hid hb35;clear ho5 hg5 hb5 hmv how hs5 hb35;go_wp2_with (go_at_call 18;refine HJ5.out.mono ?_)
   rintro e w6 ⟨a6,c6,rfl,hs6,hb6⟩;have hb36:=HB35.out.trans (hb6.mono HB35.out.size);have HSa:=Lib.hid (HS.out _ _ a2 a6 c2 c6 w6 (HA.out.later hb36) hs6);have hbw6:=bel2 hbw3 hb36;clear hs6 hb6 hb36;go_wp2_with (go_at_call 15;refine HSa.out.mono ?_)
   first|rintro e w7 rfl hb7|rintro e w7 ⟨rfl,hb7⟩
   have hbw7:=bel2 hbw6 hb7;go_wp2_with (go_at_call 11;refine(awake21 _).mono ?_;rintro e w9 ⟨rfl,hb9⟩)
   go_ret
   exact⟨rfl,bel2 hbw7 hb9⟩
end Go.Proofs.Ytbgcjpefocdkkaa
