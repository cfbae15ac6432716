/- Closing steps of one statement's walk. -/
import Derived.Test.YtbnkaecmgfolpaaGreatHb0
set_option maxRecDepth 100000
namespace Go.Proofs.YtbnkaecmgfolpaaGreat
open Go.RowKit
theorem fC {p:Prop} (h:p:=by rw [←hb0];unfold mL;rw [List.take_zero,jD,zH];congr 1;exact propext ⟨fun h=>by omega,fun h=>by omega⟩):p:=h
theorem fL {p:Prop} (h:p:=by rw [Av (Nat.succ_pos many),Az];exact HW2.out):p:=h
theorem fU {p:Prop} (h:p:=by rw [Az];exact HW2.out):p:=h
theorem gK {p:Prop} (h:p:=by unfold byFs;split<;>simp<;>omega):p:=h
theorem gZ {p:Prop} (h:p:=by rw [mA];omega):p:=h
theorem ig {p:Prop} (h:p:=by cases by_ with|nil=>exact absurd rfl hby|cons _ _=>rfl):p:=h
theorem il {p:Prop} (h:p:=by rw [hyes,hd0];rfl):p:=h
theorem iw {p:Prop} (h:p:=by unfold byFs;split<;>simp):p:=h
theorem iC {p:Prop} (h:p:=by first|exact h3|decide):p:=h
theorem iI {p:Prop} (h:p:=by first|omega|decide):p:=h
theorem aC {p:Prop} (h:p:=by
 obtain⟨pc,hpc⟩:∃c,p[j]?=some c:=⟨_,zN hjl⟩;obtain⟨dd,hdd⟩:∃d,cs[i+j]?=some d:=⟨_,zN fg⟩;have HST:=ab (wy hh hpc hdd);have c1:=HCELL.out _ hbq (i+j) dd hdd;have htk:List.take 1 (List.drop j p)=[pc]:=by
  rw [List.drop_eq_getElem_cons hjl,List.take_succ_cons,List.take_zero];rw [zN hjl] at hpc;injection hpc with hpc;rw [hpc]
 have q1:IntKind.i64.wrap ((i:Int)+(j:Int))=(i:Int)+(j:Int):=IntWalk.i64_in _ fg;have q2:((i:Int)+(j:Int)).toNat=i+j:=fg;have q3:IntKind.i64.wrap ((j:Int)+1)=(j:Int)+1:=IntWalk.i64_in _ fg;have q4:((j:Int)+1).toNat=j+1:=fg;have q5:(i:Int)+(j:Int)<(cs.length:Int):=fg;clear hpc hdd HB0 c0;go_wp2
 go_quiet (fail)
 clear q1 q2 q3 q4;go_wp2
 go_roundw
 case rel=>exact⟨j+1,by omega,by rw [HST.out];try rfl,by go_num,below_drewN hbq _⟩
 case measure=>simp [intOf];omega):p:=h
theorem aE {p:Prop} (h:p:=by
 obtain⟨z,hz⟩:∃z,ns[i]?=some z:=⟨ns[i]'(by have:=Hno.out;omega),by simp⟩;obtain⟨b,o,rfl,hbB,c0⟩:=(HSl.out.keep hb).int_ hz;have hlow:=vI z (n:=3) fg;obtain⟨k,hk⟩:∃k:Nat,low z 3=k:=⟨(low z 3).toNat,by omega⟩;have hk9:k≤2:=fg;have HL:=ab (fun w=>hk▸nL z 3 w fg fg);obtain⟨d,hd1,hd2⟩:=pick3 hk9;have hzb:=hb.size;have HOX:=ab hox;have HB:=ab hb;have HPL:=ab hpl;have hplb:p.length≤8:=fg;clear hlow hk hz hox hb hpl;go_wp2_with (go_at_call 16;refine(HL.out _).mono ?_)
 first|rintro e wl rfl rfl|rintro e wl ⟨rfl,rfl⟩
 go_upto_region 10 with fail
 obtain⟨css,hown,hrv⟩:=HOX.out;rw [Ab] at hown;obtain⟨va,vc,rfl⟩:=ja hown;have hb1:Below wr.heap.size wr (wr.alloc (.cells #[.int .i64 2,.string ⟨([d]).toArray⟩,.bool false,.slice none 0 0,.int .i64 0,.int .i64 0,.bool false,.slice none 0 0] 25)):=(Below.refl _ _).alloc (zP _) _;have HO1:=ab (iX hown hb1);have HRV:=ab (hrv.later hb1);have HSL:=ab (Sl.lit (n:=1) (sz:=8) (heap_alloc_new wr (.cells #[.int .i64 2,.string ⟨([d]).toArray⟩,.bool false,.slice none 0 0,.int .i64 0,.int .i64 0,.bool false,.slice none 0 0] 25)) rfl);have hzb1:w.heap.size≤(wr.alloc (.cells #[.int .i64 2,.string ⟨([d]).toArray⟩,.bool false,.slice none 0 0,.int .i64 0,.int .i64 0,.bool false,.slice none 0 0] 25)).heap.size:=by rw [At];omega
 have HB1:=ab (HB.out.alloc hzb (.cells #[.int .i64 2,.string ⟨([d]).toArray⟩,.bool false,.slice none 0 0,.int .i64 0,.int .i64 0,.bool false,.slice none 0 0] 25));have HONE:=ab ((yU wr (fun _=>True) d).one);obtain⟨ix,hix⟩:=HIX.out;clear hown hrv hb1 c0;go_wp2_with (at_builtin;refine je w.heap.size 25 rfl _ _ 23 rfl Tryz.underlying23 hix rfl fo rfl HO1.out rfl HSL.out (by first|exact HONE.out|(rw [hd1];exact HONE.out)) fg fg fo hzb1 ?_)
 intro v7 w7 ho7 hg7 hb7 hmv;have hox7:OwnX w7 w.heap.size v7 ((p++[d]).map ko):=by
  rw [List.map_append];exact OwnX.app (ys:=[ko d]) (ds:=[_]) (m:=1) HRV.out (.cons (yU _ _ d) .nil) rfl (by simpa using ho7) hg7 hmv
 have HOX7:=ab hox7;have HB7:=ab (HB1.out.trans hb7);have HIN7:Hid (∀c∈p++[d],iU c=false):=ab fun c hc=>by
  rcases Aq.1 hc with hc|hc
  ·exact HIN.out c hc
  ·rw [AA.1 hc];exact hd2
 clear ho7 hg7 hb7 hmv hox7;go_wp2
 go_roundw
 case rel=>exact⟨i+1,p++[d],by omega,by simp [HPL.out],by go_num,rfl,HOX7.out,HB7.out,HIN7⟩
 case measure=>simp [intOf];omega):p:=h
theorem bl {p:Prop} (h:p:=by
 go_wp2
 go_roundw
 case rel=>exact⟨i+1,many,want++ci,by omega,by omega,rfl,rfl,by go_num,hbq,HW3⟩
 case measure=>simp [intOf];omega):p:=h
theorem bH {p:Prop} (h:p:=by
 have HW2:=ab HW.out;rw [nY hp1 hic il] at HW2;have HW3:Hid ((want++([]:Str))++jE cs (jD cs p) (fun _=>([]:Str)) p.length true (cs.length+1) (i+p.length) (decide (0<many+1))=R):=ab fL;clear HW2 hyes hd0 hm0;go_wp2
 go_roundw
 case rel=>exact⟨i+p.length,many+1,want++([]:Str),by omega,by omega,by first|rfl|simp,by go_num,by go_num,hbq,HW3⟩
 case measure=>simp [intOf];omega):p:=h
theorem bJ {p:Prop} (h:p:=by
 have HW2:=ab HW.out;rw [nY hp1 hic il] at HW2;have HW3:Hid ((want++by_)++jE cs (jD cs p) (fun _=>by_) p.length true (cs.length+1) (i+p.length) (decide (0<many+1))=R):=ab fL;clear HW2 hyes hd0 hm0;go_wp2
 go_roundw
 case rel=>exact⟨i+p.length,many+1,want++by_,by omega,by omega,by first|rfl|simp,by go_num,by go_num,hbq,HW3⟩
 case measure=>simp [intOf];omega):p:=h
theorem bL {p:Prop} (h:p:=by
 clear hx;go_enter Tryz.func5,Tryz.ntmps5
 go_wp2_with (go_at_call 11;refine(lA _).mono ?_;rintro e w9 ⟨rfl,hb9⟩)
 go_ret
 exact⟨rfl,hb9⟩):p:=h
theorem cl {p:Prop} (h:p:=by
 unfold mL at hh;simp only [Am,zJ] at hh;exact hh.1):p:=h
theorem cu {p:Prop} (h:p:=by
 exact⟨0,0,[],by omega,by omega,rfl,rfl,rfl,Below.refl _ _,ab HRR.out⟩):p:=h
theorem cx {p:Prop} (h:p:=by
 have h9:=yy s ci (by rw [HCS.out];exact Ar hci);omega):p:=h
theorem cA {p:Prop} (h:p:=by
 have:=Ad List.length HW.out
 rw [zX] at this;omega):p:=h
theorem cH {p:Prop} (h:p:=by
 rw [AF,←hcs,ke] at h9;rw [hcs] at h9;omega):p:=h
theorem cZ {p:Prop} (h:p:=by
 exact⟨0,by omega,by rw [HB0.out],rfl,HBW2.out⟩):p:=h
theorem de {p:Prop} (h:p:=by
 go_ret
 exact⟨rfl,bel2 (bel2 HB9.out hb8) hb9⟩):p:=h
theorem dU {p:Prop} (h:p:=by
 exact⟨0,[],by omega,rfl,rfl,rfl,OwnX.nil _ _,Below.refl _ _,ab fq⟩):p:=h
end Go.Proofs.YtbnkaecmgfolpaaGreat
