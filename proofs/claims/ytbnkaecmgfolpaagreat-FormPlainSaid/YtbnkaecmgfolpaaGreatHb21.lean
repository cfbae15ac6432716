/- walk of rxrun: find -/
import Derived.Test.YtbnkaecmgfolpaaGreatHb20
set_option maxRecDepth 100000
set_option maxHeartbeats 4000000
namespace Go.Proofs.YtbnkaecmgfolpaaGreat
open Go.RowKit
def FindP (R:Rn) (q:Option (Nat × Nat × List (Int × Int)) × Rst) (k:Nat) (w:World) (e:Ending) (w':World):Prop :=
 RunJ R w' q.2∧Gx R.Y w w'∧match q.1 with
  | none=>e=.returned (.tuple #[mz,.bool false])
  | some (a,b,ps)=>∃aa c,e=.returned (.tuple #[.agg #[.int .i64 ((R.C.offs.getD a 0:Nat):Int),.int .i64 ((R.C.offs.getD b 0:Nat):Int),.slice aa R.n c],.bool true])∧SlS w' (fun b=>w.heap.size≤b) aa 2 R.n (i7 ps)∧ps.length=R.n∧k≤a∧a≤b∧b≤R.C.cs.length
def FdRel (R:Rn) (x:Rx) (Q:Option (Nat × Nat × List (Int × Int)) × Rst) (k0:Nat) (w:World) (q:Value) (wr:World):Prop :=
 ∃(k N:Nat) (s:Rst),k0≤k∧k≤R.C.cs.length+1∧R.C.cs.length+1-k<N∧q=.int .i64 k∧RunJ R wr s∧Gx R.Y w wr∧wr.heap[w.heap.size]?=some (.cells #[.int .i64 0,.int .i64 0,.slice none 0 0] 72 (0,0))∧Hid (lD R.C x N k s=Q)
theorem RunT.gx {R:Rn} {x:Rx} {w w':World} (j:RnJ R) (h:RunT R x w) (hg:Gx R.Y w w'):RunT R x w' :=
 ⟨h.tp.keep (hg.kept fun b hb e=>by
  rcases e with e|e
  ·exact(j.sr b hb).1 e
  ·exact(j.sr b hb).2 e),h.n,h.wf,h.sm,fun b hb=>zS (h.lt b hb) hg.size⟩
theorem vK {R:Rn} (j:RnJ R) {x:Rx} {w:World} {st:Rst} (h:RunJ R w st) (hx:RunT R x w) {k N:Nat} (hk:k≤R.C.cs.length+1) (hN:R.C.cs.length+1-k<N) :
  Calls Tryz.prog 84 #[.pointer (some ⟨R.r,0,none⟩),.int .i64 k] w (FindP R (lD R.C x N k st) k w):=by
 obtain⟨Q,hQ⟩:∃Q,lD R.C x N k st=Q:=⟨_,rfl⟩;rw [hQ];have HQ:=ab hQ;obtain⟨hlr,hlp⟩:=h.lt;obtain⟨W1,hW1⟩:∃W1,W1=w.alloc (.cells #[.int .i64 0,.int .i64 0,.slice none 0 0] 72):=⟨_,rfl⟩;have hb1:Below w.heap.size w W1:=by rw [hW1];exact(Below.refl _ _).alloc (zP _) _
 have hx1:W1.heap[w.heap.size]?=some (.cells #[.int .i64 0,.int .i64 0,.slice none 0 0] 72 (0,0)):=by rw [hW1];exact heap_alloc_new w _
 have HJ1:=ab (h.later hb1);have HJ:=ab j;have HX:=ab hx;have HW1:=ab hW1;have HX1:=ab hx1;have HG1:Hid (Gx R.Y w W1):=ab (Gx.of_below hb1);have hol:=j.of;have hcs:=j.cs;clear j h hx hW1 hx1 hb1 hQ;go_enter Tryz.func84,Tryz.ntmps84
 go_upto_region 1 with fail
 rw [←HW1.out];go_loopw [1] (fun q wr=>FdRel R x Q k w q wr) (fun q _=>R.C.cs.length+1-(intOf q).toNat)
 case atStart=>exact⟨k,N,st,zP _,hk,hN,rfl,HJ1.out,HG1.out,HX1.out,HQ⟩
 case round =>
  obtain⟨i,M,s,hki,hi,hM,rfl,hj,hg,hxb,HF⟩:=hrel;clear HQ HW1 HX1 HG1 HJ1;obtain⟨M,rfl⟩:∃m,M=m+1:=⟨M-1,by omega⟩;have hl11:=HJ.out.tp;have cell:∀(jj:Nat) (u:Value),[Value.bool R.C.fold,.slice R.ca R.C.cs.length R.cc,.slice R.oa (R.C.cs.length+1) R.oc,.slice R.pa R.n R.pc,.int .i64 (s.fuel:Int),.bool s.out][jj]?=some u→wr.cell? ⟨R.r,11+jj,none⟩=some u:=fun jj u hu=>by
   rw [zT hj.box];unfold Rn.cells;simp only [List.getElem?_toArray];rw [Aa fg,hl11,Nat.add_sub_cancel_left];exact hu
  have c13:wr.cell? ⟨R.r,13,none⟩=some (.slice R.oa (R.C.cs.length+1) R.oc):=cell 2 _ rfl;have c16:wr.cell? ⟨R.r,16,none⟩=some (.bool s.out):=cell 5 _ rfl;have HXB:=ab hxb;have HJI:=ab hj;have HGI:=ab hg;have HWR:=ab (iN hxb);have hrow:=o6 wr w.heap.size #[.int .i64 0,.int .i64 0,.slice none 0 0];have HJE:Hid (RunJ R (wr.setRow w.heap.size #[.int .i64 0,.int .i64 0,.slice none 0 0]) s):=ab (hj.gx hrow (Nat.ne_of_lt hlr) (fun k hk e=>absurd (hlp k hk) fX) (fun b hb e=>absurd (HX.out.lt b hb) fG));have HGE:Hid (Gx R.Y w (wr.setRow w.heap.size #[.int .i64 0,.int .i64 0,.slice none 0 0])):=ab (hg.to hrow (fun b hb e=>absurd hb fG));have HRE:=ab (mO (cs:=#[.int .i64 0,.int .i64 0,.slice none 0 0]) hxb);clear cell hl11 hxb hj hg hrow;by_cases hgo:i≤R.C.cs.length∧s.out=false
  ·obtain⟨hin,hout⟩:=hgo
   rw [hout] at c16;have hil:(i:Int)<(R.C.cs.length:Int)+1:=fg;have HO:=ab (one_any HJ.out HJI.out (RunT.gx HJ.out HX.out HGI.out) hin);obtain⟨q,hq⟩:∃q,oneM R.C x i s=q:=⟨_,rfl⟩;have HF2:Hid ((match q.1 with|some (e,ps)=>(some (i,e,ps),q.2)|none=>lD R.C x M (i+1) q.2)=Q):=ab (by
    rw [←HF.out];refine Eq.trans ?_ (zL (c:=i<R.C.offs.length∧s.out=false) ⟨by omega,hout⟩).symm;rw [←hq];rfl)
   rw [hq] at HO;obtain⟨qo,s2⟩:=q;have HOUT:=ab hout;clear hq hout HF HJE HGE HRE;go_wp2_with (go_at_call 122;refine HO.out.mono ?_)
   rintro e w3 ⟨hj3,hg3,hm3⟩;have HJ3:=ab hj3;have HG3:Hid (Gx R.Y w w3):=ab (HGI.out.to hg3 (fun _ _ h=>h));have hx3:=Gx.heap hg3 HXB.out (fun e=>by
    rcases e with e|e
    ·omega
    ·have:=hlp _ e;omega)
   have HX3:=ab hx3;have hz3:=hg3.size;have HZ3:=ab hz3;clear hj3 hg3 hx3 HO HXB c13 c16 hz3;cases qo with
   | none =>
    simp only at hm3
    subst hm3;unfold mz;go_wp2
    go_roundw
    case rel =>
     refine⟨i+1,M,s2,by omega,by omega,by omega,by go_num,?_,?_,?_,HF2⟩
     ·exact HJ3.out.later ((Below.refl _ _).alloc (zP _) _)
     ·exact HG3.out.to (Gx.of_below (X:=R.Y) ((Below.refl _ _).alloc (zP _) _)) (fun _ _ h=>h)
     ·rw [Below.heap_alloc _ _ _ (iN HX3.out)];exact HX3.out
    case measure=>simp [intOf];omega
   | some y =>
    obtain⟨en,ps⟩:=y;obtain⟨aa,c,rfl,hs3,hpl,h1,h2⟩:=hm3;obtain⟨ka,hka⟩:∃n,R.C.offs.getD i 0=n:=⟨_,rfl⟩;obtain⟨ea,hea⟩:∃n,R.C.offs.getD en 0=n:=⟨_,rfl⟩;rw [hka,hea];have HKA:=ab hka;have HEA:=ab hea;have HS3:=ab hs3;have HPL:=ab hpl;obtain⟨W4,hW4⟩:∃W4,W4=w3.alloc (.cells #[.int .i64 (ka:Int),.int .i64 (ea:Int),.slice aa R.n c] 72):=⟨_,rfl⟩;have hb4:Below w3.heap.size w3 W4:=by rw [hW4];exact(Below.refl _ _).alloc (zP _) _
    have hx4:=(hb4.block _ (iN HX3.out)).trans HX3.out;have hl4:W4.heap[w3.heap.size]?=some (.cells #[.int .i64 (ka:Int),.int .i64 (ea:Int),.slice aa R.n c] 72 (0,0)):=by rw [hW4];exact heap_alloc_new w3 _
    have m0:W4.cell? ⟨w3.heap.size,0,none⟩=some (.int .i64 (ka:Int)):=by rw [zT hl4];rfl
    have m1:W4.cell? ⟨w3.heap.size,1,none⟩=some (.int .i64 (ea:Int)):=by rw [zT hl4];rfl
    have m2:W4.cell? ⟨w3.heap.size,2,none⟩=some (.slice aa R.n c):=by rw [zT hl4];rfl
    have hrow4:=o6 W4 w.heap.size #[.int .i64 (ka:Int),.int .i64 (ea:Int),.slice aa R.n c];have hlt3:=iN HX3.out;have HJ5:Hid (RunJ R (W4.setRow w.heap.size #[.int .i64 (ka:Int),.int .i64 (ea:Int),.slice aa R.n c]) s2):=ab ((HJ3.out.later hb4).gx hrow4 (Nat.ne_of_lt hlr) (fun k hk e=>absurd (hlp k hk) fX) (fun b hb e=>absurd (HX.out.lt b hb) fG));have HG5:Hid (Gx R.Y w (W4.setRow w.heap.size #[.int .i64 (ka:Int),.int .i64 (ea:Int),.slice aa R.n c])):=ab ((HG3.out.to (Gx.of_below (X:=R.Y) hb4) (fun _ _ h=>h)).to hrow4 (fun b hb e=>absurd hb fG));have HS5:Hid (SlS (W4.setRow w.heap.size #[.int .i64 (ka:Int),.int .i64 (ea:Int),.slice aa R.n c]) (fun b=>w.heap.size≤b) aa 2 R.n (i7 ps)):=ab (((SlS.keep hs3 (Kept.all hb4)).keep (hrow4.kept (S:=fun b=>wr.heap.size≤b) fun b hb e=>by
     have h5:=HGI.out.size;have h6:b=w.heap.size:=e;have h7:wr.heap.size≤b:=hb;have h8:=HWR.out;omega)).mono fun b hb _=>zR HGI.out.size hb)
    have HR5:=ab (mO (cs:=#[.int .i64 (ka:Int),.int .i64 (ea:Int),.slice aa R.n c]) hx4);have HX4:=ab hx4;have HW4:=ab hW4;have HF3:Hid ((some (i,en,ps),s2)=Q):=HF2;clear hka hea hs3 hpl hb4 hx4 hl4 hrow4 hW4 hlt3 HF2;go_upto_region 5 with fail
    rw [←HW4.out];go_wp2_with (refine kB rfl 72 (.tmp 4) (.tmp 31) rfl (w.heap.size) (#[.int .i64 (ka:Int),.int .i64 (ea:Int),.slice aa R.n c]) rfl rfl 72 _ (HX4.out) (jx) rfl rfl (fz) (W:=(W4.setRow w.heap.size #[.int .i64 (ka:Int),.int .i64 (ea:Int),.slice aa R.n c])) (rfl) ?_)
    refine Al (rP Tryz.results84 kh jx HR5.out rfl rfl rfl) rfl ?_;rw [←HF3.out];exact⟨HJ5.out,HG5.out,aa,c,by rw [HKA.out,HEA.out];rfl,HS5.out,HPL.out,hki,h1,h2⟩
  ·have HE:Hid ((none,s)=Q):=ab (by
    rw [←HF.out];unfold lD;rw [zO (fun h=>hgo ⟨by omega,h.2⟩)])
   have hcase:(¬(i:Int)<(R.C.cs.length:Int)+1∧i=R.C.cs.length+1)∨((i:Int)<(R.C.cs.length:Int)+1∧s.out=true):=by
    rcases Nat.lt_or_ge R.C.cs.length i with h|h
    ·exact .inl ⟨by omega,by omega⟩
    ·refine .inr ⟨by omega,?_⟩
     cases ho:s.out with
     | true=>rfl
     | false=>exact absurd ⟨h,ho⟩ hgo
   clear hgo HF;rcases hcase with⟨hil,_⟩|⟨hil,ho⟩
   ·exact bN
   ·rw [ho] at c16
    exact bN
theorem yN (n:Nat) (hn:n≤1000000):bits .and .u64 (n:Int) 4294967295=(n:Int):=by
 have h:=bits_and_u64_nat n 4294967295 fg fo;rw [show (4294967295:Nat)=2 ^ 32-1 by decide,Nat.and_two_pow_sub_one_eq_mod,Nat.mod_eq_of_lt fg] at h;exact h
theorem xP (n:Nat) (w:World) (hn:n≤1000000):Calls Tryz.prog 179 #[.int .u64 1,.int .u64 n] w fun e w'=>e=.returned (.tuple #[.int .u64 0,.int .u64 n])∧w=w':=by
 have m1:bits .and .u64 1 4294967295=1:=yN 1 fg;have m0:bits .and .u64 0 4294967295=0:=yN 0 fg;have mn:=yN n hn;have d1:(n:Int) / 4294967296=0:=fg;go_enter Tryz.func179,Tryz.ntmps179
 go_wp2
 go_ret2
 exact⟨rfl,rfl⟩
theorem Mul_one (n:Nat) (w:World) (hn:n≤1000000):Calls Tryz.prog 156 #[.int .u64 1,.int .u64 n] w fun e w'=>e=.returned (.tuple #[.int .u64 0,.int .u64 n])∧w=w':=by
 go_enter Tryz.func156,Tryz.ntmps156
 go_wp2_with (go_at_call 179;refine(xP n _ hn).mono ?_;rintro e w1 ⟨rfl,rfl⟩)
 go_ret2
 exact⟨rfl,rfl⟩
theorem step_cp {P:Program} {w:World} {ops:Array Oper} {o:Oper} {a:Act} {K:Act→World→Prop} {Q:Exit→Act→World→Prop} {E:Prop} (hgd:o.guard=none) (d s:Operand) (t t':TypeId)
  (ho:o.op=.call { callee:=.builtin .copy,args:=#[d,s],argTypes:=#[t,t'] }) (v u:Value) (hd:a.eval d=v) (hs:a.eval s=u) {v':Value} {w':World}
  (hr:(Builtin.copy_ #[t,t'] o.type #[v,u]).run P w=.ok v' w') (h:K (a.put o.dst v') w'):if Region.wanted o (yielded ops a.tmps)=true then Oper.wp P o a w K Q else E:=by
 have hwt:Region.wanted o (yielded ops a.tmps)=true:=by simp [Region.wanted,hgd]
 rw [zL hwt];unfold Oper.wp;simp [execOp,ho,resolve,invoke,builtin,hd,hs,hr,Result.andThen]
 exact h
def rowP (m n:Nat):List (Int × Int):=List.replicate m (-1,-1)++List.replicate (n-m) (0,0)
theorem rowP_len {m n:Nat} (h:m≤n):(rowP m n).length=n:=by simp [rowP];omega
theorem xM {m n k:Nat}:List.replicate m ((-1:Int),(-1:Int))++(List.replicate k (-1,-1)++List.replicate (n-(m+k)) (0,0))=rowP (m+k) n:=by
 unfold rowP;rw [←Az,List.replicate_append_replicate]
def RpRel (w:World) (g n:Nat) (q:Value) (wr:World):Prop :=
 ∃m:Nat,m≤n∧(0<n→0<m)∧q=.int .i64 m∧wr.ownsRow w.heap.size 69 2 (.slice (some ⟨g,0,none⟩) n n) n (i7 (rowP m n))∧Below w.heap.size w wr
theorem xU {P:Program} {w wr:World} {g n m k sl scap dc:Nat} {e:TypeId} (h:wr.ownsRow w.heap.size e 2 (.slice (some ⟨g,0,none⟩) n n) n (i7 (rowP m n))) (hb:Below w.heap.size w wr) (dT ty:TypeId) (hu:P.underlying dT=some (.slice e)) (hs:(P.info? e).map (·.size)=some 2) (a:Addr) (hk:Nat.min sl (n-m)=k) (hsrc:∀j u,(i7 (List.replicate k ((-1:Int),(-1:Int))))[j]?=some u→wr.cell? (a.add j)=some u) (hm:m≤n) :
  ∃w',(Builtin.copy_ #[dT,dT] ty #[.slice (some ⟨g,m*2,none⟩) (n-m) dc,.slice (some a) sl scap]).run P wr=.ok (goInt (k:Nat)) w'∧w'.ownsRow w.heap.size e 2 (.slice (some ⟨g,0,none⟩) n n) n (i7 (rowP (m+k) n))∧Below w.heap.size w w':=by
 have hkn:m+k≤n:=by have:Nat.min sl (n-m)≤n-m:=Nat.min_le_right _ _;omega
 have hl:(i7 (List.replicate k ((-1:Int),(-1:Int)))).length=k*2:=by rw [jq,List.length_replicate]
 have hlo:(i7 (List.replicate m ((-1:Int),(-1:Int)))).length=m*2:=by rw [jq,List.length_replicate]
 have hrun:=te (P:=P) wr dT dT ty e 2 g (m*2) (n-m) dc a sl scap (i7 (List.replicate k ((-1:Int),(-1:Int)))) hu hs (by rw [hl,hk]) hsrc
  (fun j hj=>by rw [h.cellAt _ fg,zN (by rw [jq,rowP_len hm];omega)];rfl) (fun j _=>h.frozenAt _) (ny _)
 have hset:=sI (i7 (List.replicate k ((-1:Int),(-1:Int)))) (i7 (List.replicate k ((0:Int),(0:Int)))) (i7 (List.replicate m ((-1:Int),(-1:Int)))) (i7 (List.replicate (n-(m+k)) ((0:Int),(0:Int)))) (w:=wr) (B:=w.heap.size) (e:=e) (sz:=2) (n:=n) (g:=g) (cap:=n) (by
   rw [←jY,←jY,List.replicate_append_replicate,show k+(n-(m+k))=n-m by omega];exact h) (by rw [jq,jq];simp)
 rw [hlo,←jY,←jY,xM] at hset;refine⟨_,by rw [hrun,hk],hset,?_⟩;exact Gx.below ((Gx.of_below (X:=fun _=>False) (hb.mono (zP _))).to (Gx.sets (X:=fun k=>k=g) rfl _ _ _) (fun k hk e=>by have:=(h.lt g rfl).1;omega)) (zP _) (fun k e=>e.elim)
theorem wv:∀n:Nat,(madeCells #[.int .i64 0,.int .i64 0] (n*2)).toList=i7 (rowP 0 n):=by
 intro n;apply List.ext_getElem?
 intro j;unfold madeCells rowP;simp only [List.replicate_zero,Ax,Nat.sub_zero,Array.toList_map,Array.toList_range,List.getElem?_map];rcases Nat.lt_or_ge j (n*2) with h|h
 ·rw [List.getElem?_range h]
  have hp:(List.replicate n ((0:Int),(0:Int)))[j / 2]?=some (0,0):=by rw [List.getElem?_replicate,zL fg]
  obtain⟨c1,c2⟩:=ol hp;rcases(show j % 2=0∨j % 2=1 by omega) with h2|h2
  ·rw [show j / 2*2=j by omega] at c1
   rw [c1];simp [h2]
  ·rw [show j / 2*2+1=j by omega] at c2
   rw [c2];simp [h2]
 ·rw [List.getElem?_eq_none fS,List.getElem?_eq_none (by rw [jq,List.length_replicate];exact h)];rfl
theorem wc {b o c:Nat} (n:Nat) (w:World) (hn:n≤1000000) (h0:w.cell? ⟨b,o,none⟩=some (.int .i64 (-1))) (h1:w.cell? ⟨b,o+1,none⟩=some (.int .i64 (-1))) :
  Calls Tryz.prog 121 #[.slice (some ⟨b,o,none⟩) 1 c,.int .i64 n] w fun e w'=>∃g,e=.returned (.slice (some ⟨g,0,none⟩) n n)∧w'.ownsRow w.heap.size 69 2 (.slice (some ⟨g,0,none⟩) n n) n (i7 (List.replicate n (-1,-1)))∧Below w.heap.size w w':=by
 obtain⟨i,hi1,hi2,hi3,hi4⟩:=info_parts qh;have H0:=ab h0;have H1:=ab h1;clear h0 h1;go_enter Tryz.func121,Tryz.ntmps121
 go_wp2_with (first
  | (go_at_call 156;refine(Mul_one n _ hn).mono ?_;rintro e w1 ⟨rfl,rfl⟩)
  | (at_make;refine wpList_make_full w rfl _ _ _ rfl w.heap.size 69 i _ 2 Tryz.underlying70 hi1 hi2 hi3 .i64 .i64 n n n rfl rfl rfl rfl (by rw [hi4];omega) (by simp only [maxLen];omega) (zP _) ?_))
 intro w1 ho1 hg1;have hb1:Below w.heap.size w w1:=(Below.refl _ _).grown hg1 (zP _) (fun k e=>by cases e);have e0:(madeCells #[.int .i64 0,.int .i64 0] (n*2)).toList=i7 (rowP 0 n):=wv n;rw [e0] at ho1;clear e0 hg1 hi1 hi2 hi3 hi4;obtain⟨k,hk⟩:∃k,Nat.min 1 n=k:=⟨_,rfl⟩;have hkc:k≤1∧k≤n∧(0<n→0<k):=by
  have h1:Nat.min 1 n≤1:=Nat.min_le_left _ _;have h2:Nat.min 1 n≤n:=Nat.min_le_right _ _;have h3:0<n→0<Nat.min 1 n:=fun h=>Nat.lt_min.2 ⟨by omega,h⟩
  omega
 have hsrc:∀j u,(i7 (List.replicate k ((-1:Int),(-1:Int))))[j]?=some u→w1.cell? ((⟨b,o,none⟩:Addr).add j)=some u:=by
  intro j u hj;have hjl:=(zQ.1 hj).1;rw [jq,List.length_replicate] at hjl;have hk1:k=1:=fg;subst hk1;have hadd:(⟨b,o,none⟩:Addr).add j=⟨b,o+j,none⟩:=by unfold Addr.add;split<;>simp_all
  rw [hadd];rcases(show j=0∨j=1 by omega) with rfl|rfl
  ·simp [i7] at hj;subst hj;exact(hb1.cell (World.block_lt_of_cell? w _ H0.out)).trans H0.out
  ·simp [i7] at hj;subst hj;exact(hb1.cell (World.block_lt_of_cell? w _ H1.out)).trans H1.out
 obtain⟨w2,hr2,ho2,hb2⟩:=xU (P:=Tryz.prog) (m:=0) (k:=k) (sl:=1) (scap:=c) (dc:=n) ho1 hb1 70 3 Tryz.underlying70 oC ⟨b,o,none⟩ (by rw [Nat.sub_zero];exact hk) hsrc (Nat.zero_le _);simp only [Nat.zero_mul,Nat.sub_zero,Nat.zero_add] at hr2 ho2;have HR2:=ab hr2;have HO2:=ab ho2;have HB2:=ab hb2;clear hr2 ho2 hb2 ho1 hb1 hsrc hk;go_upto_region 7 with fail
 go_wp2_with (refine tM rfl _ _ _ _ rfl _ _ rfl rfl HR2.out ?_)
 go_loopw [8] (fun q wr=>RpRel w w.heap.size n q wr) (fun q _=>n-(intOf q).toNat)
 case atStart=>exact⟨k,by omega,by omega,rfl,HO2.out,HB2.out⟩
 case round =>
  obtain⟨m,hm,hm0,rfl,hown,hb⟩:=hrel;by_cases hmn:m<n
  ·obtain⟨k2,hk2⟩:∃k2,Nat.min m (n-m)=k2:=⟨_,rfl⟩
   have hk2c:k2≤m∧k2≤n-m∧0<k2:=by
    have h1:Nat.min m (n-m)≤m:=Nat.min_le_left _ _;have h2:Nat.min m (n-m)≤n-m:=Nat.min_le_right _ _;have h3:0<Nat.min m (n-m):=Nat.lt_min.2 ⟨by omega,by omega⟩;omega
   have hdr:Below wr.heap.size wr wr.drew:=(Below.refl _ _).drew;obtain⟨w3,hr3,ho3,hb3⟩:=xU (P:=Tryz.prog) (wr:=wr.drew) (m:=m) (k:=k2) (sl:=m) (scap:=n) (dc:=n-m) (kE hown hdr) (hb.trans (hdr.mono hb.size)) 70 3 Tryz.underlying70 oC ⟨w.heap.size,0,none⟩ hk2 (fun j u hj=>by
    have hjl:=(zQ.1 hj).1;have hadd:(⟨w.heap.size,0,none⟩:Addr).add j=⟨w.heap.size,j,none⟩:=by unfold Addr.add;split<;>simp_all
    rw [jq,List.length_replicate] at hjl;rw [hadd,(kE hown hdr).cellAt j fg];unfold rowP;rw [show m=k2+(m-k2) by omega,←List.replicate_append_replicate,Az,jY,zZ (by rw [jq,List.length_replicate];omega)];exact hj) hm
   have HR3:=ab hr3;have HO3:=ab ho3;have HB3:=ab hb3;have hnm:n≠m:=fg;have hn0:n≠0:=fg;clear hr3 ho3 hb3 hown hb hk2 HR2 HO2 HB2;go_upto_region 9 with fail
   go_region_law (refine step_cp rfl (.tmp 41) (.tmp 44) 70 70 rfl (.slice (some ⟨w.heap.size,m*2,none⟩) (n-m) (n-m)) (.slice (some ⟨w.heap.size,0,none⟩) m n) (by simp [Act.eval,Act.put]) (by simp [Act.eval,Act.put]) HR3.out ?_)
   simp [Act.put]
   rw [show IntKind.i64.wrap ((m:Int)+(k2:Int))=((m+k2:Nat):Int) by rw [IntKind.wrap_i64];omega];go_wp2
   go_roundw
   case rel=>exact⟨m+k2,by omega,by omega,by go_num,HO3.out,HB3.out⟩
   case measure=>simp [intOf];omega
  ·have hmn:m=n:=fg
   subst hmn;have HO:=ab hown;clear hown HR2 HO2 HB2;go_wp2
   go_ret
   refine⟨w.heap.size,rfl,?_,hb⟩;have h:=HO.out;unfold rowP at h;simpa using h
theorem tn {b:Nat} {t:TypeId}:∀(vs old pre post:List Value) {w:World},w.heap[b]?=some (.cells (pre++(old++post)).toArray t (0,0))→old.length=vs.length→(w.setCells b pre.length vs).heap[b]?=some (.cells (pre++(vs++post)).toArray t (0,0))
 | [],old,pre,post,w,h,hl=>by
  have h0:old=[]:=zM hl;subst h0;exact h
 | v::vs,[],pre,post,w,h,hl=>by simp at hl
 | v::vs,u::old,pre,post,w,h,hl=>by
  have h1:(w.setCell ⟨b,pre.length,none⟩ v).heap[b]?=some (.cells ((pre++[v])++(old++post)).toArray t (0,0)):=by
   rw [heap_setCell_same _ _ _ _ _ _ h];congr 2;simp [List.set_append_right]
  have h2:=tn vs old (pre++[v]) post h1 (by simpa using hl);exact cW
theorem fuelM_eq (z:Int):((sE z:Nat):Int)=min (max z 0) 20000:=by unfold sE;omega
theorem wV (s:Str):Rises (jl (iP s) 0):=fun a b h1 h2=>by
 rw [kS] at h2;rw [jI _ _ fg,jI _ _ fg];exact s6 _ (rj s) h1 fg
structure BegunP (fold:Bool) (s:Str) (z:Int) (x:Rx) (w:World) (R:Rn) (w':World):Prop where
 j:RnJ R
 C:R.C=rcM fold s
 n:R.n=x.groups
 run:RunJ R w' (kH x.groups z)
 tr:RunT R x w'
 bel:Below w.heap.size w w'
 new:∀k,R.Y k→w.heap.size≤k
 up:Rises R.C.offs
theorem tB (S:Nat→Prop) {x:Rx} {cc:List Value} {fold:Bool} {s:Str} {z:Int} (w:World) (hv:RxV w S cc x) (hsm:x.small) (hwf:x.wf=true) (hs:s.length≤1000000) (hg:x.groups≤1000) :
  Calls Tryz.prog 83 #[.agg cc.toArray,.bool fold,.string ⟨s.toArray⟩,.int .i64 z] w fun e w'=>∃R:Rn,e=.returned (.pointer (some ⟨R.r,0,none⟩))∧BegunP fold s z x w R w':=by
 obtain⟨F,hF⟩:∃F:Nat,F=sE z:=⟨_,rfl⟩;have hFz:(F:Int)=min (max z 0) 20000:=by rw [hF];exact fuelM_eq z
 have hv0:=hv;obtain⟨kd,ch,ng,rs,lo,hi,lz,ks⟩:=x;obtain⟨ra,rc,ka,kc,rfl,hrs,hks⟩:=hv0.open_;obtain⟨W1,hW1⟩:∃W1,W1=w.alloc (.cells (rxc kd ch ng ra rs.length rc lo hi lz ka ks.length kc).toArray 25):=⟨_,rfl⟩;have hb1:Below w.heap.size w W1:=by rw [hW1];exact(Below.refl _ _).alloc (zP _) _
 have hx1:W1.heap[w.heap.size]?=some (.cells (rxc kd ch ng ra rs.length rc lo hi lz ka ks.length kc).toArray 25 (0,0)):=by rw [hW1];exact heap_alloc_new w _
 have HB1:=ab hb1;have HX1:=ab hx1;have HW1:=ab hW1;have HV:=ab (hv.later hb1);have HF:=ab hF;have HFZ:=ab hFz;clear hW1 hb1 hx1 hv hF hFz hrs hks;unfold rxc at HW1 ⊢;go_enter Tryz.func83,Tryz.ntmps83
 go_upto_region 1 with fail
 rw [←HW1.out];go_wp2_with (first|(go_at_call 19;refine(lT s _ hs).mono ?_)|(go_at_call 119;refine(qY s _ hs).mono ?_))
 rintro e w2 ⟨ca,cc,rfl,hs2,hb2⟩;go_wp2_with (go_at_call 119;refine(qY s _ hs).mono ?_)
 rintro e w3 ⟨oa,oc,rfl,hs3,hb3⟩;have hfe:(if 20000<if z<0 then 0 else z then 20000 else if z<0 then 0 else z)=(F:Int):=by rw [HFZ.out];omega
 have HFE:=ab hfe;clear hfe;have HS2:=ab hs2;have HS3:=ab hs3;have HB2:=ab hb2;have HB3:=ab hb3;clear hs2 hs3 hb2 hb3;go_upto_region 3 with fail
 simp only [HFE.out];obtain⟨zz,hzz⟩:∃zz:Int,zz=(if z<0 then 0 else z):=⟨_,rfl⟩;rw [←hzz];clear hzz;obtain⟨L,hL⟩:∃L:List Value,L=[.int .i64 0,.string ⟨#[]⟩,.bool false,.slice none 0 0,.int .i64 0,.int .i64 0,.bool false,.slice none 0 0,.slice none 0 0,.int .i64 0,.int .i64 0,.bool fold,.slice ca (iP s).length cc,.slice oa ((iP s).length+1) oc,.slice none 0 0,.int .i64 (F:Int),.bool false]:=⟨_,rfl⟩;obtain⟨W4,hW4⟩:∃W4,W4=w3.alloc (.cells L.toArray 146):=⟨_,rfl⟩;obtain⟨W5,hW5⟩:∃W5,W5=W4.alloc (.cells #[.int .i64 0] 3):=⟨_,rfl⟩;have hz4:W4.heap.size=w3.heap.size+1:=by rw [hW4];simp
 have hb4:Below w3.heap.size w3 W4:=by rw [hW4];exact(Below.refl _ _).alloc (zP _) _
 have hb5:Below W4.heap.size W4 W5:=by rw [hW5];exact(Below.refl _ _).alloc (zP _) _
 have h45:W5=(w3.alloc (.cells #[.int .i64 0,.string ⟨#[]⟩,.bool false,.slice none 0 0,.int .i64 0,.int .i64 0,.bool false,.slice none 0 0,.slice none 0 0,.int .i64 0,.int .i64 0,.bool fold,.slice ca (iP s).length cc,.slice oa ((iP s).length+1) oc,.slice none 0 0,.int .i64 (F:Int),.bool false] 146)).alloc (.cells #[.int .i64 0] 3):=by rw [hW5,hW4,hL]
 have hr5:W5.heap[w3.heap.size]?=some (.cells L.toArray 146 (0,0)):=by rw [hb5.block _ fg,hW4];exact heap_alloc_new w3 _
 have hg5:W5.heap[w3.heap.size+1]?=some (.cells #[.int .i64 ((0:Nat):Int)] 3 (0,0)):=by rw [hW5,←hz4];exact heap_alloc_new W4 _
 have hz5:W5.heap.size=w3.heap.size+2:=by rw [hW5];simp;omega
 rw [←h45];have hx5:W5.heap[w.heap.size]?=some (.cells (rxc kd ch ng ra rs.length rc lo hi lz ka ks.length kc).toArray 25 (0,0)):=by
  have h1:=iN HX1.out;have h2:=HB2.out.size;have h3:=HB3.out.size;rw [hb5.block _ fg,hb4.block _ fg,HB3.out.block _ fg,HB2.out.block _ fg];exact HX1.out
 have hbw:Below w.heap.size w W5:=by
  have h1:=HB1.out.size;have h2:=HB2.out.size;have h3:=HB3.out.size;have h4:=hb4.size;exact(((HB1.out.trans (HB2.out.mono h1)).trans (HB3.out.mono fg)).trans (hb4.mono fg)).trans (hb5.mono fg)
 have hvo:RxV w (fun b=>S b∧b<w.heap.size) (rxc kd ch ng ra rs.length rc lo hi lz ka ks.length kc) (.mk kd ch ng rs lo hi lz ks):=hv0.mono (fun b hb hlt=>⟨hb,hlt⟩);have hl:=vd _ (.mk kd ch ng rs lo hi lz ks) (zP _) hsm (fun b=>S b∧b<w.heap.size) _ W5 (w3.heap.size+1) 0 (hvo.later hbw) hg5 (fun h=>by have:=hbw.size;have h2:w3.heap.size+1<w.heap.size:=h.2;have:=HB1.out.size;have:=HB2.out.size;have:=HB3.out.size;omega) fg;have x0:W5.cell? ⟨w.heap.size,0,none⟩=some (.int .i64 kd):=by rw [zT hx5];rfl
 have x1:W5.cell? ⟨w.heap.size,1,none⟩=some (.string ⟨ch.toArray⟩):=by rw [zT hx5];rfl
 have x2:W5.cell? ⟨w.heap.size,2,none⟩=some (.bool ng):=by rw [zT hx5];rfl
 have x3:W5.cell? ⟨w.heap.size,3,none⟩=some (.slice ra rs.length rc):=by rw [zT hx5];rfl
 have x4:W5.cell? ⟨w.heap.size,4,none⟩=some (.int .i64 lo):=by rw [zT hx5];rfl
 have x5:W5.cell? ⟨w.heap.size,5,none⟩=some (.int .i64 hi):=by rw [zT hx5];rfl
 have x6:W5.cell? ⟨w.heap.size,6,none⟩=some (.bool lz):=by rw [zT hx5];rfl
 have x7:W5.cell? ⟨w.heap.size,7,none⟩=some (.slice ka ks.length kc):=by rw [zT hx5];rfl
 have HBW:=ab hbw;have H35:Hid (Below w3.heap.size w3 W5):=ab (bel2 hb4 hb5);have HL:=ab hl;have HLE:=ab hL;have HR5:=ab hr5;have HZ5:=ab hz5;clear hl hvo hbw hx5 hg5 hr5 hz5 h45 hb4 hb5 hz4 hW4 hW5 hL HX1 HW1;unfold rxc at HL;go_wp2_with (go_at_call 120;refine HL.out.mono ?_)
 first|rintro e w6 ⟨pc,rfl,hp6,hg6,hx6⟩
 have hpl:=hp6.len;have hr6:w6.heap[w3.heap.size]?=some (.cells L.toArray 146 (0,0)):=Gx.heap hx6 HR5.out (fun e=>by have:w3.heap.size=w3.heap.size+1:=e;omega);have hth:w6.there w3.heap.size 0 pc.toArray.size:=fun j hj=>by
  have hj:j<11:=by simpa [hpl] using hj
  refine⟨?_,by simp only [World.frozen?,hr6];simp⟩;rw [zT hr6,HLE.out];simp only [List.getElem?_toArray];rw [zN fr];rfl
 go_upto_region 4 with(refine wpList_store_mid rfl 144 (.tmp 25) (.tmp 23) rfl w3.heap.size 0 pc.toArray rfl rfl hth (by rw [sJ];simp [hpl]) (all_oneCell_toArray hp6.one) ?_)
 try simp only [List.toList_toArray]
 obtain⟨G,hG⟩:∃G,G=(Rx.mk kd ch ng rs lo hi lz ks).groups:=⟨_,rfl⟩;rw [←hG] at hg hg6;obtain⟨w7,hw7⟩:∃w7,w7=w6.setCells w3.heap.size 0 pc:=⟨_,rfl⟩;have hx7:Gx (fun k=>k=w3.heap.size) w6 w7:=by rw [hw7];exact Gx.sets (X:=fun k=>k=w3.heap.size) (b:=w3.heap.size) rfl _ _ _
 have hr7:w7.heap[w3.heap.size]?=some (.cells (pc++([.bool fold,.slice ca (iP s).length cc,.slice oa ((iP s).length+1) oc,.slice none 0 0,.int .i64 (F:Int),.bool false]:List Value)).toArray 146 (0,0)):=by
  rw [hw7];exact tn pc [.int .i64 0,.string ⟨#[]⟩,.bool false,.slice none 0 0,.int .i64 0,.int .i64 0,.bool false,.slice none 0 0,.slice none 0 0,.int .i64 0,.int .i64 0] [] _ (by rw [hr6,HLE.out];rfl) (by simp [hpl])
 have hg7:w7.heap[w3.heap.size+1]?=some (.cells #[.int .i64 (G:Int)] 3 (0,0)):=by
  rw [Nat.zero_add] at hg6;exact Gx.heap hx7 hg6 (fun e=>by have:w3.heap.size+1=w3.heap.size:=e;omega)
 have hlt7:=iN hg7;have c7:=iW hg7;obtain⟨W8,hW8⟩:∃W8,W8=w7.alloc (.cells #[.int .i64 (-1),.int .i64 (-1)] 69):=⟨_,rfl⟩;have hb8:Below w7.heap.size w7 W8:=by rw [hW8];exact(Below.refl _ _).alloc (zP _) _
 have h8:W8.heap[w7.heap.size]?=some (.cells #[.int .i64 (-1),.int .i64 (-1)] 69 (0,0)):=by rw [hW8];exact heap_alloc_new w7 _
 have c8:=iW ((hb8.block _ hlt7).trans hg7);have HRP:=ab (wc (c:=1) G W8 fg (show W8.cell? ⟨w7.heap.size,0,none⟩=_ by rw [zT h8];rfl) (show W8.cell? ⟨w7.heap.size,0+1,none⟩=_ by rw [zT h8];rfl));rw [hW8] at HRP c8;have HX7:=ab hx7;have HR7:=ab hr7;have HB8:=ab hb8;have HP6:=ab hp6;have HX6:=ab hx6;have HPL:=ab hpl;have HG:=ab hG;have HG7:=ab hg7;try rw [←hw7]
 clear hx7 hr7 hb8 hp6 hx6 hpl hG h8 hW8 hg7 hw7 hr6 hth hg6 x0 x1 x2 x3 x4 x5 x6 x7 HL;go_wp2_with (go_at_call 121;refine HRP.out.mono ?_)
 have hz8:(w7.alloc (.cells #[.int .i64 (-1),.int .i64 (-1)] 69)).heap.size=w7.heap.size+1:=fq;rintro e w9 ⟨g,rfl,ho9,hb9⟩;have hb79:Below w7.heap.size w7 w9:=bel2 ((Below.refl _ _).alloc (zP _) _) hb9;have hr9:=(hb79.block _ (iN HR7.out)).trans HR7.out;have hgl:=ho9.lt g rfl;rw [hz8] at hgl;have c14:w9.cell? ⟨w3.heap.size,14,none⟩=some (.slice none 0 0):=by
  rw [zT hr9];simp only [List.getElem?_toArray];rw [Aa (by rw [HPL.out];omega),HPL.out];rfl
 have f14:w9.frozen? ⟨w3.heap.size,14,none⟩=false:=by simp only [World.frozen?,hr9];simp
 obtain⟨w',hw'⟩:∃w',w'=w9.setCell ⟨w3.heap.size,14,none⟩ (.slice (some ⟨g,0,none⟩) G G):=⟨_,rfl⟩;have hxe:Gx (fun k=>k=w3.heap.size) w9 w':=by rw [hw'];exact Gx.set w9 _ rfl
 have hre:w'.heap[w3.heap.size]?=some (.cells (pc++([.bool fold,.slice ca (iP s).length cc,.slice oa ((iP s).length+1) oc,.slice (some ⟨g,0,none⟩) G G,.int .i64 (F:Int),.bool false]:List Value)).toArray 146 (0,0)):=by
  rw [hw',heap_setCell_same _ _ _ _ _ _ hr9];congr 2;simp [List.set_append_right,HPL.out]
 have HO9:=ab ho9;have HB79:=ab hb79;have HXE:=ab hxe;have HRE:=ab hre;have HGL:=ab hgl;have HW':=ab hw';clear ho9 hb9 hb79 hr9 hxe hre hgl hw' c7 c8 hz8 HRP;go_wp2
 try rw [←HW'.out]
 go_ret
 have s35:=H35.out.size;have s56:=HX6.out.size;have s67:=HX7.out.size;have s79:=HB79.out.size;have s9e:=HXE.out.size;have sbw:=HB1.out.size;have sb2:=HB2.out.size;have sb3:=HB3.out.size;have sz5:=HZ5.out;have sgl:=HGL.out;have hge:w3.heap.size≠g:=fg;have b5e:Below w3.heap.size W5 w':=(((HX6.out.below fg (fun k hk=>by have:k=w3.heap.size+1:=hk;omega)).trans (HX7.out.below fg (fun k hk=>by have:k=w3.heap.size:=hk;omega))).trans (HB79.out.mono fg)).trans (HXE.out.below fg (fun k hk=>by have:k=w3.heap.size:=hk;omega));have b3e:Below w3.heap.size w3 w':=H35.out.trans b5e;have b2e:Below w2.heap.size w2 w':=HB3.out.trans (b3e.mono sb3);have x6e:Gx (fun k=>k=w3.heap.size) w6 w':=(HX7.out.to (Gx.of_below HB79.out) (fun _ _ h=>h)).to HXE.out (fun _ _ h=>h);have hown:w'.ownsRow (w7.alloc (.cells #[.int .i64 (-1),.int .i64 (-1)] 69)).heap.size 69 2 (.slice (some ⟨g,0,none⟩) G G) G (i7 (List.replicate G (-1,-1))):=nW HO9.out HXE.out (fun k hk e=>by
  have h1:some g=some k:=hk;injection h1 with h1
  have h2:k=w3.heap.size:=e;omega)
 refine⟨⟨w3.heap.size,0,(w7.alloc (.cells #[.int .i64 (-1),.int .i64 (-1)] 69)).heap.size,pc,ca,cc,oa,oc,some ⟨g,0,none⟩,G,rcM fold s,G,fun b=>b≠w3.heap.size∧b≠g∧b<w'.heap.size⟩,rfl,?_⟩;refine⟨⟨HPL.out,HP6.out.one,zR (kV s) hs,fun c hc=>zR (yy s c hc) hs,kS _ _,fun o ho=>?_,?_,fun b hb=>⟨hb.1,?_⟩,?_⟩,rfl,HG.out,⟨?_,by rw [←HG.out];exact hown,?_,?_,?_⟩,⟨?_,HG.out.symm,hwf,hsm,fun b hb=>hb.2.2⟩,?_,?_,wV s⟩
 ·obtain⟨k,hk,rfl⟩:=List.mem_iff_getElem.1 ho
  have h1:=hk;simp only [rcM,kS] at h1;have h2:=sf s (k:=k) fg;rw [List.getD_eq_getElem?_getD,zN (by rw [kS];omega)] at h2;exact zR h2 hs
 ·intro h
  have h1:some g=some w3.heap.size:=h;injection h1 with h1
  exact hge h1.symm
 ·intro h
  have h1:some g=some b:=h;injection h1 with h1
  exact hb.2.1 h1.symm
 ·show G≤1000
  exact hg
 ·show w'.heap[w3.heap.size]?=_
  rw [HRE.out,HF.out];rfl
 ·exact(HS2.out.mono (fun b _ hlt=>⟨by omega,by omega,by omega⟩)).keep (Kept.all b2e)
 ·exact(HS3.out.mono (fun b _ hlt=>⟨by omega,by omega,by omega⟩)).keep (Kept.all b3e)
 ·show sE z≤20000
  unfold sE;omega
 ·refine(HP6.out.mono (fun b hb hlt=>?_)).keep (x6e.kept fun b hb=>hb.1)
  refine⟨?_,by omega,by omega⟩;rcases hb with⟨⟨_,h1⟩,_⟩|h1
  ·omega
  ·omega
 ·exact HBW.out.trans (b5e.mono fg)
 ·rintro k (h|h)
  ·have:k=w3.heap.size:=h
   omega
  ·have h1:some g=some k:=h
   injection h1 with h1
   omega
theorem any_no2 (ks:List Rx):(!anyK ks [0,1])=ks.all fun x=>decide (x.kind≠0∧x.kind≠1):=by
 induction ks with
 | nil=>rfl
 | cons x r ih =>
  exact dy
theorem any_no1 (ks:List Rx):(!anyK ks [1])=ks.all fun x=>decide (x.kind≠1):=by
 induction ks with
 | nil=>rfl
 | cons x r ih =>
  exact dy
theorem uK {S:Nat→Prop} {xa:Option Addr} {xc m:Nat} {xs:List Rx} {zs:List Int} {a:Option Addr} {n c:Nat} {b:Bool} (w:World) (h0:anyK xs zs=b)
  (hx:RxSl w S xa m xs) (hxn:xs.length≤100000000) (h:Sl w w.heap.size a 1 n (kX zs)) (hn:n≤100000000) :
  Calls Tryz.prog 154 #[.slice xa m xc,.slice a n c] w fun e w'=>e=.returned (.bool b)∧Below w.heap.size w w':=by
 obtain rfl:=hx.len;subst h0;exact some_any S xa xc xs zs a n c w hx hxn h hn
theorem fields_0 (S:Nat→Prop) (c:Str) (ng:Bool) (ra:Option Addr) (rs:List (Str × Str)) (rc:Nat) (lo hi:Int) (lz:Bool) (ka:Option Addr) (ks:List Rx) (kc:Nat) (w:World)
  (hx:RxSl w S ka ks.length ks) (hsm:(Rx.mk 0 c ng rs lo hi lz ks).small1) :
  Calls Tryz.prog 116 #[.agg #[.int .i64 0,.string ⟨c.toArray⟩,.bool ng,.slice ra rs.length rc,.int .i64 lo,.int .i64 hi,.bool lz,.slice ka ks.length kc]] w fun e w'=>e=.returned (.bool (jn (.mk 0 c ng rs lo hi lz ks)))∧Below w.heap.size w w':=by
 generalize hR:jn (.mk 0 c ng rs lo hi lz ks)=R
 have HR:=ab hR;clear hR;have HS:Hid (R=(lM c ng rs.length lo hi lz&&decide (ks.length≠1)&&!anyK ks [0,1])):=ab (by rw [←HR.out,←mt 0 c ng rs lo hi lz ks,any_no2];rfl);obtain⟨s1,s2,s3,s4⟩:=hsm;clear HR s3;cases hbv:lM c ng rs.length lo hi lz with
 | false =>
  exact aK
 | true =>
  have HB:=ab hbv;have HR:Hid (R=(decide (ks.length≠1)&&!anyK ks [0,1])):=ab gl;clear hbv;obtain⟨b,hab⟩:∃b,anyK ks [0,1]=b:=⟨_,rfl⟩;have HA:=ab hab;rw [hab] at HR;clear hab;rcases ks with _|⟨x,_|⟨y,ks⟩⟩
  ·have HR2:Hid (R=!b):=ab (by rw [HR.out];simp)
   go_enter Tryz.func116,Tryz.ntmps116
   go_wp2_with (first|(((go_at_call 151;refine(kD _ HB.out).mono ?_;rintro e w1 ⟨rfl,hb1,hc1⟩;have hq7:=hc1 ⟨w.heap.size,7,none⟩ (.slice ka (0) kc) fq));have HX1:=ab ((hx.later ((Below.refl _ _).alloc (zP _) _)).later hb1))|(go_at_call 154;refine(uK (zs:=[0,1]) _ HA.out (HX1.out.later ((Below.refl _ _).alloc (zP _) _)) gv (Sl.lit (n:=2) (heap_alloc_new w1 (.cells #[.int .i64 0,.int .i64 1] 3)) rfl) fo).mono ?_;rintro e w2 ⟨rfl,hb2⟩))
   exact bI
  ·have HR2:Hid (R=false):=ab ga
   exact em
  ·have HR2:Hid (R=!b):=ab (by rw [HR.out];simp)
   simp only [zW] at s4;go_enter Tryz.func116,Tryz.ntmps116
   go_wp2_with (first|(((go_at_call 151;refine(kD _ HB.out).mono ?_;rintro e w1 ⟨rfl,hb1,hc1⟩;have hq7:=hc1 ⟨w.heap.size,7,none⟩ (.slice ka (ks.length+1+1) kc) fq));have HX1:=ab ((hx.later ((Below.refl _ _).alloc (zP _) _)).later hb1))|(go_at_call 154;refine(uK (zs:=[0,1]) _ HA.out (HX1.out.later ((Below.refl _ _).alloc (zP _) _)) gv (Sl.lit (n:=2) (heap_alloc_new w1 (.cells #[.int .i64 0,.int .i64 1] 3)) rfl) fo).mono ?_;rintro e w2 ⟨rfl,hb2⟩))
   exact bI
theorem fields_1 (S:Nat→Prop) (c:Str) (ng:Bool) (ra:Option Addr) (rs:List (Str × Str)) (rc:Nat) (lo hi:Int) (lz:Bool) (ka:Option Addr) (ks:List Rx) (kc:Nat) (w:World)
  (hx:RxSl w S ka ks.length ks) (hsm:(Rx.mk 1 c ng rs lo hi lz ks).small1) :
  Calls Tryz.prog 116 #[.agg #[.int .i64 1,.string ⟨c.toArray⟩,.bool ng,.slice ra rs.length rc,.int .i64 lo,.int .i64 hi,.bool lz,.slice ka ks.length kc]] w fun e w'=>e=.returned (.bool (jn (.mk 1 c ng rs lo hi lz ks)))∧Below w.heap.size w w':=by
 generalize hR:jn (.mk 1 c ng rs lo hi lz ks)=R
 have HR:=ab hR;clear hR;have HS:Hid (R=(lM c ng rs.length lo hi lz&&decide (1<ks.length)&&!anyK ks [1])):=ab (by rw [←HR.out,←mt 1 c ng rs lo hi lz ks,any_no1];rfl);obtain⟨s1,s2,s3,s4⟩:=hsm;clear HR s3;cases hbv:lM c ng rs.length lo hi lz with
 | false =>
  exact aK
 | true =>
  have HB:=ab hbv;have HR:Hid (R=(decide (1<ks.length)&&!anyK ks [1])):=ab gl;clear hbv;obtain⟨b,hab⟩:∃b,anyK ks [1]=b:=⟨_,rfl⟩;have HA:=ab hab;rw [hab] at HR;clear hab;rcases ks with _|⟨x,_|⟨y,ks⟩⟩
  ·have HR2:Hid (R=false):=ab ga
   exact el
  ·have HR2:Hid (R=false):=ab ga
   exact em
  ·have HR2:Hid (R=!b):=ab (by rw [HR.out];simp)
   simp only [zW] at s4;go_enter Tryz.func116,Tryz.ntmps116
   go_wp2_with (first|(((go_at_call 151;refine(kD _ HB.out).mono ?_;rintro e w1 ⟨rfl,hb1,hc1⟩;have hq7:=hc1 ⟨w.heap.size,7,none⟩ (.slice ka (ks.length+1+1) kc) fq));have HX1:=ab ((hx.later ((Below.refl _ _).alloc (zP _) _)).later hb1))|(go_at_call 154;refine(uK (zs:=[1]) _ HA.out (HX1.out.later ((Below.refl _ _).alloc (zP _) _)) gv (Sl.lit (n:=1) (heap_alloc_new w1 (.cells #[.int .i64 1] 3)) rfl) fo).mono ?_;rintro e w2 ⟨rfl,hb2⟩))
   exact bI
def oneB (ks:List Rx):Bool:=match ks with|[x]=>repB x.kind|_=>false
theorem uJ {k:Int} {b:Bool} (w:World) (h:repB k=b):Calls Tryz.prog 153 #[.int .i64 k] w fun e w'=>e=.returned (.bool b)∧w=w':=by
 subst h;exact sU k w
theorem fields_7 (S:Nat→Prop) (c:Str) (ng:Bool) (ra:Option Addr) (rs:List (Str × Str)) (rc:Nat) (lo hi:Int) (lz:Bool) (ka:Option Addr) (ks:List Rx) (kc:Nat) (w:World)
  (hx:RxSl w S ka ks.length ks) (hsm:(Rx.mk 7 c ng rs lo hi lz ks).small1) :
  Calls Tryz.prog 116 #[.agg #[.int .i64 7,.string ⟨c.toArray⟩,.bool ng,.slice ra rs.length rc,.int .i64 lo,.int .i64 hi,.bool lz,.slice ka ks.length kc]] w fun e w'=>e=.returned (.bool (jn (.mk 7 c ng rs lo hi lz ks)))∧Below w.heap.size w w':=by
 generalize hR:jn (.mk 7 c ng rs lo hi lz ks)=R
 have HR:=ab hR;clear hR;have HS:Hid (R=(lM c ng rs.length 0 0 false&&oneB ks&&decide (0≤lo∧lo≤255∧(hi=-1∨lo≤hi∧hi≤255)))):=ab (by rw [←HR.out,←mt 7 c ng rs 0 0 false ks];rfl);obtain⟨s1,s2,s3,s4⟩:=hsm;clear HR s3;cases hbv:lM c ng rs.length 0 0 false with
 | false =>
  have HB:=ab hbv;have HR:Hid (R=false):=ab gl;clear hbv;go_enter Tryz.func116,Tryz.ntmps116
  go_wp2
  go_quiet (fail)
  go_wp2_with (go_at_call 151;refine(kD _ HB.out).mono ?_;rintro e w1 ⟨rfl,hb1,hc1⟩;have hq7:=hc1 ⟨w.heap.size,7,none⟩ (.slice ka (ks.length) kc) (by simp [go_sem]))
  go_ret
  exact⟨i9 HR.out.symm,((((below_drewN ((Below.refl w.heap.size w).alloc (zP _) _) _).setCell fq _).setCell fq _).setCell fq _).trans (hb1.mono iE)⟩
 | true =>
  have HB:=ab hbv;have HR:Hid (R=(oneB ks&&decide (0≤lo∧lo≤255∧(hi=-1∨lo≤hi∧hi≤255)))):=ab gl;clear hbv;rcases ks with _|⟨x,_|⟨y,ks⟩⟩
  ·have HR2:Hid (R=false):=ab ga
   go_enter Tryz.func116,Tryz.ntmps116
   go_wp2
   go_quiet (fail)
   go_wp2_with (go_at_call 151;refine(kD _ HB.out).mono ?_;rintro e w1 ⟨rfl,hb1,hc1⟩;have hq7:=hc1 ⟨w.heap.size,7,none⟩ (.slice ka (0) kc) (by simp [go_sem]))
   exact cr
  ·obtain⟨xk,xc,xn,xr,xl,xh,xz,xs⟩:=x
   obtain⟨b,o,_,_,_,_,rfl,_,hbB,_,_,_,q0,_⟩:=hx.cells (m:=0) rfl;simp only [Nat.zero_mul,Nat.add_zero] at q0;obtain⟨rb,hrb⟩:∃rb,repB xk=rb:=⟨_,rfl⟩;have HRB:=ab hrb;have HR2:Hid (R=(rb&&decide (0≤lo∧lo≤255∧(hi=-1∨lo≤hi∧hi≤255)))):=ab (by rw [HR.out,←HRB.out];rfl);clear hrb;cases rb
   all_goals
    go_enter Tryz.func116,Tryz.ntmps116
    go_wp2
    go_quiet (fail)
    go_wp2_with (first|(go_at_call 151;refine(kD _ HB.out).mono ?_;rintro e w1 ⟨rfl,hb1,hc1⟩;have hq7:=hc1 ⟨w.heap.size,7,none⟩ (.slice (some ⟨b,o,none⟩) 1 kc) (by simp [go_sem]);have hq0:w1.cell? ⟨b,o,none⟩=some (.int .i64 xk):=hc1 _ _ (by simp [go_sem,World.cell?_alloc_lt,hbB,q0]))|(go_at_call 153;refine(uJ _ HRB.out).mono ?_;rintro e w2 ⟨rfl,rfl⟩))
    all_goals
     go_ret
     refine⟨i9 ?_,((((below_drewN ((Below.refl w.heap.size w).alloc (zP _) _) _).setCell fq _).setCell fq _).setCell fq _).trans (hb1.mono iE)⟩;rw [HR2.out];first|rfl|(rw [Ag,Bool.eq_iff_iff];simp;omega)
  ·have HR2:Hid (R=false):=ab ga
   go_enter Tryz.func116,Tryz.ntmps116
   go_wp2
   go_quiet (fail)
   go_wp2_with (go_at_call 151;refine(kD _ HB.out).mono ?_;rintro e w1 ⟨rfl,hb1,hc1⟩;have hq7:=hc1 ⟨w.heap.size,7,none⟩ (.slice ka (ks.length+1+1) kc) (by simp [go_sem]))
   exact cr
theorem wL (S:Nat→Prop) (K:Int) (c:Str) (ng:Bool) (ra:Option Addr) (rs:List (Str × Str)) (rc:Nat) (lo hi:Int) (lz:Bool) (ka:Option Addr) (ks:List Rx) (kc:Nat) (w:World)
  (hr:SlS w S ra 2 rs.length (iY rs)) (hx:RxSl w S ka ks.length ks) (hsm:(Rx.mk K c ng rs lo hi lz ks).small1) :
  Calls Tryz.prog 116 #[.agg #[.int .i64 K,.string ⟨c.toArray⟩,.bool ng,.slice ra rs.length rc,.int .i64 lo,.int .i64 hi,.bool lz,.slice ka ks.length kc]] w fun e w'=>e=.returned (.bool (jn (.mk K c ng rs lo hi lz ks)))∧Below w.heap.size w w':=by
 by_cases h0:K=0
 ·subst h0;exact fields_0 S c ng ra rs rc lo hi lz ka ks kc w hx hsm
 by_cases h1:K=1
 ·subst h1;exact fields_1 S c ng ra rs rc lo hi lz ka ks kc w hx hsm
 by_cases h2:K=2
 ·subst h2;exact fields_2 c ng ra rs rc lo hi lz ka ks kc w hsm
 by_cases h4:K=4
 ·subst h4;exact fields_4 c ng ra rs rc lo hi lz ka ks kc w hr.sl hsm
 by_cases h7:K=7
 ·subst h7;exact fields_7 S c ng ra rs rc lo hi lz ka ks kc w hx hsm
 by_cases h5:K=5∨K=6
 ·exact xb K h5 c ng ra rs rc lo hi lz ka ks kc w hsm
 by_cases h3:K=3∨K=8∨K=9∨K=10∨K=11
 ·exact uR K h3 c ng ra rs rc lo hi lz ka ks kc w hsm
 ·exact ul K fg c ng ra rs.length rs rc lo hi lz ka ks.length ks kc w
def FitPost (x:Rx) (left dp:Int) (e:Ending):Prop :=
 ∃l':Int,e=.returned (.tuple #[.int .i64 l',.bool (okB x left dp)])∧(okB x left dp=true→l'=left-x.parts)
def FitRel (ks:List Rx) (R:Bool) (tot dp:Int) (w:World) (t q:Value) (wr:World):Prop :=
 ∃(k:Nat) (l:Int),k≤ks.length∧q=.int .i64 k∧t=.int .i64 l∧0≤l∧l≤100000∧Below w.heap.size w wr∧Hid (okL (ks.drop k) l dp=R)∧Hid (l-Rx.partsL (ks.drop k)=tot)
theorem okL_nil {l dp:Int} (h:0≤l) (h':0≤dp):okL [] l dp=true:=by
 unfold okL;rw [Av (show ((Rx.partsL []:Nat):Int)≤l from h),Av (show ((Rx.deepL []:Nat):Int)≤dp from h')];rfl
theorem oD {S:Nat→Prop} {K:Int} {c:Str} {ng:Bool} {ra:Option Addr} {rs:List (Str × Str)} {rc:Nat} {lo hi:Int} {lz:Bool} {ka:Option Addr} {ks:List Rx} {kc:Nat} {b:Bool} (w:World)
  (h:jn (.mk K c ng rs lo hi lz ks)=b) (hr:SlS w S ra 2 rs.length (iY rs)) (hx:RxSl w S ka ks.length ks) (hsm:(Rx.mk K c ng rs lo hi lz ks).small1) :
  Calls Tryz.prog 116 #[.agg #[.int .i64 K,.string ⟨c.toArray⟩,.bool ng,.slice ra rs.length rc,.int .i64 lo,.int .i64 hi,.bool lz,.slice ka ks.length kc]] w fun e w'=>e=.returned (.bool b)∧Below w.heap.size w w'∧∀a u,w.cell? a=some u→w'.cell? a=some u:=by
 subst h;exact(wL S K c ng ra rs rc lo hi lz ka ks kc w hr hx hsm).mono fun _ _ ⟨h1,h2⟩=>⟨h1,h2,i6 h2⟩
theorem vf (S:Nat→Prop):∀(N:Nat) (x:Rx),x.parts≤N→x.parts≤1000000→x.small→∀(cc:List Value) (w:World) (left dp:Int),RxV w S cc x→-100000≤left→left≤100000→-100000≤dp→dp≤100000 →
  Calls Tryz.prog 81 #[.agg cc.toArray,.int .i64 left,.int .i64 dp] w fun e w'=>FitPost x left dp e∧Below w.heap.size w w'
 | 0,x,h,_,_,_,_,_,_,_,_,_,_,_=>by have:=Rx.parts_pos x;omega
 | N+1,.mk k c ng rs lo hi lz ks,h,hm,hsm,cc,w,left,dp,hv,l0,l1,d0,d1=>by
  obtain⟨ra,rc,ka,kc,rfl,hrs,hx⟩:=hv.open_;obtain⟨hs1,hs2⟩:=hsm;simp only [Rx.parts] at h hm;have hlen:=Rx.len_parts ks;have ih:=fun(y:Rx) (hy:y.parts≤Rx.partsL ks)=>vf S N y fg fg
  have IH:=ab ih;have HSM:=ab hs2;have HS1:=ab hs1;have hb0:=(Below.refl w.heap.size w).alloc (zP _) (.cells #[.int .i64 k,.string ⟨c.toArray⟩,.bool ng,.slice ra rs.length rc,.int .i64 lo,.int .i64 hi,.bool lz,.slice ka ks.length kc] 25);have HX0:=ab (hx.later hb0);have HRS:=ab (hrs.keep (Kept.all hb0));clear hx hv hrs ih hs1 hs2;unfold rxc;cases hG:grpB k with
  | true =>
   cases hF:jn (.mk k c ng rs lo hi lz ks) with
   | false =>
    exact bj
   | true =>
    have HF:=ab hF;by_cases hld:left<1∨dp-1<0
    ·exact bg
    ·have hl1:1≤left:=fg
     have hd0:0≤dp-1:=fg;have HO:Hid (okB (.mk k c ng rs lo hi lz ks) left dp=okL ks (left-1) (dp-1)):=ab (by rw [vh,hG,hF,Av hl1];simp;omega);clear hF hld;obtain⟨R,hR⟩:∃R,okL ks (left-1) (dp-1)=R:=⟨_,rfl⟩;have HR0:Hid (okL (ks.drop 0) (left-1) (dp-1)=R):=ab hR;have HT0:Hid (left-1-Rx.partsL (ks.drop 0)=left-(Rx.mk k c ng rs lo hi lz ks).parts):=ab (by simp only [Rx.parts,AF];omega);obtain⟨tot,htot⟩:∃tot,left-((Rx.mk k c ng rs lo hi lz ks).parts:Int)=tot:=⟨_,rfl⟩;have HOR:Hid (okB (.mk k c ng rs lo hi lz ks) left dp=R):=ab (by rw [HO.out,hR]);have HTT:=ab htot;rw [htot] at HT0;clear hR htot HO;go_enter Tryz.func81,Tryz.ntmps81
     go_wp2_with (first|(go_at_call 115;refine(ow _ _).mono ?_;rintro e w1 ⟨rfl,rfl⟩;rw [hG])|(go_at_call 116;refine(oD _ HF.out HRS.out HX0.out HS1.out).mono ?_;rintro e w1 ⟨rfl,hb1,hc1⟩;have z1:=hc1 ⟨w.heap.size,7,none⟩ (.slice ka ks.length kc) fq))
     have HX1:=ab ((HX0.out.later (Below.refl _ _)).later hb1);have hbw1:Below w.heap.size w w1:=((Below.refl _ _).alloc (zP _) _).trans (hb1.mono fq);have hz1:=hbw1.size;clear hb1 hc1 z1;go_loopw [1,33] (fun t q wr=>FitRel ks R tot (dp-1) w1 t q wr) (fun _ q _=>ks.length-(intOf q).toNat)
     case atStart=>exact⟨0,left-1,by omega,rfl,rfl,by omega,by omega,Below.refl _ _,HR0,HT0⟩
     case round =>
      obtain⟨i,l,hi,rfl,rfl,hl0,hl9,hb,HL,HTL⟩:=hrel;clear HR0 HT0;have hB:=hb.size;cases hd:ks.drop i with
      | nil =>
       exact bV
      | cons y r =>
       have HX:=HX1;obtain⟨h2,h3,hr⟩:=js hd;obtain⟨yk,yc,yn,yr,yl,yh,yz,ys⟩:=y;obtain⟨b,o,ya,yrc,yka,ykc,rfl,hS,hbB,_,_,hyv,c0,c1,c2,c3,c4,c5,c6,c7⟩:=(HX.out.later hb).cells h3;have hyp:=Rx.parts_mem (Ar h3);have hym:=kx HSM.out (Ar h3);have Hr:=ab hr;have HE:Hid (R=(okB (.mk yk yc yn yr yl yh yz ys) l (dp-1)&&okL r (l-(Rx.mk yk yc yn yr yl yh yz ys).parts) (dp-1))):=ab (by rw [←HL.out,hd,vC]);have HE2:Hid (l-(Rx.mk yk yc yn yr yl yh yz ys).parts-Rx.partsL r=tot):=ab (by rw [←HTL.out,hd];simp only [Rx.partsL];omega);have HYV:=ab (hyv.later ((Below.refl wr.heap.size wr).alloc (zP _) (.cells (rxc yk yc yn ya yr.length yrc yl yh yz yka ys.length ykc).toArray 25)));unfold rxc at HYV;have HYM:=ab hym;clear hd HL HTL hr h3 hyv hym;go_wp2_with (go_at_call 81;refine(IH.out _ hyp HYM.out _ _ l (dp-1) HYV.out fg fg fg fg).mono ?_)
       rintro e w2 ⟨⟨l',rfl,hl'⟩,hb2⟩;have hbw2:Below w.heap.size w w2:=hbw1.trans (((hb.alloc hB _).trans (hb2.mono fr)).mono hz1);cases hok:okB (.mk yk yc yn yr yl yh yz ys) l (dp-1) with
       | false =>
        exact cG
       | true =>
        have hl2:=hl' hok;have hpp:(Rx.mk yk yc yn yr yl yh yz ys).parts≤l:=by
         have h:=hok;simp only [okB,Am,zJ] at h;exact h.1.2
        have HE3:Hid (okL r l' (dp-1)=R):=ab (by rw [HE.out,hok,hl2];rfl);exact bQ
  | false =>
   cases hF:jn (.mk k c ng rs lo hi lz ks) with
   | false =>
    exact bj
   | true =>
    have HF:=ab hF;by_cases hld:left<1∨dp<0
    ·exact bg
    ·have hl1:1≤left:=fg
     have hd0:0≤dp:=fg;have HO:Hid (okB (.mk k c ng rs lo hi lz ks) left dp=okL ks (left-1) (dp)):=ab (by rw [vh,hG,hF,Av hl1];simp;omega);clear hF hld;obtain⟨R,hR⟩:∃R,okL ks (left-1) (dp)=R:=⟨_,rfl⟩;have HR0:Hid (okL (ks.drop 0) (left-1) (dp)=R):=ab hR;have HT0:Hid (left-1-Rx.partsL (ks.drop 0)=left-(Rx.mk k c ng rs lo hi lz ks).parts):=ab (by simp only [Rx.parts,AF];omega);obtain⟨tot,htot⟩:∃tot,left-((Rx.mk k c ng rs lo hi lz ks).parts:Int)=tot:=⟨_,rfl⟩;have HOR:Hid (okB (.mk k c ng rs lo hi lz ks) left dp=R):=ab (by rw [HO.out,hR]);have HTT:=ab htot;rw [htot] at HT0;clear hR htot HO;go_enter Tryz.func81,Tryz.ntmps81
     go_wp2_with (first|(go_at_call 115;refine(ow _ _).mono ?_;rintro e w1 ⟨rfl,rfl⟩;rw [hG])|(go_at_call 116;refine(oD _ HF.out HRS.out HX0.out HS1.out).mono ?_;rintro e w1 ⟨rfl,hb1,hc1⟩;have z1:=hc1 ⟨w.heap.size,7,none⟩ (.slice ka ks.length kc) fq))
     have HX1:=ab ((HX0.out.later (Below.refl _ _)).later hb1);have hbw1:Below w.heap.size w w1:=((Below.refl _ _).alloc (zP _) _).trans (hb1.mono fq);have hz1:=hbw1.size;clear hb1 hc1 z1;go_loopw [1,33] (fun t q wr=>FitRel ks R tot (dp) w1 t q wr) (fun _ q _=>ks.length-(intOf q).toNat)
     case atStart=>exact⟨0,left-1,by omega,rfl,rfl,by omega,by omega,Below.refl _ _,HR0,HT0⟩
     case round =>
      obtain⟨i,l,hi,rfl,rfl,hl0,hl9,hb,HL,HTL⟩:=hrel;clear HR0 HT0;have hB:=hb.size;cases hd:ks.drop i with
      | nil =>
       exact bV
      | cons y r =>
       have HX:=HX1;obtain⟨h2,h3,hr⟩:=js hd;obtain⟨yk,yc,yn,yr,yl,yh,yz,ys⟩:=y;obtain⟨b,o,ya,yrc,yka,ykc,rfl,hS,hbB,_,_,hyv,c0,c1,c2,c3,c4,c5,c6,c7⟩:=(HX.out.later hb).cells h3;have hyp:=Rx.parts_mem (Ar h3);have hym:=kx HSM.out (Ar h3);have Hr:=ab hr;have HE:Hid (R=(okB (.mk yk yc yn yr yl yh yz ys) l (dp)&&okL r (l-(Rx.mk yk yc yn yr yl yh yz ys).parts) (dp))):=ab (by rw [←HL.out,hd,vC]);have HE2:Hid (l-(Rx.mk yk yc yn yr yl yh yz ys).parts-Rx.partsL r=tot):=ab (by rw [←HTL.out,hd];simp only [Rx.partsL];omega);have HYV:=ab (hyv.later ((Below.refl wr.heap.size wr).alloc (zP _) (.cells (rxc yk yc yn ya yr.length yrc yl yh yz yka ys.length ykc).toArray 25)));unfold rxc at HYV;have HYM:=ab hym;clear hd HL HTL hr h3 hyv hym;go_wp2_with (go_at_call 81;refine(IH.out _ hyp HYM.out _ _ l (dp) HYV.out fg fg fg fg).mono ?_)
       rintro e w2 ⟨⟨l',rfl,hl'⟩,hb2⟩;have hbw2:Below w.heap.size w w2:=hbw1.trans (((hb.alloc hB _).trans (hb2.mono fr)).mono hz1);cases hok:okB (.mk yk yc yn yr yl yh yz ys) l (dp) with
       | false =>
        exact cG
       | true =>
        have hl2:=hl' hok;have hpp:(Rx.mk yk yc yn yr yl yh yz ys).parts≤l:=by
         have h:=hok;simp only [okB,Am,zJ] at h;exact h.1.2
        have HE3:Hid (okL r l' (dp)=R):=ab (by rw [HE.out,hok,hl2];rfl);exact bQ
theorem pE (S:Nat→Prop) (x:Rx) (cc:List Value) (w:World) (hm:x.parts≤1000000) (hsm:x.small) (hv:RxV w S cc x) :
  Calls Tryz.prog 50 #[.agg cc.toArray] w fun e w'=>e=.returned (.bool (mayB x))∧Below w.heap.size w w':=by
 obtain⟨k,c,ng,rs,lo,hi,lz,ks⟩:=x;obtain⟨ra,rc,ka,kc,rfl,hrs,hx⟩:=hv.open_;have HV:=ab (hv.later ((Below.refl w.heap.size w).alloc (zP _) (.cells #[.int .i64 k,.string ⟨c.toArray⟩,.bool ng,.slice ra rs.length rc,.int .i64 lo,.int .i64 hi,.bool lz,.slice ka ks.length kc] 25)));have HSM:=ab hsm;have HM:=ab hm;clear hv hrs hx hsm hm;unfold rxc at HV ⊢;go_enter Tryz.func50,Tryz.ntmps50
 go_wp2_with (go_at_call 81;refine(vf S _ _ (zP _) HM.out HSM.out _ _ 512 16 HV.out fo fo fo fo).mono ?_;rintro e w1 ⟨⟨l',rfl,hl'⟩,hb1⟩)
 exact dJ
end Go.Proofs.YtbnkaecmgfolpaaGreat
