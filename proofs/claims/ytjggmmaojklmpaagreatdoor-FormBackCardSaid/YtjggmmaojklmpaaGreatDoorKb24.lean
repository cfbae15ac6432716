/- walk of rxrun: find -/
import Derived.Test.YtjggmmaojklmpaaGreatDoorKb23
set_option maxRecDepth 100000
set_option maxHeartbeats 4000000
namespace Go.Proofs.YtjggmmaojklmpaaGreatDoor
open Go.RowKit
def FindP (R:Rn) (q:Option (Nat × Nat × List (Int × Int)) × Rst) (k:Nat) (w:World) (e:Ending) (w':World):Prop :=
 RunJ R w' q.2∧Gx R.Y w w'∧match q.1 with
  | none=>e=.returned (.tuple #[mz,.bool false])
  | some (a,b,ps)=>∃aa c,e=.returned (.tuple #[.agg #[.int .i64 ((R.C.offs.getD a 0:Nat):Int),.int .i64 ((R.C.offs.getD b 0:Nat):Int),.slice aa R.n c],.bool true])∧SlS w' (fun b=>w.heap.size≤b) aa 2 R.n (jV ps)∧ps.length=R.n∧k≤a∧a≤b∧b≤R.C.cs.length
def FdRel (R:Rn) (x:Rx) (Q:Option (Nat × Nat × List (Int × Int)) × Rst) (k0:Nat) (w:World) (q:Value) (wr:World):Prop :=
 ∃(k N:Nat) (s:Rst),k0≤k∧k≤R.C.cs.length+1∧R.C.cs.length+1-k<N∧q=.int .i64 k∧RunJ R wr s∧Gx R.Y w wr∧wr.heap[w.heap.size]?=some (.cells #[.int .i64 0,.int .i64 0,.slice none 0 0] 70 (0,0))∧Hid (od R.C x N k s=Q)
theorem RunT.gx {R:Rn} {x:Rx} {w w':World} (j:RnJ R) (h:RunT R x w) (hg:Gx R.Y w w'):RunT R x w' :=
 ⟨h.tp.keep (hg.kept fun b hb e=>by
  rcases e with e|e
  ·exact(j.sr b hb).1 e
  ·exact(j.sr b hb).2 e),h.n,h.wf,h.sm,fun b hb=>DA (h.lt b hb) hg.size⟩
theorem yy {R:Rn} (j:RnJ R) {x:Rx} {w:World} {st:Rst} (h:RunJ R w st) (hx:RunT R x w) {k N:Nat} (hk:k≤R.C.cs.length+1) (hN:R.C.cs.length+1-k<N) :
  Calls Tryz.prog 84 #[.pointer (some ⟨R.r,0,none⟩),.int .i64 k] w (FindP R (od R.C x N k st) k w):=by
 obtain⟨Q,hQ⟩:∃Q,od R.C x N k st=Q:=⟨_,rfl⟩;rw [hQ];have HQ:=ab hQ;obtain⟨hlr,hlp⟩:=h.lt;obtain⟨W1,hW1⟩:∃W1,W1=w.alloc (.cells #[.int .i64 0,.int .i64 0,.slice none 0 0] 70):=⟨_,rfl⟩;have hb1:Below w.heap.size w W1:=by rw [hW1];exact(Below.refl _ _).alloc (Dv _) _
 have hx1:W1.heap[w.heap.size]?=some (.cells #[.int .i64 0,.int .i64 0,.slice none 0 0] 70 (0,0)):=by rw [hW1];exact heap_alloc_new w _
 have HJ1:=ab (h.later hb1);have HJ:=ab j;have HX:=ab hx;have HW1:=ab hW1;have HX1:=ab hx1;have HG1:Hid (Gx R.Y w W1):=ab (Gx.of_below hb1);have hol:=j.of;have hcs:=j.cs;clear j h hx hW1 hx1 hb1 hQ;go_enter Tryz.func84,Tryz.ntmps84
 go_upto_region 1 with fail
 rw [←HW1.out];go_loopw [1] (fun q wr=>FdRel R x Q k w q wr) (fun q _=>R.C.cs.length+1-(intOf q).toNat)
 case atStart=>exact⟨k,N,st,Dv _,hk,hN,rfl,HJ1.out,HG1.out,HX1.out,HQ⟩
 case round =>
  obtain⟨i,M,s,hki,hi,hM,rfl,hj,hg,hxb,HF⟩:=hrel;clear HQ HW1 HX1 HG1 HJ1;obtain⟨M,rfl⟩:∃m,M=m+1:=⟨M-1,by omega⟩;have hl11:=HJ.out.tp;have cell:∀(jj:Nat) (u:Value),[Value.bool R.C.fold,.slice R.ca R.C.cs.length R.cc,.slice R.oa (R.C.cs.length+1) R.oc,.slice R.pa R.n R.pc,.int .i64 (s.fuel:Int),.bool s.out][jj]?=some u→wr.cell? ⟨R.r,11+jj,none⟩=some u:=fun jj u hu=>by
   rw [DB hj.box];unfold Rn.cells;simp only [List.getElem?_toArray];rw [DJ fR,hl11,Nat.add_sub_cancel_left];exact hu
  have c13:wr.cell? ⟨R.r,13,none⟩=some (.slice R.oa (R.C.cs.length+1) R.oc):=cell 2 _ rfl;have c16:wr.cell? ⟨R.r,16,none⟩=some (.bool s.out):=cell 5 _ rfl;have HXB:=ab hxb;have HJI:=ab hj;have HGI:=ab hg;have HWR:=ab (jA hxb);have hrow:=qI wr w.heap.size #[.int .i64 0,.int .i64 0,.slice none 0 0];have HJE:Hid (RunJ R (wr.setRow w.heap.size #[.int .i64 0,.int .i64 0,.slice none 0 0]) s):=ab (hj.gx hrow (Nat.ne_of_lt hlr) (fun k hk e=>absurd (hlp k hk) gV) (fun b hb e=>absurd (HX.out.lt b hb) gr));have HGE:Hid (Gx R.Y w (wr.setRow w.heap.size #[.int .i64 0,.int .i64 0,.slice none 0 0])):=ab (hg.to hrow (fun b hb e=>absurd hb gr));have HRE:=ab (oi (cs:=#[.int .i64 0,.int .i64 0,.slice none 0 0]) hxb);clear cell hl11 hxb hj hg hrow;by_cases hgo:i≤R.C.cs.length∧s.out=false
  ·obtain⟨hin,hout⟩:=hgo
   rw [hout] at c16;have hil:(i:Int)<(R.C.cs.length:Int)+1:=fR;have HO:=ab (one_any HJ.out HJI.out (RunT.gx HJ.out HX.out HGI.out) hin);obtain⟨q,hq⟩:∃q,oneM R.C x i s=q:=⟨_,rfl⟩;have HF2:Hid ((match q.1 with|some (e,ps)=>(some (i,e,ps),q.2)|none=>od R.C x M (i+1) q.2)=Q):=ab (by
    rw [←HF.out];refine Eq.trans ?_ (Dr (c:=i<R.C.offs.length∧s.out=false) ⟨by omega,hout⟩).symm;rw [←hq];rfl)
   rw [hq] at HO;obtain⟨qo,s2⟩:=q;have HOUT:=ab hout;clear hq hout HF HJE HGE HRE;go_wp2_with (go_at_call 107;refine HO.out.mono ?_)
   rintro e w3 ⟨hj3,hg3,hm3⟩;have HJ3:=ab hj3;have HG3:Hid (Gx R.Y w w3):=ab (HGI.out.to hg3 (fun _ _ h=>h));have hx3:=Gx.heap hg3 HXB.out (fun e=>by
    rcases e with e|e
    ·omega
    ·have:=hlp _ e;omega)
   have HX3:=ab hx3;have hz3:=hg3.size;have HZ3:=ab hz3;clear hj3 hg3 hx3 HO HXB c13 c16 hz3;cases qo with
   | none =>
    simp only at hm3
    subst hm3;unfold mz;go_wp2
    go_roundw
    case rel =>
     refine⟨i+1,M,s2,by omega,by omega,by omega,by go_num,?_,?_,?_,HF2⟩
     ·exact HJ3.out.later ((Below.refl _ _).alloc (Dv _) _)
     ·exact HG3.out.to (Gx.of_below (X:=R.Y) ((Below.refl _ _).alloc (Dv _) _)) (fun _ _ h=>h)
     ·rw [Below.heap_alloc _ _ _ (jA HX3.out)];exact HX3.out
    case measure=>simp [intOf];omega
   | some y =>
    obtain⟨en,ps⟩:=y;obtain⟨aa,c,rfl,hs3,hpl,h1,h2⟩:=hm3;obtain⟨ka,hka⟩:∃n,R.C.offs.getD i 0=n:=⟨_,rfl⟩;obtain⟨ea,hea⟩:∃n,R.C.offs.getD en 0=n:=⟨_,rfl⟩;rw [hka,hea];have HKA:=ab hka;have HEA:=ab hea;have HS3:=ab hs3;have HPL:=ab hpl;obtain⟨W4,hW4⟩:∃W4,W4=w3.alloc (.cells #[.int .i64 (ka:Int),.int .i64 (ea:Int),.slice aa R.n c] 70):=⟨_,rfl⟩;have hb4:Below w3.heap.size w3 W4:=by rw [hW4];exact(Below.refl _ _).alloc (Dv _) _
    have hx4:=(hb4.block _ (jA HX3.out)).trans HX3.out;have hl4:W4.heap[w3.heap.size]?=some (.cells #[.int .i64 (ka:Int),.int .i64 (ea:Int),.slice aa R.n c] 70 (0,0)):=by rw [hW4];exact heap_alloc_new w3 _
    have m0:W4.cell? ⟨w3.heap.size,0,none⟩=some (.int .i64 (ka:Int)):=by rw [DB hl4];rfl
    have m1:W4.cell? ⟨w3.heap.size,1,none⟩=some (.int .i64 (ea:Int)):=by rw [DB hl4];rfl
    have m2:W4.cell? ⟨w3.heap.size,2,none⟩=some (.slice aa R.n c):=by rw [DB hl4];rfl
    have hrow4:=qI W4 w.heap.size #[.int .i64 (ka:Int),.int .i64 (ea:Int),.slice aa R.n c];have hlt3:=jA HX3.out;have HJ5:Hid (RunJ R (W4.setRow w.heap.size #[.int .i64 (ka:Int),.int .i64 (ea:Int),.slice aa R.n c]) s2):=ab ((HJ3.out.later hb4).gx hrow4 (Nat.ne_of_lt hlr) (fun k hk e=>absurd (hlp k hk) gV) (fun b hb e=>absurd (HX.out.lt b hb) gr));have HG5:Hid (Gx R.Y w (W4.setRow w.heap.size #[.int .i64 (ka:Int),.int .i64 (ea:Int),.slice aa R.n c])):=ab ((HG3.out.to (Gx.of_below (X:=R.Y) hb4) (fun _ _ h=>h)).to hrow4 (fun b hb e=>absurd hb gr));have HS5:Hid (SlS (W4.setRow w.heap.size #[.int .i64 (ka:Int),.int .i64 (ea:Int),.slice aa R.n c]) (fun b=>w.heap.size≤b) aa 2 R.n (jV ps)):=ab (((SlS.keep hs3 (Kept.all hb4)).keep (hrow4.kept (S:=fun b=>wr.heap.size≤b) fun b hb e=>by
     have h5:=HGI.out.size;have h6:b=w.heap.size:=e;have h7:wr.heap.size≤b:=hb;have h8:=HWR.out;omega)).mono fun b hb _=>Dz HGI.out.size hb)
    have HR5:=ab (oi (cs:=#[.int .i64 (ka:Int),.int .i64 (ea:Int),.slice aa R.n c]) hx4);have HX4:=ab hx4;have HW4:=ab hW4;have HF3:Hid ((some (i,en,ps),s2)=Q):=HF2;clear hka hea hs3 hpl hb4 hx4 hl4 hrow4 hW4 hlt3 HF2;go_upto_region 5 with fail
    rw [←HW4.out];go_wp2_with (refine lM rfl 70 (.tmp 4) (.tmp 31) rfl (w.heap.size) (#[.int .i64 (ka:Int),.int .i64 (ea:Int),.slice aa R.n c]) rfl rfl 70 _ (HX4.out) (ky) rfl rfl (gd) (W:=(W4.setRow w.heap.size #[.int .i64 (ka:Int),.int .i64 (ea:Int),.slice aa R.n c])) (rfl) ?_)
    refine DX (uF Tryz.results84 lx ky HR5.out rfl rfl rfl) rfl ?_;rw [←HF3.out];exact⟨HJ5.out,HG5.out,aa,c,by rw [HKA.out,HEA.out];rfl,HS5.out,HPL.out,hki,h1,h2⟩
  ·have HE:Hid ((none,s)=Q):=ab (by
    rw [←HF.out];unfold od;rw [Du (fun h=>hgo ⟨by omega,h.2⟩)])
   have hcase:(¬(i:Int)<(R.C.cs.length:Int)+1∧i=R.C.cs.length+1)∨((i:Int)<(R.C.cs.length:Int)+1∧s.out=true):=by
    rcases Nat.lt_or_ge R.C.cs.length i with h|h
    ·exact .inl ⟨by omega,by omega⟩
    ·refine .inr ⟨by omega,?_⟩
     cases ho:s.out with
     | true=>rfl
     | false=>exact absurd ⟨h,ho⟩ hgo
   clear hgo HF;rcases hcase with⟨hil,_⟩|⟨hil,ho⟩
   ·exact bT
   ·rw [ho] at c16
    exact bT
theorem Dc (n:Nat) (hn:n≤1000000):bits .and .u64 (n:Int) 4294967295=(n:Int):=by
 have h:=bits_and_u64_nat n 4294967295 fR fU;rw [show (4294967295:Nat)=2 ^ 32-1 by decide,Nat.and_two_pow_sub_one_eq_mod,Nat.mod_eq_of_lt fR] at h;exact h
theorem B6 (n:Nat) (w:World) (hn:n≤1000000):Calls Tryz.prog 148 #[.int .u64 1,.int .u64 n] w fun e w'=>e=.returned (.tuple #[.int .u64 0,.int .u64 n])∧w=w':=by
 have m1:bits .and .u64 1 4294967295=1:=Dc 1 fR;have m0:bits .and .u64 0 4294967295=0:=Dc 0 fR;have mn:=Dc n hn;have d1:(n:Int) / 4294967296=0:=fR;go_enter Tryz.func148,Tryz.ntmps148
 go_wp2
 go_ret2
 exact⟨rfl,rfl⟩
theorem Mul_one (n:Nat) (w:World) (hn:n≤1000000):Calls Tryz.prog 127 #[.int .u64 1,.int .u64 n] w fun e w'=>e=.returned (.tuple #[.int .u64 0,.int .u64 n])∧w=w':=by
 go_enter Tryz.func127,Tryz.ntmps127
 go_wp2_with (go_at_call 148;refine(B6 n _ hn).mono ?_;rintro e w1 ⟨rfl,rfl⟩)
 go_ret2
 exact⟨rfl,rfl⟩
theorem step_cp {P:Program} {w:World} {ops:Array Oper} {o:Oper} {a:Act} {K:Act→World→Prop} {Q:Exit→Act→World→Prop} {E:Prop} (hgd:o.guard=none) (d s:Operand) (t t':TypeId)
  (ho:o.op=.call { callee:=.builtin .copy,args:=#[d,s],argTypes:=#[t,t'] }) (v u:Value) (hd:a.eval d=v) (hs:a.eval s=u) {v':Value} {w':World}
  (hr:(Builtin.copy_ #[t,t'] o.type #[v,u]).run P w=.ok v' w') (h:K (a.put o.dst v') w'):if Region.wanted o (yielded ops a.tmps)=true then Oper.wp P o a w K Q else E:=by
 have hwt:Region.wanted o (yielded ops a.tmps)=true:=by simp [Region.wanted,hgd]
 rw [Dr hwt];unfold Oper.wp;simp [execOp,ho,resolve,invoke,builtin,hd,hs,hr,Result.andThen]
 exact h
def rowP (m n:Nat):List (Int × Int):=List.replicate m (-1,-1)++List.replicate (n-m) (0,0)
theorem rowP_len {m n:Nat} (h:m≤n):(rowP m n).length=n:=by simp [rowP];omega
theorem De {m n k:Nat}:List.replicate m ((-1:Int),(-1:Int))++(List.replicate k (-1,-1)++List.replicate (n-(m+k)) (0,0))=rowP (m+k) n:=by
 unfold rowP;rw [←D6,List.replicate_append_replicate]
def RpRel (w:World) (g n:Nat) (q:Value) (wr:World):Prop :=
 ∃m:Nat,m≤n∧(0<n→0<m)∧q=.int .i64 m∧wr.ownsRow w.heap.size 67 2 (.slice (some ⟨g,0,none⟩) n n) n (jV (rowP m n))∧Below w.heap.size w wr
theorem Br {P:Program} {w wr:World} {g n m k sl scap dc:Nat} {e:TypeId} (h:wr.ownsRow w.heap.size e 2 (.slice (some ⟨g,0,none⟩) n n) n (jV (rowP m n))) (hb:Below w.heap.size w wr) (dT ty:TypeId) (hu:P.underlying dT=some (.slice e)) (hs:(P.info? e).map (·.size)=some 2) (a:Addr) (hk:Nat.min sl (n-m)=k) (hsrc:∀j u,(jV (List.replicate k ((-1:Int),(-1:Int))))[j]?=some u→wr.cell? (a.add j)=some u) (hm:m≤n) :
  ∃w',(Builtin.copy_ #[dT,dT] ty #[.slice (some ⟨g,m*2,none⟩) (n-m) dc,.slice (some a) sl scap]).run P wr=.ok (goInt (k:Nat)) w'∧w'.ownsRow w.heap.size e 2 (.slice (some ⟨g,0,none⟩) n n) n (jV (rowP (m+k) n))∧Below w.heap.size w w':=by
 have hkn:m+k≤n:=by have:Nat.min sl (n-m)≤n-m:=Nat.min_le_right _ _;omega
 have hl:(jV (List.replicate k ((-1:Int),(-1:Int)))).length=k*2:=by rw [ko,List.length_replicate]
 have hlo:(jV (List.replicate m ((-1:Int),(-1:Int)))).length=m*2:=by rw [ko,List.length_replicate]
 have hrun:=uV (P:=P) wr dT dT ty e 2 g (m*2) (n-m) dc a sl scap (jV (List.replicate k ((-1:Int),(-1:Int)))) hu hs (by rw [hl,hk]) hsrc
  (fun j hj=>by rw [h.cellAt _ fR,Dt (by rw [ko,rowP_len hm];omega)];rfl) (fun j _=>h.frozenAt _) (oR _)
 have hset:=uI (jV (List.replicate k ((-1:Int),(-1:Int)))) (jV (List.replicate k ((0:Int),(0:Int)))) (jV (List.replicate m ((-1:Int),(-1:Int)))) (jV (List.replicate (n-(m+k)) ((0:Int),(0:Int)))) (w:=wr) (B:=w.heap.size) (e:=e) (sz:=2) (n:=n) (g:=g) (cap:=n) (by
   rw [←lf,←lf,List.replicate_append_replicate,show k+(n-(m+k))=n-m by omega];exact h) (by rw [ko,ko];simp)
 rw [hlo,←lf,←lf,De] at hset;refine⟨_,by rw [hrun,hk],hset,?_⟩;exact Gx.below ((Gx.of_below (X:=fun _=>False) (hb.mono (Dv _))).to (Gx.sets (X:=fun k=>k=g) rfl _ _ _) (fun k hk e=>by have:=(h.lt g rfl).1;omega)) (Dv _) (fun k e=>e.elim)
theorem AE:∀n:Nat,(madeCells #[.int .i64 0,.int .i64 0] (n*2)).toList=jV (rowP 0 n):=by
 intro n;apply List.ext_getElem?
 intro j;unfold madeCells rowP;simp only [List.replicate_zero,D4,Nat.sub_zero,Array.toList_map,Array.toList_range,List.getElem?_map];rcases Nat.lt_or_ge j (n*2) with h|h
 ·rw [List.getElem?_range h]
  have hp:(List.replicate n ((0:Int),(0:Int)))[j / 2]?=some (0,0):=by rw [List.getElem?_replicate,Dr fR]
  obtain⟨c1,c2⟩:=pz hp;rcases(show j % 2=0∨j % 2=1 by omega) with h2|h2
  ·rw [show j / 2*2=j by omega] at c1
   rw [c1];simp [h2]
  ·rw [show j / 2*2+1=j by omega] at c2
   rw [c2];simp [h2]
 ·rw [List.getElem?_eq_none gT,List.getElem?_eq_none (by rw [ko,List.length_replicate];exact h)];rfl
theorem AK {b o c:Nat} (n:Nat) (w:World) (hn:n≤1000000) (h0:w.cell? ⟨b,o,none⟩=some (.int .i64 (-1))) (h1:w.cell? ⟨b,o+1,none⟩=some (.int .i64 (-1))) :
  Calls Tryz.prog 106 #[.slice (some ⟨b,o,none⟩) 1 c,.int .i64 n] w fun e w'=>∃g,e=.returned (.slice (some ⟨g,0,none⟩) n n)∧w'.ownsRow w.heap.size 67 2 (.slice (some ⟨g,0,none⟩) n n) n (jV (List.replicate n (-1,-1)))∧Below w.heap.size w w':=by
 obtain⟨i,hi1,hi2,hi3,hi4⟩:=info_parts sD;have H0:=ab h0;have H1:=ab h1;clear h0 h1;go_enter Tryz.func106,Tryz.ntmps106
 go_wp2_with (first
  | (go_at_call 127;refine(Mul_one n _ hn).mono ?_;rintro e w1 ⟨rfl,rfl⟩)
  | (at_make;refine wpList_make_full w rfl _ _ _ rfl w.heap.size 67 i _ 2 Tryz.underlying68 hi1 hi2 hi3 .i64 .i64 n n n rfl rfl rfl rfl (by rw [hi4];omega) (by simp only [maxLen];omega) (Dv _) ?_))
 intro w1 ho1 hg1;have hb1:Below w.heap.size w w1:=(Below.refl _ _).grown hg1 (Dv _) (fun k e=>by cases e);have e0:(madeCells #[.int .i64 0,.int .i64 0] (n*2)).toList=jV (rowP 0 n):=AE n;rw [e0] at ho1;clear e0 hg1 hi1 hi2 hi3 hi4;obtain⟨k,hk⟩:∃k,Nat.min 1 n=k:=⟨_,rfl⟩;have hkc:k≤1∧k≤n∧(0<n→0<k):=by
  have h1:Nat.min 1 n≤1:=Nat.min_le_left _ _;have h2:Nat.min 1 n≤n:=Nat.min_le_right _ _;have h3:0<n→0<Nat.min 1 n:=fun h=>Nat.lt_min.2 ⟨by omega,h⟩
  omega
 have hsrc:∀j u,(jV (List.replicate k ((-1:Int),(-1:Int))))[j]?=some u→w1.cell? ((⟨b,o,none⟩:Addr).add j)=some u:=by
  intro j u hj;have hjl:=(Dw.1 hj).1;rw [ko,List.length_replicate] at hjl;have hk1:k=1:=fR;subst hk1;have hadd:(⟨b,o,none⟩:Addr).add j=⟨b,o+j,none⟩:=by unfold Addr.add;split<;>simp_all
  rw [hadd];rcases(show j=0∨j=1 by omega) with rfl|rfl
  ·simp [jV] at hj;subst hj;exact(hb1.cell (World.block_lt_of_cell? w _ H0.out)).trans H0.out
  ·simp [jV] at hj;subst hj;exact(hb1.cell (World.block_lt_of_cell? w _ H1.out)).trans H1.out
 obtain⟨w2,hr2,ho2,hb2⟩:=Br (P:=Tryz.prog) (m:=0) (k:=k) (sl:=1) (scap:=c) (dc:=n) ho1 hb1 68 3 Tryz.underlying68 pU ⟨b,o,none⟩ (by rw [Nat.sub_zero];exact hk) hsrc (Nat.zero_le _);simp only [Nat.zero_mul,Nat.sub_zero,Nat.zero_add] at hr2 ho2;have HR2:=ab hr2;have HO2:=ab ho2;have HB2:=ab hb2;clear hr2 ho2 hb2 ho1 hb1 hsrc hk;go_upto_region 7 with fail
 go_wp2_with (refine wO rfl _ _ _ _ rfl _ _ rfl rfl HR2.out ?_)
 go_loopw [8] (fun q wr=>RpRel w w.heap.size n q wr) (fun q _=>n-(intOf q).toNat)
 case atStart=>exact⟨k,by omega,by omega,rfl,HO2.out,HB2.out⟩
 case round =>
  obtain⟨m,hm,hm0,rfl,hown,hb⟩:=hrel;by_cases hmn:m<n
  ·obtain⟨k2,hk2⟩:∃k2,Nat.min m (n-m)=k2:=⟨_,rfl⟩
   have hk2c:k2≤m∧k2≤n-m∧0<k2:=by
    have h1:Nat.min m (n-m)≤m:=Nat.min_le_left _ _;have h2:Nat.min m (n-m)≤n-m:=Nat.min_le_right _ _;have h3:0<Nat.min m (n-m):=Nat.lt_min.2 ⟨by omega,by omega⟩;omega
   have hdr:Below wr.heap.size wr wr.drew:=(Below.refl _ _).drew;obtain⟨w3,hr3,ho3,hb3⟩:=Br (P:=Tryz.prog) (wr:=wr.drew) (m:=m) (k:=k2) (sl:=m) (scap:=n) (dc:=n-m) (lX hown hdr) (hb.trans (hdr.mono hb.size)) 68 3 Tryz.underlying68 pU ⟨w.heap.size,0,none⟩ hk2 (fun j u hj=>by
    have hjl:=(Dw.1 hj).1;have hadd:(⟨w.heap.size,0,none⟩:Addr).add j=⟨w.heap.size,j,none⟩:=by unfold Addr.add;split<;>simp_all
    rw [ko,List.length_replicate] at hjl;rw [hadd,(lX hown hdr).cellAt j fR];unfold rowP;rw [show m=k2+(m-k2) by omega,←List.replicate_append_replicate,D6,lf,DG (by rw [ko,List.length_replicate];omega)];exact hj) hm
   have HR3:=ab hr3;have HO3:=ab ho3;have HB3:=ab hb3;have hnm:n≠m:=fR;have hn0:n≠0:=fR;clear hr3 ho3 hb3 hown hb hk2 HR2 HO2 HB2;go_upto_region 9 with fail
   go_region_law (refine step_cp rfl (.tmp 41) (.tmp 44) 68 68 rfl (.slice (some ⟨w.heap.size,m*2,none⟩) (n-m) (n-m)) (.slice (some ⟨w.heap.size,0,none⟩) m n) (by simp [Act.eval,Act.put]) (by simp [Act.eval,Act.put]) HR3.out ?_)
   simp [Act.put]
   rw [show IntKind.i64.wrap ((m:Int)+(k2:Int))=((m+k2:Nat):Int) by rw [IntKind.wrap_i64];omega];go_wp2
   go_roundw
   case rel=>exact⟨m+k2,by omega,by omega,by go_num,HO3.out,HB3.out⟩
   case measure=>simp [intOf];omega
  ·have hmn:m=n:=fR
   subst hmn;have HO:=ab hown;clear hown HR2 HO2 HB2;go_wp2
   go_ret
   refine⟨w.heap.size,rfl,?_,hb⟩;have h:=HO.out;unfold rowP at h;simpa using h
theorem wC {b:Nat} {t:TypeId}:∀(vs old pre post:List Value) {w:World},w.heap[b]?=some (.cells (pre++(old++post)).toArray t (0,0))→old.length=vs.length→(w.setCells b pre.length vs).heap[b]?=some (.cells (pre++(vs++post)).toArray t (0,0))
 | [],old,pre,post,w,h,hl=>by
  have h0:old=[]:=Ds hl;subst h0;exact h
 | v::vs,[],pre,post,w,h,hl=>by simp at hl
 | v::vs,u::old,pre,post,w,h,hl=>by
  have h1:(w.setCell ⟨b,pre.length,none⟩ v).heap[b]?=some (.cells ((pre++[v])++(old++post)).toArray t (0,0)):=by
   rw [heap_setCell_same _ _ _ _ _ _ h];congr 2;simp [List.set_append_right]
  have h2:=wC vs old (pre++[v]) post h1 jv;exact dD
theorem fuelM_eq (z:Int):((Ah z:Nat):Int)=min (max z 0) 20000:=by unfold Ah;omega
theorem AH (s:Str):Rises (mQ (jL s) 0):=fun a b h1 h2=>by
 rw [mt] at h2;rw [mK _ _ fR,mK _ _ fR];exact wx _ (tt s) h1 fR
structure BegunP (fold:Bool) (s:Str) (z:Int) (x:Rx) (w:World) (R:Rn) (w':World):Prop where
 j:RnJ R
 C:R.C=rcM fold s
 n:R.n=x.groups
 run:RunJ R w' (o4 x.groups z)
 tr:RunT R x w'
 bel:Below w.heap.size w w'
 new:∀k,R.Y k→w.heap.size≤k
 up:Rises R.C.offs
theorem uX (S:Nat→Prop) {x:Rx} {cc:List Value} {fold:Bool} {s:Str} {z:Int} (w:World) (hv:RxV w S cc x) (hsm:x.small) (hwf:x.wf=true) (hs:s.length≤1000000) (hg:x.groups≤1000) :
  Calls Tryz.prog 83 #[.agg cc.toArray,.bool fold,.string ⟨s.toArray⟩,.int .i64 z] w fun e w'=>∃R:Rn,e=.returned (.pointer (some ⟨R.r,0,none⟩))∧BegunP fold s z x w R w':=by
 obtain⟨F,hF⟩:∃F:Nat,F=Ah z:=⟨_,rfl⟩;have hFz:(F:Int)=min (max z 0) 20000:=by rw [hF];exact fuelM_eq z
 have hv0:=hv;obtain⟨kd,ch,ng,rs,lo,hi,lz,ks⟩:=x;obtain⟨ra,rc,ka,kc,rfl,hrs,hks⟩:=hv0.open_;obtain⟨W1,hW1⟩:∃W1,W1=w.alloc (.cells (rxc kd ch ng ra rs.length rc lo hi lz ka ks.length kc).toArray 25):=⟨_,rfl⟩;have hb1:Below w.heap.size w W1:=by rw [hW1];exact(Below.refl _ _).alloc (Dv _) _
 have hx1:W1.heap[w.heap.size]?=some (.cells (rxc kd ch ng ra rs.length rc lo hi lz ka ks.length kc).toArray 25 (0,0)):=by rw [hW1];exact heap_alloc_new w _
 have HB1:=ab hb1;have HX1:=ab hx1;have HW1:=ab hW1;have HV:=ab (hv.later hb1);have HF:=ab hF;have HFZ:=ab hFz;clear hW1 hb1 hx1 hv hF hFz hrs hks;unfold rxc at HW1 ⊢;go_enter Tryz.func83,Tryz.ntmps83
 go_upto_region 1 with fail
 rw [←HW1.out];go_wp2_with (first|(go_at_call 50;refine(wv s _ hs).mono ?_)|(go_at_call 104;refine(tL s _ hs).mono ?_))
 rintro e w2 ⟨ca,cc,rfl,hs2,hb2⟩;go_wp2_with (go_at_call 104;refine(tL s _ hs).mono ?_)
 rintro e w3 ⟨oa,oc,rfl,hs3,hb3⟩;have hfe:(if 20000<if z<0 then 0 else z then 20000 else if z<0 then 0 else z)=(F:Int):=by rw [HFZ.out];omega
 have HFE:=ab hfe;clear hfe;have HS2:=ab hs2;have HS3:=ab hs3;have HB2:=ab hb2;have HB3:=ab hb3;clear hs2 hs3 hb2 hb3;go_upto_region 3 with fail
 first|simp only [HFE.out]|simp only [show min (max z 0) 20000=(F:Int) from HFZ.out.symm]
 obtain⟨zz,hzz⟩:∃zz:Int,zz=(if z<0 then 0 else z):=⟨_,rfl⟩;try rw [←hzz]
 clear hzz;obtain⟨L,hL⟩:∃L:List Value,L=[.int .i64 0,.string ⟨#[]⟩,.bool false,.slice none 0 0,.int .i64 0,.int .i64 0,.bool false,.slice none 0 0,.slice none 0 0,.int .i64 0,.int .i64 0,.bool fold,.slice ca (jL s).length cc,.slice oa ((jL s).length+1) oc,.slice none 0 0,.int .i64 (F:Int),.bool false]:=⟨_,rfl⟩;obtain⟨W4,hW4⟩:∃W4,W4=w3.alloc (.cells L.toArray 121):=⟨_,rfl⟩;obtain⟨W5,hW5⟩:∃W5,W5=W4.alloc (.cells #[.int .i64 0] 3):=⟨_,rfl⟩;have hz4:W4.heap.size=w3.heap.size+1:=by rw [hW4];simp
 have hb4:Below w3.heap.size w3 W4:=by rw [hW4];exact(Below.refl _ _).alloc (Dv _) _
 have hb5:Below W4.heap.size W4 W5:=by rw [hW5];exact(Below.refl _ _).alloc (Dv _) _
 have h45:W5=(w3.alloc (.cells #[.int .i64 0,.string ⟨#[]⟩,.bool false,.slice none 0 0,.int .i64 0,.int .i64 0,.bool false,.slice none 0 0,.slice none 0 0,.int .i64 0,.int .i64 0,.bool fold,.slice ca (jL s).length cc,.slice oa ((jL s).length+1) oc,.slice none 0 0,.int .i64 (F:Int),.bool false] 121)).alloc (.cells #[.int .i64 0] 3):=by rw [hW5,hW4,hL]
 have hr5:W5.heap[w3.heap.size]?=some (.cells L.toArray 121 (0,0)):=by rw [hb5.block _ fR,hW4];exact heap_alloc_new w3 _
 have hg5:W5.heap[w3.heap.size+1]?=some (.cells #[.int .i64 ((0:Nat):Int)] 3 (0,0)):=by rw [hW5,←hz4];exact heap_alloc_new W4 _
 have hz5:W5.heap.size=w3.heap.size+2:=by rw [hW5];simp;omega
 rw [←h45];have hx5:W5.heap[w.heap.size]?=some (.cells (rxc kd ch ng ra rs.length rc lo hi lz ka ks.length kc).toArray 25 (0,0)):=by
  have h1:=jA HX1.out;have h2:=HB2.out.size;have h3:=HB3.out.size;rw [hb5.block _ fR,hb4.block _ fR,HB3.out.block _ fR,HB2.out.block _ fR];exact HX1.out
 have hbw:Below w.heap.size w W5:=by
  have h1:=HB1.out.size;have h2:=HB2.out.size;have h3:=HB3.out.size;have h4:=hb4.size;exact(((HB1.out.trans (HB2.out.mono h1)).trans (HB3.out.mono fR)).trans (hb4.mono fR)).trans (hb5.mono fR)
 have hvo:RxV w (fun b=>S b∧b<w.heap.size) (rxc kd ch ng ra rs.length rc lo hi lz ka ks.length kc) (.mk kd ch ng rs lo hi lz ks):=hv0.mono (fun b hb hlt=>⟨hb,hlt⟩);have hl:=yQ _ (.mk kd ch ng rs lo hi lz ks) (Dv _) hsm (fun b=>S b∧b<w.heap.size) _ W5 (w3.heap.size+1) 0 (hvo.later hbw) hg5 (fun h=>by have:=hbw.size;have h2:w3.heap.size+1<w.heap.size:=h.2;have:=HB1.out.size;have:=HB2.out.size;have:=HB3.out.size;omega) fR;have x0:W5.cell? ⟨w.heap.size,0,none⟩=some (.int .i64 kd):=by rw [DB hx5];rfl
 have x1:W5.cell? ⟨w.heap.size,1,none⟩=some (.string ⟨ch.toArray⟩):=by rw [DB hx5];rfl
 have x2:W5.cell? ⟨w.heap.size,2,none⟩=some (.bool ng):=by rw [DB hx5];rfl
 have x3:W5.cell? ⟨w.heap.size,3,none⟩=some (.slice ra rs.length rc):=by rw [DB hx5];rfl
 have x4:W5.cell? ⟨w.heap.size,4,none⟩=some (.int .i64 lo):=by rw [DB hx5];rfl
 have x5:W5.cell? ⟨w.heap.size,5,none⟩=some (.int .i64 hi):=by rw [DB hx5];rfl
 have x6:W5.cell? ⟨w.heap.size,6,none⟩=some (.bool lz):=by rw [DB hx5];rfl
 have x7:W5.cell? ⟨w.heap.size,7,none⟩=some (.slice ka ks.length kc):=by rw [DB hx5];rfl
 have HBW:=ab hbw;have H35:Hid (Below w3.heap.size w3 W5):=ab (bel2 hb4 hb5);have HL:=ab hl;have HLE:=ab hL;have HR5:=ab hr5;have HZ5:=ab hz5;clear hl hvo hbw hx5 hg5 hr5 hz5 h45 hb4 hb5 hz4 hW4 hW5 hL HX1 HW1;unfold rxc at HL;go_wp2_with (go_at_call 105;refine HL.out.mono ?_)
 first|rintro e w6 ⟨pc,rfl,hp6,hg6,hx6⟩
 have hpl:=hp6.len;have hr6:w6.heap[w3.heap.size]?=some (.cells L.toArray 121 (0,0)):=Gx.heap hx6 HR5.out (fun e=>by have:w3.heap.size=w3.heap.size+1:=e;omega);have hth:w6.there w3.heap.size 0 pc.toArray.size:=fun j hj=>by
  have hj:j<11:=by simpa [hpl] using hj
  refine⟨?_,by simp only [World.frozen?,hr6];simp⟩;rw [DB hr6,HLE.out];simp only [List.getElem?_toArray];rw [Dt fY];rfl
 go_upto_region 4 with(refine wpList_store_mid rfl 118 (.tmp 25) (.tmp 23) rfl w3.heap.size 0 pc.toArray rfl rfl hth (by rw [uo];simp [hpl]) (all_oneCell_toArray hp6.one) ?_)
 try simp only [List.toList_toArray]
 obtain⟨G,hG⟩:∃G,G=(Rx.mk kd ch ng rs lo hi lz ks).groups:=⟨_,rfl⟩;rw [←hG] at hg hg6;obtain⟨w7,hw7⟩:∃w7,w7=w6.setCells w3.heap.size 0 pc:=⟨_,rfl⟩;have hx7:Gx (fun k=>k=w3.heap.size) w6 w7:=by rw [hw7];exact Gx.sets (X:=fun k=>k=w3.heap.size) (b:=w3.heap.size) rfl _ _ _
 have hr7:w7.heap[w3.heap.size]?=some (.cells (pc++([.bool fold,.slice ca (jL s).length cc,.slice oa ((jL s).length+1) oc,.slice none 0 0,.int .i64 (F:Int),.bool false]:List Value)).toArray 121 (0,0)):=by
  rw [hw7];exact wC pc [.int .i64 0,.string ⟨#[]⟩,.bool false,.slice none 0 0,.int .i64 0,.int .i64 0,.bool false,.slice none 0 0,.slice none 0 0,.int .i64 0,.int .i64 0] [] _ (by rw [hr6,HLE.out];rfl) (by simp [hpl])
 have hg7:w7.heap[w3.heap.size+1]?=some (.cells #[.int .i64 (G:Int)] 3 (0,0)):=by
  rw [Nat.zero_add] at hg6;exact Gx.heap hx7 hg6 (fun e=>by have:w3.heap.size+1=w3.heap.size:=e;omega)
 have hlt7:=jA hg7;have c7:=jM hg7;obtain⟨W8,hW8⟩:∃W8,W8=w7.alloc (.cells #[.int .i64 (-1),.int .i64 (-1)] 67):=⟨_,rfl⟩;have hb8:Below w7.heap.size w7 W8:=by rw [hW8];exact(Below.refl _ _).alloc (Dv _) _
 have h8:W8.heap[w7.heap.size]?=some (.cells #[.int .i64 (-1),.int .i64 (-1)] 67 (0,0)):=by rw [hW8];exact heap_alloc_new w7 _
 have c8:=jM ((hb8.block _ hlt7).trans hg7);have HRP:=ab (AK (c:=1) G W8 fR (show W8.cell? ⟨w7.heap.size,0,none⟩=_ by rw [DB h8];rfl) (show W8.cell? ⟨w7.heap.size,0+1,none⟩=_ by rw [DB h8];rfl));rw [hW8] at HRP c8;have HX7:=ab hx7;have HR7:=ab hr7;have HB8:=ab hb8;have HP6:=ab hp6;have HX6:=ab hx6;have HPL:=ab hpl;have HG:=ab hG;have HG7:=ab hg7;try rw [←hw7]
 clear hx7 hr7 hb8 hp6 hx6 hpl hG h8 hW8 hg7 hw7 hr6 hth hg6 x0 x1 x2 x3 x4 x5 x6 x7 HL;go_wp2_with (go_at_call 106;refine HRP.out.mono ?_)
 have hz8:(w7.alloc (.cells #[.int .i64 (-1),.int .i64 (-1)] 67)).heap.size=w7.heap.size+1:=fX;rintro e w9 ⟨g,rfl,ho9,hb9⟩;have hb79:Below w7.heap.size w7 w9:=bel2 ((Below.refl _ _).alloc (Dv _) _) hb9;have hr9:=(hb79.block _ (jA HR7.out)).trans HR7.out;have hgl:=ho9.lt g rfl;rw [hz8] at hgl;have c14:w9.cell? ⟨w3.heap.size,14,none⟩=some (.slice none 0 0):=by
  rw [DB hr9];simp only [List.getElem?_toArray];rw [DJ (by rw [HPL.out];omega),HPL.out];rfl
 have f14:w9.frozen? ⟨w3.heap.size,14,none⟩=false:=by simp only [World.frozen?,hr9];simp
 obtain⟨w',hw'⟩:∃w',w'=w9.setCell ⟨w3.heap.size,14,none⟩ (.slice (some ⟨g,0,none⟩) G G):=⟨_,rfl⟩;have hxe:Gx (fun k=>k=w3.heap.size) w9 w':=by rw [hw'];exact Gx.set w9 _ rfl
 have hre:w'.heap[w3.heap.size]?=some (.cells (pc++([.bool fold,.slice ca (jL s).length cc,.slice oa ((jL s).length+1) oc,.slice (some ⟨g,0,none⟩) G G,.int .i64 (F:Int),.bool false]:List Value)).toArray 121 (0,0)):=by
  rw [hw',heap_setCell_same _ _ _ _ _ _ hr9];congr 2;simp [List.set_append_right,HPL.out]
 have HO9:=ab ho9;have HB79:=ab hb79;have HXE:=ab hxe;have HRE:=ab hre;have HGL:=ab hgl;have HW':=ab hw';clear ho9 hb9 hb79 hr9 hxe hre hgl hw' c7 c8 hz8 HRP;go_wp2
 try rw [←HW'.out]
 go_ret
 have s35:=H35.out.size;have s56:=HX6.out.size;have s67:=HX7.out.size;have s79:=HB79.out.size;have s9e:=HXE.out.size;have sbw:=HB1.out.size;have sb2:=HB2.out.size;have sb3:=HB3.out.size;have sz5:=HZ5.out;have sgl:=HGL.out;have hge:w3.heap.size≠g:=fR;have b5e:Below w3.heap.size W5 w':=(((HX6.out.below fR (fun k hk=>by have:k=w3.heap.size+1:=hk;omega)).trans (HX7.out.below fR (fun k hk=>by have:k=w3.heap.size:=hk;omega))).trans (HB79.out.mono fR)).trans (HXE.out.below fR (fun k hk=>by have:k=w3.heap.size:=hk;omega));have b3e:Below w3.heap.size w3 w':=H35.out.trans b5e;have b2e:Below w2.heap.size w2 w':=HB3.out.trans (b3e.mono sb3);have x6e:Gx (fun k=>k=w3.heap.size) w6 w':=(HX7.out.to (Gx.of_below HB79.out) (fun _ _ h=>h)).to HXE.out (fun _ _ h=>h);have hown:w'.ownsRow (w7.alloc (.cells #[.int .i64 (-1),.int .i64 (-1)] 67)).heap.size 67 2 (.slice (some ⟨g,0,none⟩) G G) G (jV (List.replicate G (-1,-1))):=pT HO9.out HXE.out (fun k hk e=>by
  have h1:some g=some k:=hk;injection h1 with h1
  have h2:k=w3.heap.size:=e;omega)
 refine⟨⟨w3.heap.size,0,(w7.alloc (.cells #[.int .i64 (-1),.int .i64 (-1)] 67)).heap.size,pc,ca,cc,oa,oc,some ⟨g,0,none⟩,G,rcM fold s,G,fun b=>b≠w3.heap.size∧b≠g∧b<w'.heap.size⟩,rfl,?_⟩;refine⟨⟨HPL.out,HP6.out.one,Dz (vR s) hs,fun c hc=>Dz (char_le s c hc) hs,mt _ _,fun o ho=>?_,?_,fun b hb=>⟨hb.1,?_⟩,?_⟩,rfl,HG.out,⟨?_,by rw [←HG.out];exact hown,?_,?_,?_⟩,⟨?_,HG.out.symm,hwf,hsm,fun b hb=>hb.2.2⟩,?_,?_,AH s⟩
 ·obtain⟨k,hk,rfl⟩:=List.mem_iff_getElem.1 ho
  have h1:=hk;simp only [rcM,mt] at h1;have h2:=uv s (k:=k) fR;rw [List.getD_eq_getElem?_getD,Dt (by rw [mt];omega)] at h2;exact Dz h2 hs
 ·intro h
  have h1:some g=some w3.heap.size:=h;injection h1 with h1
  exact hge h1.symm
 ·intro h
  have h1:some g=some b:=h;injection h1 with h1
  exact hb.2.1 h1.symm
 ·show G≤1000
  exact hg
 ·show w'.heap[w3.heap.size]?=_
  rw [HRE.out,HF.out];rfl
 ·exact(HS2.out.mono (fun b _ hlt=>⟨by omega,by omega,by omega⟩)).keep (Kept.all b2e)
 ·exact(HS3.out.mono (fun b _ hlt=>⟨by omega,by omega,by omega⟩)).keep (Kept.all b3e)
 ·show Ah z≤20000
  unfold Ah;omega
 ·refine(HP6.out.mono (fun b hb hlt=>?_)).keep (x6e.kept fun b hb=>hb.1)
  refine⟨?_,by omega,by omega⟩;rcases hb with⟨⟨_,h1⟩,_⟩|h1
  ·omega
  ·omega
 ·exact HBW.out.trans (b5e.mono fR)
 ·rintro k (h|h)
  ·have:k=w3.heap.size:=h
   omega
  ·have h1:some g=some k:=h
   injection h1 with h1
   omega
theorem qW {fn:Func} {p u1 u2 u3:Tmp} {ty t:TypeId} {tmps:Array Value} {w:World} {b:Nat} {cs:Array Value} {f:Nat × Nat} {fs:Array Field} {n:Nat} {v1 v2 v3:Value} (hr:fn.results=#[.cell p ty,.tmp u1,.tmp u2,.tmp u3]) (hu:Tryz.prog.underlying ty=some (.struct fs)) (hi:(Tryz.prog.info? ty).map (·.size)=some n)
  (h:w.heap[b]?=some (.cells cs t f)) (hn:cs.size=n) (hp:tmps.getD p undef=.pointer (some ⟨b,0,none⟩)) (hv1:tmps.getD u1 undef=v1) (hv2:tmps.getD u2 undef=v2) (hv3:tmps.getD u3 undef=v3):(results fn tmps).run Tryz.prog w=.ok (.tuple #[.agg cs,v1,v2,v3]) w:=by
 subst hn;have e:(results fn tmps).run Tryz.prog w=((asAddr (tmps.getD p undef)).run Tryz.prog w).andThen fun a w₁=>((loadVar ty a).run Tryz.prog w₁).andThen fun v w₂=>.ok (.tuple #[v,tmps.getD u1 undef,tmps.getD u2 undef,tmps.getD u3 undef]) w₂:=by
  simp only [results,hr];simp [Sem.run_bind,Result.andThen]
 rw [e,hp,hv1,hv2,hv3];exact ep
def rW (x:Rx) (fold:Bool) (s:Str) (z:Int):Option (Nat × Nat × List (Int × Int)) × Rst:=od (rcM fold s) x ((rcM fold s).offs.length+1) 0 (o4 x.groups z)
def FndP (x:Rx) (fold:Bool) (s:Str) (z:Int) (w:World) (e:Ending) (w':World):Prop :=
 Below w.heap.size w w' ∧
  ((mayB x=false∧e=.returned (.tuple #[mz,.int .i64 0,.bool false,.int .i64 10]))
  ∨ (mayB x=true∧(rW x fold s z).2.out=true∧e=.returned (.tuple #[mz,.int .i64 0,.bool false,.int .i64 9]))
  ∨ (mayB x=true∧(rW x fold s z).2.out=false∧(rW x fold s z).1=none∧e=.returned (.tuple #[mz,.int .i64 ((rW x fold s z).2.fuel:Int),.bool false,.int .i64 0]))
  ∨ (mayB x=true∧(rW x fold s z).2.out=false∧∃a b ps aa c,(rW x fold s z).1=some (a,b,ps)∧e=.returned (.tuple #[.agg #[.int .i64 (((rcM fold s).offs.getD a 0:Nat):Int),.int .i64 (((rcM fold s).offs.getD b 0:Nat):Int),.slice aa x.groups c],.int .i64 ((rW x fold s z).2.fuel:Int),.bool true,.int .i64 0])
    ∧ SlS w' (fun b=>w.heap.size≤b) aa 2 x.groups (jV ps)∧ps.length=x.groups∧a≤b∧b≤(rcM fold s).cs.length))
theorem told_any (S:Nat→Prop) {x:Rx} {cc:List Value} {fold:Bool} {s:Str} {z:Int} (w:World) (hv:RxV w S cc x) (hm:x.parts≤1000000) (hsm:x.small) (hwf:x.wf=true) (hs:s.length≤1000000) (hg:x.groups≤1000) :
  Calls Tryz.prog 86 #[.agg cc.toArray,.bool fold,.string ⟨s.toArray⟩,.int .i64 0,.int .i64 z,.func (.func 84) #[] #[]] w (FndP x fold s z w):=by
 have hv0:=hv;obtain⟨X,hX⟩:∃X,X=x:=⟨_,rfl⟩;obtain⟨kd,ch,ng,rs,lo,hi,lz,ks⟩:=x;obtain⟨ra,rc,ka,kc,rfl,hrs,hks⟩:=hv0.open_;rw [←hX];obtain⟨W1,hW1⟩:∃W1,W1=(w.alloc (.cells (rxc kd ch ng ra rs.length rc lo hi lz ka ks.length kc).toArray 25)).alloc (.cells #[.int .i64 0,.int .i64 0,.slice none 0 0] 70):=⟨_,rfl⟩;have hb1:Below w.heap.size w W1:=by rw [hW1];exact((Below.refl _ _).alloc (Dv _) _).alloc fX _
 have hz1:W1.heap.size=w.heap.size+2:=by rw [hW1];simp
 have hx1:W1.heap[w.heap.size]?=some (.cells (rxc kd ch ng ra rs.length rc lo hi lz ka ks.length kc).toArray 25 (0,0)):=by rw [hW1,Below.heap_alloc _ _ _ fX];exact heap_alloc_new w _
 have hy1:W1.heap[w.heap.size+1]?=some (.cells #[.int .i64 0,.int .i64 0,.slice none 0 0] 70 (0,0)):=by
  exact cU
 rw [←hX] at hv hm hsm hwf hg;have hv1:=hv.later hb1;have HM:=ab (pG S X _ W1 hm hsm hv1);have x0:W1.cell? ⟨w.heap.size,0,none⟩=some (.int .i64 kd):=by rw [DB hx1];rfl
 have x1:W1.cell? ⟨w.heap.size,1,none⟩=some (.string ⟨ch.toArray⟩):=by rw [DB hx1];rfl
 have x2:W1.cell? ⟨w.heap.size,2,none⟩=some (.bool ng):=by rw [DB hx1];rfl
 have x3:W1.cell? ⟨w.heap.size,3,none⟩=some (.slice ra rs.length rc):=by rw [DB hx1];rfl
 have x4:W1.cell? ⟨w.heap.size,4,none⟩=some (.int .i64 lo):=by rw [DB hx1];rfl
 have x5:W1.cell? ⟨w.heap.size,5,none⟩=some (.int .i64 hi):=by rw [DB hx1];rfl
 have x6:W1.cell? ⟨w.heap.size,6,none⟩=some (.bool lz):=by rw [DB hx1];rfl
 have x7:W1.cell? ⟨w.heap.size,7,none⟩=some (.slice ka ks.length kc):=by rw [DB hx1];rfl
 have HB1:=ab hb1;have HZ1:=ab hz1;have HX1:=ab hx1;have HY1:=ab hy1;have HW1:=ab hW1;have HV1:=ab hv1;have HXe:=ab hX;clear hb1 hz1 hx1 hy1 hW1 hv1 hX hrs hks hv hv0;unfold rxc at HM HW1 ⊢;go_enter Tryz.func86,Tryz.ntmps86
 go_upto_region 1 with fail
 rw [←HW1.out];go_wp2_with (go_at_call 20;refine HM.out.mono ?_)
 first|rintro e w2 rfl hb2|rintro e w2 ⟨rfl,hb2⟩
 have HB2:=ab hb2;have keep2:∀(b:Nat) (o:Obj),W1.heap[b]?=some o→w2.heap[b]?=some o:=fun b o h=>(HB2.out.block b (jA h)).trans h
 clear hb2;cases hmb:mayB X with
 | false =>
  have hy2:=keep2 _ _ HY1.out;have HR2:=ab (oi (cs:=#[.int .i64 0,.int .i64 0,.slice none 0 0]) hy2);have HY2:=ab hy2;have HMB:=ab hmb;clear hmb hy2;go_wp2_with (refine lM rfl 70 (.tmp 12) (.tmp 23) rfl (w.heap.size+1) (#[.int .i64 0,.int .i64 0,.slice none 0 0]) rfl rfl 70 _ (HY2.out) (ky) rfl rfl (gd) (W:=(w2.setRow (w.heap.size+1) #[.int .i64 0,.int .i64 0,.slice none 0 0])) (rfl) ?_)
  refine DX (qW Tryz.results86 lx ky HR2.out rfl rfl rfl rfl rfl) rfl ?_;exact⟨below_setRow (bel2 HB1.out HB2.out) fR _,.inl ⟨HMB.out,rfl⟩⟩
 | true =>
  have HMB:=ab hmb;clear hmb;have hx2:=keep2 _ _ HX1.out;have HY2:=ab (keep2 _ _ HY1.out);have hc:∀(j:Nat) (v:Value),W1.cell? ⟨w.heap.size,j,none⟩=some v→w2.cell? ⟨w.heap.size,j,none⟩=some v:=fun j v h=>by rw [←h];exact World.cell?_of_block (HB2.out.block _ (jA HX1.out))
  have x0:=hc _ _ x0;have x1:=hc _ _ x1;have x2:=hc _ _ x2;have x3:=hc _ _ x3;have x4:=hc _ _ x4;have x5:=hc _ _ x5;have x6:=hc _ _ x6;have x7:=hc _ _ x7;have HBG:=ab (uX S (fold:=fold) (s:=s) (z:=z) w2 (HV1.out.later HB2.out) hsm hwf hs hg);have hz2:=HB2.out.size;unfold rxc at HBG;clear hc hx2;go_wp2_with (go_at_call 83;refine HBG.out.mono ?_)
  rintro e w3 ⟨R,rfl,hB⟩;have hy3:=(hB.bel.block _ (jA HY2.out)).trans HY2.out;have hf:=yy hB.j hB.run hB.tr (k:=0) (N:=R.C.offs.length+1) fR (by have:=hB.j.of;omega);have hpl:=vx R.S R.oa R.oc R.C.offs w3 (by rw [hB.j.of];exact hB.run.of) (by have:=hB.j.of;have:=hB.j.cs;omega) hB.up 0 (by have:=hB.j.of;omega) 0 (by rw [hB.C];exact(mK _ 0 fR).trans rfl);rw [hB.j.of] at hpl;obtain⟨q,hq⟩:∃q,od R.C X (R.C.offs.length+1) 0 (o4 X.groups z)=q:=⟨_,rfl⟩;have hqf:rW X fold s z=q:=by unfold rW;rw [←hB.C];exact hq
  rw [hq] at hf;have cell:∀(w9:World) (s9:Rst) (_:RunJ R w9 s9) (jj:Nat) (u:Value),[Value.bool R.C.fold,.slice R.ca R.C.cs.length R.cc,.slice R.oa (R.C.cs.length+1) R.oc,.slice R.pa R.n R.pc,.int .i64 (s9.fuel:Int),.bool s9.out][jj]?=some u→w9.cell? ⟨R.r,11+jj,none⟩=some u:=fun w9 s9 hj jj u hu=>by
   exact de
  have c14:w3.cell? ⟨R.r,13,none⟩=some (.slice R.oa (R.C.cs.length+1) R.oc):=cell _ _ hB.run 2 _ rfl;have HF:=ab hf;have HPL:Hid (Calls Tryz.prog 85 #[.slice R.oa (R.C.cs.length+1) R.oc,.int .i64 0] w3 fun e w'=>e=.returned (.tuple #[.int .i64 0,.bool true])∧w3=w'):=ab hpl;have HQ:=ab hqf;have HB:=ab hB;have HY3:=ab hy3;have HCL:=ab cell;clear hf hpl hq hqf hB hy3 cell x0 x1 x2 x3 x4 x5 x6 x7 HBG HM;go_wp2_with (first|(go_at_call 85;refine HPL.out.mono ?_;rintro e w9 ⟨rfl,rfl⟩)|(go_at_call 84;refine HF.out.mono ?_))
  rintro e w4 ⟨hj4,hg4,hm4⟩;obtain⟨ia,ib,aa,nn,cc,ok,rfl,hend⟩:∃(ia ib:Int) (aa:Option Addr) (nn cc:Nat) (ok:Bool),e=.returned (.tuple #[.agg #[.int .i64 ia,.int .i64 ib,.slice aa nn cc],.bool ok]) ∧
    ((q.1=none∧ok=false∧ia=0∧ib=0∧aa=none∧nn=0∧cc=0)∨(∃a b ps,q.1=some (a,b,ps)∧ok=true∧ia=((R.C.offs.getD a 0:Nat):Int)∧ib=((R.C.offs.getD b 0:Nat):Int)∧nn=R.n∧SlS w4 (fun b=>w3.heap.size≤b) aa 2 R.n (jV ps)∧ps.length=R.n∧a≤b∧b≤R.C.cs.length)):=by
   cases hq1:q.1 with
   | none=>rw [hq1] at hm4;exact⟨0,0,none,0,0,false,hm4,.inl ⟨rfl,rfl,rfl,rfl,rfl,rfl,rfl⟩⟩
   | some t =>
    obtain⟨a,b,ps⟩:=t;rw [hq1] at hm4;obtain⟨aa,c,he,h1,h2,_,h4,h5⟩:=hm4;exact⟨_,_,aa,R.n,c,true,he,.inr ⟨a,b,ps,rfl,rfl,rfl,rfl,rfl,h1,h2,h4,h5⟩⟩
  obtain⟨W5,hW5⟩:∃W5,W5=w4.alloc (.cells #[.int .i64 ia,.int .i64 ib,.slice aa nn cc] 70):=⟨_,rfl⟩;have hb5:Below w4.heap.size w4 W5:=by rw [hW5];exact(Below.refl _ _).alloc (Dv _) _
  have hl5:W5.heap[w4.heap.size]?=some (.cells #[.int .i64 ia,.int .i64 ib,.slice aa nn cc] 70 (0,0)):=by rw [hW5];exact heap_alloc_new w4 _
  have hj5:=hj4.later hb5;have z3:=HB.out.bel.size;have z4:=hg4.size;have hy4:=Gx.heap hg4 HY3.out (fun h=>by have h1:=HB.out.new _ h;have h2:=HB2.out.size;have h3:=HZ1.out;omega);have hy5:=(hb5.block _ (jA hy4)).trans hy4;have b24:Below w2.heap.size w2 W5:=HB.out.bel.trans ((hg4.below (Dz (Dv _) z3) (fun k hk=>HB.out.new k hk)).trans (hb5.mono fR));have hbw:Below w.heap.size w W5:=(bel2 HB1.out HB2.out).trans (b24.mono (by have:=HZ1.out;omega));obtain⟨oo,hoo⟩:∃o,q.2.out=o:=⟨_,rfl⟩;obtain⟨ff,hff⟩:∃f,q.2.fuel=f:=⟨_,rfl⟩;have c16:W5.cell? ⟨R.r,16,none⟩=some (.bool oo):=by rw [←hoo];exact HCL.out _ _ hj5 5 _ rfl
  have c15:W5.cell? ⟨R.r,15,none⟩=some (.int .i64 (ff:Int)):=by rw [←hff];exact HCL.out _ _ hj5 4 _ rfl
  have m0:W5.cell? ⟨w4.heap.size,0,none⟩=some (.int .i64 ia):=by rw [DB hl5];rfl
  have m1:W5.cell? ⟨w4.heap.size,1,none⟩=some (.int .i64 ib):=by rw [DB hl5];rfl
  have m2:W5.cell? ⟨w4.heap.size,2,none⟩=some (.slice aa nn cc):=by rw [DB hl5];rfl
  have hend5:(q.1=none∧ok=false∧ia=0∧ib=0∧aa=none∧nn=0∧cc=0)∨(∃a b ps,q.1=some (a,b,ps)∧ok=true∧ia=((R.C.offs.getD a 0:Nat):Int)∧ib=((R.C.offs.getD b 0:Nat):Int)∧nn=R.n∧SlS W5 (fun b=>w3.heap.size≤b) aa 2 R.n (jV ps)∧ps.length=R.n∧a≤b∧b≤R.C.cs.length):=hend.imp id (fun⟨a,b,ps,h1,h2,h3,h4,h5,h6,h7⟩=>⟨a,b,ps,h1,h2,h3,h4,h5,SlS.keep h6 (Kept.all hb5),h7⟩);have HEND:=ab hend5;have HW5:=ab hW5;have HBW:=ab hbw;have HY5:=ab hy5;have HOO:=ab hoo;have HFF:=ab hff;clear hj4 hg4 hm4 hend hend5 hW5 hb5 hl5 hj5 hy4 hy5 b24 hbw hoo hff z4 c14 HF HPL;cases oo with
  | true =>
   have HR5:=ab (oi (cs:=#[.int .i64 0,.int .i64 0,.slice none 0 0]) HY5.out);go_upto_region 8 with fail
   rw [←HW5.out];go_wp2_with (refine lM rfl 70 (.tmp 12) (.tmp 52) rfl (w.heap.size+1) (#[.int .i64 0,.int .i64 0,.slice none 0 0]) rfl rfl 70 _ (HY5.out) (ky) rfl rfl (gd) (W:=(W5.setRow (w.heap.size+1) #[.int .i64 0,.int .i64 0,.slice none 0 0])) (rfl) ?_)
   refine DX (qW Tryz.results86 lx ky HR5.out rfl rfl rfl rfl rfl) rfl ?_;exact⟨below_setRow HBW.out fR _,.inr (.inl ⟨HMB.out,by rw [HQ.out];exact HOO.out,rfl⟩)⟩
  | false =>
   go_upto_region 8 with fail
   rw [←HW5.out];go_upto_region 10 with fail
   have hne:R.r≠w.heap.size+1:=fun h=>by have h1:=HB.out.new R.r (.inl rfl);have h2:=HB2.out.size;have h3:=HZ1.out;omega
   have e15:W5.drew.cell? ⟨R.r,15,none⟩=some (.int .i64 (ff:Int)):=c15;have n0:W5.drew.cell? ⟨w4.heap.size,0,none⟩=some (.int .i64 ia):=m0;have n1:W5.drew.cell? ⟨w4.heap.size,1,none⟩=some (.int .i64 ib):=m1;have n2:W5.drew.cell? ⟨w4.heap.size,2,none⟩=some (.slice aa nn cc):=m2;have HYD:Hid (W5.drew.heap[w.heap.size+1]?=some (.cells #[.int .i64 0,.int .i64 0,.slice none 0 0] 70 (0,0))):=ab HY5.out;clear c15 c16 m0 m1 m2;have hyd:=HYD.out;have b0:W5.drew.cell? ⟨w.heap.size+1,0,none⟩=some (.int .i64 0):=by rw [DB hyd];rfl
   have b1:W5.drew.cell? ⟨w.heap.size+1,1,none⟩=some (.int .i64 0):=by rw [DB hyd];rfl
   have b2:W5.drew.cell? ⟨w.heap.size+1,2,none⟩=some (.slice none 0 0):=by rw [DB hyd];rfl
   have f0:W5.drew.frozen? ⟨w.heap.size+1,0,none⟩=false:=by simp only [World.frozen?,hyd];simp
   have f1:W5.drew.frozen? ⟨w.heap.size+1,1,none⟩=false:=by simp only [World.frozen?,hyd];simp
   have f2:W5.drew.frozen? ⟨w.heap.size+1,2,none⟩=false:=by simp only [World.frozen?,hyd];simp
   have hne2:w.heap.size+1≠R.r:=Ne.symm hne;have g0:W5.cell? ⟨w.heap.size+1,0,none⟩=some (.int .i64 0):=b0;have g1:W5.cell? ⟨w.heap.size+1,1,none⟩=some (.int .i64 0):=b1;have g2:W5.cell? ⟨w.heap.size+1,2,none⟩=some (.slice none 0 0):=b2;have k0:W5.frozen? ⟨w.heap.size+1,0,none⟩=false:=f0;have k1:W5.frozen? ⟨w.heap.size+1,1,none⟩=false:=f1;have k2:W5.frozen? ⟨w.heap.size+1,2,none⟩=false:=f2;have k15:W5.cell? ⟨R.r,15,none⟩=some (.int .i64 (ff:Int)):=e15;clear hyd;obtain⟨W6,hW6⟩:∃W6,(((W5.setCell ⟨w.heap.size+1,0,none⟩ (.int .i64 ia)).setCell ⟨w.heap.size+1,1,none⟩ (.int .i64 ib)).setCell ⟨w.heap.size+1,2,none⟩ (.slice aa nn cc)).drew=W6:=⟨_,rfl⟩;have y1:(W5.setCell ⟨w.heap.size+1,0,none⟩ (.int .i64 ia)).heap[w.heap.size+1]?=some (.cells #[.int .i64 ia,.int .i64 0,.slice none 0 0] 70 (0,0)):=by rw [heap_setCell_same _ _ _ _ _ _ HY5.out];rfl
   have y2:((W5.setCell ⟨w.heap.size+1,0,none⟩ (.int .i64 ia)).setCell ⟨w.heap.size+1,1,none⟩ (.int .i64 ib)).heap[w.heap.size+1]?=some (.cells #[.int .i64 ia,.int .i64 ib,.slice none 0 0] 70 (0,0)):=by rw [heap_setCell_same _ _ _ _ _ _ y1];rfl
   have y3:W6.heap[w.heap.size+1]?=some (.cells #[.int .i64 ia,.int .i64 ib,.slice aa nn cc] 70 (0,0)):=by
    rw [←hW6];show (((W5.setCell ⟨w.heap.size+1,0,none⟩ (.int .i64 ia)).setCell ⟨w.heap.size+1,1,none⟩ (.int .i64 ib)).setCell ⟨w.heap.size+1,2,none⟩ (.slice aa nn cc)).heap[w.heap.size+1]?=_
    rw [heap_setCell_same _ _ _ _ _ _ y2];rfl
   have x6:Gx (fun k=>k=w.heap.size+1) W5 W6:=by
    rw [←hW6];exact(((Gx.set (X:=fun k=>k=w.heap.size+1) W5 (a:=⟨w.heap.size+1,0,none⟩) _ rfl).to (Gx.set (X:=fun k=>k=w.heap.size+1) _ _ rfl) (fun _ _ h=>h)).to (Gx.set (X:=fun k=>k=w.heap.size+1) _ _ rfl) (fun _ _ h=>h)).to (Gx.of_below (X:=fun _=>False) (Below.refl _ _).drew) (fun _ _ h=>h.elim)
   have b6:Below w.heap.size w W6:=HBW.out.trans (x6.below (by have:=HBW.out.size;omega) (fun k hk=>by have:k=w.heap.size+1:=hk;omega));have HP:Hid (FndP X fold s z w (.returned (.tuple #[.agg #[.int .i64 ia,.int .i64 ib,.slice aa nn cc],.int .i64 (ff:Int),.bool ok,.int .i64 0])) W6):=ab (by
    refine⟨b6,?_⟩;rw [HQ.out];rcases HEND.out with⟨h1,rfl,rfl,rfl,rfl,rfl,rfl⟩|⟨a,b,ps,h1,rfl,rfl,rfl,rfl,h6,h7,h8,h9⟩
    ·exact .inr (.inr (.inl ⟨HMB.out,HOO.out,h1,by rw [HFF.out];rfl⟩))
    ·refine .inr (.inr (.inr ⟨HMB.out,HOO.out,a,b,ps,aa,cc,h1,by rw [HFF.out,HB.out.C,HB.out.n],?_,by rw [h7,HB.out.n],h8,by rw [←HB.out.C];exact h9⟩))
     rw [←HB.out.n];refine(SlS.keep h6 (x6.kept fun b hb e=>?_)).mono fun b hb _=>?_
     ·have h1:w3.heap.size≤b:=hb
      have h2:b=w.heap.size+1:=e;have:=HB2.out.size
      have:=HZ1.out
      omega
     ·have h1:w3.heap.size≤b:=hb
      have:=HB2.out.size
      have:=HZ1.out
      omega)
   have HY6:=ab y3;have HW6:=ab hW6;clear y1 y2 y3 x6 b6 hW6;go_region_law (fail)
   all_goals
    simp [Act.put]
    rw [HW6.out];go_wp2
    refine DX (qW Tryz.results86 lx ky HY6.out rfl rfl rfl rfl rfl) rfl ?_;exact HP.out
theorem FndP.form {x:Rx} {fold:Bool} {s:Str} {z:Int} {w:World} {e:Ending} {w':World} (h:FndP x fold s z w e w') :
  ∃(ia ib:Int) (aa:Option Addr) (nn cc:Nat) (ff:Int) (ok:Bool) (er:Int),e=.returned (.tuple #[.agg #[.int .i64 ia,.int .i64 ib,.slice aa nn cc],.int .i64 ff,.bool ok,.int .i64 er]) ∧
   ∀(w0 w9:World),Below w0.heap.size w0 w9→w0.heap.size≤w.heap.size→Gx (fun k=>k<w.heap.size) w' w9→FndP x fold s z w0 e w9:=by
 obtain⟨_,h1|h1|h1|h1⟩:=h
 ·obtain⟨h1,rfl⟩:=h1
  exact⟨0,0,none,0,0,0,false,10,rfl,fun w0 w9 hb _ _=>⟨hb,.inl ⟨h1,rfl⟩⟩⟩
 ·obtain⟨h1,h2,rfl⟩:=h1
  exact⟨0,0,none,0,0,0,false,9,rfl,fun w0 w9 hb _ _=>⟨hb,.inr (.inl ⟨h1,h2,rfl⟩)⟩⟩
 ·obtain⟨h1,h2,h3,rfl⟩:=h1
  exact⟨0,0,none,0,0,_,false,0,rfl,fun w0 w9 hb _ _=>⟨hb,.inr (.inr (.inl ⟨h1,h2,h3,rfl⟩))⟩⟩
 ·obtain⟨h1,h2,a,b,ps,aa,c,h3,rfl,h4,h5⟩:=h1
  exact⟨_,_,aa,_,c,_,true,0,rfl,fun w0 w9 hb hle hg=>⟨hb,.inr (.inr (.inr ⟨h1,h2,a,b,ps,aa,c,h3,rfl,(SlS.keep h4 (hg.kept fun b hb e=>by
   have h6:w.heap.size≤b:=hb;have h7:b<w.heap.size:=e;omega)).mono (fun b hb _=>Dz hle hb),h5⟩))⟩⟩
theorem Find_any (S:Nat→Prop) {x:Rx} {cc:List Value} {fold:Bool} {s:Str} {z:Int} (w:World) (hv:RxV w S cc x) (hm:x.parts≤1000000) (hsm:x.small) (hwf:x.wf=true) (hs:s.length≤1000000) (hg:x.groups≤1000) :
  Calls Tryz.prog 59 #[.agg cc.toArray,.bool fold,.string ⟨s.toArray⟩,.int .i64 0,.int .i64 z] w (FndP x fold s z w):=by
 have hv0:=hv;obtain⟨X,hX⟩:∃X,X=x:=⟨_,rfl⟩;obtain⟨kd,ch,ng,rs,lo,hi,lz,ks⟩:=x;obtain⟨ra,rc,ka,kc,rfl,hrs,hks⟩:=hv0.open_;rw [←hX];obtain⟨W1,hW1⟩:∃W1,W1=(w.alloc (.cells (rxc kd ch ng ra rs.length rc lo hi lz ka ks.length kc).toArray 25)).alloc (.cells #[.int .i64 0,.int .i64 0,.slice none 0 0] 70):=⟨_,rfl⟩;have hb1:Below w.heap.size w W1:=by rw [hW1];exact((Below.refl _ _).alloc (Dv _) _).alloc fX _
 have hz1:W1.heap.size=w.heap.size+2:=by rw [hW1];simp
 have hx1:W1.heap[w.heap.size]?=some (.cells (rxc kd ch ng ra rs.length rc lo hi lz ka ks.length kc).toArray 25 (0,0)):=by rw [hW1,Below.heap_alloc _ _ _ fX];exact heap_alloc_new w _
 have hy1:W1.heap[w.heap.size+1]?=some (.cells #[.int .i64 0,.int .i64 0,.slice none 0 0] 70 (0,0)):=by
  exact cU
 rw [←hX] at hv hm hsm hwf hg;have hv1:=hv.later hb1;have HT:=ab (told_any S (fold:=fold) (s:=s) (z:=z) W1 hv1 hm hsm hwf hs hg);have x0:W1.cell? ⟨w.heap.size,0,none⟩=some (.int .i64 kd):=by rw [DB hx1];rfl
 have x1:W1.cell? ⟨w.heap.size,1,none⟩=some (.string ⟨ch.toArray⟩):=by rw [DB hx1];rfl
 have x2:W1.cell? ⟨w.heap.size,2,none⟩=some (.bool ng):=by rw [DB hx1];rfl
 have x3:W1.cell? ⟨w.heap.size,3,none⟩=some (.slice ra rs.length rc):=by rw [DB hx1];rfl
 have x4:W1.cell? ⟨w.heap.size,4,none⟩=some (.int .i64 lo):=by rw [DB hx1];rfl
 have x5:W1.cell? ⟨w.heap.size,5,none⟩=some (.int .i64 hi):=by rw [DB hx1];rfl
 have x6:W1.cell? ⟨w.heap.size,6,none⟩=some (.bool lz):=by rw [DB hx1];rfl
 have x7:W1.cell? ⟨w.heap.size,7,none⟩=some (.slice ka ks.length kc):=by rw [DB hx1];rfl
 have HB1:=ab hb1;have HZ1:=ab hz1;have HY1:=ab hy1;have HW1:=ab hW1;have HXe:=ab hX;clear hb1 hz1 hx1 hy1 hW1 hv1 hX hrs hks hv hv0;unfold rxc at HT HW1 ⊢;go_enter Tryz.func59,Tryz.ntmps59
 go_upto_region 1 with fail
 rw [←HW1.out];go_wp2_with (go_at_call 86;refine HT.out.mono ?_)
 intro e w2 h2;obtain⟨ia,ib,aa,nn,cc,ff,ok,er,rfl,hend⟩:=h2.form;have hb2:=h2.1;have hy2:=(hb2.block _ (jA HY1.out)).trans HY1.out;have hgr:=qI w2 (w.heap.size+1) #[.int .i64 ia,.int .i64 ib,.slice aa nn cc];have hz1:=HZ1.out;have hfin:=hend w _ (below_setRow (bel2 HB1.out hb2) fR #[.int .i64 ia,.int .i64 ib,.slice aa nn cc]) fR ((Gx.refl (fun k=>k<W1.heap.size) w2).to hgr (fun k _ (hk:k=w.heap.size+1)=>by show k<W1.heap.size;omega));have HR2:=ab (oi (cs:=#[.int .i64 ia,.int .i64 ib,.slice aa nn cc]) hy2);have HY2:=ab hy2;have HFIN:=ab hfin;clear h2 hend hb2 hy2 hgr hfin x0 x1 x2 x3 x4 x5 x6 x7 HT;go_wp2_with (refine lM rfl 70 (.tmp 10) (.tmp 20) rfl (w.heap.size+1) (#[.int .i64 ia,.int .i64 ib,.slice aa nn cc]) rfl rfl 70 _ (HY2.out) (ky) rfl rfl (gd) (W:=(w2.setRow (w.heap.size+1) #[.int .i64 ia,.int .i64 ib,.slice aa nn cc])) (rfl) ?_)
 refine DX (qW Tryz.results59 lx ky HR2.out rfl rfl rfl rfl rfl) rfl ?_;exact HFIN.out
theorem zX:(Tryz.prog.info? 70).map (fun i=>(i.zero,i.size,i.bytes))=some (some (.agg #[.int .i64 0,.int .i64 0,.slice none 0 0]),3,40):=by kernel_rfl
def MtV (w:World) (S:Nat→Prop) (offs:List Nat) (n:Nat) (c:List Value) (m:Mt):Prop :=
 ∃aa cp,c=[.int .i64 ((offs.getD m.1 0:Nat):Int),.int .i64 ((offs.getD m.2.1 0:Nat):Int),.slice aa n cp]∧SlS w S aa 2 n (jV m.2.2)∧m.2.2.length=n∧m.1≤m.2.1∧m.2.1+1≤offs.length
inductive MtVs (w:World) (S:Nat→Prop) (offs:List Nat) (n:Nat):List (List Value)→List Mt→Prop
 | nil:MtVs w S offs n [] []
 | cons {c:List Value} {m:Mt} {cs:List (List Value)} {ms:List Mt}:MtV w S offs n c m→MtVs w S offs n cs ms→MtVs w S offs n (c::cs) (m::ms)
theorem MtV.keep {w w':World} {S:Nat→Prop} {offs:List Nat} {n:Nat} {c:List Value} {m:Mt} (h:MtV w S offs n c m) (hk:Kept S w w'):MtV w' S offs n c m:=by
 obtain⟨aa,cp,h1,h2,h3⟩:=h;exact⟨aa,cp,h1,SlS.keep h2 hk,h3⟩
theorem MtV.mono {w:World} {S S':Nat→Prop} {offs:List Nat} {n:Nat} {c:List Value} {m:Mt} (h:MtV w S offs n c m) (hS:∀b,S b→b<w.heap.size→S' b):MtV w S' offs n c m:=by
 obtain⟨aa,cp,h1,h2,h3⟩:=h;exact⟨aa,cp,h1,SlS.mono h2 hS,h3⟩
theorem MtVs.keep {w w':World} {S:Nat→Prop} {offs:List Nat} {n:Nat} (hk:Kept S w w'):∀{cs:List (List Value)} {ms:List Mt},MtVs w S offs n cs ms→MtVs w' S offs n cs ms
 | _,_,.nil=>.nil
 | _,_,.cons h1 h2=>.cons (h1.keep hk) (h2.keep hk)
theorem MtVs.mono {w:World} {S S':Nat→Prop} {offs:List Nat} {n:Nat} (hS:∀b,S b→b<w.heap.size→S' b):∀{cs:List (List Value)} {ms:List Mt},MtVs w S offs n cs ms→MtVs w S' offs n cs ms
 | _,_,.nil=>.nil
 | _,_,.cons h1 h2=>.cons (h1.mono hS) (h2.mono hS)
theorem MtVs.snoc {w:World} {S:Nat→Prop} {offs:List Nat} {n:Nat} {c:List Value} {m:Mt}:∀{cs:List (List Value)} {ms:List Mt},MtVs w S offs n cs ms→MtV w S offs n c m→MtVs w S offs n (cs++[c]) (ms++[m])
 | _,_,.nil,h=>.cons h .nil
 | _,_,.cons h1 h2,h=>.cons h1 (h2.snoc h)
theorem MtVs.at_ {w:World} {S:Nat→Prop} {offs:List Nat} {n:Nat}:∀{cs:List (List Value)} {ms:List Mt},MtVs w S offs n cs ms→∀{k:Nat} {m:Mt},ms[k]?=some m→∃c,cs[k]?=some c∧MtV w S offs n c m
 | _,_,.nil,_,_,h=>by simp at h
 | _,_,.cons h1 _,0,_,h=>by simp at h;exact⟨_,rfl,h▸h1⟩
 | _,_,.cons _ h2,k+1,m,h=>h2.at_ (k:=k) gT
def OwnM (w:World) (D:Nat) (offs:List Nat) (n:Nat) (v:Value) (ms:List Mt):Prop :=
 ∃css,w.ownsRow D 70 3 v ms.length css.flatten∧MtVs w (fun b=>D≤b∧v.ownBlock≠some b) offs n css ms
theorem OwnM.nil (w:World) (D:Nat) (offs:List Nat) (n:Nat):OwnM w D offs n (.slice none 0 0) []:=⟨[],World.ownsRow_nil _ _ _ _,.nil⟩
theorem OwnM.gx {X:Nat→Prop} {w w':World} {D:Nat} {offs:List Nat} {n:Nat} {v:Value} {ms:List Mt} (h:OwnM w D offs n v ms) (hg:Gx X w w') (hX:∀k,D≤k→¬X k):OwnM w' D offs n v ms:=by
 obtain⟨css,h1,h2⟩:=h;exact⟨css,pT h1 hg (fun k hk=>hX k (h1.lt k hk).1),h2.keep (hg.kept fun b hb=>hX b hb.1)⟩
theorem OwnM.later {w w':World} {D:Nat} {offs:List Nat} {n:Nat} {v:Value} {ms:List Mt} (h:OwnM w D offs n v ms) (hb:Below w.heap.size w w'):OwnM w' D offs n v ms :=
 h.gx (X:=fun _=>False) (Gx.of_below hb) (fun _ _ h=>h)
theorem OwnM.form {w:World} {D:Nat} {offs:List Nat} {n:Nat} {v:Value} {ms:List Mt} (h:OwnM w D offs n v ms):∃a c,v=.slice a ms.length c∧ms.length≤c:=by
 exact dB
theorem OwnM.base {w:World} {D D':Nat} {offs:List Nat} {n:Nat} {v:Value} {ms:List Mt} (h:OwnM w D offs n v ms) (hD:D'≤D):OwnM w D' offs n v ms:=by
 obtain⟨css,h1,h2⟩:=h;refine⟨css,⟨h1.1,?_⟩,h2.mono fun b hb _=>⟨Dz hD hb.1,hb.2⟩⟩;rcases h1.2 with h3|⟨g,cap,cur,h3,h4,h5⟩
 ·exact .inl h3
 ·exact .inr ⟨g,cap,cur,h3,Dz hD h4,h5⟩
theorem OwnM.app {w w':World} {D:Nat} {offs:List Nat} {n:Nat} {v v':Value} {ms:List Mt} {m:Mt} {css:List (List Value)} {c:List Value} (h1:MtVs w (fun b=>D≤b∧v.ownBlock≠some b) offs n css ms) (h2:MtV w (fun b=>D≤b∧v.ownBlock≠some b) offs n c m)
  (ho:w'.ownsRow D 70 3 v' (ms.length+1) (css.flatten++c)) (hg:w.grownBy w' v.ownBlock) (hmv:uO w v v'):OwnM w' D offs n v' (ms++[m]):=by
 refine⟨css++[c],by rw [List.flatten_append,DE];simpa using ho,?_⟩;have hk:Kept (fun b=>(D≤b∧v.ownBlock≠some b)∧b<w.heap.size) w w':=⟨hg.size,fun b hb hlt=>hg.block b hlt (fun e=>hb.1.2 e.symm)⟩;refine(((h1.snoc h2).mono (S':=fun b=>(D≤b∧v.ownBlock≠some b)∧b<w.heap.size) fun b h1 h2=>⟨h1,h2⟩).keep hk).mono fun b hb _=>⟨hb.1.1,fun e=>?_⟩
 exact dO
end Go.Proofs.YtjggmmaojklmpaaGreatDoor
