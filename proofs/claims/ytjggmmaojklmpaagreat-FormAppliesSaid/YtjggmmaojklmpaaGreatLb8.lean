/- walk of the reference's repeat -/
import Derived.Test.YtjggmmaojklmpaaGreatLb7
set_option maxRecDepth 100000
set_option maxHeartbeats 4000000
namespace Go.Proofs.YtjggmmaojklmpaaGreat
open Go.RowKit
theorem ResV.some_ {R:Vn} {w w':World} {j:Nat} {qs:Ps} {fu:Nat} {o:Bool} {e:Ending} (h:ResV R w (some (j,qs),fu,o) e w') :
  ∃a c,e=.returned (.tuple #[.int .i64 (j:Int),.slice a qs.length c,.bool true])∧ResV R w (some (j,qs),fu,o) (.returned (.tuple #[.int .i64 (j:Int),.slice a qs.length c,.bool true])) w':=by
 have h0:=h;obtain⟨a,c,e1,_⟩:=h.2.2.2 j qs rfl;subst e1;exact⟨a,c,rfl,h0⟩
theorem ResV.none_ {R:Vn} {w w':World} {fu:Nat} {o:Bool} {e:Ending} (h:ResV R w (none,fu,o) e w') :
  e=.returned (.tuple #[.int .i64 0,.slice none 0 0,.bool false])∧RunV R w' fu o∧Fv R w w':=⟨h.2.2.1 rfl,h.1,h.2.1⟩
theorem ResV.no {R:Vn} {w w':World} {fu:Nat} {o:Bool} (hr:RunV R w' fu o) (hf:Fv R w w'):ResV R w (none,fu,o) (.returned (.tuple #[.int .i64 0,.slice none 0 0,.bool false])) w':=⟨hr,hf,fun _=>rfl,fun _ _ h=>by cases h⟩
theorem tJ {a:Option Ro} {h:Nat→Option Ro} {r:Ro} (hr:orR a h=some r):∃q,a=some q∧((q.1.isSome=true∧r=q)∨(q.1=none∧q.2.2=true∧r=q)∨(q.1=none∧q.2.2=false∧h q.2.1=some r)):=by
 cases a with
 | none=>cases hr
 | some q =>
  refine⟨q,rfl,?_⟩;unfold orR at hr;simp only at hr
  split at hr
  ·rename_i hc
   injection hr with hr
   cases hq:q.1 with
   | some v=>exact .inl ⟨rfl,hr.symm⟩
   | none=>
    have hd:q.2.2=true:=hc.elim (fun h=>by rw [hq] at h;cases h) id
    exact .inr (.inl ⟨rfl,hd,hr.symm⟩)
  ·rename_i hc
   cases hq:q.1 with
   | some v=>exact absurd (.inl (by rw [hq];rfl)) hc
   | none=>exact .inr (.inr ⟨rfl,by cases h2:q.2.2 with|true=>exact absurd (.inr h2) hc|false=>rfl,hr⟩)
structure RpC (R:Vn) (n N:Nat) (nd:Nx) (K:List Nx) (i:Nat) (ps:Ps) (w:World) (b:Nat) (rv:Value) (a:Option Addr) (c':Nat):Prop where
 on_:∀fu q,onR R.C N K i ps fu=some q→∀W,RunV R W fu false→Fv R w W→Calls Tryz.prog 108 #[.pointer (some ⟨R.r,0,none⟩),rv,.int .i64 (i:Int),.slice a n c'] W (ResV R W q)
 tm:∀fu q,oH (onR R.C N) nd K i ps fu=some q→∀W,RunV R W fu false→Fv R w W→Calls Tryz.prog 161 #[.pointer (some ⟨R.r,0,none⟩),.pointer (some ⟨b,0,none⟩),.int .i64 (i:Int),.slice a n c'] W (ResV R W q)
 rv:∀W,Fv R w W→W.cell? ⟨b,12,none⟩=some rv
def pg (R:Vn) (n:Nat) (b i:Nat) (a:Option Addr) (c':Nat) (w:World) (r:Ro):Prop :=
 Calls Tryz.prog 134 #[.pointer (some ⟨R.r,0,none⟩),.pointer (some ⟨b,0,none⟩),.int .i64 (i:Int),.slice a n c'] w (ResV R w r)
theorem rep_lo {R:Vn} {n N:Nat} {kk:Int} {c:Str} {ng:Bool} {rs:List (Str × Str)} {lo xh:Int} {ks:List Rx} {g many fr:Nat} {K:List Nx} {i:Nat} {ps:Ps} {fu:Nat} {r:Ro} {w:World} {a:Option Addr} {c':Nat} {b:Nat} {rv:Value} {ra ka:Option Addr} {rc kc kn:Nat} {lz:Bool} (HP:RpC R n N ⟨kk,.mk 7 c ng rs lo xh lz ks,g,many,fr⟩ K i ps w b rv a c') (hr:RunV R w fu false)
  (nd:NdC w b kk 7 c ng ra rs.length rc lo xh lz ka kn kc g many fr rv) (hm:oH (onR R.C N) ⟨kk,.mk 7 c ng rs lo xh lz ks,g,many,fr⟩ K i ps fu=some r)
  (hlo:decide ((many:Int)<lo)=true) (hmm:(xh==-1)=true∨(xh==-1)=false∧decide ((many:Int)<xh)=true∨(xh==-1)=false∧decide ((many:Int)<xh)=false):pg R n b i a c' w r:=by
 have hd2:Below w.heap.size w w.drew.drew:=(Below.refl _ _).drew.drew;have hr2:=hr.later hd2;have hf2:Fv R w w.drew.drew:=Gx.of_below hd2;obtain⟨p0,p1,p2,p3,p4,p5,p6,p7,p8,p9,p10,p11,p12⟩:=nd;have RVC:=ab HP.rv;have c4:=hr.c4;unfold pg;have HT:Hid (∀W,Below w.heap.size w W→Calls Tryz.prog 161 #[.pointer (some ⟨R.r,0,none⟩),.pointer (some ⟨b,0,none⟩),.int .i64 (i:Int),.slice a n c'] W (AnsE R w r)):=ab fun W hW=>(HP.tm fu r hm W (hr.later hW) (Gx.of_below hW)).mono fun e w' h=>(h.back (Gx.of_below hW)).open
 clear hr HP hm hr2 hf2;rcases hmm with h1|⟨h1,h2⟩|⟨h1,h2⟩
 ·exact bR
 ·exact bR
 ·exact bR
theorem Af {R:Vn} {n N:Nat} {kk:Int} {c:Str} {ng:Bool} {rs:List (Str × Str)} {lo xh:Int} {ks:List Rx} {g many fr:Nat} {K:List Nx} {i:Nat} {ps:Ps} {fu:Nat} {r:Ro} {w:World} {a:Option Addr} {c':Nat} {b:Nat} {rv:Value} {ra ka:Option Addr} {rc kc kn:Nat} (HP:RpC R n N ⟨kk,.mk 7 c ng rs lo xh true ks,g,many,fr⟩ K i ps w b rv a c') (hr:RunV R w fu false)
  (nd:NdC w b kk 7 c ng ra rs.length rc lo xh true ka kn kc g many fr rv) (hm:orR (onR R.C N K i ps fu) (fun fu'=>oH (onR R.C N) ⟨kk,.mk 7 c ng rs lo xh true ks,g,many,fr⟩ K i ps fu')=some r)
  (hlo:decide ((many:Int)<lo)=false) (hmm:(xh==-1)=true∨(xh==-1)=false∧decide ((many:Int)<xh)=true):pg R n b i a c' w r:=by
 have hd2:Below w.heap.size w w.drew.drew:=(Below.refl _ _).drew.drew;have hr2:=hr.later hd2;have hf2:Fv R w w.drew.drew:=Gx.of_below hd2;obtain⟨p0,p1,p2,p3,p4,p5,p6,p7,p8,p9,p10,p11,p12⟩:=nd;have RVC:=ab HP.rv;have c4:=hr.c4;unfold pg;obtain⟨q,hq,hq3⟩:=tJ hm;have HQ:Hid (∀W,Below w.heap.size w W→Calls Tryz.prog 108 #[.pointer (some ⟨R.r,0,none⟩),rv,.int .i64 (i:Int),.slice a n c'] W (ResV R w q)):=ab fun W hW=>(HP.on_ fu q hq W (hr.later hW) (Gx.of_below hW)).mono fun e w' h=>h.back (Gx.of_below hW)
 have HG:∀fu2,oH (onR R.C N) ⟨kk,.mk 7 c ng rs lo xh true ks,g,many,fr⟩ K i ps fu2=some r→∀W,RunV R W fu2 false→Fv R w W→Calls Tryz.prog 161 #[.pointer (some ⟨R.r,0,none⟩),.pointer (some ⟨b,0,none⟩),.int .i64 (i:Int),.slice a n c'] W (AnsE R w r):=fun fu2 h W h1 h2=>(HP.tm fu2 r h W h1 h2).mono fun e w' h=>(h.back h2).open
 clear hr HP hm hr2 hf2 hq;rcases hmm with h1|⟨h1,h2⟩
 ·exact aT
 ·exact aT
theorem Br {R:Vn} {n N:Nat} {kk:Int} {c:Str} {ng:Bool} {rs:List (Str × Str)} {lo xh:Int} {ks:List Rx} {g many fr:Nat} {K:List Nx} {i:Nat} {ps:Ps} {fu:Nat} {r:Ro} {w:World} {a:Option Addr} {c':Nat} {b:Nat} {rv:Value} {ra ka:Option Addr} {rc kc kn:Nat} (HP:RpC R n N ⟨kk,.mk 7 c ng rs lo xh true ks,g,many,fr⟩ K i ps w b rv a c') (hr:RunV R w fu false)
  (nd:NdC w b kk 7 c ng ra rs.length rc lo xh true ka kn kc g many fr rv) (hm:onR R.C N K i ps fu=some r)
  (hlo:decide ((many:Int)<lo)=false) (h1:(xh==-1)=false) (h2:decide ((many:Int)<xh)=false):pg R n b i a c' w r:=by
 have hd2:Below w.heap.size w w.drew.drew:=(Below.refl _ _).drew.drew;have hr2:=hr.later hd2;have hf2:Fv R w w.drew.drew:=Gx.of_below hd2;obtain⟨p0,p1,p2,p3,p4,p5,p6,p7,p8,p9,p10,p11,p12⟩:=nd;have RVC:=ab HP.rv;have c4:=hr.c4;unfold pg;have HQ:Hid (∀W,Below w.heap.size w W→Calls Tryz.prog 108 #[.pointer (some ⟨R.r,0,none⟩),rv,.int .i64 (i:Int),.slice a n c'] W (ResV R w r)):=ab fun W hW=>(HP.on_ fu r hm W (hr.later hW) (Gx.of_below hW)).mono fun e w' h=>h.back (Gx.of_below hW)
 clear hr HP hm hr2 hf2;obtain⟨q1,fu2,o2⟩:=r;cases q1 with
 | some v =>
  obtain⟨j,qs⟩:=v;go_enter Tryz.func134,Tryz.ntmps134
  go_upto_region 1 with fail
  go_region
  go_upto_region 2 with fail
  go_region
  go_wp2_with (go_at_call 108;refine(HQ.out _ hd2).mono ?_;rintro e w1 h9;obtain⟨a9,c9,rfl,h9⟩:=h9.some_)
  go_ret3
  exact h9
 | none =>
  cases o2
  ·exact cf
  ·exact cf
theorem wF {R:Vn} {n N:Nat} {kk:Int} {c:Str} {ng:Bool} {rs:List (Str × Str)} {lo xh:Int} {ks:List Rx} {g many fr:Nat} {K:List Nx} {i:Nat} {ps:Ps} {fu:Nat} {r:Ro} {w:World} {a:Option Addr} {c':Nat} {b:Nat} {rv:Value} {ra ka:Option Addr} {rc kc kn:Nat} (HP:RpC R n N ⟨kk,.mk 7 c ng rs lo xh false ks,g,many,fr⟩ K i ps w b rv a c') (hr:RunV R w fu false)
  (nd:NdC w b kk 7 c ng ra rs.length rc lo xh false ka kn kc g many fr rv) (hm:orR (oH (onR R.C N) ⟨kk,.mk 7 c ng rs lo xh false ks,g,many,fr⟩ K i ps fu) (fun fu'=>onR R.C N K i ps fu')=some r)
  (hlo:decide ((many:Int)<lo)=false) (hmm:(xh==-1)=true∨(xh==-1)=false∧decide ((many:Int)<xh)=true):pg R n b i a c' w r:=by
 have hd2:Below w.heap.size w w.drew.drew:=(Below.refl _ _).drew.drew;have hr2:=hr.later hd2;have hf2:Fv R w w.drew.drew:=Gx.of_below hd2;obtain⟨p0,p1,p2,p3,p4,p5,p6,p7,p8,p9,p10,p11,p12⟩:=nd;have RVC:=ab HP.rv;have c4:=hr.c4;unfold pg;obtain⟨q,hq,hq3⟩:=tJ hm;have HQ:Hid (∀W,Below w.heap.size w W→Calls Tryz.prog 161 #[.pointer (some ⟨R.r,0,none⟩),.pointer (some ⟨b,0,none⟩),.int .i64 (i:Int),.slice a n c'] W (ResV R w q)):=ab fun W hW=>(HP.tm fu q hq W (hr.later hW) (Gx.of_below hW)).mono fun e w' h=>h.back (Gx.of_below hW)
 have HG:∀fu2,onR R.C N K i ps fu2=some r→∀W,RunV R W fu2 false→Fv R w W→Calls Tryz.prog 108 #[.pointer (some ⟨R.r,0,none⟩),rv,.int .i64 (i:Int),.slice a n c'] W (AnsE R w r):=fun fu2 h W h1 h2=>(HP.on_ fu2 r h W h1 h2).mono fun e w' h=>(h.back h2).open
 clear hr HP hm hr2 hf2 hq;rcases hmm with h1|⟨h1,h2⟩
 ·exact aU
 ·exact aU
theorem wO {R:Vn} {n N:Nat} {kk:Int} {c:Str} {ng:Bool} {rs:List (Str × Str)} {lo xh:Int} {ks:List Rx} {g many fr:Nat} {K:List Nx} {i:Nat} {ps:Ps} {fu:Nat} {r:Ro} {w:World} {a:Option Addr} {c':Nat} {b:Nat} {rv:Value} {ra ka:Option Addr} {rc kc kn:Nat} (HP:RpC R n N ⟨kk,.mk 7 c ng rs lo xh false ks,g,many,fr⟩ K i ps w b rv a c') (hr:RunV R w fu false)
  (nd:NdC w b kk 7 c ng ra rs.length rc lo xh false ka kn kc g many fr rv) (hm:onR R.C N K i ps fu=some r)
  (hlo:decide ((many:Int)<lo)=false) (h1:(xh==-1)=false) (h2:decide ((many:Int)<xh)=false):pg R n b i a c' w r:=by
 have hd2:Below w.heap.size w w.drew.drew:=(Below.refl _ _).drew.drew;have hr2:=hr.later hd2;have hf2:Fv R w w.drew.drew:=Gx.of_below hd2;obtain⟨p0,p1,p2,p3,p4,p5,p6,p7,p8,p9,p10,p11,p12⟩:=nd;have RVC:=ab HP.rv;have c4:=hr.c4;unfold pg;have HT:Hid (∀W,Below w.heap.size w W→Calls Tryz.prog 108 #[.pointer (some ⟨R.r,0,none⟩),rv,.int .i64 (i:Int),.slice a n c'] W (AnsE R w r)):=ab fun W hW=>(HP.on_ fu r hm W (hr.later hW) (Gx.of_below hW)).mono fun e w' h=>(h.back (Gx.of_below hW)).open
 clear hr HP hm hr2 hf2;go_enter Tryz.func134,Tryz.ntmps134
 go_upto_region 1 with fail
 go_region
 go_upto_region 2 with fail
 go_region
 go_wp2_with (go_at_call 108;refine((HT).out _ hd2).mono ?_;rintro e w1 ⟨x1,x2,x3,rfl,h9⟩)
 go_ret3
 exact h9
theorem rep_any {R:Vn} {n N:Nat} (HO:OnC R n N) (HT:FnC 161 R n Bj (oH (onR R.C N))):FnC 134 R n Bj (repL (onR R.C N)):=by
 rintro⟨kk,x,g,many,fr⟩ K i ps fu r hm hi hps hK hnd hok w sv a c' hs hr hp;have hs0:=hs;obtain⟨b,cc,rv,rfl,hS,hb,hc8,hx,hrest⟩:=hs;obtain⟨xk,c,ng,rs,lo,xh,lz,ks⟩:=x;have h7:xk=7:=hok.1;subst h7;obtain⟨ra,rc,ka,kc,rfl,_,_⟩:=(hx hnd.kd).open_;have nd:=ndc hb;have HP:RpC R n N ⟨kk,.mk 7 c ng rs lo xh lz ks,g,many,fr⟩ K i ps w b rv a c' :=
  ⟨fun fu q h W h1 h2=>HO K i ps fu q h hi hps hK W rv a c' (hrest.keep h2.kept) h1 (hp.keep h2.kept),
   fun fu q h W h1 h2=>HT _ K i ps fu q h hi hps hK hnd hok W _ a c' (hs0.keep h2.kept) h1 (hp.keep h2.kept),
   fun W hW=>(ndc (hW.node hS hb)).c12⟩
 simp only [repL,Rx.lo,Rx.hi,Rx.lazy] at hm;by_cases hlo:(many:Int)<lo
 ·simp only [hlo,↓reduceIte] at hm
  refine rep_lo HP hr nd hm (CO hlo) ?_;by_cases h1:xh=-1
  ·exact .inl (by rw [Ci];exact h1)
  ·by_cases h2:(many:Int)<xh
   ·exact .inr (.inl ⟨by rw [CM];exact h1,CO h2⟩)
   ·exact .inr (.inr ⟨by rw [CM];exact h1,CP h2⟩)
 ·simp only [hlo,↓reduceIte] at hm
  have hmore:(xh=-1∨(many:Int)<xh)→(xh==-1)=true∨(xh==-1)=false∧decide ((many:Int)<xh)=true:=fun h=>by
   by_cases h1:xh=-1
   ·exact .inl (by rw [Ci];exact h1)
   ·exact .inr ⟨by rw [CM];exact h1,CO (h.resolve_left h1)⟩
  cases lz with
  | true =>
   simp only [↓reduceIte] at hm;by_cases h:xh=-1∨(many:Int)<xh
   ·simp only [h,↓reduceIte] at hm
    exact Af HP hr nd hm (CP hlo) (hmore h)
   ·simp only [h,↓reduceIte] at hm
    exact Br HP hr nd hm (CP hlo) (by rw [CM];exact fun e=>h (.inl e)) (CP fun e=>h (.inr e))
  | false =>
   simp only [C1,↓reduceIte] at hm;by_cases h:xh=-1∨(many:Int)<xh
   ·simp only [h,↓reduceIte] at hm
    exact wF HP hr nd hm (CP hlo) (hmore h)
   ·simp only [h,↓reduceIte] at hm
    exact wO HP hr nd hm (CP hlo) (by rw [CM];exact fun e=>h (.inl e)) (CP fun e=>h (.inr e))
def brnOk (_:Nat) (k:Nx):Prop:=k.x.kind≠0∧k.x.kind≠1∧k.x.kind≠7
def z8:List Value:=[.int .i64 0,.string ⟨#[]⟩,.bool false,.slice none 0 0,.int .i64 0,.int .i64 0,.bool false,.slice none 0 0]
def ph (R:Vn) (n:Nat) (b i:Nat) (a:Option Addr) (c':Nat) (w:World) (r:Ro):Prop :=
 Calls Tryz.prog 135 #[.pointer (some ⟨R.r,0,none⟩),.pointer (some ⟨b,0,none⟩),.int .i64 (i:Int),.slice a n c'] w (AnsE R w r)
theorem BE {R:Vn} {n b i:Nat} {a:Option Addr} {c':Nat} {w:World} (hr:RunV R w 0 false):ph R n b i a c' w (none,0,true):=by
 have c3:=hr.c3;have c4:=hr.c4;have f4:=hr.free 4;have HR:=ab (hr.set (j:=4) (u:=.bool true) (fu':=0) (o':=true) rfl (Cp _));have HF:=ab (Fv.setR R w 4 (.bool true));clear hr;unfold ph;go_enter Tryz.func135,Tryz.ntmps135
 go_wp2
 go_ret3
 exact⟨_,_,_,rfl,ResV.no HR.out HF.out⟩
theorem zE {R:Vn} {n:Nat} {kk:Int} {c:Str} {ng:Bool} {rn:Nat} {lo xh:Int} {lz:Bool} {g many fr:Nat} {i:Nat} {fu:Nat} {r:Ro} {w wD:World} {a:Option Addr} {c':Nat} {b:Nat} {ra:Option Addr} {rc kc:Nat} {xk:Int} {rp:Option Addr} {ka:Option Addr} {kn:Nat} {n0:Int} {b0:Bool} (hr:RunV R w fu false) (hf0:fu≠0) (hwD:wD=w.setCell ⟨R.r,3,none⟩ (.int .i64 ((fu:Int)-1)))
  (nd:NdC wD b kk xk c ng ra rn rc lo xh lz ka kn kc g many fr (.pointer rp)) (h5:(xk==5)=false) (h6:(xk==6)=false)
  (HT:Hid (Calls Tryz.prog 162 #[.pointer (some ⟨R.r,0,none⟩),.agg (rxc xk c ng ra rn rc lo xh lz ka kn kc).toArray,.int .i64 (i:Int)] wD (TkP wD n0 b0)))
  (HN:Hid (b0=false→RunV R wD (fu-1) false∧Fv R w wD∧r=(none,fu-1,false)))
  (HY:Hid (b0=true→∀W,Below wD.heap.size wD W→Calls Tryz.prog 108 #[.pointer (some ⟨R.r,0,none⟩),.pointer rp,.int .i64 ((i:Int)+n0),.slice a n c'] W (AnsE R w r)))
  (hi:(i:Int)+n0≤10000000) (hn0:0≤n0):ph R n b i a c' w r:=by
 have hfu:=hr.fu;have c3:=hr.c3;have f3:=hr.free 3;have h0:((fu:Int)==0)=false:=by rw [CM];omega
 obtain⟨p0,p1,p2,p3,p4,p5,p6,p7,p8,p9,p10,p11,p12⟩:=nd;have HWD:=ab hwD;clear hr hf0 hwD;unfold ph;unfold rxc at HT;cases b0 with
 | false =>
  obtain⟨hr1,hf1,rfl⟩:=HN.out rfl;have HR:=ab hr1;have HF:=ab hf1;clear HN HY hr1 hf1;go_enter Tryz.func135,Tryz.ntmps135
  go_upto_region 5 with fail
  rw [←HWD.out];clear HWD;go_wp2_with (go_at_call 162;refine HT.out.mono ?_;rintro e w1 ⟨rfl,hb1⟩)
  go_ret3
  exact⟨_,_,_,rfl,ResV.no (HR.out.later hb1) (HF.out.trans (Gx.of_below hb1))⟩
 | true =>
  have HC:=ab (HY.out rfl);clear HN HY;go_enter Tryz.func135,Tryz.ntmps135
  go_upto_region 5 with fail
  rw [←HWD.out];clear HWD;go_wp2_with (go_at_call 162;refine HT.out.mono ?_;rintro e w1 ⟨rfl,hb1⟩;have q12:=jP hb1 _ _ p12)
  go_wp2_with (go_at_call 108;refine(HC.out _ hb1).mono ?_;rintro e w9 ⟨x1,x2,x3,rfl,h9⟩)
  exact fZ
theorem zn {R:Vn} {n:Nat} {kk:Int} {c:Str} {ng:Bool} {rn:Nat} {lo xh:Int} {lz:Bool} {g many fr:Nat} {i:Nat} {fu:Nat} {r:Ro} {w wD:World} {a:Option Addr} {c':Nat} {b:Nat} {ra:Option Addr} {rc kc:Nat} {kb ko:Nat} {yk:Int} {yc:Str} {yn:Bool} {ya:Option Addr} {yr:List (Str × Str)} {yrc:Nat} {yl yh:Int} {yz:Bool} {yka:Option Addr} {ys:List Rx} {ykc:Nat} {rp:Option Addr} (hr:RunV R w fu false) (hf0:fu≠0) (hwD:wD=w.setCell ⟨R.r,3,none⟩ (.int .i64 ((fu:Int)-1)))
  (nd:NdC wD b kk 6 c ng ra rn rc lo xh lz (some ⟨kb,ko,none⟩) 1 kc g many fr (.pointer rp))
  (HSY:Hid (∀W,Fv R w W→W.cell? ⟨b,8,none⟩=some (.slice (some ⟨kb,ko,none⟩) 1 kc)∧W.cell? ⟨b,9,none⟩=some (.int .i64 (g:Int))∧W.cell? ⟨b,12,none⟩=some (.pointer rp)∧W.cell? ⟨kb,ko,none⟩=some (.int .i64 yk)∧W.cell? ⟨kb,ko+1,none⟩=some (.string ⟨yc.toArray⟩)∧W.cell? ⟨kb,ko+2,none⟩=some (.bool yn)∧W.cell? ⟨kb,ko+3,none⟩=some (.slice ya yr.length yrc)∧W.cell? ⟨kb,ko+4,none⟩=some (.int .i64 yl)∧W.cell? ⟨kb,ko+5,none⟩=some (.int .i64 yh)∧W.cell? ⟨kb,ko+6,none⟩=some (.bool yz)∧W.cell? ⟨kb,ko+7,none⟩=some (.slice yka ys.length ykc))) (hfD:Fv R w wD)
  (HC:Hid (∀W6,W6=(wD.alloc (.cells #[.int .i64 0,.int .i64 yk,.string ⟨yc.toArray⟩,.bool yn,.slice ya yr.length yrc,.int .i64 yl,.int .i64 yh,.bool yz,.slice yka ys.length ykc,.int .i64 ((g:Int)),.int .i64 0,.int .i64 0,(.pointer rp)] 159)).drew→Calls Tryz.prog 108 #[.pointer (some ⟨R.r,0,none⟩),.pointer (some ⟨wD.heap.size,0,none⟩),.int .i64 (i:Int),.slice a n c'] W6 (AnsE R w r))):ph R n b i a c' w r:=by
 have hfu:=hr.fu;have c3:=hr.c3;have f3:=hr.free 3;have h0:((fu:Int)==0)=false:=by rw [CM];omega
 obtain⟨p0,p1,p2,p3,p4,p5,p6,p7,p8,p9,p10,p11,p12⟩:=nd;have HWD:=ab hwD;clear hr hf0 hwD;unfold ph;have HCD:=ab (HC.out _ rfl);obtain⟨s8,s9,s12,y0,y1,y2,y3,y4,y5,y6,y7⟩:=HSY.out wD hfD;clear HC hfD p8 p9 p12;go_enter Tryz.func135,Tryz.ntmps135
 go_upto_region 5 with fail
 rw [←HWD.out];clear HWD;go_upto_region 9 with fail
 go_region_held3 (fun W=>W.cell? ⟨b,8,none⟩=some (.slice (some ⟨kb,ko,none⟩) 1 kc)∧W.cell? ⟨b,9,none⟩=some (.int .i64 (g:Int))∧W.cell? ⟨b,12,none⟩=some (.pointer rp)∧W.cell? ⟨kb,ko,none⟩=some (.int .i64 yk)∧W.cell? ⟨kb,ko+1,none⟩=some (.string ⟨yc.toArray⟩)∧W.cell? ⟨kb,ko+2,none⟩=some (.bool yn)∧W.cell? ⟨kb,ko+3,none⟩=some (.slice ya yr.length yrc)∧W.cell? ⟨kb,ko+4,none⟩=some (.int .i64 yl)∧W.cell? ⟨kb,ko+5,none⟩=some (.int .i64 yh)∧W.cell? ⟨kb,ko+6,none⟩=some (.bool yz)∧W.cell? ⟨kb,ko+7,none⟩=some (.slice yka ys.length ykc)) (first|go_keep|assumption)
  (first|(go_at_call 108;refine HCD.out.mono ?_;rintro e w9 ⟨x1,x2,x3,rfl,h9⟩;have hs9:=HSY.out w9 h9.2.1))
 go_wp2
 exact fZ
theorem wH {R:Vn} {n:Nat} {kk:Int} {c:Str} {ng:Bool} {rn:Nat} {lo xh:Int} {lz:Bool} {g many fr:Nat} {i:Nat} {fu:Nat} {r:Ro} {w wD:World} {a:Option Addr} {c':Nat} {b:Nat} {ra:Option Addr} {rc kc:Nat} {kb ko:Nat} {yk:Int} {yc:Str} {yn:Bool} {ya:Option Addr} {yr:List (Str × Str)} {yrc:Nat} {yl yh:Int} {yz:Bool} {yka:Option Addr} {ys:List Rx} {ykc:Nat} {rp:Option Addr} (hr:RunV R w fu false) (hf0:fu≠0) (hwD:wD=w.setCell ⟨R.r,3,none⟩ (.int .i64 ((fu:Int)-1)))
  (nd:NdC wD b kk 5 c ng ra rn rc lo xh lz (some ⟨kb,ko,none⟩) 1 kc g many fr (.pointer rp)) (hgb:g≤1000000)
  (HSY:Hid (∀W,Fv R w W→W.cell? ⟨b,8,none⟩=some (.slice (some ⟨kb,ko,none⟩) 1 kc)∧W.cell? ⟨b,9,none⟩=some (.int .i64 (g:Int))∧W.cell? ⟨b,12,none⟩=some (.pointer rp)∧W.cell? ⟨kb,ko,none⟩=some (.int .i64 yk)∧W.cell? ⟨kb,ko+1,none⟩=some (.string ⟨yc.toArray⟩)∧W.cell? ⟨kb,ko+2,none⟩=some (.bool yn)∧W.cell? ⟨kb,ko+3,none⟩=some (.slice ya yr.length yrc)∧W.cell? ⟨kb,ko+4,none⟩=some (.int .i64 yl)∧W.cell? ⟨kb,ko+5,none⟩=some (.int .i64 yh)∧W.cell? ⟨kb,ko+6,none⟩=some (.bool yz)∧W.cell? ⟨kb,ko+7,none⟩=some (.slice yka ys.length ykc))) (hfD:Fv R w wD)
  (HC:Hid (∀W4,W4=(wD.alloc (.cells #[.int .i64 1,.int .i64 0,.string ⟨#[]⟩,.bool false,.slice none 0 0,.int .i64 0,.int .i64 0,.bool false,.slice none 0 0,.int .i64 (g:Int),.int .i64 0,.int .i64 (i:Int),.pointer rp] 159)).drew→∀W6,W6=(W4.alloc (.cells #[.int .i64 0,.int .i64 yk,.string ⟨yc.toArray⟩,.bool yn,.slice ya yr.length yrc,.int .i64 yl,.int .i64 yh,.bool yz,.slice yka ys.length ykc,.int .i64 (((g:Int)+1)),.int .i64 0,.int .i64 0,(.pointer (some ⟨wD.heap.size,0,none⟩))] 159)).drew→Calls Tryz.prog 108 #[.pointer (some ⟨R.r,0,none⟩),.pointer (some ⟨W4.heap.size,0,none⟩),.int .i64 (i:Int),.slice a n c'] W6 (AnsE R w r))):ph R n b i a c' w r:=by
 have hfu:=hr.fu;have c3:=hr.c3;have f3:=hr.free 3;have h0:((fu:Int)==0)=false:=by rw [CM];omega
 obtain⟨p0,p1,p2,p3,p4,p5,p6,p7,p8,p9,p10,p11,p12⟩:=nd;have HWD:=ab hwD;clear hr hf0 hwD;unfold ph;obtain⟨s8,s9,s12,y0,y1,y2,y3,y4,y5,y6,y7⟩:=HSY.out wD hfD;have HFD:=ab hfD;have hwm:IntKind.i64.wrap ((g:Int)+1)=(g:Int)+1:=by rw [IntKind.wrap_i64];omega
 clear hfD p8 p9 p12;go_enter Tryz.func135,Tryz.ntmps135
 go_upto_region 5 with fail
 rw [←HWD.out];clear HWD;go_upto_region 6 with fail
 go_region_held3 (fun W=>W.cell? ⟨b,8,none⟩=some (.slice (some ⟨kb,ko,none⟩) 1 kc)∧W.cell? ⟨b,9,none⟩=some (.int .i64 (g:Int))∧W.cell? ⟨b,12,none⟩=some (.pointer rp)∧W.cell? ⟨kb,ko,none⟩=some (.int .i64 yk)∧W.cell? ⟨kb,ko+1,none⟩=some (.string ⟨yc.toArray⟩)∧W.cell? ⟨kb,ko+2,none⟩=some (.bool yn)∧W.cell? ⟨kb,ko+3,none⟩=some (.slice ya yr.length yrc)∧W.cell? ⟨kb,ko+4,none⟩=some (.int .i64 yl)∧W.cell? ⟨kb,ko+5,none⟩=some (.int .i64 yh)∧W.cell? ⟨kb,ko+6,none⟩=some (.bool yz)∧W.cell? ⟨kb,ko+7,none⟩=some (.slice yka ys.length ykc)) (go_keep) (fail)
 rename_i hqq
 clear hqq s8 s9 s12 y0 y1 y2 y3 y4 y5 y6 y7 p0 p1 p2 p3 p4 p5 p6 p7 p10 p11;obtain⟨W4,hW4⟩:∃W4,W4=(wD.alloc (.cells #[.int .i64 1,.int .i64 0,.string ⟨#[]⟩,.bool false,.slice none 0 0,.int .i64 0,.int .i64 0,.bool false,.slice none 0 0,.int .i64 (g:Int),.int .i64 0,.int .i64 (i:Int),.pointer rp] 159)).drew:=⟨_,rfl⟩;rw [←hW4];have hb4:Below wD.heap.size wD W4:=by rw [hW4];exact((Below.refl _ _).alloc (Cp _) _).drew
 obtain⟨s8,s9,s12,y0,y1,y2,y3,y4,y5,y6,y7⟩:=HSY.out W4 (HFD.out.trans (Gx.of_below hb4));have HCD:=ab (HC.out W4 hW4 _ rfl);clear hW4 hb4 HC;go_upto_region 7 with fail
 go_region_held3 (fun W=>W.cell? ⟨b,8,none⟩=some (.slice (some ⟨kb,ko,none⟩) 1 kc)∧W.cell? ⟨b,9,none⟩=some (.int .i64 (g:Int))∧W.cell? ⟨b,12,none⟩=some (.pointer rp)∧W.cell? ⟨kb,ko,none⟩=some (.int .i64 yk)∧W.cell? ⟨kb,ko+1,none⟩=some (.string ⟨yc.toArray⟩)∧W.cell? ⟨kb,ko+2,none⟩=some (.bool yn)∧W.cell? ⟨kb,ko+3,none⟩=some (.slice ya yr.length yrc)∧W.cell? ⟨kb,ko+4,none⟩=some (.int .i64 yl)∧W.cell? ⟨kb,ko+5,none⟩=some (.int .i64 yh)∧W.cell? ⟨kb,ko+6,none⟩=some (.bool yz)∧W.cell? ⟨kb,ko+7,none⟩=some (.slice yka ys.length ykc)) (first|go_keep|assumption)
  (first|(go_at_call 108;refine HCD.out.mono ?_;rintro e w9 ⟨x1,x2,x3,rfl,h9⟩;have hs9:=HSY.out w9 h9.2.1))
 go_wp2
 exact fZ
theorem As {R:Vn} (ok:VnOk R) {n N:Nat} (hn:n≤1000000) (HO:OnC R n N):FnC 135 R n brnOk (nZ R.C (onR R.C N)):=by
 rintro⟨kk,x,g,many,fr⟩ K i ps fu r hm hi hps hK hnd hok w sv a c' hs hr hp;obtain⟨b,cc,rv,rfl,hS,hb,hc8,hx,hrest⟩:=hs;obtain⟨xk,c,ng,rs,lo,xh,lz,ks⟩:=x;have hxv:=hx hnd.kd;obtain⟨ra,rc,ka,kc,rfl,hrs,hks⟩:=hxv.open_;suffices hgl:ph R n b i a c' w r by
  unfold ph at hgl;exact hgl.mono fun e w' h9=>by
   obtain⟨_,_,_,h1,h2⟩:=h9;rw [h1];exact h2
 by_cases hf0:fu=0
 ·subst hf0
  have e:r=(none,0,true):=by
   simp only [nZ,↓reduceIte] at hm;exact(Option.some.inj hm).symm
  rw [e];exact BE hr
 obtain⟨rp,rfl⟩:=hrest.ptr;obtain⟨wD,hwD⟩:∃wD,wD=w.setCell ⟨R.r,3,none⟩ (.int .i64 ((fu:Int)-1)):=⟨_,rfl⟩;have hrD:RunV R wD (fu-1) false:=by
  rw [hwD];refine hr.set ?_ gu;simp only [Vn.cells,List.set_cons_succ,List.set_cons_zero];rw [show ((fu-1:Nat):Int)=(fu:Int)-1 by omega]
 have hfD:Fv R w wD:=by rw [hwD];exact Fv.setR R w 3 _
 have nd:=ndc (hfD.node hS hb);have hrestD:=hrest.keep hfD.kept;have hxD:=hxv.keep hfD.kept;have hpD:=hp.keep hfD.kept;have hrl:=hrD.lt;by_cases h56:xk=5∨xk=6
 ·obtain⟨y,hky,hyw⟩:=wf56 hnd.wf h56
  subst hky;have hsmy:y.small:=(show Rx.small (.mk xk c ng rs lo xh lz [y]) from hnd.sm).2.1;have hpty:y.parts≤1000000:=by have:=hnd.pt;simp only [Rx.parts,Rx.partsL] at this;omega
  have hgr0:=hnd.gr;simp only [Rx.groups,Rx.groupsL,Nat.add_zero] at hgr0;obtain⟨yk,yc,yn,yr,yl,yh,yz,ys⟩:=y;obtain⟨kb,ko,ya,yrc,yka,ykc,rfl,hkS,hkB,_,_,hyv,c0,c1,c2,c3,c4,c5,c6,c7⟩:=hks.cells (m:=0) rfl;simp only [Nat.zero_mul,Nat.add_zero] at c0 c1 c2 c3 c4 c5 c6 c7;have HSY:Hid (∀W,Fv R w W→W.cell? ⟨b,8,none⟩=some (.slice (some ⟨kb,ko,none⟩) 1 kc)∧W.cell? ⟨b,9,none⟩=some (.int .i64 (g:Int))∧W.cell? ⟨b,12,none⟩=some (.pointer rp)∧W.cell? ⟨kb,ko,none⟩=some (.int .i64 yk)∧W.cell? ⟨kb,ko+1,none⟩=some (.string ⟨yc.toArray⟩)∧W.cell? ⟨kb,ko+2,none⟩=some (.bool yn)∧W.cell? ⟨kb,ko+3,none⟩=some (.slice ya yr.length yrc)∧W.cell? ⟨kb,ko+4,none⟩=some (.int .i64 yl)∧W.cell? ⟨kb,ko+5,none⟩=some (.int .i64 yh)∧W.cell? ⟨kb,ko+6,none⟩=some (.bool yz)∧W.cell? ⟨kb,ko+7,none⟩=some (.slice yka ys.length ykc)):=ab fun W hW=>⟨(ndc (hW.node hS hb)).c8,(ndc (hW.node hS hb)).c9,(ndc (hW.node hS hb)).c12,hW.kept.cell hkS c0,hW.kept.cell hkS c1,hW.kept.cell hkS c2,hW.kept.cell hkS c3,hW.kept.cell hkS c4,hW.kept.cell hkS c5,hW.kept.cell hkS c6,hW.kept.cell hkS c7⟩
  have hyD:=hyv.keep hfD.kept;rcases h56 with rfl|rfl
  ·rw [Cl rfl] at hgr0
   have hm':onR R.C N (nx0 (.mk yk yc yn yr yl yh yz ys) (g+1)::⟨1,.mk 0 [] false [] 0 0 false [],g,0,i⟩::K) i ps (fu-1)=some r:=by
    rw [←hm];simp only [nZ,hf0,Rx.kind,↓reduceIte];rfl
   refine wH hr hf0 hwD nd gu HSY hfD (ab fun W4 hW4 W6 hW6=>?_);have hb4:Below wD.heap.size wD W4:=by rw [hW4];exact((Below.refl _ _).alloc (Cp _) _).drew
   have hb6':Below W4.heap.size W4 W6:=by rw [hW6];exact((Below.refl _ _).alloc (Cp _) _).drew
   have hb6:=bel2 hb4 hb6';have hz4:=hb4.size;have hs4:StkV W4 R.S _ _:=(StkV.push ⟨1,.mk 0 [] false [] 0 0 false [],g,0,i⟩ z8 hrestD (W:=wD.alloc (.cells #[.int .i64 1,.int .i64 0,.string ⟨#[]⟩,.bool false,.slice none 0 0,.int .i64 0,.int .i64 0,.bool false,.slice none 0 0,.int .i64 (g:Int),.int .i64 0,.int .i64 (i:Int),.pointer rp] 159)) (by simp [nxc,z8]) (hrD.new (Cp _)) rfl (fun h=>absurd rfl h)).later (by rw [hW4];exact(Below.refl _ _).drew);have hs6:StkV W6 R.S _ _:=(StkV.push (nx0 (.mk yk yc yn yr yl yh yz ys) (g+1)) (rxc yk yc yn ya yr.length yrc yl yh yz yka ys.length ykc) hs4 (W:=W4.alloc (.cells #[.int .i64 0,.int .i64 yk,.string ⟨yc.toArray⟩,.bool yn,.slice ya yr.length yrc,.int .i64 yl,.int .i64 yh,.bool yz,.slice yka ys.length ykc,.int .i64 (((g:Int)+1)),.int .i64 0,.int .i64 0,(.pointer (some ⟨wD.heap.size,0,none⟩))] 159)) jz (hrD.new gu) rfl (fun _=>hyD.later hb4)).later jn;refine(HO _ i ps (fu-1) r hm' hi hps ?_ W6 _ a c' hs6 (hrD.later hb6) (hpD.keep (Kept.all hb6))).mono fun e w' h=>(h.back (hfD.trans (Gx.of_below hb6))).open
   intro k hk;rcases Cz.1 hk with rfl|hk
   ·exact dB
   rcases Cz.1 hk with rfl|hk
   ·exact⟨.inr (.inl rfl),Cp _,fun h=>absurd rfl h,fun _=>(by show g<n;omega),(fun h=>by cases h)⟩
   ·exact hK k hk
  ·rw [Co gD] at hgr0
   have hm':onR R.C N (nx0 (.mk yk yc yn yr yl yh yz ys) g::K) i ps (fu-1)=some r:=by
    rw [←hm];simp only [nZ,hf0,Rx.kind,↓reduceIte];rfl
   refine zn hr hf0 hwD nd HSY hfD (ab fun W6 hW6=>?_);have hb6:Below wD.heap.size wD W6:=by rw [hW6];exact((Below.refl _ _).alloc (Cp _) _).drew
   have hs6:StkV W6 R.S _ _:=(StkV.push (nx0 (.mk yk yc yn yr yl yh yz ys) g) (rxc yk yc yn ya yr.length yrc yl yh yz yka ys.length ykc) hrestD (W:=wD.alloc (.cells #[.int .i64 0,.int .i64 yk,.string ⟨yc.toArray⟩,.bool yn,.slice ya yr.length yrc,.int .i64 yl,.int .i64 yh,.bool yz,.slice yka ys.length ykc,.int .i64 ((g:Int)),.int .i64 0,.int .i64 0,(.pointer rp)] 159)) jz (hrD.new (Cp _)) rfl (fun _=>hyD)).later jn;refine(HO _ i ps (fu-1) r hm' hi hps ?_ W6 _ a c' hs6 (hrD.later hb6) (hpD.keep (Kept.all hb6))).mono fun e w' h=>(h.back (hfD.trans (Gx.of_below hb6))).open
   intro k hk;rcases Cz.1 hk with rfl|hk
   ·exact dB
   ·exact hK k hk
 ·have h5:xk≠5:=fun e=>h56 (.inl e)
  have h6:xk≠6:=fun e=>h56 (.inr e)
  have hlf:xj xk:=wf_leafV hnd.wf hok.1 hok.2.1 h5 h6 hok.2.2;rw [xb hf0 hlf] at hm;have hs1:=(show Rx.small (.mk xk c ng rs lo xh lz ks) from hnd.sm).1;have hT:=zP ok hrD c ng ra rs rc lo xh lz ka ks.length kc i hlf hi hs1.1 (hrs.keep hfD.kept).sl (by have:=hs1.2.1;omega);obtain⟨n0,hn0⟩:∃n0,(tkV R.C xk c ng rs i).1=n0:=⟨_,rfl⟩;obtain⟨b0,hb0⟩:∃b0,(tkV R.C xk c ng rs i).2=b0:=⟨_,rfl⟩;have hle:=@tkV_le R.C xk c ng rs i;rw [hn0,hb0] at hT hm hle;have hn1:0≤n0∧n0≤1:=by
   rw [←hn0];unfold tkV;split
   ·split<;>simp
   ·simp
  have hcs:=ok.cs;refine zE hr hf0 hwD nd (by rw [CM];exact h5) (by rw [CM];exact h6) (ab hT) (ab fun h=>⟨hrD,hfD,?_⟩) (ab fun h W hW=>?_) gu hn1.1
  ·rw [h,Co gD] at hm;exact(Option.some.inj hm).symm
  ·rw [h,Cl rfl] at hm
   obtain⟨e1,e2⟩:=hle h hi;have hii:(i:Int)+n0=((i+n0.toNat:Nat):Int):=gu;rw [hii];exact(HO K _ ps (fu-1) r hm e2 hps (hK.mono gu) W _ a c' (hrestD.later hW) (hrD.later hW) (hpD.keep (Kept.all hW))).mono fun e w' h=>(h.back (hfD.trans (Gx.of_below hW))).open
section
variable {P:Program} {md:Region.Mode} {ops:Array Oper} {C:World→Prop}
def rQ (P:Program) (md:Region.Mode) (ops:Array Oper) (C:World→Prop) (n:Nat) (L:Array Bool→Act→Prop):Nat→Array Bool→Act→Prop
 | 0,l,a=>L l a
 | m+1,l,a=>Region.ready md ops l≠[]∧∀i∈Region.ready md ops l,i<n∧qOp P ops C i (rQ P md ops C n L m (l.setIfInBounds i true)) a
theorem rT {n g:Nat} {L:Array Bool→Act→Prop} {Q:Exit→Act→World→Prop} (hL:∀l a w,C w→L l a→wpAny P md ops Q g l a w) :
  ∀(m:Nat) (l:Array Bool) (a:Act) (w:World),C w→rQ P md ops C n L m l a→wpAny P md ops Q (m+g) l a w
 | 0,l,a,w,hw,h=>by rw [Nat.zero_add];exact hL l a w hw h
 | m+1,l,a,w,hw,h=>by
  rw [show m+1+g=(m+g)+1 by omega];exact⟨fun e=>absurd e h.1,fun i hi=>wpOp_of_qOp hw (fun a' w' hw' hk=>rT hL m _ a' w' hw' hk) (h.2 i hi).2⟩
theorem uf {n i:Nat} {o:Oper} {v:Value} {L:Array Bool→Act→Prop} (hi:ops[i]?=some o) (hsel:∀(j:Nat) (o:Oper) cs b,ops[j]?=some o→o.op≠.select cs b)
  (hs:Region.sinkB md ops n=true) (hc:Region.chainB md ops n=true) (hn:n<ops.size) (hin:i<n) (hL:∀l a,L l a→∀j∈Region.ready md ops l,n≤j) :
  ∀(m:Nat) (l:Array Bool) (a:Act),HeadInv md ops n l →
   (∀j p,ops[j]?=some p→j≠i→l.getD j true=false→(∀e∈p.after,Region.binds md e=true→e.on≠i)→o.apart ops p=true) →
   i∈Region.ready md ops l→YieldsIn P ops C o v a→rQ P md ops C n L m (l.setIfInBounds i true) (a.put o.dst v)→rQ P md ops C n L (m+1) l a:=by
 intro m;induction m with
 | zero =>
  intro l a inv _ hr hy H;have hun:=(mem_ready.1 hr).1;refine⟨fun e=>(by rw [e] at hr;cases hr),fun j hj=>?_⟩;have hjn:j<n:=Nat.lt_of_not_le fun h=>tail_waits hs hc hn inv _ i rfl hin hun j h hj
  refine⟨hjn,?_⟩;by_cases e:j=i
  ·subst e;exact hy.qOp hi H
  ·exact absurd (hL _ _ H j (ready_mono hj e)) gu
 | succ m ih =>
  intro l a inv hfree hr hy H;have hun:=(mem_ready.1 hr).1;refine⟨fun e=>(by rw [e] at hr;cases hr),fun j hj=>?_⟩;have hjn:j<n:=Nat.lt_of_not_le fun h=>tail_waits hs hc hn inv _ i rfl hin hun j h hj
  refine⟨hjn,?_⟩;by_cases e:j=i
  ·subst e;exact hy.qOp hi H
  ·have h1:=(H.2 j (ready_mono hj e)).2
   obtain⟨hju,p,hp,hall⟩:=mem_ready.1 hj;have hnot:∀x∈p.after,Region.binds md x=true→x.on≠i:=fun x hx hb hxi=>by
    have:=hall x hx hb
    rw [hxi,getD_both hun] at this;cases this
   have h2:=qOp_put hp (hfree j p hp e hju hnot) (fun cs b=>hsel i o cs b hi) (fun cs b=>hsel j p cs b hp) hy h1;refine qOp_mono (fun a' h3=>ih (l.setIfInBounds j true) a' (inv.set hj hjn) (fun k ok hk hki hkl hno=>hfree k ok hk hki ?_ hno) (ready_mono hr (Ne.symm e)) h3.1 ?_) h2
   ·by_cases hjk:j=k
    ·subst hjk;exact hju
    ·rw [getD_set_ne true hjk] at hkl;exact hkl
   ·rw [Array.setIfInBounds_comm _ _ e];exact h3.2
theorem rM {n g:Nat} {Lq:Act→Prop} (hsel:Region.noSelect ops=true) (hs:Region.sinkB md ops n=true) (hc:Region.chainB md ops n=true) (hn:n<ops.size) :
  ∀(r:List Oper) (k:Nat) (l:Array Bool) (a:Act),(∀j,j<r.length→r[j]?=ops[k+j]?)→k+r.length=n→HeadInv md ops n l→Region.lexHead md ops g r.length k l=true→wpQuiet P ops C Lq r a →
  rQ P md ops C n (fun l' a'=>Region.seqB md ops g n l'=true∧Lq a') r.length l a
 | [],k,l,a,_,hk,_,hB,h=>by
  have e:k=n:=by simpa using hk
  subst e;exact⟨by simpa [Region.lexHead] using hB,h⟩
 | o::r,k,l,a,hr,hk,inv,hB,h=>by
  have h0:ops[k]?=some o:=by simpa using (hr 0 gF).symm
  simp only [Cr,Region.lexHead,Cs] at hB;obtain⟨⟨hrd,hf⟩,hB'⟩:=hB;have hkn:k<n:=by simp only [Cr] at hk;omega
  have hrd':k∈Region.ready md ops l:=by simpa using hrd
  have hq:qOp P ops C k (wpQuiet P ops C Lq r) a:=by unfold qOp;simp only [h0];exact h
  obtain⟨v,hy,hK⟩:=yieldsIn_of_qOp h0 hq;exact uf h0 (Region.noSelect_spec hsel) hs hc hn hkn (fun _ _ hL=>seqB_ready hL.1) r.length l a inv (Region.free_spec h0 hf) hrd' hy
   (rM hsel hs hc hn r (k+1) _ _ (fun j hj=>by have:=hr (j+1) gH;simpa [CY,Nat.add_comm 1 j] using this) (by simp only [Cr] at hk;omega) (inv.set hrd' hkn) hB' hK)
end
theorem lQ {P:Program} {id:Nat} {Q:Exit→Act→World→Prop} {a:Act} {w:World} {l:List Oper} (n:Nat) (hm:P.follows .mixedOrders=true) (hB:Region.lexTailB .any l.toArray n=true)
  (h:wpQuiet P l.toArray (fun w'=>∃x:ExtOf w,w'=x.val) (fun a'=>∀x:ExtOf w,wpList P l.toArray Q (l.drop n) a' x.val) (l.take n) a):(Code.region id l.toArray true).wp P Q a w:=by
 simp only [Region.lexTailB,Cs,Cj] at hB;obtain⟨⟨⟨⟨hsel,hn⟩,hs⟩,hc⟩,hlex⟩:=hB;have hn':n<l.length:=by simpa using hn
 have htl:(l.take n).length=n:=by simp;omega
 have hdl:(l.drop n).length=l.toArray.size-n:=gF;have inv0:HeadInv .any l.toArray n (Array.replicate l.toArray.size false) :=
  ⟨by simp,fun j oj _ hl=>(by rw [getD_replicate_false] at hl;cases hl),fun t _ ht=>getD_in (by simpa using ht) (getD_replicate_false _ _)⟩
 have H:=rM (md:=.any) (g:=l.toArray.size-n) hsel hs hc hn (l.take n) 0 _ a (fun j hj=>by
  have hj':j<n:=by rw [htl] at hj;exact hj
  simp [hj']) (by simpa using htl) inv0 (by rw [htl];exact hlex) h
 refine wp_region_any hm ?_;have:=rT (Q:=Q) (g:=l.toArray.size-n) (fun l' a' w' hw hL=>by
  obtain⟨x,rfl⟩:=hw;have:=wpAny_of_seq (md:=.any) (Q':=Q) (l.drop n) n l' a' x.val (fun j=>by simp [List.getElem?_drop]) (by rw [hdl];exact hL.1) (hL.2 x)
  rwa [hdl] at this) _ _ _ w.drew ⟨⟨w.drew,(Below.refl _ _).drew⟩,rfl⟩ H
 rw [htl,show n+(l.toArray.size-n)=l.toArray.size by omega] at this;exact this
theorem nx_cells {w:World} {b:Nat} {k:Nx} {cc:List Value} {rv:Value} (h:w.heap[b]?=some (.cells (nxc k cc rv).toArray 159 (0,0))) (hc:cc.length=8) :
  w.cell? ⟨b,0,none⟩=some (.int .i64 k.kind)∧w.cell? ⟨b,9,none⟩=some (.int .i64 (k.g:Int))∧w.cell? ⟨b,11,none⟩=some (.int .i64 (k.fr:Int))∧w.cell? ⟨b,12,none⟩=some rv:=by
 match cc,hc with
 | [_,_,_,_,_,_,_,_],_=>refine⟨?_,?_,?_,?_⟩<;>(rw [Cv h];rfl)
theorem RunV.off {R:Vn} (ok:VnOk R) {w:World} {fu:Nat} {out:Bool} (h:RunV R w fu out) {i:Nat} (hi:i≤R.C.cs.length):∃b o,R.oa=some ⟨b,o,none⟩∧w.cell? ⟨b,o+i,none⟩=some (.int .i64 ((R.C.offs.getD i 0:Nat):Int)):=by
 obtain⟨b,o,e1,_,_,e4⟩:=h.of.2 gu;exact⟨b,o,e1,e4 i _ (rA (by rw [ok.of];omega))⟩
def n6 (R:Vn) (n i:Nat) (sv:Value) (a:Option Addr) (c':Nat) (w:World) (r:Ro):Prop :=
 Calls Tryz.prog 108 #[.pointer (some ⟨R.r,0,none⟩),sv,.int .i64 (i:Int),.slice a n c'] w (AnsE R w r)
theorem on_end {R:Vn} {n i g fr b ob oo va vb:Nat} {w:World} {a:Option Addr} {c':Nat} {rp:Option Addr} {ps:Ps} {r:Ro} (hn:n≤1000000) (hi:i≤R.C.cs.length) (hfr:fr≤i) (hg:g<n) (hps:ps.length=n)
  (z0:w.cell? ⟨b,0,none⟩=some (.int .i64 1)) (z9:w.cell? ⟨b,9,none⟩=some (.int .i64 (g:Int))) (z11:w.cell? ⟨b,11,none⟩=some (.int .i64 (fr:Int))) (z12:w.cell? ⟨b,12,none⟩=some (.pointer rp))
  (y1:w.cell? ⟨R.r,1,none⟩=some (.slice (some ⟨ob,oo,none⟩) (R.C.cs.length+1) R.oc)) (y2:w.cell? ⟨ob,oo+fr,none⟩=some (.int .i64 (va:Int))) (y3:w.cell? ⟨ob,oo+i,none⟩=some (.int .i64 (vb:Int))) (hp:SlS w R.S a 2 n (jV ps))
  (HC:Hid (∀W a1 c1,Below w.heap.size w W→W.ownsRow w.heap.size 48 2 (.slice a1 n c1) n (jV (mG ps g ((va:Int),(vb:Int))))→Calls Tryz.prog 108 #[.pointer (some ⟨R.r,0,none⟩),.pointer rp,.int .i64 (i:Int),.slice a1 n c1] W (AnsE R w r))) :
  n6 R n i (.pointer (some ⟨b,0,none⟩)) a c' w r:=by
 have HSL:=ab (hp.sl.alloc_self (.cells #[] 48));have HLEN:=ab hps;obtain⟨ir,hir⟩:=info_parts nB;have h1:(i:Int)<(R.C.cs.length:Int)+1:=gu;have h2:(fr:Int)<(R.C.cs.length:Int)+1:=gu;unfold n6;clear hp;go_enter Tryz.func108,Tryz.ntmps108
 go_wp2_with (at_builtin;refine ke w.heap.size 48 rfl _ _ 49 rfl Tryz.underlying49 hir rfl gD rfl (World.ownsRow_made w #[] 0 (Cp _) jx rfl) rfl HSL.out (mK ps) gu gu gD gF ?_)
 intro v1 w1 ho1 hg1 hb1 _;obtain⟨pb,c1,rfl⟩:∃pb c1,v1=.slice (some ⟨pb,0,none⟩) n c1:=by
  rcases ho1.2 with⟨rfl,h0⟩|⟨g,cap,cur,rfl,_⟩
  ·omega
  ·exact⟨g,cap,by first|rfl|(rw [Nat.zero_add])⟩
 have hbw:Below w.heap.size w w1:=((Below.refl _ _).alloc (Cp _) _).trans hb1;have HBW:=ab hbw;have HOW1:Hid (w1.ownsRow w.heap.size 48 2 (.slice (some ⟨pb,0,none⟩) n c1) n (jV ps)):=ab (by simpa using ho1);have e9:∀x:ExtOf w1,x.val.cell? ⟨b,9,none⟩=some (.int .i64 (g:Int)):=ExtOf.cell (jP hbw _ _ z9);have e11:∀x:ExtOf w1,x.val.cell? ⟨b,11,none⟩=some (.int .i64 (fr:Int)):=ExtOf.cell (jP hbw _ _ z11);have e1:∀x:ExtOf w1,x.val.cell? ⟨R.r,1,none⟩=some (.slice (some ⟨ob,oo,none⟩) (R.C.cs.length+1) R.oc):=ExtOf.cell (jP hbw _ _ y1);have e2:∀x:ExtOf w1,x.val.cell? ⟨ob,oo+fr,none⟩=some (.int .i64 (va:Int)):=ExtOf.cell (jP hbw _ _ y2);have e3:∀x:ExtOf w1,x.val.cell? ⟨ob,oo+i,none⟩=some (.int .i64 (vb:Int)):=ExtOf.cell (jP hbw _ _ y3);clear ho1 hg1 hb1 HSL hbw z9 z11 y1 y2 y3;go_upto_region 5 with fail
 refine lQ 24 gE gE ?_;simp only [List.take_succ_cons,List.take_zero,List.drop_succ_cons,C0];repeat (go_big_quiet_step ((fail)))
 refine wpQuiet_nil ?_;intro xq;have ho2:=kL HOW1.out xq.ext;obtain⟨⟨v1,o1⟩,⟨v2,o2⟩,f1,f2⟩:=B7 ho2 HLEN.out hg;have hpb:w.heap.size≤pb:=(ho2.lt pb rfl).1;have hb2:=HBW.out.trans (xq.ext.mono HBW.out.size);obtain⟨W2,hW2⟩:∃W2,W2=(xq.val.setCell ⟨pb,g*2,none⟩ (.int .i64 (va:Int))).setCell ⟨pb,g*2+1,none⟩ (.int .i64 (vb:Int)):=⟨_,rfl⟩;have hb3:Below w.heap.size w W2:=by rw [hW2];exact(hb2.setCell hpb _).setCell hpb _
 have ho3:=xL ho2 HLEN.out hg ((va:Int),(vb:Int));simp only at ho3
 rw [←hW2] at ho3;have HCC:=ab (HC.out W2 _ _ hb3 ho3);have z12':=jP hb3 _ _ z12;have HW2:=ab hW2;clear ho2 ho3 hb2 hb3 hpb e9 e11 e1 e2 e3 hW2 HC HOW1 z12 z0;go_upto_region 6 with fail
 rw [←HW2.out];clear HW2;exact dJ
theorem on_time {R:Vn} {n:Nat} {xk:Int} {c:Str} {ng:Bool} {rn:Nat} {lo xh:Int} {lz:Bool} {g many fr:Nat} {i:Nat} {r:Ro} {w:World} {a:Option Addr} {c':Nat} {b:Nat} {rp ra ka:Option Addr} {rc kc kn:Nat} (nd:NdC w b 2 xk c ng ra rn rc lo xh lz ka kn kc g many fr (.pointer rp)) (hmm:decide (lo<(many:Int))=false∨decide (lo<(many:Int))=true∧((i:Int)==(fr:Int))=false)
  (HC:Hid (∀W,Below w.heap.size w W→Calls Tryz.prog 134 #[.pointer (some ⟨R.r,0,none⟩),.pointer (some ⟨b,0,none⟩),.int .i64 (i:Int),.slice a n c'] W (AnsE R w r))):n6 R n i (.pointer (some ⟨b,0,none⟩)) a c' w r:=by
 obtain⟨p0,p1,p2,p3,p4,p5,p6,p7,p8,p9,p10,p11,p12⟩:=nd;have hd:Below w.heap.size w w.drew:=(Below.refl _ _).drew;unfold n6;rcases hmm with h1|⟨h1,h2⟩
 ·exact cN
 ·exact cN
theorem on_leaf {R:Vn} {n:Nat} {xk:Int} {c:Str} {ng:Bool} {rn:Nat} {lo xh:Int} {lz:Bool} {g many fr:Nat} {i:Nat} {r:Ro} {w:World} {a:Option Addr} {c':Nat} {b:Nat} {rp ra ka:Option Addr} {rc kc kn:Nat} (nd:NdC w b 0 xk c ng ra rn rc lo xh lz ka kn kc g many fr (.pointer rp)) (h0:(xk==0)=false) (h1:(xk==1)=false) (h7:(xk==7)=false)
  (HC:Hid (Calls Tryz.prog 135 #[.pointer (some ⟨R.r,0,none⟩),.pointer (some ⟨b,0,none⟩),.int .i64 (i:Int),.slice a n c'] w (AnsE R w r))):n6 R n i (.pointer (some ⟨b,0,none⟩)) a c' w r:=by
 obtain⟨p0,p1,p2,p3,p4,p5,p6,p7,p8,p9,p10,p11,p12⟩:=nd;unfold n6;go_enter Tryz.func108,Tryz.ntmps108
 go_wp2_with (go_at_call 135;refine HC.out.mono ?_;rintro e w9 ⟨x1,x2,x3,rfl,h9⟩)
 exact fZ
theorem on_rep {R:Vn} {n:Nat} {xk:Int} {c:Str} {ng:Bool} {rn:Nat} {lo xh:Int} {lz:Bool} {g many fr:Nat} {i:Nat} {r:Ro} {w:World} {a:Option Addr} {c':Nat} {b:Nat} {rp ra ka:Option Addr} {rc kc kn:Nat} (hxk:xk=7) (nd:NdC w b 0 7 c ng ra rn rc lo xh lz ka kn kc g many fr (.pointer rp)) (HSY:Hid (∀W,Fv R w W→W.cell? ⟨b,1,none⟩=some (.int .i64 7)∧W.cell? ⟨b,2,none⟩=some (.string ⟨c.toArray⟩)∧W.cell? ⟨b,3,none⟩=some (.bool ng)∧W.cell? ⟨b,4,none⟩=some (.slice ra rn rc)∧W.cell? ⟨b,5,none⟩=some (.int .i64 lo)∧W.cell? ⟨b,6,none⟩=some (.int .i64 xh)∧W.cell? ⟨b,7,none⟩=some (.bool lz)∧W.cell? ⟨b,8,none⟩=some (.slice ka kn kc)∧W.cell? ⟨b,9,none⟩=some (.int .i64 (g:Int))∧W.cell? ⟨b,12,none⟩=some (.pointer rp)))
  (HC:Hid (∀W6,W6=(w.alloc (.cells #[.int .i64 0,.int .i64 xk,.string ⟨c.toArray⟩,.bool ng,.slice ra rn rc,.int .i64 lo,.int .i64 xh,.bool lz,.slice ka kn kc,.int .i64 ((g:Int)),.int .i64 0,.int .i64 0,(.pointer rp)] 159)).drew→Calls Tryz.prog 134 #[.pointer (some ⟨R.r,0,none⟩),.pointer (some ⟨w.heap.size,0,none⟩),.int .i64 (i:Int),.slice a n c'] W6 (AnsE R w r))):n6 R n i (.pointer (some ⟨b,0,none⟩)) a c' w r:=by
 subst hxk;obtain⟨p0,p1,p2,p3,p4,p5,p6,p7,p8,p9,p10,p11,p12⟩:=nd;have HCD:=ab (HC.out _ rfl);clear HC;unfold n6;go_enter Tryz.func108,Tryz.ntmps108
 go_upto_region 32 with fail
 go_region_held3 (fun W=>W.cell? ⟨b,1,none⟩=some (.int .i64 7)∧W.cell? ⟨b,2,none⟩=some (.string ⟨c.toArray⟩)∧W.cell? ⟨b,3,none⟩=some (.bool ng)∧W.cell? ⟨b,4,none⟩=some (.slice ra rn rc)∧W.cell? ⟨b,5,none⟩=some (.int .i64 lo)∧W.cell? ⟨b,6,none⟩=some (.int .i64 xh)∧W.cell? ⟨b,7,none⟩=some (.bool lz)∧W.cell? ⟨b,8,none⟩=some (.slice ka kn kc)∧W.cell? ⟨b,9,none⟩=some (.int .i64 (g:Int))∧W.cell? ⟨b,12,none⟩=some (.pointer rp)) (first|go_keep|assumption)
  (first|(go_at_call 134;refine HCD.out.mono ?_;rintro e w9 ⟨x1,x2,x3,rfl,h9⟩;have hs9:=HSY.out w9 h9.2.1))
 go_wp2
 exact fZ
def SeqRel (R:Vn) (w:World) (xs:List Rx) (g:Nat) (K:List Nx) (v gq jq:Value) (wr:World):Prop :=
 ∃(m:Nat) (z:Int) (p:Option Addr),m≤xs.length∧jq=.int .i64 z∧z=(m:Int)-1∧gq=.int .i64 ((g+Rx.groupsL (xs.take m):Nat):Int)∧Below w.heap.size w wr∧v=.pointer p∧StkV wr R.S (seqN (xs.drop m) (g+Rx.groupsL (xs.take m)) K) v
theorem om:∀(a b:List Rx),Rx.groupsL (a++b)=Rx.groupsL a+Rx.groupsL b
 | [],b=>by simp [Rx.groupsL]
 | x::a,b=>by simp only [CZ,Rx.groupsL,om a b];omega
theorem nQ {xs:List Rx} {m:Nat} {y:Rx} (h:xs[m]?=some y):Rx.groupsL (xs.take (m+1))=Rx.groupsL (xs.take m)+y.groups:=by
 rw [List.take_add_one,h,om];simp [Rx.groupsL]
theorem mO (xs:List Rx) (m:Nat):Rx.groupsL (xs.take m)≤Rx.groupsL xs:=by
 conv=>rhs;rw [←List.take_append_drop m xs,om]
 omega
theorem B6 {xs:List Rx} {m:Nat} {y:Rx} (h:xs[m]?=some y) (g:Nat) (K:List Nx):seqN (xs.drop m) g K=nx0 y g::seqN (xs.drop (m+1)) (g+y.groups) K:=by
 have h2:=List.drop_eq_getElem_cons (Cq.1 h).1;rw [h2,(Cq.1 h).2];rfl
theorem on_seq {R:Vn} {n:Nat} {c:Str} {ng:Bool} {lo xh:Int} {lz:Bool} {g many fr:Nat} {i:Nat} {r:Ro} {w:World} {a:Option Addr} {c':Nat} {b:Nat} {rp ra ka:Option Addr} {rc kc:Nat} {ks:List Rx} {K:List Nx} {rs:List (Str × Str)} (hnew:∀b,w.heap.size≤b→R.S b) (nd:NdC w b 0 0 c ng ra rs.length rc lo xh lz ka ks.length kc g many fr (.pointer rp))
  (hst0:StkV w R.S K (.pointer rp)) (hks:RxSl w R.S ka ks.length ks) (hxv:RxV w R.S (rxc 0 c ng ra rs.length rc lo xh lz ka ks.length kc) (.mk 0 c ng rs lo xh lz ks)) (hpt:(Rx.mk 0 c ng rs lo xh lz ks).parts≤1000000) (hgb:g+Rx.groupsL ks≤2000000)
  (HC:Hid (∀W v,Below w.heap.size w W→StkV W R.S (seqN ks g K) v→Calls Tryz.prog 108 #[.pointer (some ⟨R.r,0,none⟩),v,.int .i64 (i:Int),.slice a n c'] W (AnsE R w r))):n6 R n i (.pointer (some ⟨b,0,none⟩)) a c' w r:=by
 have ND:=ab nd;have HNEW:=ab hnew;clear hnew;obtain⟨p0,p1,p2,p3,p4,p5,p6,p7,p8,p9,p10,p11,p12⟩:=nd;have HKS:=ab hks;have hlen:=Rx.len_parts ks;have hks6:ks.length≤1000000:=by simp only [Rx.parts] at hpt;omega
 have HPT:Hid (∀(m:Nat) (y:Rx),ks[m]?=some y→y.parts≤1000000):=ab fun m y h=>by have:=Rx.parts_mem (CF h);simp only [Rx.parts] at hpt;omega
 have HST:=ab hst0;have e9:∀x:ExtOf w,x.val.cell? ⟨b,9,none⟩=some (.int .i64 (g:Int)):=ExtOf.cell p9;have e1:∀x:ExtOf w,x.val.cell? ⟨b,1,none⟩=some (.int .i64 0):=ExtOf.cell p1;have e2:∀x:ExtOf w,x.val.cell? ⟨b,2,none⟩=some (.string ⟨c.toArray⟩):=ExtOf.cell p2;have e3:∀x:ExtOf w,x.val.cell? ⟨b,3,none⟩=some (.bool ng):=ExtOf.cell p3;have e4:∀x:ExtOf w,x.val.cell? ⟨b,4,none⟩=some (.slice ra rs.length rc):=ExtOf.cell p4;have e5:∀x:ExtOf w,x.val.cell? ⟨b,5,none⟩=some (.int .i64 lo):=ExtOf.cell p5;have e6:∀x:ExtOf w,x.val.cell? ⟨b,6,none⟩=some (.int .i64 xh):=ExtOf.cell p6;have e7:∀x:ExtOf w,x.val.cell? ⟨b,7,none⟩=some (.bool lz):=ExtOf.cell p7;have e8:∀x:ExtOf w,x.val.cell? ⟨b,8,none⟩=some (.slice ka ks.length kc):=ExtOf.cell p8;obtain⟨G,hG⟩:∃G,Rx.groupsL ks=G:=⟨_,rfl⟩;have HG:Hid (∀x:ExtOf w,Calls Tryz.prog 107 #[.agg (rxc 0 c ng ra rs.length rc lo xh lz ka ks.length kc).toArray] x.val fun e w'=>e=.returned (.int .i64 (G:Int))∧Below x.val.heap.size x.val w'):=ab fun x =>
  (mh R.S _ _ (Cp _) hpt _ _ (hxv.later x.ext)).mono fun e w' h=>by
   simp only [Rx.groups] at h;rw [Co gD,Nat.zero_add,hG] at h;exact h
 have HGE:=ab hG;rw [hG] at hgb;unfold n6;unfold rxc at HG;clear hxv hpt hks hst0 hG hlen;go_enter Tryz.func108,Tryz.ntmps108
 go_upto_region 14 with fail
 refine jS gE gE ?_;repeat (go_big_quiet_step ((go_at_call 107;exact ku (HG.out _))))
 refine wpQuiet_nil ?_;rintro _ ⟨xq,rfl⟩;have q8:=e8 xq;have HX:=ab xq.ext;clear e1 e2 e3 e4 e5 e6 e7 e8 e9 HG p0 p1 p2 p3 p4 p5 p6 p7 p8 p9 p10 p11 p12;go_wp2
 go_loopw [12,13,14] (fun v gq jq wr=>SeqRel R w ks g K v gq jq wr) (fun _ _ jq _=>(intOf jq+1).toNat)
 case atStart=>exact⟨ks.length,(ks.length:Int)-1,rp,Cp _,rfl,rfl,by rw [List.take_length,HGE.out];go_num,HX.out,rfl,by rw [List.take_length,List.drop_length];exact HST.out.later HX.out⟩
 case round =>
  obtain⟨m,z,p,hm,rfl,hz,rfl,hb,rfl,hst⟩:=hrel;clear q8;have HB:=ab hb;have HSK:=ab hst;have nd:=ND.out.far hb;have q8:=nd.c8;clear hb hst nd;cases m with
  | zero =>
   have hz0:z=-1:=gu;clear hz;subst hz0;have HCC:=ab (HC.out wr _ HB.out HSK.out);clear HC;exact dJ
  | succ m =>
   have hz0:z=(m:Int):=gu;clear hz;subst hz0;obtain⟨y,hy⟩:∃y,ks[m]?=some y:=⟨_,Cn gu⟩;have hgt:=nQ hy;have hgle:=mO ks (m+1);have hsq:=B6 hy (g+Rx.groupsL (ks.take m)) K;have hyp:=HPT.out m y hy;rw [hgt] at hgle;obtain⟨GY,hGY⟩:∃GY,y.groups=GY:=⟨_,rfl⟩;obtain⟨GM,hGM⟩:∃GM,Rx.groupsL (ks.take m)=GM:=⟨_,rfl⟩;rw [hGY,hGM] at hgt;rw [hGM,hGY,HGE.out] at hgle;rw [hgt];have HSK2:Hid (StkV wr R.S (seqN (ks.drop (m+1)) (g+(GM+GY)) K) (.pointer p)):=ab (by have:=HSK.out;rwa [hgt] at this);have HSQ:=ab hsq;have HGM:=ab hGM;have HGY:=ab hGY;have hm2:(m:Int)<(ks.length:Int):=gu;obtain⟨yk,yc,yn,yr,yl,yh,yz,ys⟩:=y;obtain⟨kb,ko,ya,yrc,yka,ykc,rfl,hkS,hkB,_,_,hyv,c0,c1,c2,c3,c4,c5,c6,c7⟩:=(HKS.out.later HB.out).cells hy;have HYV:=ab hyv;have HGC:Hid (Calls Tryz.prog 107 #[.agg (rxc yk yc yn ya yr.length yrc yl yh yz yka ys.length ykc).toArray] wr fun e w'=>e=.returned (.int .i64 (GY:Int))∧Below wr.heap.size wr w'):=ab ((mh R.S _ _ (Cp _) hyp _ _ hyv).mono fun e w' h=>by rw [hGY] at h;exact h);unfold rxc at HGC;clear hyv hsq hGM hGY hgt hyp HSK HC hkB hy;go_wp2_with (go_at_call 107;refine HGC.out.mono ?_)
   rintro e w3 ⟨rfl,hb3⟩;have d0:=jP hb3 _ _ c0;have d1:=jP hb3 _ _ c1;have d2:=jP hb3 _ _ c2;have d3:=jP hb3 _ _ c3;have d4:=jP hb3 _ _ c4;have d5:=jP hb3 _ _ c5;have d6:=jP hb3 _ _ c6;have d7:=jP hb3 _ _ c7;have d8:=jP hb3 _ _ q8;have HB3:=ab hb3;clear c0 c1 c2 c3 c4 c5 c6 c7 q8 hb3 HGC;go_wp2
   go_roundw
   case rel =>
    have hz3:=HB3.out.size;have hzr:=HB.out.size;refine⟨m,(m:Int)-1,some ⟨w3.heap.size,0,none⟩,by omega,by go_num,rfl,?_,bel2 (bel2 HB.out HB3.out) ((Below.refl _ _).alloc (Cp _) _),rfl,?_⟩
    ·rw [HGM.out];go_num
    ·rw [HSQ.out,HGM.out,HGY.out]
     exact StkV.push (nx0 (.mk yk yc yn yr yl yh yz ys) (g+GM)) (rxc yk yc yn ya yr.length yrc yl yh yz yka ys.length ykc) (by have:=HSK2.out.later HB3.out;rwa [←CY] at this) (by simp [nxc,rxc,nx0];rw [show (g:Int)+((GM:Int)+(GY:Int))-(GY:Int)=(g:Int)+(GM:Int) by omega]) (HNEW.out _ gu) rfl (fun _=>HYV.out.later HB3.out)
   case measure=>simp [intOf]<;>omega
def AltRelV (R:Vn) (N:Nat) (w:World) (xs:List Rx) (g:Nat) (K:List Nx) (i:Nat) (ps:Ps) (r:Ro) (gq jq:Value) (wr:World):Prop :=
 ∃(m fu:Nat),m≤xs.length∧jq=.int .i64 (m:Int)∧gq=.int .i64 ((g+Rx.groupsL (xs.take m):Nat):Int)∧RunV R wr fu false∧Fv R w wr∧Hid (altL (onR R.C N) (xs.drop m) (g+Rx.groupsL (xs.take m)) K i ps fu=some r)
theorem on_alt {R:Vn} {n:Nat} {c:Str} {ng:Bool} {lo xh:Int} {lz:Bool} {g many fr:Nat} {i:Nat} {r:Ro} {w:World} {a:Option Addr} {c':Nat} {b:Nat} {rp ra ka:Option Addr} {rc kc:Nat} {ks:List Rx} {K:List Nx} {rs:List (Str × Str)} {N fu:Nat} {ps:Ps} (hrun:RunV R w fu false) (hS:R.S b) (hbx:w.heap[b]?=some (.cells (nxc ⟨0,.mk 1 c ng rs lo xh lz ks,g,many,fr⟩ (rxc 1 c ng ra rs.length rc lo xh lz ka ks.length kc) (.pointer rp)).toArray 159 (0,0)))
  (hst0:StkV w R.S K (.pointer rp)) (hks:RxSl w R.S ka ks.length ks) (hpt:(Rx.mk 1 c ng rs lo xh lz ks).parts≤1000000) (hgb:g+Rx.groupsL ks≤2000000) (hm0:altL (onR R.C N) ks g K i ps fu=some r)
  (HC:Hid (∀m y fu2 q,ks[m]?=some y→onR R.C N (nx0 y (g+Rx.groupsL (ks.take m))::K) i ps fu2=some q→∀W v,Fv R w W→RunV R W fu2 false→StkV W R.S (nx0 y (g+Rx.groupsL (ks.take m))::K) v→Calls Tryz.prog 108 #[.pointer (some ⟨R.r,0,none⟩),v,.int .i64 (i:Int),.slice a n c'] W (ResV R W q))):n6 R n i (.pointer (some ⟨b,0,none⟩)) a c' w r:=by
 have ND:Hid (∀W,Fv R w W→NdC W b 0 1 c ng ra rs.length rc lo xh lz ka ks.length kc g many fr (.pointer rp)):=ab fun W hW=>ndc (hW.node hS hbx)
 obtain⟨p0,p1,p2,p3,p4,p5,p6,p7,p8,p9,p10,p11,p12⟩:=ND.out w (Gx.refl _ _);have HKS:=ab hks;have hlen:=Rx.len_parts ks;have hks6:ks.length≤1000000:=by simp only [Rx.parts] at hpt;omega
 have HPT:Hid (∀(m:Nat) (y:Rx),ks[m]?=some y→y.parts≤1000000):=ab fun m y h=>by have:=Rx.parts_mem (CF h);simp only [Rx.parts] at hpt;omega
 have HST:=ab hst0;have HR:=ab hrun;have HM0:=ab hm0;obtain⟨G,hG⟩:∃G,Rx.groupsL ks=G:=⟨_,rfl⟩;have HGE:=ab hG;rw [hG] at hgb;unfold n6;clear hpt hks hst0 hG hlen hrun hm0 hbx;go_enter Tryz.func108,Tryz.ntmps108
 go_wp2
 go_loopw [15,16] (fun gq jq wr=>AltRelV R N w ks g K i ps r gq jq wr) (fun _ jq _=>ks.length-(intOf jq).toNat)
 case atStart=>exact⟨0,fu,Nat.zero_le _,rfl,rfl,HR.out,Gx.refl _ _,HM0⟩
 case round =>
  obtain⟨m,fu2,hm,rfl,rfl,hr2,hf2,HF⟩:=hrel;clear HR HM0 p0 p1 p2 p3 p4 p5 p6 p7 p8 p9 p10 p11 p12;have HR2:=ab hr2;have HF2:=ab hf2;have q8:=(ND.out wr hf2).c8;clear hr2 hf2;by_cases hlt:m<ks.length
  ·obtain⟨y,hy⟩:∃y,ks[m]?=some y:=⟨_,Cn hlt⟩
   have hdr:ks.drop m=y::ks.drop (m+1):=by rw [List.drop_eq_getElem_cons hlt,(Cq.1 hy).2]
   have hgt:=nQ hy;have hgle:=mO ks (m+1);have hyp:=HPT.out m y hy;rw [hgt] at hgle;have HF':=HF.out;rw [hdr] at HF';obtain⟨q,hq,hq3⟩:=tJ (show orR (onR R.C N (nx0 y (g+Rx.groupsL (ks.take m))::K) i ps fu2) (fun fu'=>altL (onR R.C N) (ks.drop (m+1)) (g+Rx.groupsL (ks.take m)+y.groups) K i ps fu')=some r from HF');have hcon:=HC.out m y fu2 q hy hq;obtain⟨GY,hGY⟩:∃GY,y.groups=GY:=⟨_,rfl⟩;obtain⟨GM,hGM⟩:∃GM,Rx.groupsL (ks.take m)=GM:=⟨_,rfl⟩;rw [hGY,hGM] at hgt;rw [hGM,hGY,HGE.out] at hgle;rw [hGM] at hcon hq3;rw [hGY] at hq3;rw [hGM];have HGT:=ab hgt;have hm2:(m:Int)<(ks.length:Int):=gu;have hrl:=HR2.out.lt;obtain⟨yk,yc,yn,yr,yl,yh,yz,ys⟩:=y;obtain⟨kb,ko,ya,yrc,yka,ykc,rfl,hkS,hkB,_,_,hyv,c0,c1,c2,c3,c4,c5,c6,c7⟩:=(HKS.out.keep HF2.out.kept).cells hy;have HYV:=ab hyv;have HAL:Hid (∀W,Fv R wr W→W.cell? ⟨b,8,none⟩=some (.slice (some ⟨kb,ko,none⟩) ks.length kc)∧W.cell? ⟨b,12,none⟩=some (.pointer rp)∧W.cell? ⟨kb,ko+m*8,none⟩=some (.int .i64 yk)∧W.cell? ⟨kb,ko+m*8+1,none⟩=some (.string ⟨yc.toArray⟩)∧W.cell? ⟨kb,ko+m*8+2,none⟩=some (.bool yn)∧W.cell? ⟨kb,ko+m*8+3,none⟩=some (.slice ya yr.length yrc)∧W.cell? ⟨kb,ko+m*8+4,none⟩=some (.int .i64 yl)∧W.cell? ⟨kb,ko+m*8+5,none⟩=some (.int .i64 yh)∧W.cell? ⟨kb,ko+m*8+6,none⟩=some (.bool yz)∧W.cell? ⟨kb,ko+m*8+7,none⟩=some (.slice yka ys.length ykc)):=ab fun W hW=>⟨(ND.out W (HF2.out.trans hW)).c8,(ND.out W (HF2.out.trans hW)).c12,hW.kept.cell hkS c0,hW.kept.cell hkS c1,hW.kept.cell hkS c2,hW.kept.cell hkS c3,hW.kept.cell hkS c4,hW.kept.cell hkS c5,hW.kept.cell hkS c6,hW.kept.cell hkS c7⟩
   have HCC:Hid (Calls Tryz.prog 108 #[.pointer (some ⟨R.r,0,none⟩),.pointer (some ⟨wr.heap.size,0,none⟩),.int .i64 (i:Int),.slice a n c'] (wr.alloc (.cells #[.int .i64 0,.int .i64 yk,.string ⟨yc.toArray⟩,.bool yn,.slice ya yr.length yrc,.int .i64 yl,.int .i64 yh,.bool yz,.slice yka ys.length ykc,.int .i64 ((g:Int)+(GM:Int)),.int .i64 0,.int .i64 0,.pointer rp] 159)).drew (ResV R wr q)):=ab (by
    have hb6:Below wr.heap.size wr (wr.alloc (.cells #[.int .i64 0,.int .i64 yk,.string ⟨yc.toArray⟩,.bool yn,.slice ya yr.length yrc,.int .i64 yl,.int .i64 yh,.bool yz,.slice yka ys.length ykc,.int .i64 ((g:Int)+(GM:Int)),.int .i64 0,.int .i64 0,.pointer rp] 159)).drew:=((Below.refl _ _).alloc (Cp _) _).drew;refine(hcon _ (.pointer (some ⟨wr.heap.size,0,none⟩)) (HF2.out.trans (Gx.of_below hb6)) (HR2.out.later hb6) ?_).mono fun e w' h=>h.back (Gx.of_below hb6)
    exact(StkV.push (nx0 (.mk yk yc yn yr yl yh yz ys) (g+GM)) (rxc yk yc yn ya yr.length yrc yl yh yz yka ys.length ykc) (HST.out.keep HF2.out.kept) (W:=wr.alloc (.cells #[.int .i64 0,.int .i64 yk,.string ⟨yc.toArray⟩,.bool yn,.slice ya yr.length yrc,.int .i64 yl,.int .i64 yh,.bool yz,.slice yka ys.length ykc,.int .i64 ((g:Int)+(GM:Int)),.int .i64 0,.int .i64 0,.pointer rp] 159)) jz (HR2.out.new (Cp _)) rfl (fun _=>HYV.out)).later (Below.refl _ _).drew)
   have HGC:Hid (∀W,Fv R wr W→Calls Tryz.prog 107 #[.agg (rxc yk yc yn ya yr.length yrc yl yh yz yka ys.length ykc).toArray] W fun e w'=>e=.returned (.int .i64 (GY:Int))∧Below W.heap.size W w'):=ab fun W hW=>((mh R.S _ _ (Cp _) hyp _ _ (HYV.out.keep hW.kept)).mono fun e w' h=>by rw [hGY] at h;exact h)
   unfold rxc at HGC;obtain⟨s8,s12,y0,y1,y2,y3,y4,y5,y6,y7⟩:=HAL.out wr (Gx.refl _ _);clear hyv hGM hGY hgt hyp hkB c0 c1 c2 c3 c4 c5 c6 c7 HC hcon HF' hdr hy q8 hq HF HYV;rcases hq3 with⟨h1q,rfl⟩|⟨h1q,h2q,rfl⟩|⟨h1q,h2q,hnext⟩
   ·obtain⟨q1,fu3,o2⟩:=r
    obtain⟨⟨j,qs⟩,rfl⟩:=Option.isSome_iff_exists.1 h1q;clear h1q;go_upto_region 26 with fail
    go_region_held3 (fun W=>W.cell? ⟨b,8,none⟩=some (.slice (some ⟨kb,ko,none⟩) ks.length kc)∧W.cell? ⟨b,12,none⟩=some (.pointer rp)∧W.cell? ⟨kb,ko+m*8,none⟩=some (.int .i64 yk)∧W.cell? ⟨kb,ko+m*8+1,none⟩=some (.string ⟨yc.toArray⟩)∧W.cell? ⟨kb,ko+m*8+2,none⟩=some (.bool yn)∧W.cell? ⟨kb,ko+m*8+3,none⟩=some (.slice ya yr.length yrc)∧W.cell? ⟨kb,ko+m*8+4,none⟩=some (.int .i64 yl)∧W.cell? ⟨kb,ko+m*8+5,none⟩=some (.int .i64 yh)∧W.cell? ⟨kb,ko+m*8+6,none⟩=some (.bool yz)∧W.cell? ⟨kb,ko+m*8+7,none⟩=some (.slice yka ys.length ykc)) (first|go_keep|assumption)
     (first|(go_at_call 108;refine HCC.out.mono ?_;rintro e w1 h9;(obtain⟨a9,c9,rfl,h9⟩:=h9.some_;have hs9:=HAL.out w1 h9.2.1)))
    go_wp2
    go_ret3
    exact⟨_,_,_,rfl,h9.back HF2.out⟩
   ·obtain⟨q1,fu3,o2⟩:=r
    simp only at h1q h2q
    subst h1q;subst h2q;go_upto_region 26 with fail
    go_region_held3 (fun W=>W.cell? ⟨b,8,none⟩=some (.slice (some ⟨kb,ko,none⟩) ks.length kc)∧W.cell? ⟨b,12,none⟩=some (.pointer rp)∧W.cell? ⟨kb,ko+m*8,none⟩=some (.int .i64 yk)∧W.cell? ⟨kb,ko+m*8+1,none⟩=some (.string ⟨yc.toArray⟩)∧W.cell? ⟨kb,ko+m*8+2,none⟩=some (.bool yn)∧W.cell? ⟨kb,ko+m*8+3,none⟩=some (.slice ya yr.length yrc)∧W.cell? ⟨kb,ko+m*8+4,none⟩=some (.int .i64 yl)∧W.cell? ⟨kb,ko+m*8+5,none⟩=some (.int .i64 yh)∧W.cell? ⟨kb,ko+m*8+6,none⟩=some (.bool yz)∧W.cell? ⟨kb,ko+m*8+7,none⟩=some (.slice yka ys.length ykc)) (first|go_keep|assumption)
     (first|(go_at_call 108;refine HCC.out.mono ?_;rintro e w1 h9;(obtain⟨rfl,hr9,hf9⟩:=h9.none_;have hs9:=HAL.out w1 hf9;have c49:=hr9.c4;have HR9:=ab hr9;have HF9:=ab hf9;clear hr9 hf9 h9)))
    go_wp2
    go_ret3
    exact⟨_,_,_,rfl,ResV.no HR9.out (HF2.out.trans HF9.out)⟩
   ·obtain⟨q1,fu3,o2⟩:=q
    simp only at h1q h2q hnext
    subst h1q;subst h2q;have HN:=ab hnext;clear hnext;go_upto_region 26 with fail
    go_region_held3 (fun W=>W.cell? ⟨b,8,none⟩=some (.slice (some ⟨kb,ko,none⟩) ks.length kc)∧W.cell? ⟨b,12,none⟩=some (.pointer rp)∧W.cell? ⟨kb,ko+m*8,none⟩=some (.int .i64 yk)∧W.cell? ⟨kb,ko+m*8+1,none⟩=some (.string ⟨yc.toArray⟩)∧W.cell? ⟨kb,ko+m*8+2,none⟩=some (.bool yn)∧W.cell? ⟨kb,ko+m*8+3,none⟩=some (.slice ya yr.length yrc)∧W.cell? ⟨kb,ko+m*8+4,none⟩=some (.int .i64 yl)∧W.cell? ⟨kb,ko+m*8+5,none⟩=some (.int .i64 yh)∧W.cell? ⟨kb,ko+m*8+6,none⟩=some (.bool yz)∧W.cell? ⟨kb,ko+m*8+7,none⟩=some (.slice yka ys.length ykc)) (first|go_keep|assumption)
     (first|(go_at_call 108;refine HCC.out.mono ?_;rintro e w1 h9;(obtain⟨rfl,hr9,hf9⟩:=h9.none_;have hs9:=HAL.out w1 hf9;have c49:=hr9.c4;have HR9:=ab hr9;have HF9:=ab hf9;clear hr9 hf9 h9)))
    rename_i hqq
    obtain⟨t8,t12,t0,t1,t2,t3,t4,t5,t6,t7⟩:=hs9;clear s8 s12 y0 y1 y2 y3 y4 y5 y6 y7;go_wp2_with (go_at_call 107;refine(HGC.out _ HF9.out).mono ?_;rintro e w3 ⟨rfl,hb3⟩)
    go_roundw
    case rel=>exact⟨m+1,fu3,by omega,by go_num,by rw [HGT.out];go_num,HR9.out.later hb3,(HF2.out.trans HF9.out).trans (Gx.of_below hb3),ab (by rw [HGT.out,←CY];exact HN.out)⟩
    case measure=>simp [intOf]<;>omega
  ·have e:m=ks.length:=gu
   subst e;have hrr:r=(none,fu2,false):=by
    have:=HF.out
    rw [List.drop_length] at this;exact(Option.some.inj this).symm
   subst hrr;go_wp2
   go_ret3
   exact⟨_,_,_,rfl,ResV.no HR2.out HF2.out⟩
end Go.Proofs.YtjggmmaojklmpaaGreat
