/- The plain laws of FormWhole and FormSize. -/
import Derived.Test.YtbnkaecmgfolpaaGreatHb0b
import Derived.Test.YtbnkaecmgfolpaaGreatHb23
import Derived.Test.YtbnkaecmgfolpaaGreatHb26
set_option maxRecDepth 100000
set_option maxHeartbeats 4000000
namespace Go.Proofs.YtbnkaecmgfolpaaGreat
theorem qm {by_:Str} (h:by_≠[]):lC [⟨0,0,0,by_,[]⟩]=true:=by simp [lC,mayL,mayF,kl,h]
theorem qK (s:Str):jy (.mk 8 [] false [] 0 0 false []) false false s 10=([(0,0,[])],⟨[],9,false,0⟩):=by
 have e1:oneM (rcM false s) (.mk 8 [] false [] 0 0 false []) 0 (kH 0 10)=(some (0,[]),⟨[],9,false,0⟩):=rfl;unfold jy;rw [zO fo];have:lD (rcM false s) (.mk 8 [] false [] 0 0 false []) ((rcM false s).offs.length+1) 0 (kH (Rx.groups (.mk 8 [] false [] 0 0 false [])) 10)=(some (0,0,[]),⟨[],9,false,0⟩):=by
  unfold lD;rw [zL ⟨by rw [mA];omega,rfl⟩];rw [show kH (Rx.groups (.mk 8 [] false [] 0 0 false [])) 10=kH 0 10 from rfl];simp only [e1]
 rw [this];rfl
theorem rB (s:Str):∀m∈(jy (.mk 8 [] false [] 0 0 false []) false false s 10).1,∀p∈kF s (rcM false s).offs m,p.length≤10:=by
 have h00:(rcM false s).offs.getD 0 0=0:=by show (jl (iP s) 0).getD 0 0=0;rw [jI _ 0 (Nat.zero_le _)];rfl
 rw [qK];intro m hm p hp;simp only [An,As,or_false] at hm;subst hm;unfold kF at hp;simp only [h00,zV,An,As,or_false] at hp;subst hp;simp [jN]
theorem q9 {by_ s:Str} (hb:by_≠[]) (hl:by_.length≤100) :
  lW (.mk 8 [] false [] 0 0 false []) [⟨0,0,0,by_,[]⟩] false false s 10=if 65536<by_.length+s.length then([],0,4) else(by_++s,9,0):=by
 have hm:mayB (.mk 8 [] false [] 0 0 false [])=true:=gE;have h00:(jl (iP s) 0).getD 0 0=0:=by rw [jI _ 0 (Nat.zero_le _)];rfl
 have e2:=qK s;unfold lW;rw [hm,qm hb,zH,zO fo,e2];simp only
 rw [zO fo];have e3:goM s (rcM false s).offs [⟨0,0,0,by_,[]⟩] [(0,0,[])] 0 []=some (0,by_):=by
  show goM s (jl (iP s) 0) [⟨0,0,0,by_,[]⟩] [(0,0,[])] 0 []=some (0,by_)
  simp only [goM,h00];have e4:putM (kF s (jl (iP s) 0) (0,0,[])) [⟨0,0,0,by_,[]⟩] ([]++jN s 0 0)=by_:=by
   simp [putM,jN,lx,qm hb,kC]
  rw [e4,zO fg]
 unfold ti;rw [zO fq,e3];simp
theorem wK (n:Nat):iP (97::List.replicate n 128)=[97::List.replicate n 128]:=by
 have h1:∀n,(List.replicate n (128:UInt8)).takeWhile iU=List.replicate n 128:=by
  intro n;induction n with
  | zero=>rfl
  | succ n ih=>rw [List.replicate_succ,List.takeWhile_cons,zL fo,ih]
 have h2:∀n,(List.replicate n (128:UInt8)).dropWhile iU=[]:=by
  intro n;induction n with
  | zero=>rfl
  | succ n ih=>rw [List.replicate_succ,List.dropWhile_cons,zL fo,ih]
 unfold iP;rw [zW,jH,h1,h2];cases (List.replicate n (128:UInt8)).length<;>rfl
theorem qz (n:Nat):jy (.mk 2 [122] false [] 0 0 false []) false false (97::List.replicate n 128) 10=([],⟨[],8,false,-1⟩):=by
 obtain⟨W,hW⟩:∃W,W=(97:UInt8)::List.replicate n 128:=⟨_,rfl⟩;have hs:iP W=[W]:=by rw [hW];exact wK n
 have hne:(W==[122])=false:=by rw [hW];rfl
 rw [←hW];have hC:rcM false W=⟨[W],false,[0,0+W.length]⟩:=by unfold rcM;rw [hs];rfl
 unfold jy;rw [zO fo,hC];have hF:sE 10=10:=fo;simp [lD,oneM,tryM,kI,kH,hF,jC,Rx.groups,Rx.groupsL,hne]
theorem xw {by_:Str} (hb:by_≠[]) (n:Nat) :
  lW (.mk 2 [122] false [] 0 0 false []) [⟨0,0,0,by_,[]⟩] false false (97::List.replicate n 128) 10=(97::List.replicate n 128,8,0):=by
 have hm:mayB (.mk 2 [122] false [] 0 0 false [])=true:=gE;unfold lW;rw [hm,qm hb,zH,zO fo,qz];rfl
open Go.RowKit
def dblS (b:Str):Nat→Str
 | 0=>b
 | n+1=>dblS b n++dblS b n
theorem mw (b:Str):∀n,(dblS b n).length=b.length*2 ^ n
 | 0=>by simp [dblS]
 | n+1=>by rw [dblS,zX,mw b n,Nat.pow_succ,←Nat.mul_assoc];omega
theorem px (c:UInt8):∀n,dblS [c] n=List.replicate (2 ^ n) c
 | 0=>rfl
 | n+1=>by rw [dblS,px c n,List.replicate_append_replicate,Nat.pow_succ];congr 1;omega
theorem lP {j k:Nat} (h:j≤k):2 ^ j≤2 ^ k∧(2 ^ j<2 ^ k↔j<k) :=
 ⟨Nat.pow_le_pow_right fo h,Nat.pow_lt_pow_iff_right fo⟩
def DbC (b:Str) (m:Nat) (w:World) (k:Nat) (t:Value) (wr:World):Prop:=∃(j:Nat) (D:Str),t=.string ⟨D.toArray⟩∧j≤m∧m-j<k∧Hid (dblS b j=D)∧w=wr
theorem TfV.leaf {w:World} {S:Nat→Prop} {g:Nat} (kd:Int) (c by_:Str) (al:Bool) (h:w.heap[g]?=some (.cells #[.int .i64 0,.int .i64 0,.int .i64 0,.string ⟨by_.toArray⟩,.string ⟨[].toArray⟩] 43 (0,0))) (hS:S g) :
  TfV w S [.int .i64 kd,.string ⟨c.toArray⟩,.bool false,.slice none 0 0,.int .i64 0,.int .i64 0,.bool false,.slice none 0 0,.slice (some ⟨g,0,none⟩) 1 1,.bool false,.bool al] ⟨.mk kd c false [] 0 0 false [],[⟨0,0,0,by_,[]⟩],false,al⟩ :=
 ⟨rxc kd c false none ([]:List Row).length 0 0 0 false none ([]:List Rx).length 0,some ⟨g,0,none⟩,1,RxV.close (SlS.none_ _ _ _ _) ⟨[],SlS.none_ _ _ _ _,.nil⟩,
  ⟨rfl,fun _=>⟨g,0,rfl,hS,iN h,fun j u hu=>by
   have e:kk [⟨0,0,0,by_,[]⟩]=[.int .i64 0,.int .i64 0,.int .i64 0,.string ⟨by_.toArray⟩,.string ⟨[].toArray⟩]:=rfl;rw [e] at hu;rw [zT h,Nat.zero_add];simpa using hu⟩⟩,rfl⟩
theorem oR (kd:Int) (c by_:Str) (al:Bool) (hc:c.length≤1000000):(⟨.mk kd c false [] 0 0 false [],[⟨0,0,0,by_,[]⟩],false,al⟩:Tf).small:=⟨⟨⟨hc,by decide,by simp,by decide⟩,trivial⟩,(by show 1+0≤1000000;decide),(by show 1≤1000000;decide)⟩
theorem pR {w:World} {S:Nat→Prop} {fc:List Value} {BY s:Str} (hv:TfV w S fc ⟨.mk 8 [] false [] 0 0 false [],[⟨0,0,0,BY,[]⟩],false,false⟩) (hb:BY≠[]) (hl:BY.length≤3) (hs:s.length≤65536) (h:65536<BY.length+s.length) :
  Calls Tryz.prog 12 #[.agg fc.toArray,.string ⟨s.toArray⟩,.int .i64 10] w fun e w'=>e=.returned (.tuple #[.string ⟨[].toArray⟩,.int .i64 0,.int .i64 4])∧Below w.heap.size w w' :=
 jQ S _ fc w hv ((q9 hb fg).trans (zL h)) (oR _ _ _ _ fo) fq (mf:=10) fo gi fg (rB s)
theorem rp {w:World} {S:Nat→Prop} {fc:List Value} {BY s:Str} (hv:TfV w S fc ⟨.mk 8 [] false [] 0 0 false [],[⟨0,0,0,BY,[]⟩],false,false⟩) (hb:BY≠[]) (hl:BY.length≤3) (hs:s.length≤65536) (h:¬65536<BY.length+s.length) :
  Calls Tryz.prog 12 #[.agg fc.toArray,.string ⟨s.toArray⟩,.int .i64 10] w fun e w'=>e=.returned (.tuple #[.string ⟨(BY++s).toArray⟩,.int .i64 9,.int .i64 0])∧Below w.heap.size w w' :=
 jQ S _ fc w hv ((q9 hb fg).trans (zO h)) (oR _ _ _ _ fo) fq (mf:=10) fo gi fg (rB s)
theorem yV {w:World} {S:Nat→Prop} {fc:List Value} {BY D:Str} {n:Nat} (hv:TfV w S fc ⟨.mk 2 [122] false [] 0 0 false [],[⟨0,0,0,BY,[]⟩],false,false⟩) (hb:BY≠[]) (hl:BY.length≤3) (hD:D=List.replicate n 128) (hn:n≤100000) :
  Calls Tryz.prog 12 #[.agg fc.toArray,.string ⟨(97::D).toArray⟩,.int .i64 10] w fun e w'=>e=.returned (.tuple #[.string ⟨(97::D).toArray⟩,.int .i64 8,.int .i64 0])∧Below w.heap.size w w':=by
 subst hD;exact jQ S _ fc w hv (xw hb n) (oR _ _ _ _ fo) fq (mf:=10) fo gi fr (by
  show ∀m∈(jy (.mk 2 [122] false [] 0 0 false []) false false (97::List.replicate n 128) 10).1,_
  rw [qz];intro m hm;cases hm)
set_option maxRecDepth 100000 in
theorem wu (many more:Int) (w0:World) (k:Nat) (hk:low many 3=(k:Int)) (hk2:k≤2) (hj:low more 3=0) :
  Calls Tryz.prog 7 #[.int .i64 many,.int .i64 more] w0 fun e w'=>e=.returned (.bool true)∧Below w0.heap.size w0 w':=by
 have HL1:=ab (fun w=>hk▸nL many 3 w fo fo);have HL2:=ab (fun w=>hj▸nL more 3 w fo fo);clear hk hj;go_enter Tryz.func7,Tryz.ntmps7
 go_wp2
 go_loopg [5] (15+1) (fun k t wr=>DbC ([97,98]:Str) 15 w0 k t wr)
 case atStart=>exact cN
 case round =>
  obtain⟨j,D,rfl,hj,hjk,HD,rfl⟩:=hrel;obtain⟨hj1,hj2⟩:=lP hj;have hDl:D.length=2*2 ^ j:=by rw [←HD.out,mw];rfl
  by_cases hj12:j<15
  ·exact bi
  ·obtain rfl:j=15:=fg
   have hDs:D.length=65536:=by rw [hDl]
   have g3:decide ((D.length:Int)<65536)=false:=Ah fg;clear hj hjk hj1 hj2 hDl hj12;have hkl:¬(D.length:Int)<65536-(k:Int):=fg;obtain⟨w0,rfl⟩:∃w1:World,w1=w0:=⟨_,rfl⟩;have hlf:((w0.alloc (.cells #[.int .i64 0,.int .i64 0,.int .i64 0,.string ⟨([120]).toArray⟩,.string ⟨[].toArray⟩] 43)).alloc (.cells #[.int .i64 8,.string ⟨[].toArray⟩,.bool false,.slice none 0 0,.int .i64 0,.int .i64 0,.bool false,.slice none 0 0,.slice (some ⟨w0.heap.size,0,none⟩) 1 1,.bool false,.bool false] 28)).heap[w0.heap.size]?=some (.cells #[.int .i64 0,.int .i64 0,.int .i64 0,.string ⟨([120]).toArray⟩,.string ⟨[].toArray⟩] 43 (0,0)):=by
    exact dk
   have hbn:Below w0.heap.size w0 ((w0.alloc (.cells #[.int .i64 0,.int .i64 0,.int .i64 0,.string ⟨([120]).toArray⟩,.string ⟨[].toArray⟩] 43)).alloc (.cells #[.int .i64 8,.string ⟨[].toArray⟩,.bool false,.slice none 0 0,.int .i64 0,.int .i64 0,.bool false,.slice none 0 0,.slice (some ⟨w0.heap.size,0,none⟩) 1 1,.bool false,.bool false] 28)):=((Below.refl _ _).alloc (zP _) _).alloc fq _;have HLF:=ab (TfV.leaf (S:=fun _=>True) 8 [] [120] false hlf trivial);have HBN:=ab hbn;clear hlf hbn;go_wp2_with (first|(go_at_call 16;(with_reducible refine(HL1.out _).mono ?_);rintro e w1 ⟨rfl,rfl⟩)|(go_at_call 16;(with_reducible refine(HL2.out _).mono ?_);rintro e w2 ⟨rfl,rfl⟩))
   generalize hSS:List.take (65536-k) D=SS
   have hSl:SS.length+k=65536:=by rw [←hSS,Ac];omega
   have hSb:(SS.length:Int)≤65536:=fg;clear hSS g3 hkl HD hDs;by_cases hbig:k≤0
   ·refine(pR HLF.out fo fo fg fO).mono ?_
    rintro e w3 ⟨rfl,hb3⟩;have HB3:=ab (bel2 HBN.out hb3);have g9:decide ((65536:Int)<(SS.length:Int)+1)=true:=Av fg;exact aH
   ·refine(rp HLF.out fo fo fg fO).mono ?_
    rintro e w3 ⟨rfl,hb3⟩;have HB3:=ab (bel2 HBN.out hb3);have g9:decide ((65536:Int)<(SS.length:Int)+1)=false:=Ah fg;exact aH
set_option maxRecDepth 100000 in
theorem vR (many more:Int) (w0:World) (k:Nat) (hk:low many 3=(k:Int)) (hk2:k≤2) (hj:low more 3=1) :
  Calls Tryz.prog 7 #[.int .i64 many,.int .i64 more] w0 fun e w'=>e=.returned (.bool true)∧Below w0.heap.size w0 w':=by
 have HL1:=ab (fun w=>hk▸nL many 3 w fo fo);have HL2:=ab (fun w=>hj▸nL more 3 w fo fo);clear hk hj;go_enter Tryz.func7,Tryz.ntmps7
 go_wp2
 go_loopg [5] (15+1) (fun k t wr=>DbC ([97,98]:Str) 15 w0 k t wr)
 case atStart=>exact cN
 case round =>
  obtain⟨j,D,rfl,hj,hjk,HD,rfl⟩:=hrel;obtain⟨hj1,hj2⟩:=lP hj;have hDl:D.length=2*2 ^ j:=by rw [←HD.out,mw];rfl
  by_cases hj12:j<15
  ·exact bi
  ·obtain rfl:j=15:=fg
   have hDs:D.length=65536:=by rw [hDl]
   have g3:decide ((D.length:Int)<65536)=false:=Ah fg;clear hj hjk hj1 hj2 hDl hj12;have hkl:¬(D.length:Int)<65536-(k:Int):=fg;obtain⟨w0,rfl⟩:∃w1:World,w1=w0:=⟨_,rfl⟩;have hlf:((w0.alloc (.cells #[.int .i64 0,.int .i64 0,.int .i64 0,.string ⟨([120,121]).toArray⟩,.string ⟨[].toArray⟩] 43)).alloc (.cells #[.int .i64 8,.string ⟨[].toArray⟩,.bool false,.slice none 0 0,.int .i64 0,.int .i64 0,.bool false,.slice none 0 0,.slice (some ⟨w0.heap.size,0,none⟩) 1 1,.bool false,.bool false] 28)).heap[w0.heap.size]?=some (.cells #[.int .i64 0,.int .i64 0,.int .i64 0,.string ⟨([120,121]).toArray⟩,.string ⟨[].toArray⟩] 43 (0,0)):=by
    exact dk
   have hbn:Below w0.heap.size w0 ((w0.alloc (.cells #[.int .i64 0,.int .i64 0,.int .i64 0,.string ⟨([120,121]).toArray⟩,.string ⟨[].toArray⟩] 43)).alloc (.cells #[.int .i64 8,.string ⟨[].toArray⟩,.bool false,.slice none 0 0,.int .i64 0,.int .i64 0,.bool false,.slice none 0 0,.slice (some ⟨w0.heap.size,0,none⟩) 1 1,.bool false,.bool false] 28)):=((Below.refl _ _).alloc (zP _) _).alloc fq _;have HLF:=ab (TfV.leaf (S:=fun _=>True) 8 [] [120,121] false hlf trivial);have HBN:=ab hbn;clear hlf hbn;go_wp2_with (first|(go_at_call 16;(with_reducible refine(HL1.out _).mono ?_);rintro e w1 ⟨rfl,rfl⟩)|(go_at_call 16;(with_reducible refine(HL2.out _).mono ?_);rintro e w2 ⟨rfl,rfl⟩))
   generalize hSS:List.take (65536-k) D=SS
   have hSl:SS.length+k=65536:=by rw [←hSS,Ac];omega
   have hSb:(SS.length:Int)≤65536:=fg;clear hSS g3 hkl HD hDs;by_cases hbig:k≤1
   ·refine(pR HLF.out fo fo fg fO).mono ?_
    rintro e w3 ⟨rfl,hb3⟩;have HB3:=ab (bel2 HBN.out hb3);have g9:decide ((65536:Int)<(SS.length:Int)+2)=true:=Av fg;exact aG
   ·refine(rp HLF.out fo fo fg fO).mono ?_
    rintro e w3 ⟨rfl,hb3⟩;have HB3:=ab (bel2 HBN.out hb3);have g9:decide ((65536:Int)<(SS.length:Int)+2)=false:=Ah fg;exact aG
set_option maxRecDepth 100000 in
theorem wt (many more:Int) (w0:World) (k:Nat) (hk:low many 3=(k:Int)) (hk2:k≤2) (hj:low more 3=2) :
  Calls Tryz.prog 7 #[.int .i64 many,.int .i64 more] w0 fun e w'=>e=.returned (.bool true)∧Below w0.heap.size w0 w':=by
 have HL1:=ab (fun w=>hk▸nL many 3 w fo fo);have HL2:=ab (fun w=>hj▸nL more 3 w fo fo);clear hk hj;go_enter Tryz.func7,Tryz.ntmps7
 go_wp2
 go_loopg [5] (15+1) (fun k t wr=>DbC ([97,98]:Str) 15 w0 k t wr)
 case atStart=>exact cN
 case round =>
  obtain⟨j,D,rfl,hj,hjk,HD,rfl⟩:=hrel;obtain⟨hj1,hj2⟩:=lP hj;have hDl:D.length=2*2 ^ j:=by rw [←HD.out,mw];rfl
  by_cases hj12:j<15
  ·exact bi
  ·obtain rfl:j=15:=fg
   have hDs:D.length=65536:=by rw [hDl]
   have g3:decide ((D.length:Int)<65536)=false:=Ah fg;clear hj hjk hj1 hj2 hDl hj12;have hkl:¬(D.length:Int)<65536-(k:Int):=fg;obtain⟨w0,rfl⟩:∃w1:World,w1=w0:=⟨_,rfl⟩;have hlf:((w0.alloc (.cells #[.int .i64 0,.int .i64 0,.int .i64 0,.string ⟨([120,121,122]).toArray⟩,.string ⟨[].toArray⟩] 43)).alloc (.cells #[.int .i64 8,.string ⟨[].toArray⟩,.bool false,.slice none 0 0,.int .i64 0,.int .i64 0,.bool false,.slice none 0 0,.slice (some ⟨w0.heap.size,0,none⟩) 1 1,.bool false,.bool false] 28)).heap[w0.heap.size]?=some (.cells #[.int .i64 0,.int .i64 0,.int .i64 0,.string ⟨([120,121,122]).toArray⟩,.string ⟨[].toArray⟩] 43 (0,0)):=by
    exact dk
   have hbn:Below w0.heap.size w0 ((w0.alloc (.cells #[.int .i64 0,.int .i64 0,.int .i64 0,.string ⟨([120,121,122]).toArray⟩,.string ⟨[].toArray⟩] 43)).alloc (.cells #[.int .i64 8,.string ⟨[].toArray⟩,.bool false,.slice none 0 0,.int .i64 0,.int .i64 0,.bool false,.slice none 0 0,.slice (some ⟨w0.heap.size,0,none⟩) 1 1,.bool false,.bool false] 28)):=((Below.refl _ _).alloc (zP _) _).alloc fq _;have HLF:=ab (TfV.leaf (S:=fun _=>True) 8 [] [120,121,122] false hlf trivial);have HBN:=ab hbn;clear hlf hbn;go_wp2_with (first|(go_at_call 16;(with_reducible refine(HL1.out _).mono ?_);rintro e w1 ⟨rfl,rfl⟩)|(go_at_call 16;(with_reducible refine(HL2.out _).mono ?_);rintro e w2 ⟨rfl,rfl⟩))
   generalize hSS:List.take (65536-k) D=SS
   have hSl:SS.length+k=65536:=by rw [←hSS,Ac];omega
   have hSb:(SS.length:Int)≤65536:=fg;clear hSS g3 hkl HD hDs;by_cases hbig:k≤2
   ·refine(pR HLF.out fo fo fg fO).mono ?_
    rintro e w3 ⟨rfl,hb3⟩;have HB3:=ab (bel2 HBN.out hb3);have g9:decide ((65536:Int)<(SS.length:Int)+3)=true:=Av fg;clear hb3 HLF HBN hSl;go_wp2
    go_loopg [11] (16+1) (fun k t wr=>DbC ([128]:Str) 16 w3 k t wr)
    case atStart=>exact⟨0,([128]:Str),by first|rfl|(simp;done),by omega,by omega,ab rfl,rfl⟩
    case round =>
     obtain⟨j,D,rfl,hj,hjk,HD,rfl⟩:=hrel;obtain⟨hj1,hj2⟩:=lP hj;have hDl:D.length=1*2 ^ j:=by rw [←HD.out,mw];rfl
     by_cases hj12:j<16
     ·exact ec
     ·obtain rfl:j=16:=fg
      have hDs:D.length=65536:=by rw [hDl]
      have g3:decide ((D.length:Int)<65536)=false:=Ah fg;clear hj hjk hj1 hj2 hDl hj12;have HDE:=ab (HD.out.symm.trans (px 128 16));clear HD;have hlf:((w3.alloc (.cells #[.int .i64 0,.int .i64 0,.int .i64 0,.string ⟨([120,121,122]).toArray⟩,.string ⟨[].toArray⟩] 43)).alloc (.cells #[.int .i64 2,.string ⟨([122]).toArray⟩,.bool false,.slice none 0 0,.int .i64 0,.int .i64 0,.bool false,.slice none 0 0,.slice (some ⟨w3.heap.size,0,none⟩) 1 1,.bool false,.bool false] 28)).heap[w3.heap.size]?=some (.cells #[.int .i64 0,.int .i64 0,.int .i64 0,.string ⟨([120,121,122]).toArray⟩,.string ⟨[].toArray⟩] 43 (0,0)):=by
       exact eN
      have HA2:=ab (yV (TfV.leaf (S:=fun _=>True) 2 [122] [120,121,122] false hlf trivial) fo fo HDE.out fo);have hbn:Below w3.heap.size w3 ((w3.alloc (.cells #[.int .i64 0,.int .i64 0,.int .i64 0,.string ⟨([120,121,122]).toArray⟩,.string ⟨[].toArray⟩] 43)).alloc (.cells #[.int .i64 2,.string ⟨([122]).toArray⟩,.bool false,.slice none 0 0,.int .i64 0,.int .i64 0,.bool false,.slice none 0 0,.slice (some ⟨w3.heap.size,0,none⟩) 1 1,.bool false,.bool false] 28)):=((Below.refl _ _).alloc (zP _) _).alloc fq _;exact ef
   ·(exfalso;omega)
theorem sH (many more:Int) (w:World) :
  Calls Tryz.prog 7 #[.int .i64 many,.int .i64 more] w fun e w'=>e=.returned (.bool true)∧Below w.heap.size w w':=by
 obtain⟨h1,h2⟩:=vI many (n:=3) fo;obtain⟨h3,h4⟩:=vI more (n:=3) fo;obtain⟨k,hk⟩:∃k:Nat,low many 3=(k:Int):=⟨(low many 3).toNat,by omega⟩;have hk2:k≤2:=fg;rcases(by omega:low more 3=0∨low more 3=1∨low more 3=2) with h|h|h
 ·exact wu many more w k hk hk2 h
 ·exact vR many more w k hk hk2 h
 ·exact wt many more w k hk hk2 h
end Go.Proofs.YtbnkaecmgfolpaaGreat
