/- walk of fmts.Read -/
import Derived.Test.YtjggmmaojklmpaaGreatLb27
set_option maxRecDepth 100000
set_option maxHeartbeats 4000000
namespace Go.Proofs.YtjggmmaojklmpaaGreat
open Go.RowKit
theorem Ah {l r:Str} {i:Int} {f:Fm} (w:World) (h0:0≤i) (h1:i≤800000) (hs:l.length≤800000) (hP:pj (l.drop i.toNat)=some (f,r)) :
  Calls Tryz.prog 48 #[.string ⟨l.toArray⟩,.int .i64 i] w fun e w'=>Below w.heap.size w w'∧f.thn.length≤l.length∧f.els.length≤l.length∧∃j:Nat,i<j∧j≤l.length∧l.drop j=r∧e=.returned (.tuple #[.agg #[.int .i64 (f).kind,.int .i64 (f).n,.int .i64 (f).cse,.string ⟨((f).thn).toArray⟩,.string ⟨((f).els).toArray⟩],.int .i64 j,.bool true]):=by
 obtain⟨i,rfl⟩:=Int.eq_ofNat_of_zero_le h0;refine(yx l i w gu hs).mono ?_
 rintro e w1 ⟨hb,hp⟩;rw [Int.toNat_natCast] at hP;rw [hP] at hp;obtain⟨a,b,j,c,d⟩:=hp;exact⟨hb,a,b,j,by omega,d⟩
theorem BU {l:Str} {i:Int} (w:World) (h0:0≤i) (h1:i≤800000) (hs:l.length≤800000) (hP:pj (l.drop i.toNat)=none) :
  Calls Tryz.prog 48 #[.string ⟨l.toArray⟩,.int .i64 i] w fun e w'=>Below w.heap.size w w'∧e=.returned (.tuple #[.agg #[.int .i64 0,.int .i64 0,.int .i64 0,.string ⟨#[]⟩,.string ⟨#[]⟩],.int .i64 0,.bool false]):=by
 obtain⟨i,rfl⟩:=Int.eq_ofNat_of_zero_le h0;refine(yx l i w gu hs).mono ?_
 rintro e w1 ⟨hb,hp⟩;rw [Int.toNat_natCast] at hP;rw [hP] at hp;exact⟨hb,hp⟩
def lenOk (n:Nat) (fs:List Fm):Prop:=∀f∈fs,f.thn.length≤n∧f.els.length≤n
theorem SlS.ownB {w:World} {B0:Nat} {e:TypeId} {sz:Nat} {a:Option Addr} {n c:Nat} {xs:List Value} (h:w.ownsRow B0 e sz (.slice a n c) n xs):SlS w (fun b=>B0≤b) a sz n xs:=by
 refine⟨h.1,fun hn=>?_⟩;rcases h.2 with⟨hv,h0⟩|⟨g,cap,cur,hv,hb,hg,r⟩
 ·omega
 ·injection hv with ha _ _
  subst ha;refine⟨g,0,rfl,hb,jO hg,fun j u hu=>?_⟩;exact di
def vd (l:Str) (i B:Nat) (R:Option (List Fm × Str)) (e:Ending) (w':World):Prop :=
 match R with
 | none=>e=.returned (.tuple #[.slice none 0 0,.int .i64 0,.bool false])
 | some (fs,r)=>∃(a:Option Addr) (c j:Nat),e=.returned (.tuple #[.slice a fs.length c,.int .i64 j,.bool true])∧SlS w' (fun b=>B≤b) a 5 fs.length (lA fs)∧i≤j∧j<l.length∧l.drop j=r∧fs.length≤l.length∧lenOk l.length fs
theorem RS.texts {B bt bo:Nat} {tx:Str} {fs:List Fm} {w:World} (h:RS B bt bo tx fs w) :
  ∃ta tc,w.cell? ⟨bt,0,none⟩=some (.slice ta tx.length tc)∧w.frozen? ⟨bt,0,none⟩=false∧w.ownsRow B 5 1 (.slice ta tx.length tc) tx.length (kR tx)∧bt<w.heap.size:=by
 obtain⟨tv,ov,h1,h2,hbt,hbo,ht,ho⟩:=h;obtain⟨ta,tc,rfl⟩:=j7 ht;exact⟨ta,tc,by rw [Cv h1];rfl,Lib.frozen_of_heap h1 0,ht,jO h1⟩
theorem RS.parts {B bt bo:Nat} {tx:Str} {fs:List Fm} {w:World} (h:RS B bt bo tx fs w) :
  ∃oa oc,w.cell? ⟨bo,0,none⟩=some (.slice oa fs.length oc)∧w.frozen? ⟨bo,0,none⟩=false∧w.ownsRow B 55 5 (.slice oa fs.length oc) fs.length (lA fs)∧bo<w.heap.size:=by
 obtain⟨tv,ov,h1,h2,hbt,hbo,ht,ho⟩:=h;obtain⟨oa,oc,rfl⟩:=j7 ho;exact⟨oa,oc,by rw [Cv h2];rfl,Lib.frozen_of_heap h2 0,ho,jO h2⟩
theorem RS.text_app {B bt bo:Nat} {tx:Str} {fs:List Fm} {w w1:World} {v v1:Value} {c:UInt8} (h:RS B bt bo tx fs w) (hv:w.cell? ⟨bt,0,none⟩=some v)
  (hown:w1.ownsRow B 5 1 v1 (tx.length+1) (kR tx++[.int .u8 c.toNat])) (hg:w.grownBy w1 v.ownBlock) (hB:B≤w.heap.size) :
  ∃a c',v1=.slice a (tx.length+1) c'∧w1.cell? ⟨bt,0,none⟩=some v∧w1.frozen? ⟨bt,0,none⟩=false∧RS B bt bo (tx++[c]) fs (w1.setCell ⟨bt,0,none⟩ v1)∧Below B w (w1.setCell ⟨bt,0,none⟩ v1):=by
 obtain⟨tv,ov,h1,h2,hbt,hbo,ht,ho⟩:=h;have htv:tv=v:=by rw [Cv h1] at hv;simpa using hv
 subst htv;have hne:bt≠bo:=fun e=>by subst e;rw [h1] at h2;simp at h2
 have g1:w1.heap[bt]?=some (.cells #[tv] 46 (0,0)):=(hg.block bt (jO h1) (fun e=>lB ht h1 gD e.symm)).trans h1;have g2:w1.heap[bo]?=some (.cells #[ov] 26 (0,0)):=(hg.block bo (jO h2) (fun e=>lB ht h2 gD e.symm)).trans h2;have ho1:=ho.kept hg (tl ho ht gD);obtain⟨a,c',rfl⟩:=j7 hown;refine⟨a,c',rfl,by rw [Cv g1];rfl,Lib.frozen_of_heap g1 0,⟨_,ov,pB g1,ou g2 hne,hbt,hbo,?_,pi ho1 (lB ho1 g1 gD) _⟩,?_⟩
 ·have:=pi hown (lB hown g1 gD) (p:=⟨bt,0,none⟩) (.slice a (tx.length+1) c')
  simpa [kR] using this
 ·exact((Below.refl B w).grown hg hB fun k hk=>(ht.lt k hk).1).setCell (p:=⟨bt,0,none⟩) hbt _
theorem RS.part_app {B bt bo:Nat} {tx:Str} {fs:List Fm} {w w1:World} {v v1:Value} {f:Fm} (h:RS B bt bo tx fs w) (hv:w.cell? ⟨bo,0,none⟩=some v)
  (hown:w1.ownsRow B 55 5 v1 (fs.length+1) (lA fs++[.int .i64 f.kind,.int .i64 f.n,.int .i64 f.cse,.string ⟨(f.thn).toArray⟩,.string ⟨(f.els).toArray⟩])) (hg:w.grownBy w1 v.ownBlock) (hB:B≤w.heap.size) :
  ∃a c',v1=.slice a (fs.length+1) c'∧w1.cell? ⟨bo,0,none⟩=some v∧w1.frozen? ⟨bo,0,none⟩=false∧RS B bt bo tx (fs++[f]) (w1.setCell ⟨bo,0,none⟩ v1)∧Below B w (w1.setCell ⟨bo,0,none⟩ v1):=by
 obtain⟨tv,ov,h1,h2,hbt,hbo,ht,ho⟩:=h;have htv:ov=v:=by rw [Cv h2] at hv;simpa using hv
 subst htv;have hne:bo≠bt:=fun e=>by subst e;rw [h1] at h2;simp at h2
 have g1:w1.heap[bt]?=some (.cells #[tv] 46 (0,0)):=(hg.block bt (jO h1) (fun e=>lB ho h1 gD e.symm)).trans h1;have g2:w1.heap[bo]?=some (.cells #[ov] 26 (0,0)):=(hg.block bo (jO h2) (fun e=>lB ho h2 gD e.symm)).trans h2;have ht1:=ht.kept hg (tl ht ho gD);obtain⟨a,c',rfl⟩:=j7 hown;refine⟨a,c',rfl,by rw [Cv g2];rfl,Lib.frozen_of_heap g2 0,⟨tv,_,ou g1 hne,pB g2,hbt,hbo,pi ht1 (lB ht1 g2 gD) _,?_⟩,?_⟩
 ·have:=pi hown (lB hown g2 gD) (p:=⟨bo,0,none⟩) (.slice a (fs.length+1) c')
  rw [rz,Cy];exact this
 ·exact((Below.refl B w).grown hg hB fun k hk=>(ho.lt k hk).1).setCell (p:=⟨bo,0,none⟩) hbo _
theorem s6 (tx:Str) (fs:List Fm):(na tx fs).length≤tx.length+fs.length:=by
 unfold na;split
 ·omega
 ·rename_i h;have:=List.length_pos_iff.2 h;simp;omega
theorem uQ {n:Nat} {tx:Str} {fs:List Fm} (h:lenOk n fs) (ht:tx.length≤n):lenOk n (na tx fs):=by
 unfold na;split
 ·exact h
 ·intro f hf
  rcases CI.1 hf with hf|hf
  ·exact h f hf
  ·simp at hf;subst hf;exact⟨ht,by simp⟩
theorem RS.start (B:Nat) (w:World) (h:B≤w.heap.size):RS B (w.heap.size+1) w.heap.size [] [] ((w.alloc (.cells #[.slice none 0 0] 26)).alloc (.cells #[.slice none 0 0] 46)):=by
 refine⟨_,_,?_,?_,by omega,h,World.ownsRow_nil _ _ _ _,World.ownsRow_nil _ _ _ _⟩
 ·have:=heap_alloc_new (w.alloc (.cells #[.slice none 0 0] 26)) (.cells #[.slice none 0 0] 46)
  simpa using this
 ·rw [Below.heap_alloc _ _ _ gF];exact heap_alloc_new w _
def RdRel (l:Str) (i:Nat) (R:Option (List Fm × Str)) (w:World) (q:Value) (wr:World):Prop :=
 ∃(j:Nat) (tx:Str) (fs:List Fm),i≤j∧j≤l.length∧q=.int .i64 j∧RS w.heap.size (w.heap.size+1) w.heap.size tx fs wr∧Below w.heap.size w wr∧tx.length≤j∧fs.length≤j∧Hid (tx.length+fs.length≤j)∧Hid (lenOk l.length fs)∧Hid (mU (l.drop j) tx fs=R)
theorem BP (l:Str) (i:Nat) (w:World) (h1:i≤l.length) (hs:l.length≤700000) :
  Calls Tryz.prog 24 #[.string ⟨l.toArray⟩,.int .i64 i] w fun e w'=>Below w.heap.size w w'∧vd l i w.heap.size (mU (l.drop i) [] []) e w':=by
 generalize hR:mU (l.drop i) [] []=R
 have HR:=ab hR;clear hR;obtain⟨iu,hiu⟩:=info_parts qi;go_enter Tryz.func24,Tryz.ntmps24
 go_wp2
 go_loopw [1] (fun q wr=>RdRel l i R w q wr) (fun q _=>l.length-(intOf q).toNat)
 case atStart =>
  refine⟨i,[],[],by omega,by omega,rfl,?_,?_,by simp,by simp,ab gF,ab (fun f hf=>by simp at hf),HR⟩
  ·exact RS.start _ w (Cp _)
  ·(repeat (first|with_reducible exact Below.refl _ _|with_reducible assumption|(refine Below.setCell ?_ gO _)|(refine Below.alloc ?_ gJ _)|(refine Below.drew ?_)))
 case round =>
  obtain⟨j,tx,fs,hij,hjl,rfl,hrs,hb,htx,hfs,HTF,HLO,HF⟩:=hrel;clear HR;have hB:=hb.size;cases hd:l.drop j with
  | nil =>
   have h2:=ll hd;have HF':Hid (R=none):=ab gY;clear hd HF;go_wp2
   go_ret3
   exact⟨hb,by rw [HF'.out];rfl⟩
  | cons c r =>
   obtain⟨h2,h3,hr⟩:=ky hd;have HF':Hid (R=mU (c::r) tx fs):=ab (by rw [←hd];exact HF.out.symm);have Hr:=ab hr;have HD:=ab hd;clear hd HF hr;by_cases c47:c.toNat=47
   ·have HE:Hid (R=some (na tx fs,c::r)):=ab (by rw [HF'.out,mI,Cl c47])
    have b47:((c.toNat:Int)==47)=true:= iD;clear HF' c47;go_wp2_with (go_at_call 47;refine(vP _ _ _ _ _ _ _ hrs (Below.refl _ _) hB gu gu).mono ?_;rintro e w1 ⟨rfl,hrs1,hb1,_⟩;obtain⟨oa,oc,k1,k2,k3,k4⟩:=hrs1.parts)
    go_ret3
    refine⟨hb.trans hb1,?_⟩;rw [HE.out];exact⟨oa,oc,j,rfl,SlS.ownB k3,hij,h2,HD.out,by have:=s6 tx fs;have:=HTF.out;omega,uQ HLO.out gu⟩
   ·have b47:((c.toNat:Int)==47)=false:= ii
    by_cases c36:c.toNat=36
    ·have b36:((c.toNat:Int)==36)=true:= iD
     cases hP:pj r with
     | none =>
      have HP:Hid (pj (l.drop ((j:Int)+1).toNat)=none):=ab ji;have HE:Hid (R=mU r (tx++[c]) fs):=ab (by rw [HF'.out,mI,Co c47,Cl c36,hP]);clear HF' c47 c36 hP;go_wp2_with (go_at_call 48;refine(BU _ gu gu gu HP.out).mono ?_;rintro e w1 ⟨hb1,rfl⟩;have hrs0:=hrs.keep hb1;have hB1:w.heap.size≤w1.heap.size:=(by have:=hb1.size;omega);obtain⟨ta,tc,k1,k2,k3,k4⟩:=hrs0.texts)
      have k5:w.heap.size<w1.heap.size:=gu;have hB2:w.heap.size≤(w1.alloc (.cells #[.int .i64 0,.int .i64 0,.int .i64 0,.string ⟨#[]⟩,.string ⟨#[]⟩] 55)).heap.size:=by simp;omega
      have k1':(w1.alloc (.cells #[.int .i64 0,.int .i64 0,.int .i64 0,.string ⟨#[]⟩,.string ⟨#[]⟩] 55)).cell? ⟨w.heap.size+1,0,none⟩=some (.slice ta tx.length tc):=by rw [World.cell?_alloc_lt w1 _ _ k4];exact k1
      go_region_law (refine si w.heap.size 5 (w:=(w1.alloc (.cells #[.int .i64 0,.int .i64 0,.int .i64 0,.string ⟨#[]⟩,.string ⟨#[]⟩] 55)).drew) rfl rfl _ _ 46 rfl Tryz.underlying46 hiu rfl gD rfl (k3.alloc (.cells #[.int .i64 0,.int .i64 0,.int .i64 0,.string ⟨#[]⟩,.string ⟨#[]⟩] 55)) rfl gZ rfl gG gu gD hB2 ?_;intro v1 w2 hown1 hg1 _ _;obtain⟨a1,c1,rfl,d1,d2,hrs1,hbl1⟩:=RS.text_app (w:=(w1.alloc (.cells #[.int .i64 0,.int .i64 0,.int .i64 0,.string ⟨#[]⟩,.string ⟨#[]⟩] 55)).drew) (hrs0.keep ((Below.refl _ _).alloc (Cp _) _).drew) k1' hown1 hg1 hB2)
      all_goals
       go_wp2
       go_roundw
       case rel =>
        refine⟨j+1,tx++[c],fs,by omega,by omega,by go_num,hrs1,Below.trans (((hb.trans (hb1.mono hB)).alloc hB1 _).drew) hbl1,by simp;omega,by omega,ab jv,HLO,ab ?_⟩;rw [Hr.out,←HE.out]
       case measure=>simp [intOf];omega
     | some p =>
      obtain⟨⟨fk,fn,fc,ft,fe⟩,r2⟩:=p;have HP:Hid (pj (l.drop ((j:Int)+1).toNat)=some (⟨fk,fn,fc,ft,fe⟩,r2)):=ab ji;have HE:Hid (R=mU r2 [] (na tx fs++[⟨fk,fn,fc,ft,fe⟩])):=ab (by rw [HF'.out,mI,Co c47,Cl c36,hP]);obtain⟨im,him⟩:=info_parts Bs;have hfl:=s6 tx fs;clear HF' c47 c36 hP;go_wp2_with (first
       | (go_at_call 48;refine(Ah _ gu gu gu HP.out).mono ?_;rintro e w1 ⟨hb1,ht1,ht2,q,hq1,hq2,hq3,rfl⟩;have hrs0:=hrs.keep hb1;have hB1:w.heap.size≤w1.heap.size:=(by have:=hb1.size;omega);have HQ:=ab hq3;clear hq3)
       | (go_at_call 47;refine(vP w.heap.size _ _ tx fs w1 _ hrs0 ((Below.refl _ _).alloc (Cp _) _) gH gu gu).mono ?_;rintro e w2 ⟨rfl,hrs2,hb2,hst⟩;have hbx:=hst w1.heap.size (Cp _) gF;rw [heap_alloc_new] at hbx;have f0:=Cv hbx 0;have f1:=Cv hbx 1;have f2:=Cv hbx 2;have f3:=Cv hbx 3;have f4:=Cv hbx 4;simp only [List.getElem?_toArray,List.getElem?_cons_zero,List.getElem?_cons_succ] at f0 f1 f2 f3 f4;obtain⟨oa,oc,k1,k2,k3,k4⟩:=hrs2.parts;have hB2:w.heap.size≤w2.heap.size:=(by have:=hb2.size;simp at this;omega);have HST:=ab hst;have HBX:=ab hbx;clear hst hbx)
       | (at_builtin;refine kz w.heap.size 55 rfl _ _ 26 rfl Tryz.underlying26 him rfl gD rfl k3 rfl gZ rfl gG gu gD hB2 ?_;intro v1 w3 hown1 hg1 _ _;obtain⟨a1,c1,rfl,d1,d2,hrs3,hbl3⟩:=RS.part_app (f:=⟨fk,fn,fc,ft,fe⟩) hrs2 k1 hown1 hg1 hB2))
      go_roundw
      case rel =>
       refine⟨q,[],na tx fs++[⟨fk,fn,fc,ft,fe⟩],by omega,hq2,rfl,hrs3,?_,by simp,by have:=HTF.out;simp;omega,ab jv,ab ?_,ab ?_⟩
       ·exact(((hb.trans (hb1.mono hB)).alloc hB1 _).trans hb2).trans hbl3
       ·intro f hf
        rcases CI.1 hf with hf|hf
        ·exact uQ HLO.out gu f hf
        ·simp at hf;subst hf;exact⟨ht1,ht2⟩
       ·rw [HQ.out,←HE.out]
      case measure=>simp [intOf];omega
    ·have b36:((c.toNat:Int)==36)=false:= ii
     by_cases c92:c.toNat=92
     ·have b92:((c.toNat:Int)==92)=true:= iD
      obtain⟨ta,tc,k1,k2,k3,k4⟩:=hrs.texts;by_cases hst:n8 r four=true
      ·have HE:Hid (R=mU (r.drop 1) (tx++r.take 1) fs):=ab (by rw [HF'.out,mI,Co c47,Co c36,Cl ⟨c92,hst⟩])
       cases r with
       | nil=>simp [n8] at hst
       | cons d r' =>
        obtain⟨m2,m3,mr⟩:=ky Hr.out;have m4:(j:Int)+1<l.length:=gu;have m5:0≤(j:Int)+1:=gu;have Hmr:=ab mr;have hst':n8 (List.drop (j+1) l) [36,125,92,47]=true:=by rw [Hr.out];exact hst
        have HE':Hid (R=mU r' (tx++[d]) fs):=HE;clear HF' c47 c36 c92 hst HE mr;go_wp2_with (go_at_call 49;refine(oU _ _ _ _ gu gu gu gF).mono ?_;rintro e w1 ⟨rfl,rfl⟩)
        go_region_law (refine si w.heap.size 5 (w:=wr.drew) rfl rfl _ _ 46 rfl Tryz.underlying46 hiu rfl gD rfl k3 rfl gZ rfl gG gu gD hB ?_;intro v1 w2 hown1 hg1 _ _;obtain⟨a1,c1,rfl,d1,d2,hrs1,hbl1⟩:=RS.text_app (w:=wr.drew) hrs k1 hown1 hg1 hB)
        all_goals
         go_wp2
         go_roundw
         case rel =>
          refine⟨j+2,tx++[d],fs,by omega,by omega,by go_num,hrs1,hb.drew.trans hbl1,by simp;omega,by omega,ab jv,HLO,ab ?_⟩;rw [Hmr.out,←HE'.out]
         case measure=>simp [intOf];omega
      ·have HE:Hid (R=mU r (tx++[c]) fs):=ab (by rw [HF'.out,mI,Co c47,Co c36,Co (fun h=>hst h.2)])
       have hst':n8 (List.drop (j+1) l) [36,125,92,47]=false:=by rw [Hr.out];simpa [four] using hst
       clear HF' c47 c36 c92 hst;go_wp2_with (go_at_call 49;refine(oU _ _ _ _ gu gu gu gF).mono ?_;rintro e w1 ⟨rfl,rfl⟩)
       exact bE
     ·have b92:((c.toNat:Int)==92)=false:= ii
      have HE:Hid (R=mU r (tx++[c]) fs):=ab (by rw [HF'.out,mI,Co c47,Co c36,Co (fun h=>c92 h.1)]);clear HF' c47 c36 c92;obtain⟨ta,tc,k1,k2,k3,k4⟩:=hrs.texts;go_wp2
      exact bE
open Go.RowKit
theorem jT {w:World} {g:Nat} {cs:Array Value} {t:TypeId} {m:Nat × Nat} (h:w.heap[g]?=some (.cells cs t m)) (j:Nat) {u:Value} (hj:cs[j]?=some u):w.cell? ⟨g,j,none⟩=some u:=by
 rw [Cv h];exact hj
theorem oO {w:World} {g:Nat} {cs:Array Value} {t:TypeId} (h:w.heap[g]?=some (.cells cs t (0,0))) (j:Nat):w.frozen? ⟨g,j,none⟩=false:=Lib.frozen_of_heap h j
theorem j8 {w:World} {g:Nat} {o':Obj} (h:w.heap[g]?=some o') (o:Obj):(w.alloc o).heap[g]?=some o':=(Below.heap_alloc _ _ _ (jO h)).trans h
def tfv0:Value:=.agg #[.int .i64 0,.string ⟨[].toArray⟩,.bool false,.slice none 0 0,.int .i64 0,.int .i64 0,.bool false,.slice none 0 0,.slice none 0 0,.bool false,.bool false]
def FormPost (s:Str) (i B:Nat) (w:World) (R:Option (Tf × Str)) (e:Ending) (w':World):Prop:=Below w.heap.size w w' ∧
 match R with
 | none=>e=.returned (.tuple #[tfv0,.int .i64 0,.bool false])
 | some (f,r)=>∃(fc:List Value) (j:Nat),e=.returned (.tuple #[.agg fc.toArray,.int .i64 j,.bool true])∧TfV w' (fun b=>B≤b) fc f∧i<j∧j<s.length∧s.drop (j+1)=r
def RfRel (s:Str) (i:Nat) (w:World) (RX:Str × Str) (q v:Value) (wr:World):Prop :=
 ∃(j:Nat) (a:Str),i+1≤j∧j≤s.length∧q=.int .i64 j∧wr.ownsRow w.heap.size 5 1 v a.length (kR a)∧wr.heap[w.heap.size]?=some (.cells #[.int .i64 0,.string ⟨[].toArray⟩,.bool false,.slice none 0 0,.int .i64 0,.int .i64 0,.bool false,.slice none 0 0,.slice none 0 0,.bool false,.bool false] 28 (0,0))∧Below w.heap.size w wr∧a.length≤j∧Hid (rxSp (s.drop j) a=RX)
theorem yX {s:Str} {i:Nat} {c:UInt8} {r:Str} (h:s.drop i=c::r) (hc:c.toNat=47):uJ (s.drop i)=match (rxSp r []).2 with
  | []=>none
  | _::r3=>match sy (rxSp r []).1 with
   | .error _=>none
   | .ok x=>match mU r3 [] [] with
    | none=>none
    | some (_,[])=>none
    | some (fs,_::r5)=>BA x fs r5:=by
 rw [h];simp only [uJ];rw [Cl hc];rfl
theorem Bk {c:UInt8} (h:c.toNat=47) (r a:Str):rxSp (c::r) a=(a,c::r):=by
 cases r with
 | nil=>simp [rxSp,h]
 | cons d r=>simp [rxSp,h]
theorem By {c:UInt8} (h:¬c.toNat=47) (h2:¬c.toNat=92) (r a:Str):rxSp (c::r) a=rxSp r (a++[c]):=by
 cases r with
 | nil=>simp [rxSp,h]
 | cons d r=>simp [rxSp,h,h2]
theorem AU {s:Str} {q:Int} (h:sy s=.error q):q≠0:=by
 have hc:∀l:List Str,wi l=.error q→q≠0:=by
  intro l hl;unfold wi at hl;split at hl
  ·rename_i e heq
   injection hl with hl
   subst hl;exact nf _ _ _ _ heq
  ·cases hl
  ·injection hl with hl;rw [←hl];decide
 unfold sy at h;split at h
 ·injection h with h;rw [←h];decide
 ·split at h
  ·exact hc _ h
  ·split at h
   ·exact hc _ h
   ·injection h with h;rw [←h];decide
theorem yN {tk:Str} {a f:Bool} (h:qE tk=some (a,f)):(tk=[]∧a=false∧f=false)∨(tk=[103]∧a=true∧f=false)∨(tk=[105]∧a=false∧f=true)∨(tk=[103,105]∧a=true∧f=true)∨(tk=[105,103]∧a=true∧f=true):=by
 unfold qE at h;split at h
 ·injection h with h;injection h with h1 h2;exact .inl ⟨‹_›,h1.symm,h2.symm⟩
 split at h
 ·injection h with h;injection h with h1 h2;exact .inr (.inl ⟨‹_›,h1.symm,h2.symm⟩)
 split at h
 ·injection h with h;injection h with h1 h2;exact .inr (.inr (.inl ⟨‹_›,h1.symm,h2.symm⟩))
 split at h
 ·rename_i hor
  injection h with h;injection h with h1 h2
  rcases hor with hor|hor
  ·exact .inr (.inr (.inr (.inl ⟨hor,h1.symm,h2.symm⟩)))
  ·exact .inr (.inr (.inr (.inr ⟨hor,h1.symm,h2.symm⟩)))
 ·cases h
theorem zb {tk:Str} (h:qE tk=none):(tk==[])=false∧(tk==[103])=false∧(tk==[105])=false∧(tk==[103,105])=false∧(tk==[105,103])=false:=by
 unfold qE at h;split at h
 ·cases h
 split at h
 ·cases h
 split at h
 ·cases h
 split at h
 ·cases h
 rename_i h1 h2 h3 h4
 exact⟨CM.2 h1,CM.2 h2,CM.2 h3,CM.2 fun e=>h4 (.inl e),CM.2 fun e=>h4 (.inr e)⟩
theorem Aa (s:Str) (i:Nat) (w:World) (hi:i≤s.length) (hs:s.length≤600000) :
  Calls Tryz.prog 9 #[.string ⟨s.toArray⟩,.int .i64 i] w fun e w'=>FormPost s i w.heap.size w (uJ (s.drop i)) e w':=by
 obtain⟨R,hR⟩:∃R,R=uJ (s.drop i):=⟨_,rfl⟩;rw [←hR];obtain⟨iu,hiu⟩:=info_parts qi;have g0:decide ((i:Int)<0)=false:=CP gu;have hby0:(w.alloc (.cells #[.int .i64 0,.string ⟨[].toArray⟩,.bool false,.slice none 0 0,.int .i64 0,.int .i64 0,.bool false,.slice none 0 0,.slice none 0 0,.bool false,.bool false] 28)).heap[w.heap.size]?=some (.cells #[.int .i64 0,.string ⟨[].toArray⟩,.bool false,.slice none 0 0,.int .i64 0,.int .i64 0,.bool false,.slice none 0 0,.slice none 0 0,.bool false,.bool false] 28 (0,0)):=heap_alloc_new w _;have HBY0:=ab hby0;have hb0:Below w.heap.size w (w.alloc (.cells #[.int .i64 0,.string ⟨[].toArray⟩,.bool false,.slice none 0 0,.int .i64 0,.int .i64 0,.bool false,.slice none 0 0,.slice none 0 0,.bool false,.bool false] 28)):=(Below.refl _ _).alloc (Cp _) _;cases hd:s.drop i with
 | nil =>
  have h2:=ll hd;have HE:Hid (R=none):=ab (by rw [hR,hd];rfl);have g1:decide ((s.length:Int)≤(i:Int))=true:=CO gu;clear hd hR;exact fg
 | cons c r =>
  obtain⟨h2,h3,hr⟩:=ky hd;have g1:decide ((s.length:Int)≤(i:Int))=false:=CP gu;by_cases c47:c.toNat=47
  ·have b47:((c.toNat:Int)==47)=true:= iD
   have b47':((c.toNat:Int) != 47)=false:=by simp [bne,b47]
   have HF:Hid (R=_):=ab (hR.trans (yX hd c47));have HRX:Hid (rxSp (s.drop (i+1)) []=rxSp r []):=ab (by rw [hr]);generalize hRX:rxSp r []=RX at *
   clear hd hR hr hby0 c47;go_enter Tryz.func9,Tryz.ntmps9
   go_wp2
   go_loopw [1,7] (fun q v wr=>RfRel s i w RX q v wr) (fun q _ _=>s.length-(intOf q).toNat)
   case atStart=>exact⟨i+1,[],by omega,by omega,by go_num,World.ownsRow_nil _ _ _ _,HBY0.out,hb0,by simp,HRX⟩
   case round =>
    obtain⟨j,a,hij,hjl,rfl,hown,hby,hb,ha,HS⟩:=hrel;clear HRX h3 h2 g1 b47 b47' HBY0 hb0;have hB:=hb.size;have HBY:=ab hby;have hcv:=qS (P:=Tryz.prog) (src:=46) (dst:=9) Tryz.underlying46 Tryz.underlying5 Tryz.underlying9 hown;cases hd:s.drop j with
    | nil =>
     have h2:=ll hd;have g2:decide ((j:Int)<(s.length:Int))=false:=CP gu;have g3:decide ((s.length:Int)≤(j:Int))=true:=CO gu;have HX:Hid (RX=(a,[])):=ab (by rw [←HS.out,hd];rfl);have HE:Hid (R=none):=ab (by rw [HF.out,HX.out]);clear hd HS HF HX;cases hx:sy a with
     | error q =>
      have HRD:=ab (ui a wr gu);rw [hx] at HRD;clear hx;exact eS
     | ok x =>
      have HRD:=ab (ui a wr gu);rw [hx] at HRD;clear hx;go_wp2_with (go_at_call 23;refine HRD.out.mono ?_)
      rintro e w1 ⟨hb1,cc,rfl,hxv⟩;obtain⟨k,ch,ng,rs,lo,hii,lz,ks⟩:=x;obtain⟨ra,rc,ka,kc,rfl,_,_⟩:=hxv.open_;have hb1w:Below w.heap.size w w1:=hb.trans (hb1.mono hB);have hB1:=hb1w.size;have hby1:=(hb1.block _ (jO HBY.out)).trans HBY.out;have z0:=fun o=>jT (j8 hby1 o) 0 rfl
      have z1:=fun o=>jT (j8 hby1 o) 1 rfl
      have z2:=fun o=>jT (j8 hby1 o) 2 rfl
      have z3:=fun o=>jT (j8 hby1 o) 3 rfl
      have z4:=fun o=>jT (j8 hby1 o) 4 rfl
      have z5:=fun o=>jT (j8 hby1 o) 5 rfl
      have z6:=fun o=>jT (j8 hby1 o) 6 rfl
      have z7:=fun o=>jT (j8 hby1 o) 7 rfl
      have z8:=fun o=>jT (j8 hby1 o) 8 rfl
      have z9:=fun o=>jT (j8 hby1 o) 9 rfl
      have z10:=fun o=>jT (j8 hby1 o) 10 rfl
      have zf:=fun o=>oO (j8 hby1 o)
      clear hby1 hby hxv;unfold rxc;go_wp2
      exact ax
    | cons c r =>
     obtain⟨h2,h3,hr⟩:=ky hd;have g2:decide ((j:Int)<(s.length:Int))=true:=CO gu;have Hr:=ab hr;by_cases c47:c.toNat=47
     ·have b47:((c.toNat:Int)==47)=true:= iD
      have b47':((c.toNat:Int) != 47)=false:=by simp [bne,b47]
      have g3:decide ((s.length:Int)≤(j:Int))=false:=CP gu;have HX:Hid (RX=(a,c::r)):=ab (by rw [←HS.out,hd];exact Bk c47 r a);have HE1:Hid (R=match sy a with
       | .error _=>none
       | .ok x=>match mU r [] [] with
        | none=>none
        | some (_,[])=>none
        | some (fs,_::r5)=>BA x fs r5):=ab (by rw [HF.out,HX.out])
      have HRD:=ab (ui a wr gu);clear hd HS HF HX hr c47;cases hx:sy a with
      | error q =>
       have HE:Hid (R=none):=ab (by rw [HE1.out,hx]);have hq:(q==0)=false:=by rw [CM];exact AU hx
       have hq':(q != 0)=true:=by simp [bne,hq]
       rw [hx] at HRD;clear hx HE1;exact eS
      | ok x =>
       have HE2:Hid (R=match mU r [] [] with
        | none=>none
        | some (_,[])=>none
        | some (fs,_::r5)=>BA x fs r5):=ab (by rw [HE1.out,hx])
       rw [hx] at HRD;clear hx HE1;have HFR:Hid (∀w:World,Calls Tryz.prog 24 #[.string ⟨s.toArray⟩,.int .i64 ((j:Int)+1)] w fun e w'=>Below w.heap.size w w'∧vd s (j+1) w.heap.size (mU r [] []) e w'):=ab (fun w=>by
        have:=BP s (j+1) w gu gu
        rw [Hr.out] at this;push_cast at this;exact this)
       go_wp2_with (go_at_call 23;refine HRD.out.mono ?_)
       rintro e w1 ⟨hb1,cc,rfl,hxv⟩;obtain⟨k,ch,ng,rs,lo,hii,lz,ks⟩:=x;have hxv0:=hxv;obtain⟨ra,rc,ka,kc,rfl,_,_⟩:=hxv.open_;have HXV:=ab hxv0;have hb1w:Below w.heap.size w w1:=hb.trans (hb1.mono hB);have hB1:=hb1w.size;have HBY1:=ab ((hb1.block _ (jO HBY.out)).trans HBY.out);have HZ1:=ab hb1.size;have HLT:=ab (jO HBY.out);clear hby hxv hxv0;unfold rxc at HXV ⊢;go_wp2_with (go_at_call 24;refine(HFR.out _).mono ?_)
       rintro e w3 ⟨hb3,hp⟩;have hz3:=hb3.size;simp only [CL] at hz3;have hby3:=(hb3.block _ (jO (j8 HBY1.out _))).trans (j8 HBY1.out _);have hbx3:=(hb3.block _ (jO (heap_alloc_new w1 _))).trans (heap_alloc_new w1 _);have HBX3:=ab hbx3;have HBY3:=ab hby3;have hb3w:Below w.heap.size w w3:=(hb1w.alloc hB1 _).trans (hb3.mono gH);have hB3:=hb3w.size;have HXV3:=ab ((HXV.out.later ((Below.refl _ _).alloc (Cp _) _)).later hb3);clear hbx3 HXV;cases hX:mU r [] [] with
       | none =>
        have HE:Hid (R=none):=ab (by rw [HE2.out,hX]);rw [hX] at hp;have hp':e=.returned (.tuple #[.slice none 0 0,.int .i64 0,.bool false]):=hp;subst hp';clear hp hX HE2 HXV3;have z0:=jT hby3 0 rfl;have z1:=jT hby3 1 rfl;have z2:=jT hby3 2 rfl;have z3:=jT hby3 3 rfl;have z4:=jT hby3 4 rfl;have z5:=jT hby3 5 rfl;have z6:=jT hby3 6 rfl;have z7:=jT hby3 7 rfl;have z8:=jT hby3 8 rfl;have z9:=jT hby3 9 rfl;have z10:=jT hby3 10 rfl;have zf:=oO hby3;clear hby3;go_wp2
        exact ax
       | some p =>
        obtain⟨fs,r4⟩:=p;rw [hX] at hp;obtain⟨fa,fcp,j2,rfl,hsl,hj1,hj2,hj3,_,_⟩:=hp;obtain⟨_,d,r5,rfl,hd47⟩:=oD _ _ _ _ hX;have HSL:=ab hsl;have HE3:Hid (R=BA (.mk k ch ng rs lo hii lz ks) fs r5):=ab (by rw [HE2.out,hX]);have hix:Lib.indexByte (List.drop j2 s) ((125:Int)).toNat.toUInt8=match r5.dropWhile lR with|[]=>-1|_::_=>((r5.takeWhile lR).length:Int)+1:=by
         rw [hj3];have e125:(125:Int).toNat.toUInt8=125:=rfl;have hb:(d==125)=false:=by rw [CM];intro e;rw [e] at hd47;simp at hd47
         rw [e125];simp only [Lib.indexByte,hb];rw [yy];cases r5.dropWhile lR with
         | nil=>rfl
         | cons x y =>
          have h1:((((r5.takeWhile lR).length:Int))==-1)=false:=by rw [CM];omega
          simp only [h1,C1,if_false]
        obtain⟨_,_,hj4⟩:=ky hj3;have HJ4:=ab hj4;have hspan:=CQ (p:=lR) (l:=r5);have HE4:Hid (R=match r5.dropWhile lR with
         | []=>none
         | _::r2=>match qE (r5.takeWhile lR) with
          | none=>none
          | some (a,f)=>some (⟨.mk k ch ng rs lo hii lz ks,fs,f,a⟩,r2)):=ab HE3.out
        clear hX HE2 hj3 hj4 hsl hd47 HE3;generalize r5.takeWhile lR=tk at *
        generalize r5.dropWhile lR=dw at *
        have HSP:=ab hspan;have HX0:=ab hix;clear hspan hix;cases dw with
        | nil =>
         have HIX:Hid (Lib.indexByte (List.drop j2 s) ((125:Int)).toNat.toUInt8=-1):=HX0;have HE:Hid (R=none):=HE4;clear HX0 HE4 HXV3;have z0:=jT hby3 0 rfl;have z1:=jT hby3 1 rfl;have z2:=jT hby3 2 rfl;have z3:=jT hby3 3 rfl;have z4:=jT hby3 4 rfl;have z5:=jT hby3 5 rfl;have z6:=jT hby3 6 rfl;have z7:=jT hby3 7 rfl;have z8:=jT hby3 8 rfl;have z9:=jT hby3 9 rfl;have z10:=jT hby3 10 rfl;have zf:=oO hby3;clear hby3;exact fW
        | cons d2 r6 =>
         have HIX:Hid (Lib.indexByte (List.drop j2 s) ((125:Int)).toNat.toUInt8=(tk.length:Int)+1):=HX0;have HE5:Hid (R=match qE tk with|none=>none|some (a,f)=>some (⟨.mk k ch ng rs lo hii lz ks,fs,f,a⟩,r6)):=HE4;have hlen:j2+1+tk.length<s.length:=by
          have h1:=CR List.length HSP.out;have h2:=CR List.length HJ4.out;simp at h1 h2;omega
         obtain⟨m,hm⟩:∃m,m=tk.length:=⟨_,rfl⟩;have hK:List.take (j2+(m+1)-(j2+1)) (List.drop (j2+1) s)=tk:=by
          rw [HJ4.out,←HSP.out,show j2+(m+1)-(j2+1)=tk.length by omega,List.take_left]
         have HDR:Hid (s.drop (j2+(m+1)+1)=r6):=ab (by
          rw [show j2+(m+1)+1=j2+1+(tk.length+1) by omega,←List.drop_drop,HJ4.out,←HSP.out,List.drop_append];simp)
         rw [←hm] at HIX hlen;clear HX0 HE4 hm HSP;obtain⟨y0,y1,y2,y3,y4,y5,y6,y7,_⟩:=jR HBX3.out;have z0:=fun o=>jT (j8 hby3 o) 0 rfl
         have z1:=fun o=>jT (j8 hby3 o) 1 rfl
         have z2:=fun o=>jT (j8 hby3 o) 2 rfl
         have z3:=fun o=>jT (j8 hby3 o) 3 rfl
         have z4:=fun o=>jT (j8 hby3 o) 4 rfl
         have z5:=fun o=>jT (j8 hby3 o) 5 rfl
         have z6:=fun o=>jT (j8 hby3 o) 6 rfl
         have z7:=fun o=>jT (j8 hby3 o) 7 rfl
         have z8:=fun o=>jT (j8 hby3 o) 8 rfl
         have z9:=fun o=>jT (j8 hby3 o) 9 rfl
         have z10:=fun o=>jT (j8 hby3 o) 10 rfl
         have zf:=fun o=>oO (j8 hby3 o)
         clear hby3;cases hfl:qE tk with
         | none =>
          have HE:Hid (R=none):=ab jG;obtain⟨t0,t1,t2,t3,t4⟩:=zb hfl;clear HE5 hfl HXV3;exact fW
         | some af =>
          obtain⟨al,fd⟩:=af;rcases yN hfl with⟨rfl,rfl,rfl⟩|⟨rfl,rfl,rfl⟩|⟨rfl,rfl,rfl⟩|⟨rfl,rfl,rfl⟩|⟨rfl,rfl,rfl⟩
          ·have HE6:Hid (R=some (⟨.mk k ch ng rs lo hii lz ks,fs,false,false⟩,r6)):=ab jG
           clear HE5 hfl;go_wp2_with (go_at_call 25;refine(lv _ HIX.out).mono ?_;rintro e w4 ⟨rfl,rfl⟩)
           refine CJ (v:=.tuple #[.agg #[.int .i64 k,.string ⟨ch.toArray⟩,.bool ng,.slice ra rs.length rc,.int .i64 lo,.int .i64 hii,.bool lz,.slice ka ks.length kc,.slice fa fs.length fcp,.bool false,.bool false],.int .i64 (j2+(m+1)),.bool true]) hJ rfl ⟨?_,?_⟩
           ·(repeat (first|with_reducible exact Below.refl _ _|with_reducible assumption|(refine Below.setCell ?_ gO _)|(refine Below.alloc ?_ gJ _)|(refine Below.drew ?_)))
           ·rw [HE6.out]
            refine⟨_,j2+(m+1),rfl,?_,by omega,by omega,HDR.out⟩;have hT:TfV w3 (fun b=>w.heap.size<b∧b<w3.heap.size) (rxc k ch ng ra rs.length rc lo hii lz ka ks.length kc++[.slice fa fs.length fcp,.bool false,.bool false]) ⟨.mk k ch ng rs lo hii lz ks,fs,false,false⟩ :=
             ⟨_,fa,fcp,HXV3.out.mono fun b hb hlt=>by have h1:=HLT.out;have h2:wr.heap.size≤b:=hb;constructor<;>omega,HSL.out.mono fun b hb hlt=>by have h2:(w1.alloc _).heap.size≤b:=hb;simp only [CL] at h2;constructor<;>omega,rfl⟩
            exact eO
          ·have HE6:Hid (R=some (⟨.mk k ch ng rs lo hii lz ks,fs,false,true⟩,r6)):=ab jG
           clear HE5 hfl;go_wp2_with (go_at_call 25;refine(lv _ HIX.out).mono ?_;rintro e w4 ⟨rfl,rfl⟩)
           refine CJ (v:=.tuple #[.agg #[.int .i64 k,.string ⟨ch.toArray⟩,.bool ng,.slice ra rs.length rc,.int .i64 lo,.int .i64 hii,.bool lz,.slice ka ks.length kc,.slice fa fs.length fcp,.bool false,.bool true],.int .i64 (j2+(m+1)),.bool true]) hJ rfl ⟨?_,?_⟩
           ·(repeat (first|with_reducible exact Below.refl _ _|with_reducible assumption|(refine Below.setCell ?_ gO _)|(refine Below.alloc ?_ gJ _)|(refine Below.drew ?_)))
           ·rw [HE6.out]
            refine⟨_,j2+(m+1),rfl,?_,by omega,by omega,HDR.out⟩;have hT:TfV w3 (fun b=>w.heap.size<b∧b<w3.heap.size) (rxc k ch ng ra rs.length rc lo hii lz ka ks.length kc++[.slice fa fs.length fcp,.bool false,.bool true]) ⟨.mk k ch ng rs lo hii lz ks,fs,false,true⟩ :=
             ⟨_,fa,fcp,HXV3.out.mono fun b hb hlt=>by have h1:=HLT.out;have h2:wr.heap.size≤b:=hb;constructor<;>omega,HSL.out.mono fun b hb hlt=>by have h2:(w1.alloc _).heap.size≤b:=hb;simp only [CL] at h2;constructor<;>omega,rfl⟩
            exact eO
          ·have HE6:Hid (R=some (⟨.mk k ch ng rs lo hii lz ks,fs,true,false⟩,r6)):=ab jG
           clear HE5 hfl;go_wp2_with (go_at_call 25;refine(lv _ HIX.out).mono ?_;rintro e w4 ⟨rfl,rfl⟩)
           refine CJ (v:=.tuple #[.agg #[.int .i64 k,.string ⟨ch.toArray⟩,.bool ng,.slice ra rs.length rc,.int .i64 lo,.int .i64 hii,.bool lz,.slice ka ks.length kc,.slice fa fs.length fcp,.bool true,.bool false],.int .i64 (j2+(m+1)),.bool true]) hJ rfl ⟨?_,?_⟩
           ·(repeat (first|with_reducible exact Below.refl _ _|with_reducible assumption|(refine Below.setCell ?_ gO _)|(refine Below.alloc ?_ gJ _)|(refine Below.drew ?_)))
           ·rw [HE6.out]
            refine⟨_,j2+(m+1),rfl,?_,by omega,by omega,HDR.out⟩;have hT:TfV w3 (fun b=>w.heap.size<b∧b<w3.heap.size) (rxc k ch ng ra rs.length rc lo hii lz ka ks.length kc++[.slice fa fs.length fcp,.bool true,.bool false]) ⟨.mk k ch ng rs lo hii lz ks,fs,true,false⟩ :=
             ⟨_,fa,fcp,HXV3.out.mono fun b hb hlt=>by have h1:=HLT.out;have h2:wr.heap.size≤b:=hb;constructor<;>omega,HSL.out.mono fun b hb hlt=>by have h2:(w1.alloc _).heap.size≤b:=hb;simp only [CL] at h2;constructor<;>omega,rfl⟩
            exact eO
          ·exact aO
          ·exact aO
     ·have b47:((c.toNat:Int)==47)=false:= ii
      have b47':((c.toNat:Int) != 47)=true:=by simp [bne,b47]
      by_cases c92:c.toNat=92
      ·have b92:((c.toNat:Int)==92)=true:= iD
       cases r with
       | nil =>
        have HS2:Hid (rxSp (s.drop (j+1)) (a++[c])=RX):=ab (by rw [Hr.out,←HS.out,hd];simp [rxSp,c47]);have hln:=ll hr;have g4:decide ((j:Int)+1<(s.length:Int))=false:=CP gu;exact bK
       | cons d r2 =>
        obtain⟨k2,k3,kr⟩:=ky hr;have Hkr:=ab kr;have g4:decide ((j:Int)+1<(s.length:Int))=true:=CO gu;have gk0:(0:Int)≤(j:Int)+1:=gu;have gk1:(j:Int)+1<(s.length:Int):=gu;have gk2:((j:Int)+1).toNat=j+1:=gu;by_cases d47:d.toNat=47
        ·have d47b:((d.toNat:Int)==47)=true:= iD
         have d47':((d.toNat:Int) != 47)=false:=by simp [bne,d47b]
         have HS2:Hid (rxSp (s.drop (j+2)) (a++[d])=RX):=ab iP;clear hd HS hr c47 c92 d47 kr;go_wp2_with (at_builtin;refine kz w.heap.size 5 rfl _ _ 46 rfl Tryz.underlying46 hiu rfl gD rfl hown rfl gZ rfl gG gu gD hB ?_;intro v1 w1 hown1 hg1 hb1 hne1)
         go_roundw
         case rel =>
          refine⟨(j+2),(a++[d]),by omega,by omega,by go_num,?_,?_,hb.trans hb1,by simp;omega,HS2⟩
          ·simpa [kR] using hown1
          ·exact gd
         case measure=>simp [intOf];omega
        ·have d47b:((d.toNat:Int)==47)=false:= ii
         have d47':((d.toNat:Int) != 47)=true:=by simp [bne,d47b]
         have HS2:Hid (rxSp (s.drop (j+2)) ((a++[92])++[d])=RX):=ab iP;clear hd HS hr c47 c92 d47 kr;go_wp2_with (at_builtin;first|refine kz w.heap.size 5 rfl _ _ 46 rfl Tryz.underlying46 hiu rfl gD rfl hown rfl gZ rfl gG gu gD hB ?_;intro v1 w1 hown1 hg1 hb1 hne1|refine kz w.heap.size 5 rfl _ _ 46 rfl Tryz.underlying46 hiu rfl gD rfl hown1 rfl gZ rfl gG gu gD (by have:=hb1.size;omega) ?_;intro v2 w2 hown2 hg2 hb2 hne2)
         go_roundw
         case rel =>
          refine⟨(j+2),(a++[92]++[d]),by omega,by omega,by go_num,?_,?_,(hb.trans hb1).trans hb2,by simp;omega,HS2⟩
          ·simpa [kR] using hown2
          ·have hx1:=(hg1.block _ (jO HBY.out) (lB hown HBY.out gD).symm).trans HBY.out
           exact(hg2.block _ (jO hx1) (lB hown1 hx1 gD).symm).trans hx1
         case measure=>simp [intOf];omega
      ·have b92:((c.toNat:Int)==92)=false:= ii
       have HS2:Hid (rxSp (s.drop (j+1)) (a++[c])=RX):=ab (by rw [Hr.out,←HS.out,hd];exact(By c47 c92 r a).symm);exact bK
  ·have b47:((c.toNat:Int)==47)=false:= ii
   have b47':((c.toNat:Int) != 47)=true:=by simp [bne,b47]
   have HE:Hid (R=none):=ab (by rw [hR,hd];simp only [uJ];rw [Co c47]);clear hd hR hr;exact fg
def gk (bare:Bool):Int:=if bare=true then 6 else 5
open Go.RowKit
theorem yF (s:Str) (u v:Int) (w:World) (h:(u=-1∧v=-1)∨∃a b:Nat,a≤b∧b≤s.length∧u=a∧v=b) :
  Calls Tryz.prog 17 #[.string ⟨s.toArray⟩,.agg #[.int .i64 u,.int .i64 v]] w fun e w'=>e=.returned (.string ⟨(lZ s (u,v)).toArray⟩)∧Below w.heap.size w w':=by
 have hb:Below w.heap.size w (w.alloc (.cells #[.int .i64 u,.int .i64 v] 48)):=(Below.refl _ _).alloc (Cp _) _;obtain⟨m,hm⟩:∃m,lZ s (u,v)=m:=⟨_,rfl⟩;rw [hm];have HM:=ab hm;have HB:=ab hb;clear hm hb;rcases h with⟨rfl,rfl⟩|⟨a,b,hab,hbl,rfl,rfl⟩
 ·go_enter Tryz.func17,Tryz.ntmps17
  go_wp2
  go_ret
  exact⟨by rw [←HM.out];rfl,HB.out⟩
 ·have ha:¬(a:Int)<0:=gu
  go_enter Tryz.func17,Tryz.ntmps17
  go_wp2
  go_ret
  refine⟨?_,HB.out⟩;rw [←HM.out];unfold lZ kZ;rw [Co (show ¬(a:Int)<0 by omega)];simp
open Go.RowKit
theorem OwnM.rd {w:World} {D:Nat} {offs:List Nat} {n:Nat} {v:Value} {ms:List Mt} (h:OwnM w D offs n v ms) {k:Nat} {m:Mt} (hk:ms[k]?=some m) :
  ∃b c aa cp,v=.slice (some ⟨b,0,none⟩) ms.length c∧b<w.heap.size∧w.cell? ⟨b,k*3,none⟩=some (.int .i64 ((offs.getD m.1 0:Nat):Int))∧w.cell? ⟨b,k*3+1,none⟩=some (.int .i64 ((offs.getD m.2.1 0:Nat):Int)) ∧
   w.cell? ⟨b,k*3+2,none⟩=some (.slice aa n cp)∧Sl w w.heap.size aa 2 n (jV m.2.2)∧m.2.2.length=n:=by
 obtain⟨css,h1,h2⟩:=h;obtain⟨cc,e1,aa,cp,rfl,h3,h4,_⟩:=h2.at_ hk;have hlt:=(Cq.1 hk).1;rcases h1.2 with⟨_,h0⟩|⟨b,cap,cur,rfl,_,_,_,_⟩
 ·omega
 ·obtain⟨b',o,e2,hlt',hc⟩:=(Sl.of_own h1).2 gu
  injection e2 with e2
  injection e2 with e2 e3 _
  subst e2;subst e3;have hh:=h2.three;refine⟨b,cap,aa,cp,rfl,hlt',?_,?_,?_,SlS.sl h3,h4⟩
  ·have:=hc (k*3+0) _ (mw hh e1 (j:=0) rfl);simpa using this
  ·have:=hc (k*3+1) _ (mw hh e1 (j:=1) rfl);simpa using this
  ·have:=hc (k*3+2) _ (mw hh e1 (j:=2) rfl);simpa using this
def PtRel (s p0:Str) (sp:List (Int × Int)) (W0:World) (v q:Value) (wr:World):Prop :=
 ∃j:Nat,j≤sp.length∧q=.int .i64 j∧wr.ownsRow W0.heap.size 9 1 v (j+1) (kv (p0::(sp.take j).map (lZ s)))∧Below W0.heap.size W0 wr
def FoRel (fs:List Fm) (ps:List Str) (W1:World) (D2:Nat) (pv:Value) (np:Nat) (g15:Nat) (mo:Obj) (PO:Str) (v q:Value) (wr:World):Prop :=
 ∃(j:Nat) (out:Str),j≤fs.length∧q=.int .i64 j∧wr.ownsRow W1.heap.size 5 1 v out.length (kR out)∧wr.ownsRow D2 9 1 pv np (kv ps)∧wr.heap[g15]?=some mo∧Below W1.heap.size W1 wr∧out.length≤2000000∧Hid (putM ps (fs.drop j) out=PO)
def AlyRel (s:Str) (offs:List Nat) (fs:List Fm) (ms:List Mt) (W1:World) (G:Option (Nat × Str)) (v12 v13 q:Value) (wr:World):Prop :=
 ∃(k at_:Nat) (out:Str),k≤ms.length∧q=.int .i64 k∧v13=.int .i64 at_∧wr.ownsRow W1.heap.size 5 1 v12 out.length (kR out)∧Below W1.heap.size W1 wr∧at_≤s.length∧out.length≤65536∧Hid (∀m,ms[k]?=some m→at_≤offs.getD m.1 0)∧Hid (goM s offs fs (ms.drop k) at_ out=G)
open Go.RowKit
def pA:List (Str × Str)→Int→Option Int
 | [],n=>some n
 | r::rs,n=>if n≤r.1.length∨n≤r.2.length then none else pA rs (n-1-r.1.length-r.2.length)
namespace Rx
mutual
def left:Rx→Int→Int
 | mk _ c _ rs _ _ _ ks,n=>if n≤c.length∨n≤rs.length∨n≤ks.length then -1 else
  (match pA rs (n-1-c.length) with
   | none=>-1
   | some m=>leftK ks m)
def leftK:List Rx→Int→Int
 | [],n=>n
 | x::r,n=>if n<0 then n else leftK r (left x n)
end
def finK (ks:List Rx):Option Int→Int
 | none=>-1
 | some m=>leftK ks m
def mem1:Rx→Prop
 | mk _ c _ rs _ _ _ ks=>c.length≤maxLen∧rs.length≤maxLen∧(∀r∈rs,r.1.length≤maxLen∧r.2.length≤maxLen)∧ks.length≤maxLen
mutual
def mem:Rx→Prop
 | mk k c ng rs lo hi lz ks=>mem1 (mk k c ng rs lo hi lz ks)∧memL ks
def memL:List Rx→Prop
 | []=>True
 | x::r=>mem x∧memL r
end
end Rx
theorem yG:∀{ks:List Rx} {x:Rx},Rx.memL ks→x∈ks→x.mem
 | [],_,_,h=>by simp at h
 | y::r,x,hs,h=>by
  simp only [Rx.memL] at hs;rcases Cz.1 h with rfl|h
  ·exact hs.1
  ·exact yG hs.2 h
theorem tP:∀(rs:List (Str × Str)) (n m:Int),pA rs n=some m→m≤n∧(-1000≤n→n≤1000→-1000≤m)
 | [],n,m,h=>by simp only [pA] at h;injection h with h;subst h;omega
 | r::rs,n,m,h=>by
  simp only [pA] at h;split at h
  ·cases h
  ·rename_i hc
   have:=tP rs _ m h
   refine⟨by omega,fun a b=>?_⟩;by_cases hn:-1000≤n-1-r.1.length-r.2.length
   ·exact this.2 hn gu
   ·exfalso;omega
theorem wm:∀(N:Nat) (x:Rx) (n:Int),x.parts≤N→-1000≤n→n≤1000→-1000≤x.left n∧x.left n≤1000
 | 0,x,_,h,_,_=>by have:=Rx.parts_pos x;omega
 | N+1,.mk k c ng rs lo hi lz ks,n,h,h0,h1=>by
  simp only [Rx.parts] at h;have hk:∀(l:List Rx) (m:Int),Rx.partsL l≤N→-1000≤m→m≤1000→-1000≤Rx.leftK l m∧Rx.leftK l m≤1000:=by
   intro l;induction l with
   | nil=>intro m _ a b;simp only [Rx.leftK];exact⟨a,b⟩
   | cons x r ih =>
    intro m hm a b;simp only [Rx.partsL] at hm;simp only [Rx.leftK];split
    ·exact⟨a,b⟩
    ·have:=wm N x m gu a b
     exact ih _ gu this.1 this.2
  simp only [Rx.left];split
  ·omega
  ·rename_i hc
   split
   ·omega
   ·rename_i m hm
    have h2:=tP rs _ m hm;exact hk ks m gu (h2.2 gu gu) gu
def LrRel (rs:List (Str × Str)) (R:Option Int) (w:World) (s q:Value) (wr:World):Prop :=
 ∃(k:Nat) (m:Int),k≤rs.length∧q=.int .i64 k∧s=.int .i64 m∧-1000≤m∧m≤1000∧Below w.heap.size w wr∧Hid (pA (rs.drop k) m=R)
def LkRel (ks:List Rx) (R:Int) (w:World) (s q:Value) (wr:World):Prop :=
 ∃(k:Nat) (m:Int),k≤ks.length∧q=.int .i64 k∧s=.int .i64 m∧-1000≤m∧m≤1000∧Below w.heap.size w wr∧Hid (Rx.leftK (ks.drop k) m=R)
theorem uW (S:Nat→Prop):∀(N:Nat) (x:Rx),x.parts≤N→x.mem→∀(cc:List Value) (w:World) (n:Int),RxV w S cc x→-1000≤n→n≤1000 →
  Calls Tryz.prog 13 #[.agg cc.toArray,.int .i64 n] w fun e w'=>e=.returned (.int .i64 (x.left n))∧Below w.heap.size w w'
 | 0,x,h,_,_,_,_,_,_,_=>by have:=Rx.parts_pos x;omega
 | N+1,.mk k c ng rs lo hi lz ks,h,hmem,cc,w,n,hv,hn0,hn1=>by
  obtain⟨ra,rc,ka,kc,rfl,hrs,hx⟩:=hv.open_;simp only [Rx.parts] at h;obtain⟨⟨m1,m2,m3,m4⟩,hmemL⟩:=hmem;unfold maxLen at m1 m2 m3 m4;have ih:=fun(y:Rx) (hy:y∈ks)=>uW S N y iG (yG hmemL hy)
  have ihb:=fun(y:Rx) (hy:y∈ks) (m:Int)=>wm N y m iG
  have IH:=ab ih;have IHB:=ab ihb;have M3:=ab m3;obtain⟨w0,hw0⟩:∃w0,w0=w.alloc (.cells #[.int .i64 k,.string ⟨c.toArray⟩,.bool ng,.slice ra rs.length rc,.int .i64 lo,.int .i64 hi,.bool lz,.slice ka ks.length kc] 25):=⟨_,rfl⟩;have hb0:Below w.heap.size w w0:=by rw [hw0];exact(Below.refl _ _).alloc (Cp _) _
  have HX:=ab (hx.later hb0);have HRS:=ab (hrs.keep (Kept.all hb0)).sl;have z3:w0.cell? ⟨w.heap.size,3,none⟩=some (.slice ra rs.length rc):=by rw [hw0];simp
  have z7:w0.cell? ⟨w.heap.size,7,none⟩=some (.slice ka ks.length kc):=by rw [hw0];simp
  have Z3:=ab z3;have Z7:=ab z7;clear hx hv hrs ih ihb hmemL z3 z7 m3;unfold rxc;by_cases hout:n≤c.length∨n≤rs.length∨n≤ks.length
  ·have HR:Hid ((Rx.mk k c ng rs lo hi lz ks).left n=-1):=ab (by simp only [Rx.left];rw [Cl hout])
   rw [HR.out];clear hw0;go_enter Tryz.func13,Tryz.ntmps13
   go_wp2
   all_goals first
    | (go_ret;exact⟨rfl,(Below.refl _ _).alloc (Cp _) _⟩)
    | (exfalso;omega)
  ·have h1:(c.length:Int)<n:=gu
   have h2:(rs.length:Int)<n:=gu;have h3:(ks.length:Int)<n:=gu;obtain⟨R,hR⟩:∃R,pA rs (n-1-c.length)=R:=⟨_,rfl⟩;have HR0:Hid (pA (rs.drop 0) (n-1-c.length)=R):=ab hR;have HE:Hid ((Rx.mk k c ng rs lo hi lz ks).left n=Rx.finK ks R):=ab (by simp only [Rx.left];rw [Co hout,hR];cases R<;>rfl);rw [HE.out];have hR1:∀m,R=some m→-1000≤m∧m≤1000:=fun m hm=>by
    have:=tP rs _ m (hR.trans hm);omega
   have HR1:=ab hR1;clear hout hR hR1;go_enter Tryz.func13,Tryz.ntmps13
   go_wp2
   rw [←hw0];have HW0:=ab hw0;clear hw0;go_loopw [1,5] (fun s q wr=>LrRel rs R w0 s q wr) (fun _ q _=>rs.length-(intOf q).toNat)
   case atStart=>exact⟨0,n-1-c.length,by omega,rfl,rfl,by omega,by omega,Below.refl _ _,HR0⟩
   case round =>
    obtain⟨i,m,hi,rfl,rfl,hm0,hm1,hb,HF⟩:=hrel;clear HR0;have hB:=hb.size;have z3:wr.cell? ⟨w.heap.size,3,none⟩=some (.slice ra rs.length rc):=jP hb _ _ Z3.out;have hbb:=hb0.trans (hb.mono hb0.size);cases hd:rs.drop i with
    | nil =>
     have hge:rs.length≤i:=gU;have hie:i=rs.length:=gu;have HE2:Hid (R=some m):=ab gY;have HX1:=ab (HX.out.later hb);have HK0:Hid (Rx.leftK (ks.drop 0) m=Rx.leftK ks m):=ab rfl;obtain⟨T,hT⟩:∃T,Rx.leftK ks m=T:=⟨_,rfl⟩;rw [hT] at HK0;have HFK:Hid (Rx.finK ks R=T):=ab (by rw [HE2.out];exact hT);have Z7r:=ab (jP hb _ _ Z7.out);clear hd HF hT;subst hie;clear hge hi;obtain⟨wo,rfl⟩:∃wo:World,wo=wr:=⟨_,rfl⟩;go_wp2
     go_loopw [1,6] (fun s q wk=>LkRel ks T wo s q wk) (fun _ q _=>ks.length-(intOf q).toNat)
     case atStart=>exact⟨0,m,by omega,rfl,rfl,hm0,hm1,Below.refl _ _,HK0⟩
     case round =>
      obtain⟨j,m',hj,rfl,rfl,hk0,hk1,hbk,HG⟩:=hrel;clear HK0;have hBk:=hbk.size;have z7:wr.cell? ⟨w.heap.size,7,none⟩=some (.slice ka ks.length kc):=jP hbk _ _ Z7r.out;have hbbk:=hbb.trans (hbk.mono hbb.size);cases hd:ks.drop j with
      | nil =>
       have hge2:ks.length≤j:=gU;have HT:Hid (m'=T):=ab (by rw [←HG.out,hd];rfl);clear hd HG;go_wp2
       go_ret
       exact⟨lD (by rw [HFK.out];exact HT.out),hbbk⟩
      | cons y r =>
       obtain⟨g2,g3,hr⟩:=j6 hd;have hym:=CF g3;obtain⟨yk,yc,yn,yr,yl,yh,yz,ys⟩:=y;obtain⟨b,o,ya,yrc,yka,ykc,rfl,hS,hbB,_,_,hyv,c0,c1,c2,c3,c4,c5,c6,c7⟩:=(HX1.out.later hbk).cells g3;have Hr:=ab hr;have HG2:Hid (Rx.leftK (.mk yk yc yn yr yl yh yz ys::r) m'=T):=ab (by rw [←HG.out,hd]);have HYV:=ab hyv;unfold rxc at HYV;clear hd HG hr g3 hyv;by_cases hneg:m'<0
       ·have HT:Hid (m'=T):=ab (by rw [←HG2.out];simp only [Rx.leftK];rw [Cl hneg])
        go_wp2
        go_ret
        exact⟨lD (by rw [HFK.out];exact HT.out),hbbk⟩
       ·have HT:Hid (Rx.leftK r ((Rx.mk yk yc yn yr yl yh yz ys).left m')=T):=ab (by rw [←HG2.out];simp only [Rx.leftK];rw [Co hneg])
        have hpos:0≤m':=by omega
        obtain⟨b1,b2⟩:=IHB.out _ hym m' hk0 hk1;clear hneg;go_wp2_with (go_at_call 13;refine(IH.out _ hym _ _ m' HYV.out hk0 hk1).mono ?_)
        first|rintro e w2 rfl hb2|rintro e w2 ⟨rfl,hb2⟩
        go_wp2
        go_roundw
        case rel=>exact⟨j+1,_,by omega,by go_num,rfl,b1,b2,hbk.trans (hb2.mono hBk),ab (by rw [Hr.out];exact HT.out)⟩
        case measure=>simp [intOf];omega
    | cons r0 r =>
     obtain⟨g2,g3,hr⟩:=j6 hd;obtain⟨b,o,rfl,hbB,c0,c1⟩:=(HRS.out.keep (hb.mono (Cp _))).row g3;obtain⟨l1,l2⟩:=M3.out r0 (CF g3);obtain⟨f,t⟩:=r0;replace l1:f.length≤2 ^ 63-1:=l1;replace l2:t.length≤2 ^ 63-1:=l2;replace c0:wr.cell? ⟨b,o+i*2,none⟩=some (.string ⟨f.toArray⟩):=c0;replace c1:wr.cell? ⟨b,o+i*2+1,none⟩=some (.string ⟨t.toArray⟩):=c1;have Hr:=ab hr;have HF2:Hid (pA ((f,t)::r) m=R):=ab jy;clear hd HF hr g3;by_cases hc:m≤f.length∨m≤t.length
     ·have HRN:Hid (R=none):=ab (by rw [←HF2.out];simp only [pA];rw [Cl hc])
      go_wp2
      all_goals first
       | (go_ret;exact⟨lD (by rw [HRN.out];rfl),hbb⟩)
       | (exfalso;omega)
     ·have HRN:Hid (pA r (m-1-f.length-t.length)=R):=ab (by rw [←HF2.out];simp only [pA];rw [Co hc])
      have hcf:(f.length:Int)<m:=gu;have hct:(t.length:Int)<m:=gu;have x3:∀x:ExtOf wr,x.val.cell? ⟨w.heap.size,3,none⟩=some (.slice (some ⟨b,o,none⟩) rs.length rc):=ExtOf.cell z3;have x0:∀x:ExtOf wr,x.val.cell? ⟨b,o+i*2,none⟩=some (.string ⟨f.toArray⟩):=ExtOf.cell c0;have x1:∀x:ExtOf wr,x.val.cell? ⟨b,o+i*2+1,none⟩=some (.string ⟨t.toArray⟩):=ExtOf.cell c1;clear hc;go_wp2
      refine jS gE gE ?_;repeat (go_big_quiet_step ((fail)))
      refine wpQuiet_nil ?_;rintro _ ⟨xq,rfl⟩;go_wp2
      go_roundw
      case rel=>exact⟨i+1,m-1-f.length-t.length,by omega,by go_num,by go_num,by omega,by omega,hb.trans (xq.ext.mono hB),ab (by rw [Hr.out];exact HRN.out)⟩
      case measure=>simp [intOf];omega
end Go.Proofs.YtjggmmaojklmpaaGreat
