/- walk of fmts.part -/
import Derived.Test.YtbgcjpefocdkkaaGreatSm1
import Derived.Test.YtbgcjpefocdkkaaGreatSm11
import Derived.Test.YtbgcjpefocdkkaaGreatSm12
import Derived.Lib.ItoaMem
import Derived.Test.YtbgcjpefocdkkaaGreatSm2
import Derived.Test.YtbgcjpefocdkkaaGreatSm3
import Derived.Test.YtbgcjpefocdkkaaGreatSm4
import Derived.Test.YtbgcjpefocdkkaaGreatSm5
import Derived.Test.YtbgcjpefocdkkaaGreatSm6
import Derived.Test.YtbgcjpefocdkkaaGreatSm7
import Derived.Test.YtbgcjpefocdkkaaGreatSm8
import Derived.Test.YtbgcjpefocdkkaaGreatSm9
import Derived.Test.YtbgcjpefocdkkaaGreatSm10
set_option maxRecDepth 100000
namespace Go.Proofs.YtbgcjpefocdkkaaGreat
open Go.RowKit
theorem numberF_some {l r:Str} {i:Int} {n:Nat} (w:World) (h0:0≤i) (h1:i≤1000000) (hs:l.length≤1000000) (hN:numRF (l.drop i.toNat)=some (n,r)) :
  Calls Tryz.prog 107 #[.string ⟨(l).toArray⟩,.int .i64 i] w fun e w'=>w=w'∧n<10000∧∃j:Nat,i<j∧j≤l.length∧l.drop j=r∧e=.returned (.tuple #[.int .i64 n,.int .i64 j,.bool true]):=by
 refine(numberF_any l i w h0 (by omega) (by omega)).mono ?_
 rintro e w1 ⟨hw,hp⟩;rw [hN] at hp;exact⟨hw,hp⟩
theorem numberF_none {l:Str} {i:Int} (w:World) (h0:0≤i) (h1:i≤1000000) (hs:l.length≤1000000) (hN:numRF (l.drop i.toNat)=none) :
  Calls Tryz.prog 107 #[.string ⟨(l).toArray⟩,.int .i64 i] w fun e w'=>w=w'∧e=.returned (.tuple #[.int .i64 0,.int .i64 i,.bool false]):=by
 refine(numberF_any l i w h0 (by omega) (by omega)).mono ?_
 rintro e w1 ⟨hw,hp⟩;rw [hN] at hp;exact⟨hw,hp⟩
theorem braced_some {l r:Str} {i n:Nat} {f:Fm} (w:World) (h1:i≤900000) (hs:l.length≤900000) (hB:bracedR (l.drop i) n=some (f,r)) :
  Calls Tryz.prog 109 #[.string ⟨(l).toArray⟩,.int .i64 i,.int .i64 n] w fun e w'=>Below w.heap.size w w'∧f.thn.length≤l.length∧f.els.length≤l.length∧∃j:Nat,i<j∧j≤l.length∧l.drop j=r∧e=.returned (.tuple #[.agg #[.int .i64 (f).kind,.int .i64 (f).n,.int .i64 (f).cse,.string ⟨((f).thn).toArray⟩,.string ⟨((f).els).toArray⟩],.int .i64 j,.bool true]):=by
 refine(braced_any l i n w h1 hs).mono ?_
 rintro e w1 ⟨hb,hp⟩;rw [hB] at hp;exact⟨hb,hp⟩
theorem braced_none {l:Str} {i n:Nat} (w:World) (h1:i≤900000) (hs:l.length≤900000) (hB:bracedR (l.drop i) n=none) :
  Calls Tryz.prog 109 #[.string ⟨(l).toArray⟩,.int .i64 i,.int .i64 n] w fun e w'=>Below w.heap.size w w'∧e=.returned (.tuple #[.agg #[.int .i64 0,.int .i64 0,.int .i64 0,.string ⟨#[]⟩,.string ⟨#[]⟩],.int .i64 0,.bool false]):=by
 refine(braced_any l i n w h1 hs).mono ?_
 rintro e w1 ⟨hb,hp⟩;rw [hB] at hp;exact⟨hb,hp⟩
set_option maxHeartbeats 4000000 in
theorem part_any (l:Str) (i:Nat) (w:World) (h1:i≤800000) (hs:l.length≤800000) :
  Calls Tryz.prog 92 #[.string ⟨(l).toArray⟩,.int .i64 i] w fun e w'=>Below w.heap.size w w'∧PartPost l i (partR (l.drop i)) e:=by
 generalize hR:partR (l.drop i)=R
 have HR:=Lib.hid hR;clear hR;cases hN:numRF (l.drop i) with
 | some p =>
  obtain⟨n,r⟩:=p;have HN:Hid (numRF (l.drop (i:Int).toNat)=some (n,r)):=Lib.hid (by rw [Int.toNat_natCast];exact hN);have HE:Hid (R=some (⟨1,n,0,[],[]⟩,r)):=Lib.hid (by rw [←HR.out];simp [partR,hN]);clear hN HR;go_enter Tryz.func92,Tryz.ntmps92
  go_wp2_with (go_at_call 107;refine(numberF_some _ (by omega) (by omega) (by omega) HN.out).mono ?_;rintro e w1 ⟨rfl,hn,j,hj1,hj2,hj3,rfl⟩;have HJ:=Lib.hid hj3;clear hj3)
  refine bodyPost_ret (v:=.tuple #[.agg #[.int .i64 1,.int .i64 n,.int .i64 0,.string ⟨([]).toArray⟩,.string ⟨([]).toArray⟩],.int .i64 j,.bool true]) (by simp [results,Tryz.results92,go_sem]) rfl ⟨?_,?_⟩
  ·(repeat (first|with_reducible exact Below.refl _ _|with_reducible assumption|(refine Below.setCell ?_ (by first|(simp;done)|omega) _)|(refine Below.alloc ?_ (by first|(simp;done)|(simp;omega)|omega) _)|(refine Below.drew ?_)))
  ·rw [HE.out];exact⟨by simp,by simp,j,by omega,hj2,HJ.out,by simp⟩
 | none =>
  have HN:Hid (numRF (l.drop (i:Int).toNat)=none):=Lib.hid (by rw [Int.toNat_natCast];exact hN);have HP:Hid (R=partB (l.drop i)):=Lib.hid (by
   rw [←HR.out];simp [partR,hN])
  clear hN HR;cases hd:l.drop i with
  | nil =>
   have h2:=drop_nil hd;have HE:Hid (R=none):=Lib.hid (by rw [HP.out,hd];rfl);have e1:List.isPrefixOf [123] (List.drop i l)=false:=by rw [hd];rfl
   clear hd HP;go_enter Tryz.func92,Tryz.ntmps92
   go_wp2_with (first|(go_at_call 108;refine(has_any _ _ _ _ (by omega) (by omega) (by simp)).mono ?_;rintro e w1 ⟨rfl,rfl⟩)|(go_at_call 107;refine(numberF_none _ (by omega) (by omega) (by omega) HN.out).mono ?_;rintro e w1 ⟨rfl,rfl⟩))
   refine bodyPost_ret (v:=.tuple #[.agg #[.int .i64 0,.int .i64 0,.int .i64 0,.string ⟨#[]⟩,.string ⟨#[]⟩],.int .i64 0,.bool false]) (by simp [results,Tryz.results92,go_sem]) rfl ⟨?_,by rw [HE.out];rfl⟩
   (repeat (first|with_reducible exact Below.refl _ _|with_reducible assumption|(refine Below.setCell ?_ (by first|(simp;done)|omega) _)|(refine Below.alloc ?_ (by first|(simp;done)|(simp;omega)|omega) _)|(refine Below.drew ?_)))
  | cons c r1 =>
   obtain⟨h2,h3,hr⟩:=drop_cons hd;have Hr:=Lib.hid hr;clear hr h3;by_cases hc:c.toNat=123
   ·have HP1:Hid (R=match numRF r1 with|none=>none|some p=>partC p.1 p.2):=Lib.hid (by rw [HP.out,hd];exact if_pos hc)
    have e1:List.isPrefixOf [123] (List.drop i l)=true:=by rw [hd,pre1];simp;omega
    clear hc hd HP;cases hM:numRF r1 with
    | none =>
     have HM:Hid (numRF (l.drop ((i:Int)+1).toNat)=none):=Lib.hid (by rw [show ((i:Int)+1).toNat=i+1 by omega,Hr.out];exact hM);have HE:Hid (R=none):=Lib.hid (by rw [HP1.out,hM]);clear hM HP1;go_enter Tryz.func92,Tryz.ntmps92
     go_wp2_with (go_at_call 107;refine(numberF_none _ (by omega) (by omega) (by omega) HN.out).mono ?_)
     rintro e w1 ⟨rfl,rfl⟩;go_wp2_with (first|(go_at_call 108;refine(has_any _ _ _ _ (by omega) (by omega) (by simp)).mono ?_;rintro e w1 ⟨rfl,rfl⟩)|(go_at_call 107;refine(numberF_none _ (by omega) (by omega) (by omega) HM.out).mono ?_;rintro e w1 ⟨rfl,rfl⟩))
     refine bodyPost_ret (v:=.tuple #[.agg #[.int .i64 0,.int .i64 0,.int .i64 0,.string ⟨#[]⟩,.string ⟨#[]⟩],.int .i64 0,.bool false]) (by simp [results,Tryz.results92,go_sem]) rfl ⟨?_,by rw [HE.out];rfl⟩
     (repeat (first|with_reducible exact Below.refl _ _|with_reducible assumption|(refine Below.setCell ?_ (by first|(simp;done)|omega) _)|(refine Below.alloc ?_ (by first|(simp;done)|(simp;omega)|omega) _)|(refine Below.drew ?_)))
    | some p =>
     obtain⟨n,r2⟩:=p;have HM:Hid (numRF (l.drop ((i:Int)+1).toNat)=some (n,r2)):=Lib.hid (by rw [show ((i:Int)+1).toNat=i+1 by omega,Hr.out];exact hM);have HP2:Hid (R=partC n r2):=Lib.hid (by rw [HP1.out,hM]);clear hM HP1;go_enter Tryz.func92,Tryz.ntmps92
     go_wp2_with (go_at_call 107;refine(numberF_none _ (by omega) (by omega) (by omega) HN.out).mono ?_)
     rintro e w1 ⟨rfl,rfl⟩;go_wp2_with (first|(go_at_call 108;refine(has_any _ _ _ _ (by omega) (by omega) (by simp)).mono ?_;rintro e w1 ⟨rfl,rfl⟩)|(go_at_call 107;refine(numberF_some _ (by omega) (by omega) (by omega) HM.out).mono ?_))
     rintro e w1 ⟨rfl,hn,j,hj1,hj2,hj3,rfl⟩;cases r2 with
     | nil =>
      have HE:Hid (R=none):=HP2;have e2:List.isPrefixOf [125] (List.drop j l)=false:=by rw [hj3];rfl
      have e3:List.isPrefixOf [58] (List.drop j l)=false:=by rw [hj3];rfl
      clear hj3;go_wp2_with (go_at_call 108;refine(has_any _ _ _ _ (by omega) (by omega) (by simp)).mono ?_;rintro e w1 ⟨rfl,rfl⟩)
      refine bodyPost_ret (v:=.tuple #[.agg #[.int .i64 0,.int .i64 0,.int .i64 0,.string ⟨#[]⟩,.string ⟨#[]⟩],.int .i64 0,.bool false]) (by simp [results,Tryz.results92,go_sem]) rfl ⟨?_,by rw [HE.out];rfl⟩
      (repeat (first|with_reducible exact Below.refl _ _|with_reducible assumption|(refine Below.setCell ?_ (by first|(simp;done)|omega) _)|(refine Below.alloc ?_ (by first|(simp;done)|(simp;omega)|omega) _)|(refine Below.drew ?_)))
     | cons d r3 =>
      have HJ:=Lib.hid (drop_cons hj3).2.2;have hjl:=(drop_cons hj3).1;by_cases hd1:d.toNat=125
      ·have HE:Hid (R=some (⟨1,n,0,[],[]⟩,r3)):=Lib.hid (by rw [HP2.out];exact if_pos hd1)
       have e2:List.isPrefixOf [125] (List.drop j l)=true:=by rw [hj3,pre1];simp;omega
       clear hj3 hd1;go_wp2_with (go_at_call 108;refine(has_any _ _ _ _ (by omega) (by omega) (by simp)).mono ?_;rintro e w1 ⟨rfl,rfl⟩)
       refine bodyPost_ret (v:=.tuple #[.agg #[.int .i64 1,.int .i64 n,.int .i64 0,.string ⟨([]).toArray⟩,.string ⟨([]).toArray⟩],.int .i64 (j+1),.bool true]) (by simp [results,Tryz.results92,go_sem]) rfl ⟨?_,?_⟩
       ·(repeat (first|with_reducible exact Below.refl _ _|with_reducible assumption|(refine Below.setCell ?_ (by first|(simp;done)|omega) _)|(refine Below.alloc ?_ (by first|(simp;done)|(simp;omega)|omega) _)|(refine Below.drew ?_)))
       ·rw [HE.out];exact⟨by simp,by simp,j+1,by omega,by omega,HJ.out,by simp⟩
      ·have e2:List.isPrefixOf [125] (List.drop j l)=false:=by rw [hj3,pre1];simp;omega
       by_cases hd2:d.toNat=58
       ·have HP3:Hid (R=bracedR r3 n):=Lib.hid (by rw [HP2.out];exact(if_neg hd1).trans (if_pos hd2))
        have e3:List.isPrefixOf [58] (List.drop j l)=true:=by rw [hj3,pre1];simp;omega
        clear hj3 hd1 hd2;cases hB:bracedR r3 n with
        | none =>
         have HE:Hid (R=none):=Lib.hid (by rw [HP3.out,hB]);have HB:Hid (bracedR (l.drop (j+1)) n=none):=Lib.hid (by rw [HJ.out];exact hB);clear hB;have ej:((j:Int)+1)=((j+1:Nat):Int):=by omega
         have EJ:=Lib.hid ej;clear ej;go_wp2_with (first|(go_at_call 108;refine(has_any _ _ _ _ (by omega) (by omega) (by simp)).mono ?_;rintro e w1 ⟨rfl,rfl⟩)|(go_at_call 109;rw [EJ.out];refine(braced_none _ (by omega) (by omega) HB.out).mono ?_;rintro e w1 ⟨hb1,rfl⟩;obtain⟨hc1,hf1⟩:=bcell hb1;have z0:w1.cell? ⟨w.heap.size,0,none⟩=some (.int .i64 0):=(by rw [hc1 _ _ (by first|(simp;done)|(simp;omega))];simp);have z1:w1.cell? ⟨w.heap.size,1,none⟩=some (.int .i64 0):=(by rw [hc1 _ _ (by first|(simp;done)|(simp;omega))];simp);have z2:w1.cell? ⟨w.heap.size,2,none⟩=some (.int .i64 0):=(by rw [hc1 _ _ (by first|(simp;done)|(simp;omega))];simp);have z3:w1.cell? ⟨w.heap.size,3,none⟩=some (.string ⟨#[]⟩):=(by rw [hc1 _ _ (by first|(simp;done)|(simp;omega))];simp);have z4:w1.cell? ⟨w.heap.size,4,none⟩=some (.string ⟨#[]⟩):=(by rw [hc1 _ _ (by first|(simp;done)|(simp;omega))];simp);have hbw:Below w.heap.size w w1:=((Below.refl w.heap.size w).alloc (Nat.le_refl _) _).trans (hb1.mono (by simp))))
         refine bodyPost_ret (v:=.tuple #[.agg #[.int .i64 0,.int .i64 0,.int .i64 0,.string ⟨#[]⟩,.string ⟨#[]⟩],.int .i64 0,.bool false]) (by simp [results,Tryz.results92,go_sem,z0,z1,z2,z3,z4]) rfl ⟨?_,by rw [HE.out];rfl⟩
         (repeat (first|with_reducible exact Below.refl _ _|with_reducible assumption|(refine Below.setCell ?_ (by first|(simp;done)|omega) _)|(refine Below.alloc ?_ (by first|(simp;done)|(simp;omega)|omega) _)|(refine Below.drew ?_)))
        | some q =>
         obtain⟨⟨fk,fn,fc,ft,fe⟩,r4⟩:=q;have HE:Hid (R=some (⟨fk,fn,fc,ft,fe⟩,r4)):=Lib.hid (by rw [HP3.out,hB]);have HB:Hid (bracedR (l.drop (j+1)) n=some (⟨fk,fn,fc,ft,fe⟩,r4)):=Lib.hid (by rw [HJ.out];exact hB);clear hB;have ej:((j:Int)+1)=((j+1:Nat):Int):=by omega
         have EJ:=Lib.hid ej;clear ej;go_wp2_with (first|(go_at_call 108;refine(has_any _ _ _ _ (by omega) (by omega) (by simp)).mono ?_;rintro e w1 ⟨rfl,rfl⟩)|(go_at_call 109;rw [EJ.out];refine(braced_some _ (by omega) (by omega) HB.out).mono ?_;rintro e w1 ⟨hb1,ht1,ht2,k,hk1,hk2,hk3,rfl⟩;obtain⟨hc1,hf1⟩:=bcell hb1;have z0:w1.cell? ⟨w.heap.size,0,none⟩=some (.int .i64 0):=(by rw [hc1 _ _ (by first|(simp;done)|(simp;omega))];simp);have z1:w1.cell? ⟨w.heap.size,1,none⟩=some (.int .i64 0):=(by rw [hc1 _ _ (by first|(simp;done)|(simp;omega))];simp);have z2:w1.cell? ⟨w.heap.size,2,none⟩=some (.int .i64 0):=(by rw [hc1 _ _ (by first|(simp;done)|(simp;omega))];simp);have z3:w1.cell? ⟨w.heap.size,3,none⟩=some (.string ⟨#[]⟩):=(by rw [hc1 _ _ (by first|(simp;done)|(simp;omega))];simp);have z4:w1.cell? ⟨w.heap.size,4,none⟩=some (.string ⟨#[]⟩):=(by rw [hc1 _ _ (by first|(simp;done)|(simp;omega))];simp);have hbw:Below w.heap.size w w1:=((Below.refl w.heap.size w).alloc (Nat.le_refl _) _).trans (hb1.mono (by simp));have HK3:=Lib.hid hk3;clear hk3))
         refine bodyPost_ret (v:=.tuple #[.agg #[.int .i64 fk,.int .i64 fn,.int .i64 fc,.string ⟨(ft).toArray⟩,.string ⟨(fe).toArray⟩],.int .i64 k,.bool true]) (by simp [results,Tryz.results92,go_sem,z0,z1,z2,z3,z4]) rfl ⟨?_,?_⟩
         ·(repeat (first|with_reducible exact Below.refl _ _|with_reducible assumption|(refine Below.setCell ?_ (by first|(simp;done)|omega) _)|(refine Below.alloc ?_ (by first|(simp;done)|(simp;omega)|omega) _)|(refine Below.drew ?_)))
         ·rw [HE.out];exact⟨ht1,ht2,k,by omega,hk2,HK3.out,by simp⟩
       ·have HE:Hid (R=none):=Lib.hid (by rw [HP2.out];exact(if_neg hd1).trans (if_neg hd2))
        have e3:List.isPrefixOf [58] (List.drop j l)=false:=by rw [hj3,pre1];simp;omega
        clear hj3 hd1 hd2;go_wp2_with (go_at_call 108;refine(has_any _ _ _ _ (by omega) (by omega) (by simp)).mono ?_;rintro e w1 ⟨rfl,rfl⟩)
        refine bodyPost_ret (v:=.tuple #[.agg #[.int .i64 0,.int .i64 0,.int .i64 0,.string ⟨#[]⟩,.string ⟨#[]⟩],.int .i64 0,.bool false]) (by simp [results,Tryz.results92,go_sem]) rfl ⟨?_,by rw [HE.out];rfl⟩
        (repeat (first|with_reducible exact Below.refl _ _|with_reducible assumption|(refine Below.setCell ?_ (by first|(simp;done)|omega) _)|(refine Below.alloc ?_ (by first|(simp;done)|(simp;omega)|omega) _)|(refine Below.drew ?_)))
   ·have HE:Hid (R=none):=Lib.hid (by rw [HP.out,hd];exact if_neg hc)
    have e1:List.isPrefixOf [123] (List.drop i l)=false:=by rw [hd,pre1];simp;omega
    clear hc hd HP;go_enter Tryz.func92,Tryz.ntmps92
    go_wp2_with (first|(go_at_call 108;refine(has_any _ _ _ _ (by omega) (by omega) (by simp)).mono ?_;rintro e w1 ⟨rfl,rfl⟩)|(go_at_call 107;refine(numberF_none _ (by omega) (by omega) (by omega) HN.out).mono ?_;rintro e w1 ⟨rfl,rfl⟩))
    refine bodyPost_ret (v:=.tuple #[.agg #[.int .i64 0,.int .i64 0,.int .i64 0,.string ⟨#[]⟩,.string ⟨#[]⟩],.int .i64 0,.bool false]) (by simp [results,Tryz.results92,go_sem]) rfl ⟨?_,by rw [HE.out];rfl⟩
    (repeat (first|with_reducible exact Below.refl _ _|with_reducible assumption|(refine Below.setCell ?_ (by first|(simp;done)|omega) _)|(refine Below.alloc ?_ (by first|(simp;done)|(simp;omega)|omega) _)|(refine Below.drew ?_)))
end Go.Proofs.YtbgcjpefocdkkaaGreat
set_option maxRecDepth 100000
namespace Go.Proofs.YtbgcjpefocdkkaaGreat
open Go.RowKit
theorem own_tag {w:World} {B:Nat} {e t:TypeId} {sz n:Nat} {v:Value} {xs:List Value} {k:Nat} {cs:Array Value} {m:Nat × Nat} (h:w.ownsRow B e sz v n xs) (hk:w.heap[k]?=some (.cells cs t m)) (hne:t≠e):v.ownBlock≠some k:=fun he=>by
 have:=(tagOf_own h he).2
 simp [tagOf,hk] at this;exact hne this
theorem own_own {w:World} {B B':Nat} {e e':TypeId} {sz sz' n n':Nat} {v v':Value} {xs xs':List Value} (h:w.ownsRow B e sz v n xs) (h':w.ownsRow B' e' sz' v' n' xs') (hne:e≠e'):v.ownBlock=none∨v.ownBlock≠v'.ownBlock:=by
 cases hv:v.ownBlock with
 | none=>exact .inl rfl
 | some g =>
  refine .inr fun he=>?_
  have h1:=(tagOf_own h hv).2;have h2:=(tagOf_own h' he.symm).2;rw [h1] at h2;injection h2 with h2;exact hne h2
theorem own_set {w:World} {B:Nat} {e:TypeId} {sz n:Nat} {v:Value} {xs:List Value} (h:w.ownsRow B e sz v n xs) {p:Addr} (hp:v.ownBlock≠some p.block) (u:Value):(w.setCell p u).ownsRow B e sz v n xs :=
 h.kept (row:=some p.block) ⟨rfl,rfl,rfl,by simp [World.setCell],fun k _ hk=>Below.heap_setCell _ _ _ _ (fun e=>hk (by rw [e]))⟩ (.inr hp)
theorem heap_set1 {w:World} {g:Nat} {v u:Value} {t:TypeId} (h:w.heap[g]?=some (.cells #[v] t (0,0))):(w.setCell ⟨g,0,none⟩ u).heap[g]?=some (.cells #[u] t (0,0)):=by
 simp [World.setCell,Array.getElem?_modify,h]
theorem heap_setn {w:World} {g:Nat} {p:Addr} {u:Value} {o:Obj} (h:w.heap[g]?=some o) (hp:p.block≠g):(w.setCell p u).heap[g]?=some o:=by
 rw [Below.heap_setCell _ _ _ _ (fun e=>hp e.symm)];exact h
theorem fm_info:(Tryz.prog.info? 85).map (fun i=>(i.zero,i.size,i.bytes))=some (some (.agg #[.int .i64 0,.int .i64 0,.int .i64 0,.string ⟨#[]⟩,.string ⟨#[]⟩]),5,56):=by kernel_rfl
def RS (B bt bo:Nat) (tx:Str) (fs:List Fm) (w:World):Prop :=
 ∃tv ov,w.heap[bt]?=some (.cells #[tv] 61 (0,0))∧w.heap[bo]?=some (.cells #[ov] 35 (0,0))∧B≤bt∧B≤bo∧w.ownsRow B 5 1 tv tx.length (bcells tx)∧w.ownsRow B 85 5 ov fs.length (fcells fs)
theorem fcells_snoc (fs:List Fm) (f:Fm):fcells (fs++[f])=fcells fs++f.cells:=by simp [fcells]
theorem own_keep {w w':World} {B:Nat} {e:TypeId} {sz n:Nat} {v:Value} {xs:List Value} (h:w.ownsRow B e sz v n xs) (hb:Below w.heap.size w w'):w'.ownsRow B e sz v n xs:=by
 refine⟨h.1,?_⟩;rcases h.2 with h5|⟨g',cap,cur,hv,hB,hg,r⟩
 ·exact .inl h5
 ·exact .inr ⟨g',cap,cur,hv,hB,(hb.block g' (heap_lt hg)).trans hg,r⟩
theorem RS.keep {B bt bo:Nat} {tx:Str} {fs:List Fm} {w w':World} (h:RS B bt bo tx fs w) (hb:Below w.heap.size w w'):RS B bt bo tx fs w':=by
 obtain⟨tv,ov,h1,h2,h3,h4,h5,h6⟩:=h;exact⟨tv,ov,(hb.block _ (heap_lt h1)).trans h1,(hb.block _ (heap_lt h2)).trans h2,h3,h4,own_keep h5 hb,own_keep h6 hb⟩
set_option maxHeartbeats 1000000 in
theorem flush_any (B bt bo:Nat) (tx:Str) (fs:List Fm) (w0 w:World) (h:RS B bt bo tx fs w0) (hw:Below w0.heap.size w0 w) (hB:B≤w.heap.size) (htx:tx.length≤1000000) (hfs:fs.length≤1000000) :
  Calls Tryz.prog 91 #[.pointer (some ⟨bt,0,none⟩),.pointer (some ⟨bo,0,none⟩)] w fun e w'=>e=.returned (.tuple #[])∧RS B bt bo [] (flushF tx fs) w'∧Below B w w'∧∀k,w0.heap.size≤k→k<w.heap.size→w'.heap[k]?=w.heap[k]?:=by
 obtain⟨tv,ov,h1,h2,hbt,hbo,ht,ho⟩:=h;have hlt1:=heap_lt h1;have hlt2:=heap_lt h2;have hrow:∀g,ov.ownBlock=some g→g<w0.heap.size:=fun g hg=>(ho.lt g hg).2
 replace h1:=(hw.block _ hlt1).trans h1;replace h2:=(hw.block _ hlt2).trans h2;replace ht:=own_keep ht hw;replace ho:=own_keep ho hw;have HROW:=Lib.hid hrow;clear hrow;obtain⟨ta,tc,rfl⟩:=own_form ht;obtain⟨oa,oc,rfl⟩:=own_form ho;have c1:w.cell? ⟨bt,0,none⟩=some (.slice ta tx.length tc):=by rw [Lib.cell_of_heap h1];rfl
 have c2:w.cell? ⟨bo,0,none⟩=some (.slice oa fs.length oc):=by rw [Lib.cell_of_heap h2];rfl
 have f1:w.frozen? ⟨bt,0,none⟩=false:=Lib.frozen_of_heap h1 0;have hne:bt≠bo:=fun e=>by subst e;rw [h1] at h2;simp at h2
 have H1:=Lib.hid h1;have H2:=Lib.hid h2;have HNE:=Lib.hid hne;clear h1 h2 hne;by_cases h0:tx=[]
 ·subst h0
  simp only [List.length_nil] at ht c1;go_enter Tryz.func91,Tryz.ntmps91
  go_wp2
  go_end0
  refine⟨rfl,⟨_,_,H1.out,H2.out,hbt,hbo,ht,ho⟩,Below.refl _ _,fun _ _ _=>rfl⟩
 ·have hl:0<tx.length:=List.length_pos_iff.2 h0
  have hcv:=conv_own (P:=Tryz.prog) (src:=61) (dst:=9) Tryz.underlying61 Tryz.underlying5 Tryz.underlying9 ht;obtain⟨iu,hiu⟩:=info_parts fm_info;have H0:=Lib.hid h0;clear h0;go_enter Tryz.func91,Tryz.ntmps91
  go_wp2_with (at_builtin;refine wpList_app1 B 85 rfl _ _ 35 rfl Tryz.underlying35 hiu rfl (by decide) rfl ho rfl (by first|rfl|simp) rfl (by simp [Value.oneCell']) (by omega) (by decide) hB ?_)
  intro v' w1 ho1 hg1 hb1 _;have g1:w1.heap[bt]?=some (.cells #[.slice ta tx.length tc] 61 (0,0)):=(hg1.block bt (heap_lt H1.out) (fun e=>own_tag ho H1.out (by decide) e.symm)).trans H1.out;have g2:w1.heap[bo]?=some (.cells #[.slice oa fs.length oc] 35 (0,0)):=(hg1.block bo (heap_lt H2.out) (fun e=>own_tag ho H2.out (by decide) e.symm)).trans H2.out;obtain⟨va,vc,rfl⟩:=own_form ho1;have d1:w1.cell? ⟨bt,0,none⟩=some (.slice ta tx.length tc):=by rw [Lib.cell_of_heap g1];rfl
  have d2:w1.cell? ⟨bo,0,none⟩=some (.slice oa fs.length oc):=by rw [Lib.cell_of_heap g2];rfl
  have d3:w1.frozen? ⟨bt,0,none⟩=false:=Lib.frozen_of_heap g1 0;have d4:w1.frozen? ⟨bo,0,none⟩=false:=Lib.frozen_of_heap g2 0;have hR:RS B bt bo [] (flushF tx fs) ((w1.setCell ⟨bo,0,none⟩ (.slice va (fs.length+1) vc)).setCell ⟨bt,0,none⟩ (.slice none 0 0)):=by
   have hz:flushF tx fs=fs++[⟨0,0,0,tx,[]⟩]:=if_neg H0.out;refine⟨.slice none 0 0,.slice va (fs.length+1) vc,heap_set1 (heap_setn g1 (fun e=>HNE.out e.symm)),heap_setn (heap_set1 g2) HNE.out,hbt,hbo,World.ownsRow_nil _ _ _ _,?_⟩;rw [hz,fcells_snoc,List.length_append];exact own_set (own_set (by simpa [Fm.cells] using ho1) (own_tag ho1 g2 (by decide)) _) (own_tag (own_set ho1 (own_tag ho1 g2 (by decide)) (.slice va (fs.length+1) vc)) (heap_setn (p:=⟨bo,0,none⟩) (u:=.slice va (fs.length+1) vc) g1 (fun e=>HNE.out e.symm)) (by decide)) _
  have hbl:Below B w ((w1.setCell ⟨bo,0,none⟩ (.slice va (fs.length+1) vc)).setCell ⟨bt,0,none⟩ (.slice none 0 0)):=(hb1.setCell (p:=⟨bo,0,none⟩) hbo _).setCell (p:=⟨bt,0,none⟩) hbt _;have hst:∀k,w0.heap.size≤k→k<w.heap.size→((w1.setCell ⟨bo,0,none⟩ (.slice va (fs.length+1) vc)).setCell ⟨bt,0,none⟩ (.slice none 0 0)).heap[k]?=w.heap[k]?:=fun k hk1 hk2=>by
   rw [Below.heap_setCell _ _ _ _ (by show k≠bt;omega),Below.heap_setCell _ _ _ _ (by show k≠bo;omega)];exact hg1.block k hk2 (fun e=>by have:=HROW.out k e.symm;omega)
  have HST:=Lib.hid hst;have HRR:=Lib.hid hR;have HBL:=Lib.hid hbl;have hbb:((bo==bt)=false):=by rw [beq_eq_false_iff_ne];exact fun e=>HNE.out e.symm
  have hne1:¬bo=bt:=fun e=>HNE.out e.symm
  have hne2:¬bt=bo:=HNE.out;clear hR hbl g1 g2 hst;go_wp2
  go_end0
  exact⟨rfl,HRR.out,HBL.out,HST.out⟩
end Go.Proofs.YtbgcjpefocdkkaaGreat
set_option maxRecDepth 100000
namespace Go.Proofs.YtbgcjpefocdkkaaGreat
open Go.RowKit
theorem part_some {l r:Str} {i:Int} {f:Fm} (w:World) (h0:0≤i) (h1:i≤800000) (hs:l.length≤800000) (hP:partR (l.drop i.toNat)=some (f,r)) :
  Calls Tryz.prog 92 #[.string ⟨(l).toArray⟩,.int .i64 i] w fun e w'=>Below w.heap.size w w'∧f.thn.length≤l.length∧f.els.length≤l.length∧∃j:Nat,i<j∧j≤l.length∧l.drop j=r∧e=.returned (.tuple #[.agg #[.int .i64 (f).kind,.int .i64 (f).n,.int .i64 (f).cse,.string ⟨((f).thn).toArray⟩,.string ⟨((f).els).toArray⟩],.int .i64 j,.bool true]):=by
 obtain⟨i,rfl⟩:=Int.eq_ofNat_of_zero_le h0;refine(part_any l i w (by omega) hs).mono ?_
 rintro e w1 ⟨hb,hp⟩;rw [Int.toNat_natCast] at hP;rw [hP] at hp;obtain⟨a,b,j,c,d⟩:=hp;exact⟨hb,a,b,j,by omega,d⟩
theorem part_none {l:Str} {i:Int} (w:World) (h0:0≤i) (h1:i≤800000) (hs:l.length≤800000) (hP:partR (l.drop i.toNat)=none) :
  Calls Tryz.prog 92 #[.string ⟨(l).toArray⟩,.int .i64 i] w fun e w'=>Below w.heap.size w w'∧e=.returned (.tuple #[.agg #[.int .i64 0,.int .i64 0,.int .i64 0,.string ⟨#[]⟩,.string ⟨#[]⟩],.int .i64 0,.bool false]):=by
 obtain⟨i,rfl⟩:=Int.eq_ofNat_of_zero_le h0;refine(part_any l i w (by omega) hs).mono ?_
 rintro e w1 ⟨hb,hp⟩;rw [Int.toNat_natCast] at hP;rw [hP] at hp;exact⟨hb,hp⟩
def lenOk (n:Nat) (fs:List Fm):Prop:=∀f∈fs,f.thn.length≤n∧f.els.length≤n
theorem SlS.ownB {w:World} {B0:Nat} {e:TypeId} {sz:Nat} {a:Option Addr} {n c:Nat} {xs:List Value} (h:w.ownsRow B0 e sz (.slice a n c) n xs):SlS w (fun b=>B0≤b) a sz n xs:=by
 refine⟨h.1,fun hn=>?_⟩;rcases h.2 with⟨hv,h0⟩|⟨g,cap,cur,hv,hb,hg,r⟩
 ·omega
 ·injection hv with ha _ _
  subst ha;refine⟨g,0,rfl,hb,heap_lt hg,fun j u hu=>?_⟩;have:=h.cells (g:=g) rfl j u hu
  have hadd:(⟨g,0,none⟩:Addr).add j=⟨g,0+j,none⟩:=by unfold Addr.add;split<;>simp_all
  rw [hadd] at this;exact this
def ReadPostN (l:Str) (i B:Nat) (R:Option (List Fm × Str)) (e:Ending) (w':World):Prop :=
 match R with
 | none=>e=.returned (.tuple #[.slice none 0 0,.int .i64 0,.bool false])
 | some (fs,r)=>∃(a:Option Addr) (c j:Nat),e=.returned (.tuple #[.slice a fs.length c,.int .i64 j,.bool true])∧SlS w' (fun b=>B≤b) a 5 fs.length (fcells fs)∧i≤j∧j<l.length∧l.drop j=r∧fs.length≤l.length∧lenOk l.length fs
theorem RS.texts {B bt bo:Nat} {tx:Str} {fs:List Fm} {w:World} (h:RS B bt bo tx fs w) :
  ∃ta tc,w.cell? ⟨bt,0,none⟩=some (.slice ta tx.length tc)∧w.frozen? ⟨bt,0,none⟩=false∧w.ownsRow B 5 1 (.slice ta tx.length tc) tx.length (bcells tx)∧bt<w.heap.size:=by
 obtain⟨tv,ov,h1,h2,hbt,hbo,ht,ho⟩:=h;obtain⟨ta,tc,rfl⟩:=own_form ht;exact⟨ta,tc,by rw [Lib.cell_of_heap h1];rfl,Lib.frozen_of_heap h1 0,ht,heap_lt h1⟩
theorem RS.parts {B bt bo:Nat} {tx:Str} {fs:List Fm} {w:World} (h:RS B bt bo tx fs w) :
  ∃oa oc,w.cell? ⟨bo,0,none⟩=some (.slice oa fs.length oc)∧w.frozen? ⟨bo,0,none⟩=false∧w.ownsRow B 85 5 (.slice oa fs.length oc) fs.length (fcells fs)∧bo<w.heap.size:=by
 obtain⟨tv,ov,h1,h2,hbt,hbo,ht,ho⟩:=h;obtain⟨oa,oc,rfl⟩:=own_form ho;exact⟨oa,oc,by rw [Lib.cell_of_heap h2];rfl,Lib.frozen_of_heap h2 0,ho,heap_lt h2⟩
theorem RS.text_app {B bt bo:Nat} {tx:Str} {fs:List Fm} {w w1:World} {v v1:Value} {c:UInt8} (h:RS B bt bo tx fs w) (hv:w.cell? ⟨bt,0,none⟩=some v)
  (hown:w1.ownsRow B 5 1 v1 (tx.length+1) (bcells tx++[.int .u8 c.toNat])) (hg:w.grownBy w1 v.ownBlock) (hB:B≤w.heap.size) :
  ∃a c',v1=.slice a (tx.length+1) c'∧w1.cell? ⟨bt,0,none⟩=some v∧w1.frozen? ⟨bt,0,none⟩=false∧RS B bt bo (tx++[c]) fs (w1.setCell ⟨bt,0,none⟩ v1)∧Below B w (w1.setCell ⟨bt,0,none⟩ v1):=by
 obtain⟨tv,ov,h1,h2,hbt,hbo,ht,ho⟩:=h;have htv:tv=v:=by rw [Lib.cell_of_heap h1] at hv;simpa using hv
 subst htv;have hne:bt≠bo:=fun e=>by subst e;rw [h1] at h2;simp at h2
 have g1:w1.heap[bt]?=some (.cells #[tv] 61 (0,0)):=(hg.block bt (heap_lt h1) (fun e=>own_tag ht h1 (by decide) e.symm)).trans h1;have g2:w1.heap[bo]?=some (.cells #[ov] 35 (0,0)):=(hg.block bo (heap_lt h2) (fun e=>own_tag ht h2 (by decide) e.symm)).trans h2;have ho1:=ho.kept hg (own_own ho ht (by decide));obtain⟨a,c',rfl⟩:=own_form hown;refine⟨a,c',rfl,by rw [Lib.cell_of_heap g1];rfl,Lib.frozen_of_heap g1 0,⟨_,ov,heap_set1 g1,heap_setn g2 hne,hbt,hbo,?_,own_set ho1 (own_tag ho1 g1 (by decide)) _⟩,?_⟩
 ·have:=own_set hown (own_tag hown g1 (by decide)) (p:=⟨bt,0,none⟩) (.slice a (tx.length+1) c')
  simpa [bcells] using this
 ·exact((Below.refl B w).grown hg hB fun k hk=>(ht.lt k hk).1).setCell (p:=⟨bt,0,none⟩) hbt _
theorem RS.part_app {B bt bo:Nat} {tx:Str} {fs:List Fm} {w w1:World} {v v1:Value} {f:Fm} (h:RS B bt bo tx fs w) (hv:w.cell? ⟨bo,0,none⟩=some v)
  (hown:w1.ownsRow B 85 5 v1 (fs.length+1) (fcells fs++[.int .i64 f.kind,.int .i64 f.n,.int .i64 f.cse,.string ⟨(f.thn).toArray⟩,.string ⟨(f.els).toArray⟩])) (hg:w.grownBy w1 v.ownBlock) (hB:B≤w.heap.size) :
  ∃a c',v1=.slice a (fs.length+1) c'∧w1.cell? ⟨bo,0,none⟩=some v∧w1.frozen? ⟨bo,0,none⟩=false∧RS B bt bo tx (fs++[f]) (w1.setCell ⟨bo,0,none⟩ v1)∧Below B w (w1.setCell ⟨bo,0,none⟩ v1):=by
 obtain⟨tv,ov,h1,h2,hbt,hbo,ht,ho⟩:=h;have htv:ov=v:=by rw [Lib.cell_of_heap h2] at hv;simpa using hv
 subst htv;have hne:bo≠bt:=fun e=>by subst e;rw [h1] at h2;simp at h2
 have g1:w1.heap[bt]?=some (.cells #[tv] 61 (0,0)):=(hg.block bt (heap_lt h1) (fun e=>own_tag ho h1 (by decide) e.symm)).trans h1;have g2:w1.heap[bo]?=some (.cells #[ov] 35 (0,0)):=(hg.block bo (heap_lt h2) (fun e=>own_tag ho h2 (by decide) e.symm)).trans h2;have ht1:=ht.kept hg (own_own ht ho (by decide));obtain⟨a,c',rfl⟩:=own_form hown;refine⟨a,c',rfl,by rw [Lib.cell_of_heap g2];rfl,Lib.frozen_of_heap g2 0,⟨tv,_,heap_setn g1 hne,heap_set1 g2,hbt,hbo,own_set ht1 (own_tag ht1 g2 (by decide)) _,?_⟩,?_⟩
 ·have:=own_set hown (own_tag hown g2 (by decide)) (p:=⟨bo,0,none⟩) (.slice a (fs.length+1) c')
  rw [fcells_snoc,List.length_append];exact this
 ·exact((Below.refl B w).grown hg hB fun k hk=>(ho.lt k hk).1).setCell (p:=⟨bo,0,none⟩) hbo _
theorem flushF_len (tx:Str) (fs:List Fm):(flushF tx fs).length≤tx.length+fs.length:=by
 unfold flushF;split
 ·omega
 ·rename_i h;have:=List.length_pos_iff.2 h;simp;omega
theorem flushF_ok {n:Nat} {tx:Str} {fs:List Fm} (h:lenOk n fs) (ht:tx.length≤n):lenOk n (flushF tx fs):=by
 unfold flushF;split
 ·exact h
 ·intro f hf
  rcases List.mem_append.1 hf with hf|hf
  ·exact h f hf
  ·simp at hf;subst hf;exact⟨ht,by simp⟩
theorem RS.start (B:Nat) (w:World) (h:B≤w.heap.size):RS B (w.heap.size+1) w.heap.size [] [] ((w.alloc (.cells #[.slice none 0 0] 35)).alloc (.cells #[.slice none 0 0] 61)):=by
 refine⟨_,_,?_,?_,by omega,h,World.ownsRow_nil _ _ _ _,World.ownsRow_nil _ _ _ _⟩
 ·have:=heap_alloc_new (w.alloc (.cells #[.slice none 0 0] 35)) (.cells #[.slice none 0 0] 61)
  simpa using this
 ·rw [Below.heap_alloc _ _ _ (by simp)];exact heap_alloc_new w _
def RdRel (l:Str) (i:Nat) (R:Option (List Fm × Str)) (w:World) (q:Value) (wr:World):Prop :=
 ∃(j:Nat) (tx:Str) (fs:List Fm),i≤j∧j≤l.length∧q=.int .i64 j∧RS w.heap.size (w.heap.size+1) w.heap.size tx fs wr∧Below w.heap.size w wr∧tx.length≤j∧fs.length≤j∧Hid (tx.length+fs.length≤j)∧Hid (lenOk l.length fs)∧Hid (readX (l.drop j) tx fs=R)
set_option maxHeartbeats 4000000 in
theorem ReadN_any (l:Str) (i:Nat) (w:World) (h1:i≤l.length) (hs:l.length≤700000) :
  Calls Tryz.prog 81 #[.string ⟨(l).toArray⟩,.int .i64 i] w fun e w'=>Below w.heap.size w w'∧ReadPostN l i w.heap.size (readX (l.drop i) [] []) e w':=by
 generalize hR:readX (l.drop i) [] []=R
 have HR:=Lib.hid hR;clear hR;obtain⟨iu,hiu⟩:=info_parts u8_info;go_enter Tryz.func81,Tryz.ntmps81
 go_wp2
 go_loopw [1] (fun q wr=>RdRel l i R w q wr) (fun q _=>l.length-(intOf q).toNat)
 case atStart =>
  refine⟨i,[],[],by omega,by omega,rfl,?_,?_,by simp,by simp,Lib.hid (by simp),Lib.hid (fun f hf=>by simp at hf),HR⟩
  ·exact RS.start _ w (Nat.le_refl _)
  ·(repeat (first|with_reducible exact Below.refl _ _|with_reducible assumption|(refine Below.setCell ?_ (by first|(simp;done)|omega) _)|(refine Below.alloc ?_ (by first|(simp;done)|(simp;omega)|omega) _)|(refine Below.drew ?_)))
 case round =>
  obtain⟨j,tx,fs,hij,hjl,rfl,hrs,hb,htx,hfs,HTF,HLO,HF⟩:=hrel;clear HR;have hB:=hb.size;cases hd:l.drop j with
  | nil =>
   have h2:=drop_nil hd;have HF':Hid (R=none):=Lib.hid (by rw [←HF.out,hd];rfl);clear hd HF;go_wp2
   go_ret3
   exact⟨hb,by rw [HF'.out];rfl⟩
  | cons c r =>
   obtain⟨h2,h3,hr⟩:=drop_cons hd;have HF':Hid (R=readX (c::r) tx fs):=Lib.hid (by rw [←hd];exact HF.out.symm);have Hr:=Lib.hid hr;have HD:=Lib.hid hd;clear hd HF hr;by_cases c47:c.toNat=47
   ·have HE:Hid (R=some (flushF tx fs,c::r)):=Lib.hid (by rw [HF'.out,readX_cons,if_pos c47])
    have b47:((c.toNat:Int)==47)=true:=(by rw [beq_iff_eq];omega);clear HF' c47;go_wp2_with (go_at_call 91;refine(flush_any _ _ _ _ _ _ _ hrs (Below.refl _ _) hB (by omega) (by omega)).mono ?_;rintro e w1 ⟨rfl,hrs1,hb1,_⟩;obtain⟨oa,oc,k1,k2,k3,k4⟩:=hrs1.parts)
    go_ret3
    refine⟨hb.trans hb1,?_⟩;rw [HE.out];exact⟨oa,oc,j,rfl,SlS.ownB k3,hij,h2,HD.out,by have:=flushF_len tx fs;have:=HTF.out;omega,flushF_ok HLO.out (by omega)⟩
   ·have b47:((c.toNat:Int)==47)=false:=(by rw [beq_eq_false_iff_ne];omega)
    by_cases c36:c.toNat=36
    ·have b36:((c.toNat:Int)==36)=true:=(by rw [beq_iff_eq];omega)
     cases hP:partR r with
     | none =>
      have HP:Hid (partR (l.drop ((j:Int)+1).toNat)=none):=Lib.hid (by rw [show ((j:Int)+1).toNat=j+1 by omega,Hr.out];exact hP);have HE:Hid (R=readX r (tx++[c]) fs):=Lib.hid (by rw [HF'.out,readX_cons,if_neg c47,if_pos c36,hP]);clear HF' c47 c36 hP;go_wp2_with (go_at_call 92;refine(part_none _ (by omega) (by omega) (by omega) HP.out).mono ?_;rintro e w1 ⟨hb1,rfl⟩;have hrs0:=hrs.keep hb1;have hB1:w.heap.size≤w1.heap.size:=(by have:=hb1.size;omega);obtain⟨ta,tc,k1,k2,k3,k4⟩:=hrs0.texts)
      have k5:w.heap.size<w1.heap.size:=by omega
      have hB2:w.heap.size≤(w1.alloc (.cells #[.int .i64 0,.int .i64 0,.int .i64 0,.string ⟨#[]⟩,.string ⟨#[]⟩] 85)).heap.size:=by simp;omega
      have k1':(w1.alloc (.cells #[.int .i64 0,.int .i64 0,.int .i64 0,.string ⟨#[]⟩,.string ⟨#[]⟩] 85)).cell? ⟨w.heap.size+1,0,none⟩=some (.slice ta tx.length tc):=by rw [World.cell?_alloc_lt w1 _ _ k4];exact k1
      go_region_law (refine step_app1 w.heap.size 5 (w:=(w1.alloc (.cells #[.int .i64 0,.int .i64 0,.int .i64 0,.string ⟨#[]⟩,.string ⟨#[]⟩] 85)).drew) rfl rfl _ _ 61 rfl Tryz.underlying61 hiu rfl (by decide) rfl (k3.alloc (.cells #[.int .i64 0,.int .i64 0,.int .i64 0,.string ⟨#[]⟩,.string ⟨#[]⟩] 85)) rfl (by first|rfl|simp) rfl (by simp [Value.oneCell']) (by omega) (by decide) hB2 ?_;intro v1 w2 hown1 hg1 _ _;obtain⟨a1,c1,rfl,d1,d2,hrs1,hbl1⟩:=RS.text_app (w:=(w1.alloc (.cells #[.int .i64 0,.int .i64 0,.int .i64 0,.string ⟨#[]⟩,.string ⟨#[]⟩] 85)).drew) (hrs0.keep ((Below.refl _ _).alloc (Nat.le_refl _) _).drew) k1' hown1 hg1 hB2)
      all_goals
       go_wp2
       go_roundw
       case rel =>
        refine⟨j+1,tx++[c],fs,by omega,by omega,by go_num,hrs1,Below.trans (((hb.trans (hb1.mono hB)).alloc hB1 _).drew) hbl1,by simp;omega,by omega,Lib.hid (by have:=HTF.out;simp;omega),HLO,Lib.hid ?_⟩;rw [Hr.out,←HE.out]
       case measure=>simp [intOf];omega
     | some p =>
      obtain⟨⟨fk,fn,fc,ft,fe⟩,r2⟩:=p;have HP:Hid (partR (l.drop ((j:Int)+1).toNat)=some (⟨fk,fn,fc,ft,fe⟩,r2)):=Lib.hid (by rw [show ((j:Int)+1).toNat=j+1 by omega,Hr.out];exact hP);have HE:Hid (R=readX r2 [] (flushF tx fs++[⟨fk,fn,fc,ft,fe⟩])):=Lib.hid (by rw [HF'.out,readX_cons,if_neg c47,if_pos c36,hP]);obtain⟨im,him⟩:=info_parts fm_info;have hfl:=flushF_len tx fs;clear HF' c47 c36 hP;go_wp2_with (first
       | (go_at_call 92;refine(part_some _ (by omega) (by omega) (by omega) HP.out).mono ?_;rintro e w1 ⟨hb1,ht1,ht2,q,hq1,hq2,hq3,rfl⟩;have hrs0:=hrs.keep hb1;have hB1:w.heap.size≤w1.heap.size:=(by have:=hb1.size;omega);have HQ:=Lib.hid hq3;clear hq3)
       | (go_at_call 91;refine(flush_any w.heap.size _ _ tx fs w1 _ hrs0 ((Below.refl _ _).alloc (Nat.le_refl _) _) (by simp;omega) (by omega) (by omega)).mono ?_;rintro e w2 ⟨rfl,hrs2,hb2,hst⟩;have hbx:=hst w1.heap.size (Nat.le_refl _) (by simp);rw [heap_alloc_new] at hbx;have f0:=Lib.cell_of_heap hbx 0;have f1:=Lib.cell_of_heap hbx 1;have f2:=Lib.cell_of_heap hbx 2;have f3:=Lib.cell_of_heap hbx 3;have f4:=Lib.cell_of_heap hbx 4;simp only [List.getElem?_toArray,List.getElem?_cons_zero,List.getElem?_cons_succ] at f0 f1 f2 f3 f4;obtain⟨oa,oc,k1,k2,k3,k4⟩:=hrs2.parts;have hB2:w.heap.size≤w2.heap.size:=(by have:=hb2.size;simp at this;omega);have HST:=Lib.hid hst;have HBX:=Lib.hid hbx;clear hst hbx)
       | (at_builtin;refine wpList_app1 w.heap.size 85 rfl _ _ 35 rfl Tryz.underlying35 him rfl (by decide) rfl k3 rfl (by first|rfl|simp) rfl (by simp [Value.oneCell']) (by omega) (by decide) hB2 ?_;intro v1 w3 hown1 hg1 _ _;obtain⟨a1,c1,rfl,d1,d2,hrs3,hbl3⟩:=RS.part_app (f:=⟨fk,fn,fc,ft,fe⟩) hrs2 k1 hown1 hg1 hB2))
      go_roundw
      case rel =>
       refine⟨q,[],flushF tx fs++[⟨fk,fn,fc,ft,fe⟩],by omega,hq2,rfl,hrs3,?_,by simp,by have:=HTF.out;simp;omega,Lib.hid (by have:=HTF.out;simp;omega),Lib.hid ?_,Lib.hid ?_⟩
       ·exact(((hb.trans (hb1.mono hB)).alloc hB1 _).trans hb2).trans hbl3
       ·intro f hf
        rcases List.mem_append.1 hf with hf|hf
        ·exact flushF_ok HLO.out (by omega) f hf
        ·simp at hf;subst hf;exact⟨ht1,ht2⟩
       ·rw [HQ.out,←HE.out]
      case measure=>simp [intOf];omega
    ·have b36:((c.toNat:Int)==36)=false:=(by rw [beq_eq_false_iff_ne];omega)
     by_cases c92:c.toNat=92
     ·have b92:((c.toNat:Int)==92)=true:=(by rw [beq_iff_eq];omega)
      obtain⟨ta,tc,k1,k2,k3,k4⟩:=hrs.texts;by_cases hst:stands r four=true
      ·have HE:Hid (R=readX (r.drop 1) (tx++r.take 1) fs):=Lib.hid (by rw [HF'.out,readX_cons,if_neg c47,if_neg c36,if_pos ⟨c92,hst⟩])
       cases r with
       | nil=>simp [stands] at hst
       | cons d r' =>
        obtain⟨m2,m3,mr⟩:=drop_cons Hr.out;have m4:(j:Int)+1<l.length:=by omega
        have m5:0≤(j:Int)+1:=by omega
        have Hmr:=Lib.hid mr;have hst':stands (List.drop (j+1) l) [36,125,92,47]=true:=by rw [Hr.out];exact hst
        have HE':Hid (R=readX r' (tx++[d]) fs):=HE;clear HF' c47 c36 c92 hst HE mr;go_wp2_with (go_at_call 93;refine(stands_any _ _ _ _ (by omega) (by omega) (by omega) (by simp)).mono ?_;rintro e w1 ⟨rfl,rfl⟩)
        go_region_law (refine step_app1 w.heap.size 5 (w:=wr.drew) rfl rfl _ _ 61 rfl Tryz.underlying61 hiu rfl (by decide) rfl k3 rfl (by first|rfl|simp) rfl (by simp [Value.oneCell']) (by omega) (by decide) hB ?_;intro v1 w2 hown1 hg1 _ _;obtain⟨a1,c1,rfl,d1,d2,hrs1,hbl1⟩:=RS.text_app (w:=wr.drew) hrs k1 hown1 hg1 hB)
        all_goals
         go_wp2
         go_roundw
         case rel =>
          refine⟨j+2,tx++[d],fs,by omega,by omega,by go_num,hrs1,hb.drew.trans hbl1,by simp;omega,by omega,Lib.hid (by have:=HTF.out;simp;omega),HLO,Lib.hid ?_⟩;rw [Hmr.out,←HE'.out]
         case measure=>simp [intOf];omega
      ·have HE:Hid (R=readX r (tx++[c]) fs):=Lib.hid (by rw [HF'.out,readX_cons,if_neg c47,if_neg c36,if_neg (fun h=>hst h.2)])
       have hst':stands (List.drop (j+1) l) [36,125,92,47]=false:=by rw [Hr.out];simpa [four] using hst
       clear HF' c47 c36 c92 hst;go_wp2_with (go_at_call 93;refine(stands_any _ _ _ _ (by omega) (by omega) (by omega) (by simp)).mono ?_;rintro e w1 ⟨rfl,rfl⟩)
       go_region_law (refine step_app1 w.heap.size 5 (w:=wr.drew) rfl rfl _ _ 61 rfl Tryz.underlying61 hiu rfl (by decide) rfl k3 rfl (by first|rfl|simp) rfl (by simp [Value.oneCell']) (by omega) (by decide) hB ?_;intro v1 w2 hown1 hg1 _ _;obtain⟨a1,c1,rfl,d1,d2,hrs1,hbl1⟩:=RS.text_app (w:=wr.drew) hrs k1 hown1 hg1 hB)
       all_goals
        go_wp2
        go_roundw
        case rel =>
         refine⟨j+1,tx++[c],fs,by omega,by omega,by go_num,hrs1,Below.trans hb.drew hbl1,by simp;omega,by omega,Lib.hid (by have:=HTF.out;simp;omega),HLO,Lib.hid ?_⟩;rw [Hr.out,←HE.out]
        case measure=>simp [intOf];omega
     ·have b92:((c.toNat:Int)==92)=false:=(by rw [beq_eq_false_iff_ne];omega)
      have HE:Hid (R=readX r (tx++[c]) fs):=Lib.hid (by rw [HF'.out,readX_cons,if_neg c47,if_neg c36,if_neg (fun h=>c92 h.1)]);clear HF' c47 c36 c92;obtain⟨ta,tc,k1,k2,k3,k4⟩:=hrs.texts;go_wp2
      go_region_law (refine step_app1 w.heap.size 5 (w:=wr.drew) rfl rfl _ _ 61 rfl Tryz.underlying61 hiu rfl (by decide) rfl k3 rfl (by first|rfl|simp) rfl (by simp [Value.oneCell']) (by omega) (by decide) hB ?_;intro v1 w2 hown1 hg1 _ _;obtain⟨a1,c1,rfl,d1,d2,hrs1,hbl1⟩:=RS.text_app (w:=wr.drew) hrs k1 hown1 hg1 hB)
      all_goals
       go_wp2
       go_roundw
       case rel =>
        refine⟨j+1,tx++[c],fs,by omega,by omega,by go_num,hrs1,Below.trans hb.drew hbl1,by simp;omega,by omega,Lib.hid (by have:=HTF.out;simp;omega),HLO,Lib.hid ?_⟩;rw [Hr.out,←HE.out]
       case measure=>simp [intOf];omega
end Go.Proofs.YtbgcjpefocdkkaaGreat
set_option maxRecDepth 100000
namespace Go.Proofs.YtbgcjpefocdkkaaGreat
def openL (fs:List Fm):Prop:=mayFs fs=true∧∀f,fs.getLast?=some f→f.kind≠0
theorem mayL_snoc:∀(fs:List Fm) (pt:Bool) (f:Fm),mayL pt fs=true→mayF f=true→(f.kind=0→(match fs.getLast? with|none=>pt=false|some g=>g.kind≠0))→mayL pt (fs++[f])=true
 | [],pt,f,_,hf,h=>by
  simp only [List.nil_append,mayL,hf,Bool.true_and,Bool.and_true];by_cases hk:f.kind=0
  ·have:=h hk;simp at this;simp [this]
  ·simp [hk]
 | g::r,pt,f,hm,hf,h=>by
  simp only [mayL,Bool.and_eq_true] at hm;simp only [List.cons_append,mayL,Bool.and_eq_true];refine⟨hm.1,mayL_snoc r _ f hm.2 hf (fun hk=>?_)⟩;have h1:=h hk;cases r with
  | nil=>simpa using h1
  | cons x r =>
   rw [List.getLast?_cons_cons] at h1;cases hl:(x::r).getLast? with
   | none=>simp at hl
   | some y=>rw [hl] at h1;exact h1
theorem openL_nil:openL []:=⟨rfl,by simp⟩
theorem openL_flush {tx:Str} {fs:List Fm} (h:openL fs):mayFs (flushF tx fs)=true:=by
 unfold flushF;split
 ·exact h.1
 ·rename_i ht
  refine mayL_snoc fs false _ h.1 (by simp [mayF,blankB,ht]) (fun _=>?_);cases hl:fs.getLast? with
  | none=>rfl
  | some g=>exact h.2 g hl
theorem openL_part {tx:Str} {fs:List Fm} {f:Fm} (h:openL fs) (hf:mayF f=true) (hk:f.kind≠0):openL (flushF tx fs++[f]) :=
 ⟨mayL_snoc _ false f (openL_flush h) hf (fun e=>absurd e hk),fun g hg=>by
  rw [List.getLast?_concat] at hg;injection hg with hg;subst hg;exact hk⟩
theorem numLF_le:∀(r:Str) (k m:Nat) {n:Nat} {s:Str},numLF r k m=some (n,s)→m<10 ^ k→k≤4→n≤9999
 | [],k,m,n,s,h,hm,hk=>by
  have h4:=Nat.lt_of_lt_of_le hm (Nat.pow_le_pow_right (show 10 > 0 by omega) hk);simp only [numLF] at h;split at h
  ·injection h with h;injection h with h _;omega
  ·cases h
 | c::r,k,m,n,s,h,hm,hk=>by
  have h4:=Nat.lt_of_lt_of_le hm (Nat.pow_le_pow_right (show 10 > 0 by omega) hk);simp only [numLF] at h;split at h
  ·split at h
   ·cases h
   ·exact numLF_le r (k+1) _ h (by rw [Nat.pow_succ];omega) (by omega)
  ·split at h
   ·injection h with h;injection h with h _;omega
   ·cases h
theorem numR_le {r:Str} {n:Nat} {s:Str} (h:numRF r=some (n,s)):n≤9999:=numLF_le r 0 0 h (by omega) (by omega)
theorem wayOf_name (s:Str) (h:wayOf s≠0):nameOf (wayOf s)≠[]:=by
 unfold wayOf at h ⊢
 (repeat' split)<;>first|decide +kernel|(exfalso;simp_all)
theorem bracedR_may {r:Str} {n:Nat} (hn:n≤9999) {f:Fm} {s:Str} (h:bracedR r n=some (f,s)):mayF f=true∧f.kind≠0:=by
 have hn':((n:Nat):Int)≤9999:=by omega
 cases r with
 | nil=>cases h
 | cons c r =>
  simp only [bracedR] at h;split at h
  ·split at h
   ·cases h
   ·split at h
    ·cases h
    ·rename_i hw
     have h4:=wayOf_name _ hw;injection h with h;injection h with h _;subst h
     refine⟨?_,by simp⟩;simp [mayF,blankB,h4];omega
  ·split at h
   ·split at h
    ·injection h with h;injection h with h _;subst h
     exact⟨by simp [mayF,blankB];omega,by simp⟩
    ·cases h
   ·split at h
    ·split at h
     ·split at h
      ·injection h with h;injection h with h _;subst h
       exact⟨by simp [mayF,blankB];omega,by simp⟩
      ·cases h
     ·cases h
    ·split at h
     ·split at h
      ·injection h with h;injection h with h _;subst h
       exact⟨by simp [mayF,blankB];omega,by simp⟩
      ·cases h
     ·split at h
      ·injection h with h;injection h with h _;subst h
       exact⟨by simp [mayF,blankB];omega,by simp⟩
      ·cases h
theorem partR_may {r:Str} {f:Fm} {s:Str} (h:partR r=some (f,s)):mayF f=true∧f.kind≠0:=by
 unfold partR at h;split at h
 ·rename_i p heq
  obtain⟨m,s'⟩:=p;have:=numR_le heq
  injection h with h;injection h with h _;subst h
  exact⟨by simp [mayF,blankB];omega,by simp⟩
 ·cases r with
  | nil=>cases h
  | cons c r =>
   simp only [partB] at h;split at h
   ·split at h
    ·cases h
    ·rename_i p heq
     obtain⟨m,s'⟩:=p;have h1:=numR_le heq;cases s' with
     | nil=>cases h
     | cons d r3 =>
      simp only [partC] at h;split at h
      ·injection h with h;injection h with h _;subst h
       exact⟨by simp [mayF,blankB];omega,by simp⟩
      ·split at h
       ·exact bracedR_may h1 h
       ·cases h
   ·cases h
theorem readN_may:∀(k:Nat) (r tx:Str) (fs gs:List Fm) (s:Str),readN k r tx fs=some (gs,s)→openL fs→mayFs gs=true∧∃b,s=47::b
 | 0,_,_,_,_,_,h,_=>by simp [readN] at h
 | _+1,[],_,_,_,_,h,_=>by simp [readN] at h
 | k+1,c::r,tx,fs,gs,s,h,ho=>by
  simp only [readN] at h;split at h
  ·rename_i hc
   injection h with h;injection h with h1 h2
   subst h1 h2;exact⟨openL_flush ho,r,by rw [show c=47 from UInt8.toNat_inj.1 hc]⟩
  ·split at h
   ·split at h
    ·rename_i p heq
     obtain⟨h1,h2⟩:=partR_may (f:=p.1) (s:=p.2) heq;exact readN_may k _ _ _ _ _ h (openL_part ho h1 h2)
    ·exact readN_may k _ _ _ _ _ h ho
   ·split at h
    ·exact readN_may k _ _ _ _ _ h ho
    ·exact readN_may k _ _ _ _ _ h ho
theorem readX_may {r:Str} {gs:List Fm} {s:Str} (h:readX r [] []=some (gs,s)):mayFs gs=true∧∃b,s=47::b:=readN_may _ _ _ _ _ _ h openL_nil
end Go.Proofs.YtbgcjpefocdkkaaGreat
set_option maxRecDepth 100000
namespace Go.Proofs.YtbgcjpefocdkkaaGreat
theorem partS_brace (r:Str):partS (123::r)=match headM r with|none=>none|some (x,r2)=>bracedS (partsS true [] []) x r2:=by
 rw [partS_eq];simp only [wholeM];rw [if_pos (by decide)];cases headM r<;>rfl
theorem partS_bare {c:UInt8} (h:c.toNat≠123) (r:Str):partS (c::r)=headM (c::r):=by
 rw [partS_eq];simp only [wholeM];rw [if_neg h]
theorem partS_nil:partS []=none:=rfl
theorem braced_close (x:Sn) (r:Str):bracedS (partsS true [] []) x (125::r)=some (x,r):=by
 simp only [bracedS];rw [if_pos (by decide)]
end Go.Proofs.YtbgcjpefocdkkaaGreat
set_option maxRecDepth 100000
namespace Go.Proofs.YtbgcjpefocdkkaaGreat
theorem optL_cons (c:UInt8) (r:Str) (o:List Str) (t:Str):optL (c::r) o t=if c.toNat=124 then(o++[t],c::r) else if c.toNat=44 then optL r (o++[t]) [] else optL (nxtM fiveS (c::r)).2 o (t++[(nxtM fiveS (c::r)).1]):=by
 cases r with
 | nil =>
  simp only [optL,nxtM]
 | cons d r =>
  simp only [optL,nxtM];split
  ·rfl
  ·split
   ·rfl
   ·split<;>rfl
end Go.Proofs.YtbgcjpefocdkkaaGreat
set_option maxRecDepth 100000
namespace Go.Proofs.YtbgcjpefocdkkaaGreat
open Go.RowKit
theorem str_infoQ:(Tryz.prog.info? 9).map (fun i=>(i.zero,i.size,i.bytes))=some (some (.string ⟨#[]⟩),1,16):=by kernel_rfl
theorem Pl.grownHi {x:List Value} {w w':World} {g:Nat} {s:Str} {i:Nat} (h:Pl x w g s i) {row:Option Nat} (hg:w.grownBy w' row) (hr:row≠some g):Pl x w' g s i :=
 ⟨(hg.block g (heap_lt h.1) (by first|exact hr|exact fun e=>hr e|exact fun e=>hr e.symm)).trans h.1,h.2⟩
theorem own_ne {w:World} {B g:Nat} {e:TypeId} {sz:Nat} {v:Value} {n:Nat} {xs:List Value} (h:w.ownsRow B e sz v n xs) (hg:g<B):v.ownBlock≠some g:=fun e'=>by have:=(h.lt g e').1;omega
theorem grown_row {w0 w w':World} {v:Value} {B:Nat} {e:TypeId} {sz n:Nat} {xs:List Value} {row:Option Nat} (h:w0.grownBy w row) (hown:w.ownsRow B e sz v n xs) (hB:w0.heap.size≤B) (hg:w.grownBy w' v.ownBlock):w0.grownBy w' row :=
 ⟨hg.os.trans h.os,hg.tape.trans h.tape,hg.output.trans h.output,Nat.le_trans h.size hg.size,fun k hk hne=>(hg.block k (Nat.lt_of_lt_of_le hk h.size) (by
  intro e';first
   | (have:=(hown.lt k e').1;omega)
   | (have:=(hown.lt k e'.symm).1;omega))).trans (h.block k hk hne)⟩
def OptS (x:List Value) (g:Nat) (s:Str) (R:List Str × Str) (w:World) (e:Ending) (w':World):Prop:=w.grownBy w' (some g) ∧
 ∃(a:Option Addr) (c j:Nat),e=.returned (.tuple #[.slice a R.1.length c,.bool (List.isPrefixOf [124,125] R.2)])∧SlS w' (fun b=>w.heap.size≤b) a 1 R.1.length (scells R.1)∧R.1.length≤s.length+1∧Pl x w' g s j ∧
  s.drop j=if List.isPrefixOf [124,125] R.2=true then R.2.drop 2 else R.2
theorem OptS.mk' {x:List Value} {g:Nat} {s:Str} {o':List Str} {rest:Str} {w w':World} {e:Ending} {a:Option Addr} {n c j:Nat} {ok:Bool} (hg:w.grownBy w' (some g)) (he:e=.returned (.tuple #[.slice a n c,.bool ok])) (hn:o'.length=n)
  (hok:List.isPrefixOf [124,125] rest=ok) (hown:w'.ownsRow w.heap.size 9 1 (.slice a n c) n (scells o')) (hlen:n≤s.length+1) (hp:Pl x w' g s j) (hd:s.drop j=if ok=true then rest.drop 2 else rest):OptS x g s (o',rest) w e w':=by
 subst hn;subst hok;exact⟨hg,a,c,j,he,SlS.ownB hown,hlen,hp,hd⟩
def OpRel (x:List Value) (g:Nat) (s:Str) (w:World) (RX:List Str × Str) (k:Nat) (v4 v5:Value) (wr:World):Prop :=
 ∃(j:Nat) (o:List Str) (t:Str),Pl x wr g s j∧s.length-j<k∧wr.ownsRow w.heap.size 9 1 v4 o.length (scells o)∧wr.ownsRow w.heap.size 5 1 v5 t.length (bcells t)∧w.grownBy wr (some g)∧o.length≤j∧t.length≤j∧Hid (optL (s.drop j) o t=RX)
set_option maxHeartbeats 4000000 in
theorem options_s {x:List Value} {g:Nat} {s:Str} {i:Nat} (w:World) (h:Pl x w g s i) :
  Calls Tryz.prog 67 #[.pointer (some ⟨g,0,none⟩)] w fun e w'=>OptS x g s (optL (s.drop i) [] []) w e w':=by
 obtain⟨RX,hRX⟩:∃RX,optL (s.drop i) [] []=RX:=⟨_,rfl⟩;rw [hRX];have HR:=Lib.hid hRX;have hgB:=h.lt;have hsl:=h.2.2;obtain⟨iS,hiS⟩:=info_parts str_infoQ;obtain⟨iu,hiu⟩:=info_parts u8_info;have HPL:=Lib.hid h;have hi:=h.2.1;clear h hRX;go_enter Tryz.func67,Tryz.ntmps67
 go_wp2
 go_loopg [4,5] (s.length+1) (fun k v4 v5 wr=>OpRel x g s w RX k v4 v5 wr)
 case atStart=>exact⟨i,[],[],HPL.out,by omega,World.ownsRow_nil _ _ _ _,World.ownsRow_nil _ _ _ _,grown_refl _ _,by simp,by simp,HR⟩
 case round =>
  clear HR HPL;obtain⟨j,o,t,hpl,hk,ho,ht,hg,hol,htl,HF⟩:=hrel;have hj:=hpl.2.1;have HPL:=Lib.hid hpl;have hB:=hg.size;have d0:∀x':ExtOf wr,x'.val.cell? ⟨g,0,none⟩=some (.string ⟨(s).toArray⟩):=ExtOf.cell hpl.c0;have d1:∀x':ExtOf wr,x'.val.cell? ⟨g,1,none⟩=some (.int .i64 j):=ExtOf.cell hpl.c1;clear hpl;cases hd:s.drop j with
  | nil =>
   have h2:=drop_nil hd;have gl:decide ((j:Int)<(s.length:Int))=false:=decide_eq_false (by omega);have gln:decide (j<s.length)=false:=decide_eq_false (by omega);have HX:Hid (RX=(o++[t],[])):=Lib.hid (by rw [←HF.out,hd];rfl);have HNO:Hid (List.isPrefixOf [124,125] (s.drop j)=false):=Lib.hid (by rw [hd];rfl);have HD:=Lib.hid hd;clear hd HF;go_wp2
   refine wp_region_ext (by kernel_rfl) (by kernel_rfl) ?_;repeat (go_big_quiet_step ((fail)))
   refine wpQuiet_nil ?_;rintro _ ⟨xq,rfl⟩;have hba:=xq.ext;have hpa:=HPL.out.later hba;have hga:=grown_trans hg (grown_of_below hba (some g));generalize xq.val=wa at *
   clear d0 d1 hg;have hoa:=own_below ho (hba.trans ((Below.refl _ _).drew));have hta:=own_below ht (hba.trans ((Below.refl _ _).drew));have hcv:=conv_own (P:=Tryz.prog) (src:=61) (dst:=9) Tryz.underlying61 Tryz.underlying5 Tryz.underlying9 hta;have hBa:w.heap.size≤wa.drew.heap.size:=hga.size;have HPA:=Lib.hid (hpa.later ((Below.refl _ _).drew));have HGA:=Lib.hid (grown_trans hga (grown_of_below ((Below.refl wa.heap.size wa).drew) (some g)));clear ho ht hpa hga hba;go_wp2
   go_region_law (first
    | (refine step_app1 w.heap.size 9 (w:=wa.drew) rfl rfl _ _ 38 rfl Tryz.underlying38 hiS rfl (by decide) rfl hoa rfl (by first|rfl|simp) rfl (by simp [Value.oneCell']) (by omega) (by decide) hBa ?_;intro v8 w8 hown8 hg8 _ hne8;have hp8:Pl x w8 g s j:=HPA.out.grownHi hg8 (own_ne hoa hgB))
    | (go_simp;go_at_call 49;refine(take_s_no _ hp8 (by simp) HNO.out).mono ?_;rintro e w9 ⟨rfl,hp9,hg9⟩))
   all_goals
    go_wp2
    go_ret2
    obtain⟨a8,c8,rfl⟩:=own_form hown8;have hown9:=own_grownG hown8 hg9 hgB;have hgz:w.grownBy w9 (some g):=grown_trans (grown_row HGA.out hoa (Nat.le_refl _) hg8) hg9;rw [HX.out];exact OptS.mk' (j:=j) hgz rfl (by simp) rfl (by rw [scells_snoc];exact hown9) (by omega) hp9 (by rw [HD.out];rfl)
  | cons c r =>
   obtain⟨h2,h3,hr⟩:=drop_cons hd;have gl:decide ((j:Int)<(s.length:Int))=true:=decide_eq_true (by omega);have gln:decide (j<s.length)=true:=decide_eq_true (by omega);have HSEE:Hid (∀x':ExtOf wr,Calls Tryz.prog 20 #[.pointer (some ⟨g,0,none⟩),.string ⟨([124]).toArray⟩] x'.val fun e w'=>e=.returned (.bool (decide (c.toNat=124)))∧Below x'.val.heap.size x'.val w'):=Lib.hid fun x'=>(see_s (p:=[124]) _ (HPL.out.later x'.ext) (by simp)).mono fun _ _ ⟨h1,h2⟩=>⟨by rw [h1,hd,pre1];rfl,h2⟩
   have HD:=Lib.hid hd;by_cases h124:c.toNat=124
   ·rw [decide_eq_true h124] at HSEE
    have HX:Hid (RX=(o++[t],c::r)):=Lib.hid (by rw [←HF.out,hd,optL_cons,if_pos h124]);cases hb:List.isPrefixOf [124,125] (c::r) with
    | true =>
     have HB:=Lib.hid hb;have HYES:Hid (List.isPrefixOf [124,125] (s.drop j)=true):=Lib.hid (by rw [hd];exact hb);clear hd HF hb h3 hr h124;go_wp2
     refine wp_region_ext (by kernel_rfl) (by kernel_rfl) ?_;repeat (go_big_quiet_step ((go_at_call 20;exact ext_call (HSEE.out _))))
     refine wpQuiet_nil ?_;rintro _ ⟨xq,rfl⟩;have hba:=xq.ext;have hpa:=HPL.out.later hba;have hga:=grown_trans hg (grown_of_below hba (some g));generalize xq.val=wa at *
     clear d0 d1 hg;clear HSEE;have hoa:=own_below ho (hba.trans ((Below.refl _ _).drew));have hta:=own_below ht (hba.trans ((Below.refl _ _).drew));have hcv:=conv_own (P:=Tryz.prog) (src:=61) (dst:=9) Tryz.underlying61 Tryz.underlying5 Tryz.underlying9 hta;have hBa:w.heap.size≤wa.drew.heap.size:=hga.size;have HPA:=Lib.hid (hpa.later ((Below.refl _ _).drew));have HGA:=Lib.hid (grown_trans hga (grown_of_below ((Below.refl wa.heap.size wa).drew) (some g)));clear ho ht hpa hga hba;go_wp2
     go_region_law (first
      | (refine step_app1 w.heap.size 9 (w:=wa.drew) rfl rfl _ _ 38 rfl Tryz.underlying38 hiS rfl (by decide) rfl hoa rfl (by first|rfl|simp) rfl (by simp [Value.oneCell']) (by omega) (by decide) hBa ?_;intro v8 w8 hown8 hg8 _ hne8;have hp8:Pl x w8 g s j:=HPA.out.grownHi hg8 (own_ne hoa hgB))
      | (go_simp;go_at_call 49;refine(take_s_yes _ hp8 (by simp) HYES.out).mono ?_;rintro e w9 ⟨rfl,hp9,hg9⟩))
     all_goals
      go_wp2
      go_ret2
      obtain⟨a8,c8,rfl⟩:=own_form hown8;have hown9:=own_grownG hown8 hg9 hgB;have hgz:w.grownBy w9 (some g):=grown_trans (grown_row HGA.out hoa (Nat.le_refl _) hg8) hg9;rw [HX.out];exact OptS.mk' (j:=(j+2)) hgz rfl (by simp) HB.out (by rw [scells_snoc];exact hown9) (by omega) hp9 (by rw [←List.drop_drop,HD.out];rfl)
    | false =>
     have HB:=Lib.hid hb;have HNO:Hid (List.isPrefixOf [124,125] (s.drop j)=false):=Lib.hid (by rw [hd];exact hb);clear hd HF hb h3 hr h124;go_wp2
     refine wp_region_ext (by kernel_rfl) (by kernel_rfl) ?_;repeat (go_big_quiet_step ((go_at_call 20;exact ext_call (HSEE.out _))))
     refine wpQuiet_nil ?_;rintro _ ⟨xq,rfl⟩;have hba:=xq.ext;have hpa:=HPL.out.later hba;have hga:=grown_trans hg (grown_of_below hba (some g));generalize xq.val=wa at *
     clear d0 d1 hg;clear HSEE;have hoa:=own_below ho (hba.trans ((Below.refl _ _).drew));have hta:=own_below ht (hba.trans ((Below.refl _ _).drew));have hcv:=conv_own (P:=Tryz.prog) (src:=61) (dst:=9) Tryz.underlying61 Tryz.underlying5 Tryz.underlying9 hta;have hBa:w.heap.size≤wa.drew.heap.size:=hga.size;have HPA:=Lib.hid (hpa.later ((Below.refl _ _).drew));have HGA:=Lib.hid (grown_trans hga (grown_of_below ((Below.refl wa.heap.size wa).drew) (some g)));clear ho ht hpa hga hba;go_wp2
     go_region_law (first
      | (refine step_app1 w.heap.size 9 (w:=wa.drew) rfl rfl _ _ 38 rfl Tryz.underlying38 hiS rfl (by decide) rfl hoa rfl (by first|rfl|simp) rfl (by simp [Value.oneCell']) (by omega) (by decide) hBa ?_;intro v8 w8 hown8 hg8 _ hne8;have hp8:Pl x w8 g s j:=HPA.out.grownHi hg8 (own_ne hoa hgB))
      | (go_simp;go_at_call 49;refine(take_s_no _ hp8 (by simp) HNO.out).mono ?_;rintro e w9 ⟨rfl,hp9,hg9⟩))
     all_goals
      go_wp2
      go_ret2
      obtain⟨a8,c8,rfl⟩:=own_form hown8;have hown9:=own_grownG hown8 hg9 hgB;have hgz:w.grownBy w9 (some g):=grown_trans (grown_row HGA.out hoa (Nat.le_refl _) hg8) hg9;rw [HX.out];exact OptS.mk' (j:=j) hgz rfl (by simp) HB.out (by rw [scells_snoc];exact hown9) (by omega) hp9 (by rw [HD.out];rfl)
   ·rw [decide_eq_false h124] at HSEE
    by_cases h44:c.toNat=44
    ·have HX:Hid (optL (s.drop (j+1)) (o++[t]) []=RX):=Lib.hid (by rw [←HF.out,hd,optL_cons,if_neg h124,if_pos h44,hr])
     have HYES:Hid (List.isPrefixOf [44] (s.drop j)=true):=Lib.hid (by rw [hd,pre1];exact decide_eq_true h44);clear hd HF h3 hr h124 h44;go_wp2
     refine wp_region_ext (by kernel_rfl) (by kernel_rfl) ?_;repeat (go_big_quiet_step ((go_at_call 20;exact ext_call (HSEE.out _))))
     refine wpQuiet_nil ?_;rintro _ ⟨xq,rfl⟩;have hba:=xq.ext;have hpa:=HPL.out.later hba;have hga:=grown_trans hg (grown_of_below hba (some g));generalize xq.val=wa at *
     clear d0 d1 hg;clear HSEE;have hoa:=own_below ho hba;have hta:=own_below ht hba;clear ho ht hba;go_wp2_with (go_at_call 49;refine(take_s_yes _ hpa (by simp) HYES.out).mono ?_)
     rintro e w1 ⟨rfl,hp1,hg1⟩;have HP1:=Lib.hid hp1;have hoo:=own_grownG hoa hg1 hgB;have hot:=own_grownG hta hg1 hgB;have HG1:=Lib.hid (grown_trans hga hg1);have hB1:w.heap.size≤w1.heap.size:=(grown_trans hga hg1).size;have hcv:=conv_own (P:=Tryz.prog) (src:=61) (dst:=9) Tryz.underlying61 Tryz.underlying5 Tryz.underlying9 hot;clear hoa hta hpa hga hp1 hg1;go_wp2_with (at_builtin;refine wpList_app1 w.heap.size 9 rfl _ _ 38 rfl Tryz.underlying38 hiS rfl (by decide) rfl hoo rfl (by first|rfl|simp) rfl (by simp [Value.oneCell']) (by omega) (by decide) hB1 ?_;intro v8 w8 hown8 hg8 _ hne8)
     go_roundg (s.length-j)
     case measure=>omega
     case rel =>
      exact⟨j+1,o++[t],[],HP1.out.grownHi hg8 (own_ne hoo hgB),by omega,by rw [scells_snoc,List.length_append];exact hown8,World.ownsRow_nil _ _ _ _,grown_row HG1.out hoo (Nat.le_refl _) hg8,by simp;omega,by simp,HX⟩
    ·have HNO:Hid (List.isPrefixOf [44] (s.drop j)=false):=Lib.hid (by rw [hd,pre1];exact decide_eq_false h44)
     have HX:Hid (optL (nxtM fiveS (c::r)).2 o (t++[(nxtM fiveS (c::r)).1])=RX):=Lib.hid (by rw [←HF.out,hd,optL_cons,if_neg h124,if_neg h44]);have HLN:Hid ((nxtM fiveS (c::r)).2.length≤r.length∧r.length+1=s.length-j):=Lib.hid ⟨nxtM_len _ _ _,by have:=congrArg List.length hd;simp at this;omega⟩;clear hd HF h3 hr h124 h44;go_wp2
     refine wp_region_ext (by kernel_rfl) (by kernel_rfl) ?_;repeat (go_big_quiet_step ((go_at_call 20;exact ext_call (HSEE.out _))))
     refine wpQuiet_nil ?_;rintro _ ⟨xq,rfl⟩;have hba:=xq.ext;have hpa:=HPL.out.later hba;have hga:=grown_trans hg (grown_of_below hba (some g));generalize xq.val=wa at *
     clear d0 d1 hg;clear HSEE;have hoa:=own_below ho hba;have hta:=own_below ht hba;clear ho ht hba;go_wp2_with (go_at_call 49;refine(take_s_no _ hpa (by simp) HNO.out).mono ?_)
     rintro e w1 ⟨rfl,hp1,hg1⟩;have hoo:=own_grownG hoa hg1 hgB;have hot:=own_grownG hta hg1 hgB;have hgg1:=grown_trans hga hg1;clear hoa hta hpa hga hg1;have HNX:=Lib.hid (next_s (th:=[36,125,92,44,124]) w1 hp1 HD.out (by simp));clear hp1;go_wp2_with (go_at_call 23;refine HNX.out.mono ?_)
     rintro e w2 ⟨rfl,⟨j2,hp2,hd2,hj2⟩,hg2⟩;have HP2:=Lib.hid hp2;have hoo2:=own_grownG hoo hg2 hgB;have hot2:=own_grownG hot hg2 hgB;have HG2:=Lib.hid (grown_trans hgg1 hg2);have hB2:w.heap.size≤w2.heap.size:=(grown_trans hgg1 hg2).size;have hls:s.length-j2<s.length-j∧j<j2:=by
      have h1:=HLN.out;have h2:=congrArg List.length hd2;rw [List.length_drop] at h2;have h3:=hp2.2.1;have h4:(nxtM [36,125,92,44,124] (c::r)).2.length≤r.length:=h1.1;omega
     have HD2:=Lib.hid hd2;obtain⟨nb,hnb⟩:∃nb,nb=(nxtM [36,125,92,44,124] (c::r)).1:=⟨_,rfl⟩;have HX2:Hid (optL (s.drop j2) o (t++[nb])=RX):=Lib.hid (by rw [hd2,hnb];exact HX.out);rw [←hnb];clear hoo hot hgg1 hp2 hg2 hd2 HX HLN HNX hnb;go_wp2_with (at_builtin;refine wpList_app1 w.heap.size 5 rfl _ _ 61 rfl Tryz.underlying61 hiu rfl (by decide) rfl hot2 rfl (by first|rfl|simp) rfl (by simp [Value.oneCell']) (by omega) (by decide) hB2 ?_;intro v8 w8 hown8 hg8 _ hne8)
     go_roundg (s.length-j)
     case measure=>omega
     case rel =>
      exact⟨j2,o,t++[nb],HP2.out.grownHi hg8 (own_ne hot2 hgB),by omega,hoo2.kept hg8 (own_own hoo2 hot2 (by decide)),by simpa [bcells] using hown8,grown_row HG2.out hot2 (Nat.le_refl _) hg8,by omega,by simp;omega,HX2⟩
end Go.Proofs.YtbgcjpefocdkkaaGreat
