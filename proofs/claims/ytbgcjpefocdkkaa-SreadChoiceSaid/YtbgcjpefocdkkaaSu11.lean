/- walks of fmts: braced -/
import Derived.Test.YtbgcjpefocdkkaaSu1
import Derived.Test.YtbgcjpefocdkkaaSu10
set_option maxRecDepth 100000
namespace Go.Proofs.Ytbgcjpefocdkkaa
open Go.RowKit
theorem idx_span (r:Str):Lib.indexByte r 125=match r.dropWhile ne125 with | []=>-1 | _ :: _=>((r.takeWhile ne125).length:Int):=by
 induction r with
 | nil=>rfl
 | cons b r ih =>
  by_cases h:b.toNat=125
  ·have hb:b=125:=UInt8.toNat_inj.1 h
   subst hb
   rfl
  ·have hb:(b == 125)=false:=by rw [beq_eq_false_iff_ne];intro e;exact h (by rw [e];rfl)
   have hd:ne125 b=true:=by simpa [ne125] using h
   rw [List.dropWhile_cons_of_pos hd,List.takeWhile_cons_of_pos hd]
   simp only [Lib.indexByte,hb,ih]
   cases r.dropWhile ne125 with
   | nil=>rfl
   | cons x y =>
    have h1:((((r.takeWhile ne125).length:Int)) == -1)=false:=by rw [beq_eq_false_iff_ne];omega
    simp only [h1,Bool.false_eq_true,if_false,List.length_cons]
    omega
theorem Way_eq {s:Str} {v:Int} (w:World) (h:wayOf s=v) :
  Calls Try.prog 72 #[.string ⟨(s).toArray⟩] w fun e w'=>e=.returned (.int .i64 v)∧Below w.heap.size w w':=by
 subst h;exact Way_any s w
theorem until_some {l t r:Str} {i one:Int} (w:World) (h0:0≤i) (h1:i≤1000000) (hs:l.length≤1000000) (ho:0≤one) (hU:untilL one (l.drop i.toNat) []=some (t,r)) :
  Calls Try.prog 73 #[.string ⟨(l).toArray⟩,.int .i64 i,.int .u8 one] w fun e w'=>Below w.heap.size w w'∧t.length≤l.length∧∃ j:Nat,i≤j∧j < l.length∧l.drop j=r∧e=.returned (.tuple #[.string ⟨(t).toArray⟩,.int .i64 j,.bool true]):=by
 refine (until_any l i one w h0 h1 hs ho).mono ?_
 rintro e w1 ⟨hb,hp⟩
 rw [hU] at hp
 obtain ⟨h2,j,h3,h4,h5,h6⟩:=hp
 exact ⟨hb,h2,j,by omega,h4,h5,h6⟩
theorem until_none {l:Str} {i one:Int} (w:World) (h0:0≤i) (h1:i≤1000000) (hs:l.length≤1000000) (ho:0≤one) (hU:untilL one (l.drop i.toNat) []=none) :
  Calls Try.prog 73 #[.string ⟨(l).toArray⟩,.int .i64 i,.int .u8 one] w fun e w'=>Below w.heap.size w w'∧e=.returned (.tuple #[.string ⟨([]).toArray⟩,.int .i64 0,.bool false]):=by
 refine (until_any l i one w h0 h1 hs ho).mono ?_
 rintro e w1 ⟨hb,hp⟩
 rw [hU] at hp
 exact ⟨hb,hp⟩
def PartPost (l:Str) (i:Nat) (R:Option (Fm × Str)) (e:Ending):Prop :=
 match R with
 | none=>e=.returned (.tuple #[.agg #[.int .i64 0,.int .i64 0,.int .i64 0,.string ⟨#[]⟩,.string ⟨#[]⟩],.int .i64 0,.bool false])
 | some (f,r)=>f.thn.length≤l.length∧f.els.length≤l.length∧∃ j:Nat,i < j∧j≤l.length∧l.drop j=r∧e=.returned (.tuple #[.agg #[.int .i64 (f).kind,.int .i64 (f).n,.int .i64 (f).cse,.string ⟨((f).thn).toArray⟩,.string ⟨((f).els).toArray⟩],.int .i64 j,.bool true])
set_option maxHeartbeats 4000000 in
theorem braced_any (l:Str) (i n:Nat) (w:World) (h1:i≤900000) (hs:l.length≤900000) :
  Calls Try.prog 68 #[.string ⟨(l).toArray⟩,.int .i64 i,.int .i64 n] w fun e w'=>Below w.heap.size w w'∧PartPost l i (bracedR (l.drop i) n) e:=by
 generalize hR:bracedR (l.drop i) n=R
 have HR:=Lib.hid hR
 clear hR
 cases hd:l.drop i with
 | nil =>
  have h2:=drop_nil hd
  have hU:untilL 125 (l.drop (i:Int).toNat) []=none:=by rw [Int.toNat_natCast,hd];rfl
  have HE:Hid (R=none):=Lib.hid (by rw [← HR.out,hd];rfl)
  have hh:∀ p:Str,p.isPrefixOf (l.drop (i:Int).toNat)=p.isPrefixOf []:=fun p=>by rw [Int.toNat_natCast,hd]
  have HU:=Lib.hid hU
  have HH:=Lib.hid hh
  have e1:List.isPrefixOf [47] (List.drop i l)=false:=by rw [hd];rfl
  have e2:List.isPrefixOf [43] (List.drop i l)=false:=by rw [hd];rfl
  have e3:List.isPrefixOf [63] (List.drop i l)=false:=by rw [hd];rfl
  have e4:List.isPrefixOf [45] (List.drop i l)=false:=by rw [hd];rfl
  clear hd hU hh
  go_enter Try.func68,Try.ntmps68
  go_wp2_with (first
   | (go_at_call 67;refine (has_any _ _ _ _ (by omega) (by omega) (by simp)).mono ?_;rintro e w1 ⟨rfl,rfl⟩)
   | (go_at_call 73;refine (until_none _ (by omega) (by omega) (by omega) (by omega) HU.out).mono ?_;rintro e w1 ⟨hb1,rfl⟩;obtain ⟨hc1,hf1⟩:=bcell hb1;have z0:w1.cell? ⟨w.heap.size,0,none⟩=some (.int .i64 0):=(by rw [hc1 _ _ (by first | (simp;done) | (simp;omega))];simp);have z1:w1.cell? ⟨w.heap.size,1,none⟩=some (.int .i64 0):=(by rw [hc1 _ _ (by first | (simp;done) | (simp;omega))];simp);have z2:w1.cell? ⟨w.heap.size,2,none⟩=some (.int .i64 0):=(by rw [hc1 _ _ (by first | (simp;done) | (simp;omega))];simp);have z3:w1.cell? ⟨w.heap.size,3,none⟩=some (.string ⟨#[]⟩):=(by rw [hc1 _ _ (by first | (simp;done) | (simp;omega))];simp);have z4:w1.cell? ⟨w.heap.size,4,none⟩=some (.string ⟨#[]⟩):=(by rw [hc1 _ _ (by first | (simp;done) | (simp;omega))];simp);have hbw:Below w.heap.size w w1:=((((Below.refl w.heap.size w).alloc (Nat.le_refl _) _).alloc (by simp) _).trans (hb1.mono (by simp;omega)))))
  refine bodyPost_ret (v:=.tuple #[.agg #[.int .i64 0,.int .i64 0,.int .i64 0,.string ⟨#[]⟩,.string ⟨#[]⟩],.int .i64 0,.bool false]) (by simp [results,Try.results68,go_sem,z0,z1,z2,z3,z4]) rfl ⟨?_,by rw [HE.out];rfl⟩
  (repeat (first | with_reducible exact Below.refl _ _ | with_reducible assumption | (refine Below.setCell ?_ (by first | (simp;done) | omega) _) | (refine Below.alloc ?_ (by first | (simp;done) | (simp;omega) | omega) _) | (refine Below.drew ?_)))
 | cons c r =>
  obtain ⟨h2,h3,hr⟩:=drop_cons hd
  have Hr:=Lib.hid hr
  have HD:=Lib.hid hd
  clear hr h3
  by_cases c43:c.toNat=43
  ·skip
   have e1:List.isPrefixOf [47] (List.drop i l)=false:=by rw [hd,pre1];simp;try omega
   have e2:List.isPrefixOf [43] (List.drop i l)=true:=by rw [hd,pre1];simp;try omega
   have e3:List.isPrefixOf [63] (List.drop i l)=false:=by rw [hd,pre1];simp;try omega
   have e4:List.isPrefixOf [45] (List.drop i l)=false:=by rw [hd,pre1];simp;try omega
   have HE:Hid (R=match untilL 125 r [] with | some (t,_ :: r2)=>some (⟨3,n,0,t,[]⟩,r2) | _=>none):=Lib.hid (by
    rw [← HR.out,hd];simp only [bracedR];rw [if_neg (by omega),if_pos c43];rfl)
   clear hd c43
   cases hU:untilL 125 r [] with
   | none =>
    have HU:Hid (untilL 125 (l.drop ((i:Int)+1).toNat) []=none):=Lib.hid (by rw [show ((i:Int)+1).toNat=i+1 by omega,Hr.out];exact hU)
    have HE':Hid (R=none):=Lib.hid (by rw [HE.out,hU])
    clear hU HE
    go_enter Try.func68,Try.ntmps68
    go_wp2_with (first | (go_at_call 67;refine (has_any _ _ _ _ (by omega) (by omega) (by simp)).mono ?_;rintro e w1 ⟨rfl,rfl⟩) | (go_at_call 73;refine (until_none _ (by omega) (by omega) (by omega) (by omega) HU.out).mono ?_;rintro e w1 ⟨hb1,rfl⟩;obtain ⟨hc1,hf1⟩:=bcell hb1;have z0:w1.cell? ⟨w.heap.size,0,none⟩=some (.int .i64 0):=(by rw [hc1 _ _ (by first | (simp;done) | (simp;omega))];simp);have z1:w1.cell? ⟨w.heap.size,1,none⟩=some (.int .i64 0):=(by rw [hc1 _ _ (by first | (simp;done) | (simp;omega))];simp);have z2:w1.cell? ⟨w.heap.size,2,none⟩=some (.int .i64 0):=(by rw [hc1 _ _ (by first | (simp;done) | (simp;omega))];simp);have z3:w1.cell? ⟨w.heap.size,3,none⟩=some (.string ⟨#[]⟩):=(by rw [hc1 _ _ (by first | (simp;done) | (simp;omega))];simp);have z4:w1.cell? ⟨w.heap.size,4,none⟩=some (.string ⟨#[]⟩):=(by rw [hc1 _ _ (by first | (simp;done) | (simp;omega))];simp);have y0:w1.cell? ⟨w.heap.size+1,0,none⟩=some (.int .i64 3):=(by rw [hc1 _ _ (by first | (simp;done) | (simp;omega))];simp);have y1:w1.cell? ⟨w.heap.size+1,1,none⟩=some (.int .i64 ↑n):=(by rw [hc1 _ _ (by first | (simp;done) | (simp;omega))];simp);have y2:w1.cell? ⟨w.heap.size+1,2,none⟩=some (.int .i64 0):=(by rw [hc1 _ _ (by first | (simp;done) | (simp;omega))];simp);have y3:w1.cell? ⟨w.heap.size+1,3,none⟩=some (.string ⟨#[]⟩):=(by rw [hc1 _ _ (by first | (simp;done) | (simp;omega))];simp);have y4:w1.cell? ⟨w.heap.size+1,4,none⟩=some (.string ⟨#[]⟩):=(by rw [hc1 _ _ (by first | (simp;done) | (simp;omega))];simp);have hbw:Below w.heap.size w w1:=((((Below.refl w.heap.size w).alloc (Nat.le_refl _) _).alloc (by simp) _).trans (hb1.mono (by simp;omega)))))
    refine bodyPost_ret (v:=.tuple #[.agg #[.int .i64 0,.int .i64 0,.int .i64 0,.string ⟨#[]⟩,.string ⟨#[]⟩],.int .i64 0,.bool false]) (by simp [results,Try.results68,go_sem,z0,z1,z2,z3,z4]) rfl ⟨?_,by rw [HE'.out];rfl⟩
    (repeat (first | with_reducible exact Below.refl _ _ | with_reducible assumption | (refine Below.setCell ?_ (by first | (simp;done) | omega) _) | (refine Below.alloc ?_ (by first | (simp;done) | (simp;omega) | omega) _) | (refine Below.drew ?_)))
   | some p =>
    obtain ⟨t,s⟩:=p
    obtain ⟨d,r2,rfl,_⟩:=untilL_head _ _ _ hU
    have HU:Hid (untilL 125 (l.drop ((i:Int)+1).toNat) []=some (t,d :: r2)):=Lib.hid (by rw [show ((i:Int)+1).toNat=i+1 by omega,Hr.out];exact hU)
    have HE':Hid (R=some (⟨3,n,0,t,[]⟩,r2)):=Lib.hid (by rw [HE.out,hU])
    clear hU HE
    go_enter Try.func68,Try.ntmps68
    go_wp2_with (first | (go_at_call 67;refine (has_any _ _ _ _ (by omega) (by omega) (by simp)).mono ?_;rintro e w1 ⟨rfl,rfl⟩) | (go_at_call 73;refine (until_some _ (by omega) (by omega) (by omega) (by omega) HU.out).mono ?_;rintro e w1 ⟨hb1,hlt,j,hj1,hj2,hj3,rfl⟩;obtain ⟨hc1,hf1⟩:=bcell hb1;have z0:w1.cell? ⟨w.heap.size,0,none⟩=some (.int .i64 0):=(by rw [hc1 _ _ (by first | (simp;done) | (simp;omega))];simp);have z1:w1.cell? ⟨w.heap.size,1,none⟩=some (.int .i64 0):=(by rw [hc1 _ _ (by first | (simp;done) | (simp;omega))];simp);have z2:w1.cell? ⟨w.heap.size,2,none⟩=some (.int .i64 0):=(by rw [hc1 _ _ (by first | (simp;done) | (simp;omega))];simp);have z3:w1.cell? ⟨w.heap.size,3,none⟩=some (.string ⟨#[]⟩):=(by rw [hc1 _ _ (by first | (simp;done) | (simp;omega))];simp);have z4:w1.cell? ⟨w.heap.size,4,none⟩=some (.string ⟨#[]⟩):=(by rw [hc1 _ _ (by first | (simp;done) | (simp;omega))];simp);have y0:w1.cell? ⟨w.heap.size+1,0,none⟩=some (.int .i64 3):=(by rw [hc1 _ _ (by first | (simp;done) | (simp;omega))];simp);have y1:w1.cell? ⟨w.heap.size+1,1,none⟩=some (.int .i64 ↑n):=(by rw [hc1 _ _ (by first | (simp;done) | (simp;omega))];simp);have y2:w1.cell? ⟨w.heap.size+1,2,none⟩=some (.int .i64 0):=(by rw [hc1 _ _ (by first | (simp;done) | (simp;omega))];simp);have y3:w1.cell? ⟨w.heap.size+1,3,none⟩=some (.string ⟨#[]⟩):=(by rw [hc1 _ _ (by first | (simp;done) | (simp;omega))];simp);have y4:w1.cell? ⟨w.heap.size+1,4,none⟩=some (.string ⟨#[]⟩):=(by rw [hc1 _ _ (by first | (simp;done) | (simp;omega))];simp);have hbw:Below w.heap.size w w1:=((((Below.refl w.heap.size w).alloc (Nat.le_refl _) _).alloc (by simp) _).trans (hb1.mono (by simp;omega)));have HJ3:=Lib.hid hj3;clear hj3))
    refine bodyPost_ret (v:=.tuple #[.agg #[.int .i64 3,.int .i64 n,.int .i64 0,.string ⟨(t).toArray⟩,.string ⟨([]).toArray⟩],.int .i64 (j+1),.bool true]) (by simp [results,Try.results68,go_sem,z0,z1,z2,z3,z4]) rfl ⟨?_,?_⟩
    ·(repeat (first | with_reducible exact Below.refl _ _ | with_reducible assumption | (refine Below.setCell ?_ (by first | (simp;done) | omega) _) | (refine Below.alloc ?_ (by first | (simp;done) | (simp;omega) | omega) _) | (refine Below.drew ?_)))
    ·rw [HE'.out]
     refine ⟨by simp;try omega,by simp;try omega,j+1,by omega,by omega,(drop_cons HJ3.out).2.2,by simp⟩
  by_cases c45:c.toNat=45
  ·skip
   have e1:List.isPrefixOf [47] (List.drop i l)=false:=by rw [hd,pre1];simp;try omega
   have e2:List.isPrefixOf [43] (List.drop i l)=false:=by rw [hd,pre1];simp;try omega
   have e3:List.isPrefixOf [63] (List.drop i l)=false:=by rw [hd,pre1];simp;try omega
   have e4:List.isPrefixOf [45] (List.drop i l)=true:=by rw [hd,pre1];simp;try omega
   have HE:Hid (R=match untilL 125 r [] with | some (t,_ :: r2)=>some (⟨4,n,0,[],t⟩,r2) | _=>none):=Lib.hid (by
    rw [← HR.out,hd];simp only [bracedR];rw [if_neg (by omega),if_neg (by omega),if_neg (by omega),if_pos c45];rfl)
   clear hd c43 c45
   cases hU:untilL 125 r [] with
   | none =>
    have HU:Hid (untilL 125 (l.drop ((i:Int)+1).toNat) []=none):=Lib.hid (by rw [show ((i:Int)+1).toNat=i+1 by omega,Hr.out];exact hU)
    have HE':Hid (R=none):=Lib.hid (by rw [HE.out,hU])
    clear hU HE
    go_enter Try.func68,Try.ntmps68
    go_wp2_with (first | (go_at_call 67;refine (has_any _ _ _ _ (by omega) (by omega) (by simp)).mono ?_;rintro e w1 ⟨rfl,rfl⟩) | (go_at_call 73;refine (until_none _ (by omega) (by omega) (by omega) (by omega) HU.out).mono ?_;rintro e w1 ⟨hb1,rfl⟩;obtain ⟨hc1,hf1⟩:=bcell hb1;have z0:w1.cell? ⟨w.heap.size,0,none⟩=some (.int .i64 0):=(by rw [hc1 _ _ (by first | (simp;done) | (simp;omega))];simp);have z1:w1.cell? ⟨w.heap.size,1,none⟩=some (.int .i64 0):=(by rw [hc1 _ _ (by first | (simp;done) | (simp;omega))];simp);have z2:w1.cell? ⟨w.heap.size,2,none⟩=some (.int .i64 0):=(by rw [hc1 _ _ (by first | (simp;done) | (simp;omega))];simp);have z3:w1.cell? ⟨w.heap.size,3,none⟩=some (.string ⟨#[]⟩):=(by rw [hc1 _ _ (by first | (simp;done) | (simp;omega))];simp);have z4:w1.cell? ⟨w.heap.size,4,none⟩=some (.string ⟨#[]⟩):=(by rw [hc1 _ _ (by first | (simp;done) | (simp;omega))];simp);have y0:w1.cell? ⟨w.heap.size+1,0,none⟩=some (.int .i64 4):=(by rw [hc1 _ _ (by first | (simp;done) | (simp;omega))];simp);have y1:w1.cell? ⟨w.heap.size+1,1,none⟩=some (.int .i64 ↑n):=(by rw [hc1 _ _ (by first | (simp;done) | (simp;omega))];simp);have y2:w1.cell? ⟨w.heap.size+1,2,none⟩=some (.int .i64 0):=(by rw [hc1 _ _ (by first | (simp;done) | (simp;omega))];simp);have y3:w1.cell? ⟨w.heap.size+1,3,none⟩=some (.string ⟨#[]⟩):=(by rw [hc1 _ _ (by first | (simp;done) | (simp;omega))];simp);have y4:w1.cell? ⟨w.heap.size+1,4,none⟩=some (.string ⟨#[]⟩):=(by rw [hc1 _ _ (by first | (simp;done) | (simp;omega))];simp);have hbw:Below w.heap.size w w1:=((((Below.refl w.heap.size w).alloc (Nat.le_refl _) _).alloc (by simp) _).trans (hb1.mono (by simp;omega)))))
    refine bodyPost_ret (v:=.tuple #[.agg #[.int .i64 0,.int .i64 0,.int .i64 0,.string ⟨#[]⟩,.string ⟨#[]⟩],.int .i64 0,.bool false]) (by simp [results,Try.results68,go_sem,z0,z1,z2,z3,z4]) rfl ⟨?_,by rw [HE'.out];rfl⟩
    (repeat (first | with_reducible exact Below.refl _ _ | with_reducible assumption | (refine Below.setCell ?_ (by first | (simp;done) | omega) _) | (refine Below.alloc ?_ (by first | (simp;done) | (simp;omega) | omega) _) | (refine Below.drew ?_)))
   | some p =>
    obtain ⟨t,s⟩:=p
    obtain ⟨d,r2,rfl,_⟩:=untilL_head _ _ _ hU
    have HU:Hid (untilL 125 (l.drop ((i:Int)+1).toNat) []=some (t,d :: r2)):=Lib.hid (by rw [show ((i:Int)+1).toNat=i+1 by omega,Hr.out];exact hU)
    have HE':Hid (R=some (⟨4,n,0,[],t⟩,r2)):=Lib.hid (by rw [HE.out,hU])
    clear hU HE
    go_enter Try.func68,Try.ntmps68
    go_wp2_with (first | (go_at_call 67;refine (has_any _ _ _ _ (by omega) (by omega) (by simp)).mono ?_;rintro e w1 ⟨rfl,rfl⟩) | (go_at_call 73;refine (until_some _ (by omega) (by omega) (by omega) (by omega) HU.out).mono ?_;rintro e w1 ⟨hb1,hlt,j,hj1,hj2,hj3,rfl⟩;obtain ⟨hc1,hf1⟩:=bcell hb1;have z0:w1.cell? ⟨w.heap.size,0,none⟩=some (.int .i64 0):=(by rw [hc1 _ _ (by first | (simp;done) | (simp;omega))];simp);have z1:w1.cell? ⟨w.heap.size,1,none⟩=some (.int .i64 0):=(by rw [hc1 _ _ (by first | (simp;done) | (simp;omega))];simp);have z2:w1.cell? ⟨w.heap.size,2,none⟩=some (.int .i64 0):=(by rw [hc1 _ _ (by first | (simp;done) | (simp;omega))];simp);have z3:w1.cell? ⟨w.heap.size,3,none⟩=some (.string ⟨#[]⟩):=(by rw [hc1 _ _ (by first | (simp;done) | (simp;omega))];simp);have z4:w1.cell? ⟨w.heap.size,4,none⟩=some (.string ⟨#[]⟩):=(by rw [hc1 _ _ (by first | (simp;done) | (simp;omega))];simp);have y0:w1.cell? ⟨w.heap.size+1,0,none⟩=some (.int .i64 4):=(by rw [hc1 _ _ (by first | (simp;done) | (simp;omega))];simp);have y1:w1.cell? ⟨w.heap.size+1,1,none⟩=some (.int .i64 ↑n):=(by rw [hc1 _ _ (by first | (simp;done) | (simp;omega))];simp);have y2:w1.cell? ⟨w.heap.size+1,2,none⟩=some (.int .i64 0):=(by rw [hc1 _ _ (by first | (simp;done) | (simp;omega))];simp);have y3:w1.cell? ⟨w.heap.size+1,3,none⟩=some (.string ⟨#[]⟩):=(by rw [hc1 _ _ (by first | (simp;done) | (simp;omega))];simp);have y4:w1.cell? ⟨w.heap.size+1,4,none⟩=some (.string ⟨#[]⟩):=(by rw [hc1 _ _ (by first | (simp;done) | (simp;omega))];simp);have hbw:Below w.heap.size w w1:=((((Below.refl w.heap.size w).alloc (Nat.le_refl _) _).alloc (by simp) _).trans (hb1.mono (by simp;omega)));have HJ3:=Lib.hid hj3;clear hj3))
    refine bodyPost_ret (v:=.tuple #[.agg #[.int .i64 4,.int .i64 n,.int .i64 0,.string ⟨([]).toArray⟩,.string ⟨(t).toArray⟩],.int .i64 (j+1),.bool true]) (by simp [results,Try.results68,go_sem,z0,z1,z2,z3,z4]) rfl ⟨?_,?_⟩
    ·(repeat (first | with_reducible exact Below.refl _ _ | with_reducible assumption | (refine Below.setCell ?_ (by first | (simp;done) | omega) _) | (refine Below.alloc ?_ (by first | (simp;done) | (simp;omega) | omega) _) | (refine Below.drew ?_)))
    ·rw [HE'.out]
     refine ⟨by simp;try omega,by simp;try omega,j+1,by omega,by omega,(drop_cons HJ3.out).2.2,by simp⟩
  by_cases c63:c.toNat=63
  ·skip
   have e1:List.isPrefixOf [47] (List.drop i l)=false:=by rw [hd,pre1];simp;try omega
   have e2:List.isPrefixOf [43] (List.drop i l)=false:=by rw [hd,pre1];simp;try omega
   have e3:List.isPrefixOf [63] (List.drop i l)=true:=by rw [hd,pre1];simp;try omega
   have e4:List.isPrefixOf [45] (List.drop i l)=false:=by rw [hd,pre1];simp;try omega
   have HE:Hid (R=match untilL 58 r [] with | some (t,_ :: r2)=>(match untilL 125 r2 [] with | some (u,_ :: r3)=>some (⟨5,n,0,t,u⟩,r3) | _=>none) | _=>none):=Lib.hid (by
    rw [← HR.out,hd];simp only [bracedR];rw [if_neg (by omega),if_neg (by omega),if_pos c63];rfl)
   clear hd c43 c45 c63
   cases hU:untilL 58 r [] with
   | none =>
    have HU:Hid (untilL 58 (l.drop ((i:Int)+1).toNat) []=none):=Lib.hid (by rw [show ((i:Int)+1).toNat=i+1 by omega,Hr.out];exact hU)
    have HE':Hid (R=none):=Lib.hid (by rw [HE.out,hU])
    clear hU HE
    go_enter Try.func68,Try.ntmps68
    go_wp2_with (first | (go_at_call 67;refine (has_any _ _ _ _ (by omega) (by omega) (by simp)).mono ?_;rintro e w1 ⟨rfl,rfl⟩) | (go_at_call 73;refine (until_none _ (by omega) (by omega) (by omega) (by omega) HU.out).mono ?_;rintro e w1 ⟨hb1,rfl⟩;obtain ⟨hc1,hf1⟩:=bcell hb1;have z0:w1.cell? ⟨w.heap.size,0,none⟩=some (.int .i64 0):=(by rw [hc1 _ _ (by first | (simp;done) | (simp;omega))];simp);have z1:w1.cell? ⟨w.heap.size,1,none⟩=some (.int .i64 0):=(by rw [hc1 _ _ (by first | (simp;done) | (simp;omega))];simp);have z2:w1.cell? ⟨w.heap.size,2,none⟩=some (.int .i64 0):=(by rw [hc1 _ _ (by first | (simp;done) | (simp;omega))];simp);have z3:w1.cell? ⟨w.heap.size,3,none⟩=some (.string ⟨#[]⟩):=(by rw [hc1 _ _ (by first | (simp;done) | (simp;omega))];simp);have z4:w1.cell? ⟨w.heap.size,4,none⟩=some (.string ⟨#[]⟩):=(by rw [hc1 _ _ (by first | (simp;done) | (simp;omega))];simp);have y0:w1.cell? ⟨w.heap.size+1,0,none⟩=some (.int .i64 5):=(by rw [hc1 _ _ (by first | (simp;done) | (simp;omega))];simp);have y1:w1.cell? ⟨w.heap.size+1,1,none⟩=some (.int .i64 ↑n):=(by rw [hc1 _ _ (by first | (simp;done) | (simp;omega))];simp);have y2:w1.cell? ⟨w.heap.size+1,2,none⟩=some (.int .i64 0):=(by rw [hc1 _ _ (by first | (simp;done) | (simp;omega))];simp);have y3:w1.cell? ⟨w.heap.size+1,3,none⟩=some (.string ⟨#[]⟩):=(by rw [hc1 _ _ (by first | (simp;done) | (simp;omega))];simp);have y4:w1.cell? ⟨w.heap.size+1,4,none⟩=some (.string ⟨#[]⟩):=(by rw [hc1 _ _ (by first | (simp;done) | (simp;omega))];simp);have hbw:Below w.heap.size w w1:=((((Below.refl w.heap.size w).alloc (Nat.le_refl _) _).alloc (by simp) _).trans (hb1.mono (by simp;omega)))))
    refine bodyPost_ret (v:=.tuple #[.agg #[.int .i64 0,.int .i64 0,.int .i64 0,.string ⟨#[]⟩,.string ⟨#[]⟩],.int .i64 0,.bool false]) (by simp [results,Try.results68,go_sem,z0,z1,z2,z3,z4]) rfl ⟨?_,by rw [HE'.out];rfl⟩
    (repeat (first | with_reducible exact Below.refl _ _ | with_reducible assumption | (refine Below.setCell ?_ (by first | (simp;done) | omega) _) | (refine Below.alloc ?_ (by first | (simp;done) | (simp;omega) | omega) _) | (refine Below.drew ?_)))
   | some p =>
    obtain ⟨t,s⟩:=p
    obtain ⟨d,r2,rfl,_⟩:=untilL_head _ _ _ hU
    have HU:Hid (untilL 58 (l.drop ((i:Int)+1).toNat) []=some (t,d :: r2)):=Lib.hid (by rw [show ((i:Int)+1).toNat=i+1 by omega,Hr.out];exact hU)
    have HE1:Hid (R=match untilL 125 r2 [] with | some (u,_ :: r3)=>some (⟨5,n,0,t,u⟩,r3) | _=>none):=Lib.hid (by rw [HE.out,hU])
    clear hU HE
    go_enter Try.func68,Try.ntmps68
    go_wp2_with (first | (go_at_call 67;refine (has_any _ _ _ _ (by omega) (by omega) (by simp)).mono ?_;rintro e w1 ⟨rfl,rfl⟩) | (go_at_call 73;refine (until_some _ (by omega) (by omega) (by omega) (by omega) HU.out).mono ?_))
    rintro e w1 ⟨hb1,hlt,j,hj1,hj2,hj3,rfl⟩
    obtain ⟨hc1,hf1⟩:=bcell hb1;have z0:w1.cell? ⟨w.heap.size,0,none⟩=some (.int .i64 0):=(by rw [hc1 _ _ (by first | (simp;done) | (simp;omega))];simp);have z1:w1.cell? ⟨w.heap.size,1,none⟩=some (.int .i64 0):=(by rw [hc1 _ _ (by first | (simp;done) | (simp;omega))];simp);have z2:w1.cell? ⟨w.heap.size,2,none⟩=some (.int .i64 0):=(by rw [hc1 _ _ (by first | (simp;done) | (simp;omega))];simp);have z3:w1.cell? ⟨w.heap.size,3,none⟩=some (.string ⟨#[]⟩):=(by rw [hc1 _ _ (by first | (simp;done) | (simp;omega))];simp);have z4:w1.cell? ⟨w.heap.size,4,none⟩=some (.string ⟨#[]⟩):=(by rw [hc1 _ _ (by first | (simp;done) | (simp;omega))];simp);have y0:w1.cell? ⟨w.heap.size+1,0,none⟩=some (.int .i64 5):=(by rw [hc1 _ _ (by first | (simp;done) | (simp;omega))];simp);have y1:w1.cell? ⟨w.heap.size+1,1,none⟩=some (.int .i64 ↑n):=(by rw [hc1 _ _ (by first | (simp;done) | (simp;omega))];simp);have y2:w1.cell? ⟨w.heap.size+1,2,none⟩=some (.int .i64 0):=(by rw [hc1 _ _ (by first | (simp;done) | (simp;omega))];simp);have y3:w1.cell? ⟨w.heap.size+1,3,none⟩=some (.string ⟨#[]⟩):=(by rw [hc1 _ _ (by first | (simp;done) | (simp;omega))];simp);have y4:w1.cell? ⟨w.heap.size+1,4,none⟩=some (.string ⟨#[]⟩):=(by rw [hc1 _ _ (by first | (simp;done) | (simp;omega))];simp);have hbw:Below w.heap.size w w1:=((((Below.refl w.heap.size w).alloc (Nat.le_refl _) _).alloc (by simp) _).trans (hb1.mono (by simp;omega)))
    have HJ:=Lib.hid (drop_cons hj3).2.2
    clear hj3
    have hz:w.heap.size+1 < w1.heap.size:=by have:=hb1.size;simp at this;omega
    cases hV:untilL 125 r2 [] with
    | none =>
     have HV:Hid (untilL 125 (l.drop ((j:Int)+1).toNat) []=none):=Lib.hid (by rw [show ((j:Int)+1).toNat=j+1 by omega,HJ.out];exact hV)
     have HE':Hid (R=none):=Lib.hid (by rw [HE1.out,hV])
     clear hV HE1
     go_wp2_with (go_at_call 73;refine (until_none _ (by omega) (by omega) (by omega) (by omega) HV.out).mono ?_;rintro e w2 ⟨hb2,rfl⟩;obtain ⟨hc2,hf2⟩:=bcell hb2;have fz2:∀ j,w2.frozen? ⟨w.heap.size,j,none⟩=false:=(fun j=>by rw [hf2 _ _ (by simp [World.setCell];omega)];simp [go_sem,hf1]);have fy2:∀ j,w2.frozen? ⟨w.heap.size+1,j,none⟩=false:=(fun j=>by rw [hf2 _ _ (by simp [World.setCell];omega)];simp [go_sem,hf1]);have x0:w2.cell? ⟨w.heap.size,0,none⟩=some (.int .i64 0):=(by rw [hc2 _ _ (by simp [World.setCell];omega)];simp [go_sem,z0]);have x1:w2.cell? ⟨w.heap.size,1,none⟩=some (.int .i64 0):=(by rw [hc2 _ _ (by simp [World.setCell];omega)];simp [go_sem,z1]);have x2:w2.cell? ⟨w.heap.size,2,none⟩=some (.int .i64 0):=(by rw [hc2 _ _ (by simp [World.setCell];omega)];simp [go_sem,z2]);have x3:w2.cell? ⟨w.heap.size,3,none⟩=some (.string ⟨#[]⟩):=(by rw [hc2 _ _ (by simp [World.setCell];omega)];simp [go_sem,z3]);have x4:w2.cell? ⟨w.heap.size,4,none⟩=some (.string ⟨#[]⟩):=(by rw [hc2 _ _ (by simp [World.setCell];omega)];simp [go_sem,z4]);have v0:w2.cell? ⟨w.heap.size+1,0,none⟩=some (.int .i64 5):=(by rw [hc2 _ _ (by simp [World.setCell];omega)];simp [go_sem,y0]);have v1:w2.cell? ⟨w.heap.size+1,1,none⟩=some (.int .i64 ↑n):=(by rw [hc2 _ _ (by simp [World.setCell];omega)];simp [go_sem,y1]);have v2:w2.cell? ⟨w.heap.size+1,2,none⟩=some (.int .i64 0):=(by rw [hc2 _ _ (by simp [World.setCell];omega)];simp [go_sem,y2]);have v3:w2.cell? ⟨w.heap.size+1,3,none⟩=some (.string ⟨(t).toArray⟩):=(by rw [hc2 _ _ (by simp [World.setCell];omega)];simp [go_sem,y3]);have v4:w2.cell? ⟨w.heap.size+1,4,none⟩=some (.string ⟨#[]⟩):=(by rw [hc2 _ _ (by simp [World.setCell];omega)];simp [go_sem,y4]);have hbw2:Below w.heap.size w w2:=(hbw.setCell (p:=⟨w.heap.size+1,3,none⟩) (by simp) _).trans (hb2.mono (by simp [World.setCell];omega)))
     refine bodyPost_ret (v:=.tuple #[.agg #[.int .i64 0,.int .i64 0,.int .i64 0,.string ⟨#[]⟩,.string ⟨#[]⟩],.int .i64 0,.bool false]) (by simp [results,Try.results68,go_sem,x0,x1,x2,x3,x4]) rfl ⟨?_,by rw [HE'.out];rfl⟩
     (repeat (first | with_reducible exact Below.refl _ _ | with_reducible assumption | (refine Below.setCell ?_ (by first | (simp;done) | omega) _) | (refine Below.alloc ?_ (by first | (simp;done) | (simp;omega) | omega) _) | (refine Below.drew ?_)))
    | some p =>
     obtain ⟨u,s⟩:=p
     obtain ⟨d',r3,rfl,_⟩:=untilL_head _ _ _ hV
     have HV:Hid (untilL 125 (l.drop ((j:Int)+1).toNat) []=some (u,d' :: r3)):=Lib.hid (by rw [show ((j:Int)+1).toNat=j+1 by omega,HJ.out];exact hV)
     have HE':Hid (R=some (⟨5,n,0,t,u⟩,r3)):=Lib.hid (by rw [HE1.out,hV])
     clear hV HE1
     go_wp2_with (go_at_call 73;refine (until_some _ (by omega) (by omega) (by omega) (by omega) HV.out).mono ?_;rintro e w2 ⟨hb2,hlt2,j2,hk1,hk2,hk3,rfl⟩;obtain ⟨hc2,hf2⟩:=bcell hb2;have fz2:∀ j,w2.frozen? ⟨w.heap.size,j,none⟩=false:=(fun j=>by rw [hf2 _ _ (by simp [World.setCell];omega)];simp [go_sem,hf1]);have fy2:∀ j,w2.frozen? ⟨w.heap.size+1,j,none⟩=false:=(fun j=>by rw [hf2 _ _ (by simp [World.setCell];omega)];simp [go_sem,hf1]);have x0:w2.cell? ⟨w.heap.size,0,none⟩=some (.int .i64 0):=(by rw [hc2 _ _ (by simp [World.setCell];omega)];simp [go_sem,z0]);have x1:w2.cell? ⟨w.heap.size,1,none⟩=some (.int .i64 0):=(by rw [hc2 _ _ (by simp [World.setCell];omega)];simp [go_sem,z1]);have x2:w2.cell? ⟨w.heap.size,2,none⟩=some (.int .i64 0):=(by rw [hc2 _ _ (by simp [World.setCell];omega)];simp [go_sem,z2]);have x3:w2.cell? ⟨w.heap.size,3,none⟩=some (.string ⟨#[]⟩):=(by rw [hc2 _ _ (by simp [World.setCell];omega)];simp [go_sem,z3]);have x4:w2.cell? ⟨w.heap.size,4,none⟩=some (.string ⟨#[]⟩):=(by rw [hc2 _ _ (by simp [World.setCell];omega)];simp [go_sem,z4]);have v0:w2.cell? ⟨w.heap.size+1,0,none⟩=some (.int .i64 5):=(by rw [hc2 _ _ (by simp [World.setCell];omega)];simp [go_sem,y0]);have v1:w2.cell? ⟨w.heap.size+1,1,none⟩=some (.int .i64 ↑n):=(by rw [hc2 _ _ (by simp [World.setCell];omega)];simp [go_sem,y1]);have v2:w2.cell? ⟨w.heap.size+1,2,none⟩=some (.int .i64 0):=(by rw [hc2 _ _ (by simp [World.setCell];omega)];simp [go_sem,y2]);have v3:w2.cell? ⟨w.heap.size+1,3,none⟩=some (.string ⟨(t).toArray⟩):=(by rw [hc2 _ _ (by simp [World.setCell];omega)];simp [go_sem,y3]);have v4:w2.cell? ⟨w.heap.size+1,4,none⟩=some (.string ⟨#[]⟩):=(by rw [hc2 _ _ (by simp [World.setCell];omega)];simp [go_sem,y4]);have hbw2:Below w.heap.size w w2:=(hbw.setCell (p:=⟨w.heap.size+1,3,none⟩) (by simp) _).trans (hb2.mono (by simp [World.setCell];omega));have HK3:=Lib.hid hk3;clear hk3)
     refine bodyPost_ret (v:=.tuple #[.agg #[.int .i64 5,.int .i64 n,.int .i64 0,.string ⟨(t).toArray⟩,.string ⟨(u).toArray⟩],.int .i64 (j2+1),.bool true]) (by simp [results,Try.results68,go_sem,x0,x1,x2,x3,x4]) rfl ⟨?_,?_⟩
     ·(repeat (first | with_reducible exact Below.refl _ _ | with_reducible assumption | (refine Below.setCell ?_ (by first | (simp;done) | omega) _) | (refine Below.alloc ?_ (by first | (simp;done) | (simp;omega) | omega) _) | (refine Below.drew ?_)))
     ·rw [HE'.out]
      refine ⟨by simp;try omega,by simp;try omega,j2+1,by omega,by omega,(drop_cons HK3.out).2.2,by simp⟩
  by_cases c47:c.toNat=47
  ·skip
   have e1:List.isPrefixOf [47] (List.drop i l)=true:=by rw [hd,pre1];simp;try omega
   have e2:List.isPrefixOf [43] (List.drop i l)=false:=by rw [hd,pre1];simp;try omega
   have e3:List.isPrefixOf [63] (List.drop i l)=false:=by rw [hd,pre1];simp;try omega
   have e4:List.isPrefixOf [45] (List.drop i l)=false:=by rw [hd,pre1];simp;try omega
   have HE:Hid (R=match r.dropWhile ne125 with
    | []=>none
    | _ :: r2=>if wayOf (r.takeWhile ne125)=0 then none else some (⟨2,n,wayOf (r.takeWhile ne125),[],[]⟩,r2)):=Lib.hid (by
    rw [← HR.out,hd];simp only [bracedR];rw [if_pos c47];rfl)
   have hx:Lib.indexByte (List.drop i l) (125:Int).toNat.toUInt8=match r.dropWhile ne125 with | []=>-1 | _ :: _=>((r.takeWhile ne125).length:Int)+1:=by
    rw [hd]
    have e125:(125:Int).toNat.toUInt8=125:=rfl
    have hb:(c == 125)=false:=by rw [beq_eq_false_iff_ne];intro e;rw [e] at c47;simp at c47
    rw [e125];simp only [Lib.indexByte,hb];rw [idx_span]
    cases r.dropWhile ne125 with
    | nil=>rfl
    | cons x y =>
     have h1:((((r.takeWhile ne125).length:Int)) == -1)=false:=by rw [beq_eq_false_iff_ne];omega
     simp only [h1,Bool.false_eq_true,if_false]
   clear hd c43 c45 c63 c47
   have hspan:=List.takeWhile_append_dropWhile (p:=ne125) (l:=r)
   generalize r.takeWhile ne125=tk at *
   generalize r.dropWhile ne125=dw at *
   have HX:=Lib.hid hx
   have HSP:=Lib.hid hspan
   clear hx hspan
   cases dw with
   | nil =>
    have HX':Hid (Lib.indexByte (List.drop i l) (125:Int).toNat.toUInt8=-1):=HX
    have HE':Hid (R=none):=HE
    clear HX HE
    go_enter Try.func68,Try.ntmps68
    go_wp2_with (first | (go_at_call 67;refine (has_any _ _ _ _ (by omega) (by omega) (by simp)).mono ?_;rintro e w1 ⟨rfl,rfl⟩) | (go_at_call 35;refine (IndexByte_eq _ HX'.out).mono ?_;rintro e w1 ⟨rfl,rfl⟩))
    refine bodyPost_ret (v:=.tuple #[.agg #[.int .i64 0,.int .i64 0,.int .i64 0,.string ⟨#[]⟩,.string ⟨#[]⟩],.int .i64 0,.bool false]) (by simp [results,Try.results68,go_sem]) rfl ⟨?_,by rw [HE'.out];rfl⟩
    (repeat (first | with_reducible exact Below.refl _ _ | with_reducible assumption | (refine Below.setCell ?_ (by first | (simp;done) | omega) _) | (refine Below.alloc ?_ (by first | (simp;done) | (simp;omega) | omega) _) | (refine Below.drew ?_)))
   | cons d r2 =>
    have HX':Hid (Lib.indexByte (List.drop i l) (125:Int).toNat.toUInt8=(tk.length:Int)+1):=HX
    have HE':Hid (R=if wayOf tk=0 then none else some (⟨2,n,wayOf tk,[],[]⟩,r2)):=HE
    have hlen:i+1+tk.length < l.length:=by
     have h1:=congrArg List.length HSP.out
     have h2:=congrArg List.length Hr.out
     simp at h1 h2;omega
    have hK:∀ k,k=tk.length→List.take k (List.drop (i+1) l)=tk:=fun k hk=>by
     rw [Hr.out,← HSP.out,hk,List.take_left]
    have HK:=Lib.hid hK
    clear HX HE hK
    go_enter Try.func68,Try.ntmps68
    have hW:wayOf (List.take (i+(tk.length+1) - (i+1)) (List.drop (i+1) l))=wayOf tk:=by rw [HK.out _ (by omega)]
    generalize hv:wayOf tk=v at *
    have HW:=Lib.hid hW
    have HV:=Lib.hid hv
    clear hW hv
    by_cases h0:v=0
    ·subst h0
     have HE2:Hid (R=none):=Lib.hid (by rw [HE'.out,if_pos rfl])
     clear HE'
     have HE':=HE2
     go_wp2_with (first | (go_at_call 67;refine (has_any _ _ _ _ (by omega) (by omega) (by simp)).mono ?_;rintro e w1 ⟨rfl,rfl⟩) | (go_at_call 35;refine (IndexByte_eq _ HX'.out).mono ?_;rintro e w1 ⟨rfl,rfl⟩) | (go_at_call 72;refine (Way_eq _ HW.out).mono ?_;rintro e w1 ⟨rfl,hb1⟩;obtain ⟨hc1,hf1⟩:=bcell hb1;have z0:w1.cell? ⟨w.heap.size,0,none⟩=some (.int .i64 0):=(by rw [hc1 _ _ (by first | (simp;done) | (simp;omega))];simp);have z1:w1.cell? ⟨w.heap.size,1,none⟩=some (.int .i64 0):=(by rw [hc1 _ _ (by first | (simp;done) | (simp;omega))];simp);have z2:w1.cell? ⟨w.heap.size,2,none⟩=some (.int .i64 0):=(by rw [hc1 _ _ (by first | (simp;done) | (simp;omega))];simp);have z3:w1.cell? ⟨w.heap.size,3,none⟩=some (.string ⟨#[]⟩):=(by rw [hc1 _ _ (by first | (simp;done) | (simp;omega))];simp);have z4:w1.cell? ⟨w.heap.size,4,none⟩=some (.string ⟨#[]⟩):=(by rw [hc1 _ _ (by first | (simp;done) | (simp;omega))];simp);have y0:w1.cell? ⟨w.heap.size+1,0,none⟩=some (.int .i64 4):=(by rw [hc1 _ _ (by first | (simp;done) | (simp;omega))];simp);have y1:w1.cell? ⟨w.heap.size+1,1,none⟩=some (.int .i64 ↑n):=(by rw [hc1 _ _ (by first | (simp;done) | (simp;omega))];simp);have y2:w1.cell? ⟨w.heap.size+1,2,none⟩=some (.int .i64 0):=(by rw [hc1 _ _ (by first | (simp;done) | (simp;omega))];simp);have y3:w1.cell? ⟨w.heap.size+1,3,none⟩=some (.string ⟨#[]⟩):=(by rw [hc1 _ _ (by first | (simp;done) | (simp;omega))];simp);have y4:w1.cell? ⟨w.heap.size+1,4,none⟩=some (.string ⟨#[]⟩):=(by rw [hc1 _ _ (by first | (simp;done) | (simp;omega))];simp);have hbw:Below w.heap.size w w1:=((((Below.refl w.heap.size w).alloc (Nat.le_refl _) _).alloc (by simp) _).trans (hb1.mono (by simp;omega)))))
     refine bodyPost_ret (v:=.tuple #[.agg #[.int .i64 0,.int .i64 0,.int .i64 0,.string ⟨#[]⟩,.string ⟨#[]⟩],.int .i64 0,.bool false]) (by simp [results,Try.results68,go_sem,z0,z1,z2,z3,z4]) rfl ⟨?_,by rw [HE'.out];rfl⟩
     (repeat (first | with_reducible exact Below.refl _ _ | with_reducible assumption | (refine Below.setCell ?_ (by first | (simp;done) | omega) _) | (refine Below.alloc ?_ (by first | (simp;done) | (simp;omega) | omega) _) | (refine Below.drew ?_)))
    ·have HE2:Hid (R=some (⟨2,n,v,[],[]⟩,r2)):=Lib.hid (by rw [HE'.out,if_neg h0])
     have e0:(v == 0)=false:=by simpa using h0
     clear HE' h0
     go_wp2_with (first | (go_at_call 67;refine (has_any _ _ _ _ (by omega) (by omega) (by simp)).mono ?_;rintro e w1 ⟨rfl,rfl⟩) | (go_at_call 35;refine (IndexByte_eq _ HX'.out).mono ?_;rintro e w1 ⟨rfl,rfl⟩) | (go_at_call 72;refine (Way_eq _ HW.out).mono ?_;rintro e w1 ⟨rfl,hb1⟩;obtain ⟨hc1,hf1⟩:=bcell hb1;have z0:w1.cell? ⟨w.heap.size,0,none⟩=some (.int .i64 0):=(by rw [hc1 _ _ (by first | (simp;done) | (simp;omega))];simp);have z1:w1.cell? ⟨w.heap.size,1,none⟩=some (.int .i64 0):=(by rw [hc1 _ _ (by first | (simp;done) | (simp;omega))];simp);have z2:w1.cell? ⟨w.heap.size,2,none⟩=some (.int .i64 0):=(by rw [hc1 _ _ (by first | (simp;done) | (simp;omega))];simp);have z3:w1.cell? ⟨w.heap.size,3,none⟩=some (.string ⟨#[]⟩):=(by rw [hc1 _ _ (by first | (simp;done) | (simp;omega))];simp);have z4:w1.cell? ⟨w.heap.size,4,none⟩=some (.string ⟨#[]⟩):=(by rw [hc1 _ _ (by first | (simp;done) | (simp;omega))];simp);have y0:w1.cell? ⟨w.heap.size+1,0,none⟩=some (.int .i64 4):=(by rw [hc1 _ _ (by first | (simp;done) | (simp;omega))];simp);have y1:w1.cell? ⟨w.heap.size+1,1,none⟩=some (.int .i64 ↑n):=(by rw [hc1 _ _ (by first | (simp;done) | (simp;omega))];simp);have y2:w1.cell? ⟨w.heap.size+1,2,none⟩=some (.int .i64 0):=(by rw [hc1 _ _ (by first | (simp;done) | (simp;omega))];simp);have y3:w1.cell? ⟨w.heap.size+1,3,none⟩=some (.string ⟨#[]⟩):=(by rw [hc1 _ _ (by first | (simp;done) | (simp;omega))];simp);have y4:w1.cell? ⟨w.heap.size+1,4,none⟩=some (.string ⟨#[]⟩):=(by rw [hc1 _ _ (by first | (simp;done) | (simp;omega))];simp);have hbw:Below w.heap.size w w1:=((((Below.refl w.heap.size w).alloc (Nat.le_refl _) _).alloc (by simp) _).trans (hb1.mono (by simp;omega)))))
     refine bodyPost_ret (v:=.tuple #[.agg #[.int .i64 2,.int .i64 n,.int .i64 v,.string ⟨([]).toArray⟩,.string ⟨([]).toArray⟩],.int .i64 (i+(tk.length+1)+1),.bool true]) (by simp [results,Try.results68,go_sem,z0,z1,z2,z3,z4]) rfl ⟨?_,?_⟩
     ·(repeat (first | with_reducible exact Below.refl _ _ | with_reducible assumption | (refine Below.setCell ?_ (by first | (simp;done) | omega) _) | (refine Below.alloc ?_ (by first | (simp;done) | (simp;omega) | omega) _) | (refine Below.drew ?_)))
     ·rw [HE2.out]
      refine ⟨by simp,by simp,i+(tk.length+1)+1,by omega,by omega,?_,by simp⟩
      rw [show i+(tk.length+1)+1=i+1+(tk.length+1) by omega,← List.drop_drop,Hr.out,← HSP.out,List.drop_append]
      simp
  ·skip
   have e1:List.isPrefixOf [47] (List.drop i l)=false:=by rw [hd,pre1];simp;try omega
   have e2:List.isPrefixOf [43] (List.drop i l)=false:=by rw [hd,pre1];simp;try omega
   have e3:List.isPrefixOf [63] (List.drop i l)=false:=by rw [hd,pre1];simp;try omega
   have e4:List.isPrefixOf [45] (List.drop i l)=false:=by rw [hd,pre1];simp;try omega
   have HE:Hid (R=match untilL 125 (c :: r) [] with | some (t,_ :: r2)=>some (⟨4,n,0,[],t⟩,r2) | _=>none):=Lib.hid (by
    rw [← HR.out,hd];simp only [bracedR];rw [if_neg c47,if_neg c43,if_neg c63,if_neg c45];rfl)
   clear hd c43 c45 c63 c47
   cases hU:untilL 125 (c :: r) [] with
   | none =>
    have HU:Hid (untilL 125 (l.drop ((i:Int)).toNat) []=none):=Lib.hid (by rw [Int.toNat_natCast,HD.out];exact hU)
    have HE':Hid (R=none):=Lib.hid (by rw [HE.out,hU])
    clear hU HE
    go_enter Try.func68,Try.ntmps68
    go_wp2_with (first | (go_at_call 67;refine (has_any _ _ _ _ (by omega) (by omega) (by simp)).mono ?_;rintro e w1 ⟨rfl,rfl⟩) | (go_at_call 73;refine (until_none _ (by omega) (by omega) (by omega) (by omega) HU.out).mono ?_;rintro e w1 ⟨hb1,rfl⟩;obtain ⟨hc1,hf1⟩:=bcell hb1;have z0:w1.cell? ⟨w.heap.size,0,none⟩=some (.int .i64 0):=(by rw [hc1 _ _ (by first | (simp;done) | (simp;omega))];simp);have z1:w1.cell? ⟨w.heap.size,1,none⟩=some (.int .i64 0):=(by rw [hc1 _ _ (by first | (simp;done) | (simp;omega))];simp);have z2:w1.cell? ⟨w.heap.size,2,none⟩=some (.int .i64 0):=(by rw [hc1 _ _ (by first | (simp;done) | (simp;omega))];simp);have z3:w1.cell? ⟨w.heap.size,3,none⟩=some (.string ⟨#[]⟩):=(by rw [hc1 _ _ (by first | (simp;done) | (simp;omega))];simp);have z4:w1.cell? ⟨w.heap.size,4,none⟩=some (.string ⟨#[]⟩):=(by rw [hc1 _ _ (by first | (simp;done) | (simp;omega))];simp);have y0:w1.cell? ⟨w.heap.size+1,0,none⟩=some (.int .i64 4):=(by rw [hc1 _ _ (by first | (simp;done) | (simp;omega))];simp);have y1:w1.cell? ⟨w.heap.size+1,1,none⟩=some (.int .i64 ↑n):=(by rw [hc1 _ _ (by first | (simp;done) | (simp;omega))];simp);have y2:w1.cell? ⟨w.heap.size+1,2,none⟩=some (.int .i64 0):=(by rw [hc1 _ _ (by first | (simp;done) | (simp;omega))];simp);have y3:w1.cell? ⟨w.heap.size+1,3,none⟩=some (.string ⟨#[]⟩):=(by rw [hc1 _ _ (by first | (simp;done) | (simp;omega))];simp);have y4:w1.cell? ⟨w.heap.size+1,4,none⟩=some (.string ⟨#[]⟩):=(by rw [hc1 _ _ (by first | (simp;done) | (simp;omega))];simp);have hbw:Below w.heap.size w w1:=((((Below.refl w.heap.size w).alloc (Nat.le_refl _) _).alloc (by simp) _).trans (hb1.mono (by simp;omega)))))
    refine bodyPost_ret (v:=.tuple #[.agg #[.int .i64 0,.int .i64 0,.int .i64 0,.string ⟨#[]⟩,.string ⟨#[]⟩],.int .i64 0,.bool false]) (by simp [results,Try.results68,go_sem,z0,z1,z2,z3,z4]) rfl ⟨?_,by rw [HE'.out];rfl⟩
    (repeat (first | with_reducible exact Below.refl _ _ | with_reducible assumption | (refine Below.setCell ?_ (by first | (simp;done) | omega) _) | (refine Below.alloc ?_ (by first | (simp;done) | (simp;omega) | omega) _) | (refine Below.drew ?_)))
   | some p =>
    obtain ⟨t,s⟩:=p
    obtain ⟨d,r2,rfl,_⟩:=untilL_head _ _ _ hU
    have HU:Hid (untilL 125 (l.drop ((i:Int)).toNat) []=some (t,d :: r2)):=Lib.hid (by rw [Int.toNat_natCast,HD.out];exact hU)
    have HE':Hid (R=some (⟨4,n,0,[],t⟩,r2)):=Lib.hid (by rw [HE.out,hU])
    clear hU HE
    go_enter Try.func68,Try.ntmps68
    go_wp2_with (first | (go_at_call 67;refine (has_any _ _ _ _ (by omega) (by omega) (by simp)).mono ?_;rintro e w1 ⟨rfl,rfl⟩) | (go_at_call 73;refine (until_some _ (by omega) (by omega) (by omega) (by omega) HU.out).mono ?_;rintro e w1 ⟨hb1,hlt,j,hj1,hj2,hj3,rfl⟩;obtain ⟨hc1,hf1⟩:=bcell hb1;have z0:w1.cell? ⟨w.heap.size,0,none⟩=some (.int .i64 0):=(by rw [hc1 _ _ (by first | (simp;done) | (simp;omega))];simp);have z1:w1.cell? ⟨w.heap.size,1,none⟩=some (.int .i64 0):=(by rw [hc1 _ _ (by first | (simp;done) | (simp;omega))];simp);have z2:w1.cell? ⟨w.heap.size,2,none⟩=some (.int .i64 0):=(by rw [hc1 _ _ (by first | (simp;done) | (simp;omega))];simp);have z3:w1.cell? ⟨w.heap.size,3,none⟩=some (.string ⟨#[]⟩):=(by rw [hc1 _ _ (by first | (simp;done) | (simp;omega))];simp);have z4:w1.cell? ⟨w.heap.size,4,none⟩=some (.string ⟨#[]⟩):=(by rw [hc1 _ _ (by first | (simp;done) | (simp;omega))];simp);have y0:w1.cell? ⟨w.heap.size+1,0,none⟩=some (.int .i64 4):=(by rw [hc1 _ _ (by first | (simp;done) | (simp;omega))];simp);have y1:w1.cell? ⟨w.heap.size+1,1,none⟩=some (.int .i64 ↑n):=(by rw [hc1 _ _ (by first | (simp;done) | (simp;omega))];simp);have y2:w1.cell? ⟨w.heap.size+1,2,none⟩=some (.int .i64 0):=(by rw [hc1 _ _ (by first | (simp;done) | (simp;omega))];simp);have y3:w1.cell? ⟨w.heap.size+1,3,none⟩=some (.string ⟨#[]⟩):=(by rw [hc1 _ _ (by first | (simp;done) | (simp;omega))];simp);have y4:w1.cell? ⟨w.heap.size+1,4,none⟩=some (.string ⟨#[]⟩):=(by rw [hc1 _ _ (by first | (simp;done) | (simp;omega))];simp);have hbw:Below w.heap.size w w1:=((((Below.refl w.heap.size w).alloc (Nat.le_refl _) _).alloc (by simp) _).trans (hb1.mono (by simp;omega)));have HJ3:=Lib.hid hj3;clear hj3))
    refine bodyPost_ret (v:=.tuple #[.agg #[.int .i64 4,.int .i64 n,.int .i64 0,.string ⟨([]).toArray⟩,.string ⟨(t).toArray⟩],.int .i64 (j+1),.bool true]) (by simp [results,Try.results68,go_sem,z0,z1,z2,z3,z4]) rfl ⟨?_,?_⟩
    ·(repeat (first | with_reducible exact Below.refl _ _ | with_reducible assumption | (refine Below.setCell ?_ (by first | (simp;done) | omega) _) | (refine Below.alloc ?_ (by first | (simp;done) | (simp;omega) | omega) _) | (refine Below.drew ?_)))
    ·rw [HE'.out]
     refine ⟨by simp;try omega,by simp;try omega,j+1,by omega,by omega,(drop_cons HJ3.out).2.2,by simp⟩
end Go.Proofs.Ytbgcjpefocdkkaa
