/- walk of gimletlaw22.SshowUnlike -/
import Derived.Test.YtdcnncgpomcaaaaGreatDoorRc39
set_option maxRecDepth 100000
set_option maxHeartbeats 4000000
namespace Go.Proofs.YtdcnncgpomcaaaaGreatDoor
open Go.RowKit
structure UnT (w:World) (xs:List Sn) (a:Option Addr) (c:Nat) (L:Int) (pm ps:Bool) (T:Str):Prop where
 lb:∀w',Below w.heap.size w w'→Calls Tryz.prog 8 #[.slice a xs.length c,.int .i64 100] w' fun e w''=>e=.returned (.int .i64 L)∧Below w'.heap.size w' w''
 my:0≤L→∀w',Below w.heap.size w w'→Calls Tryz.prog 11 #[.slice a xs.length c] w' fun e w''=>e=.returned (.bool pm)∧Below w'.heap.size w' w''
 sh:0≤L→pm=true→∀w',Below w.heap.size w w'→Calls Tryz.prog 12 #[.slice a xs.length c] w' fun e w''=>e=.returned (.bool ps)∧Below w'.heap.size w' w''
 st:0≤L→pm=true→∀w',Below w.heap.size w w'→Calls Tryz.prog 10 #[.slice a xs.length c] w' fun e w''=>e=.returned (.tuple #[.string ⟨T.toArray⟩,.int .i64 0])∧Below w'.heap.size w' w''
 eq:T=Sn.tellL xs∧pm=nM xs∧ps=Sn.shortL xs
 sm:0≤L→Eh xs
 tl:0≤L→pm=true→T.length≤6000
 sl:SnSl w Any a xs.length xs
theorem un_of (w:World) (xs:List Sn) (a:Option Addr) (c:Nat) (ht:Tab w) (hx:SnSl w Any a xs.length xs) (hm:Sn.memL xs) (hl:xs.length≤maxLen):UnT w xs a c (Sn.leftL xs 100) (nM xs) (Sn.shortL xs) (Sn.tellL xs):=by
 have hw:0≤Sn.leftL xs 100→Sn.wtL xs≤100:=fun h=>by have:=qW xs 100 h;omega
 have hp:=nu xs;have hn:=Sn.len_parts xs;exact {
  lb:=fun w' hb=>mU (Sn.partsL xs+1) xs gN hm hl Any a c w' 100 (hx.later hb) gR gR
  my:=fun h w' hb=>pS Any xs (nt xs (by have:=hw h;omega)) (by have:=hw h;omega) a c w' (hx.later hb)
  sh:=fun h hmy w' hb=>by
   have h1:=hw h;have hwf:=pN hmy;exact py Any (Sn.partsL xs+1) xs gN (nS xs hwf gN) gN hwf a c w' (hx.later hb) (ht.keep hb)
  st:=fun h hmy w' hb=>by
   have h1:=hw h;have hwf:=pN hmy;have htl:=nJ xs hwf;exact mH (fun b=>b<w'.heap.size) xs (nS xs hwf gN) gN hmy gN a c w' (fun _ h=>h) (ht.keep hb) ((hx.later hb).mono (fun _ _ h=>h))
  eq:=⟨rfl,rfl,rfl⟩
  sm:=fun h=>by have h1:=hw h;exact nsame (nt xs gN) gN
  tl:=fun h hmy=>by
   have h1:=hw h;have htl:=nJ xs (pN hmy);omega
  sl:=hx }
theorem un_a (a b:Option Addr) (c d:Nat) (xs ys:List Sn) (u:Str) (w:World) (L M:Int) (mx my sx sy:Bool) (T V:Str) (ht:Tab w) (ha:UnT w xs a c L mx sx T) (hb:UnT w ys b d M my sy V) (_hu:u.length≤maxLen) (h:L<0):Calls Tryz.prog 6 #[.slice a xs.length c,.slice b ys.length d,.string ⟨u.toArray⟩] w fun e w'=>e=.returned (.bool true)∧Below w.heap.size w w':=by
 have HAW:=ab nc;have HT:=ab ht;have HA1:=ab ha.lb;have HB1:=ab hb.lb;have g1:decide (L<0)=true:=JR h;clear ht ha hb h;go_enter Tryz.func6,Tryz.ntmps6
 go_wp2_with (go_at_call 8;refine(HA1.out _ (Below.refl _ _)).mono ?_)
 exact bF
theorem un_b (a b:Option Addr) (c d:Nat) (xs ys:List Sn) (u:Str) (w:World) (L M:Int) (mx my sx sy:Bool) (T V:Str) (ht:Tab w) (ha:UnT w xs a c L mx sx T) (hb:UnT w ys b d M my sy V) (_hu:u.length≤maxLen) (h0:¬L<0) (h:M<0):Calls Tryz.prog 6 #[.slice a xs.length c,.slice b ys.length d,.string ⟨u.toArray⟩] w fun e w'=>e=.returned (.bool true)∧Below w.heap.size w w':=by
 have HAW:=ab nc;have HT:=ab ht;have HA1:=ab ha.lb;have HB1:=ab hb.lb;have g1:decide (L<0)=false:=JT h0;have g2:decide (M<0)=true:=JR h;clear ht ha hb h h0;exact bR
theorem un_c (a b:Option Addr) (c d:Nat) (xs ys:List Sn) (u:Str) (w:World) (L M:Int) (mx my sx sy:Bool) (T V:Str) (ht:Tab w) (ha:UnT w xs a c L mx sx T) (hb:UnT w ys b d M my sy V) (hu:u.length≤maxLen) (h0:¬L<0) (h1:¬M<0) (h:100<u.length):Calls Tryz.prog 6 #[.slice a xs.length c,.slice b ys.length d,.string ⟨u.toArray⟩] w fun e w'=>e=.returned (.bool true)∧Below w.heap.size w w':=by
 have HAW:=ab nc;have HT:=ab ht;have HA1:=ab ha.lb;have HB1:=ab hb.lb;unfold maxLen at hu;have g1:decide (L<0)=false:=JT h0;have g2:decide (M<0)=false:=JT h1;have g3:decide ((100:Int)<(u.length:Int))=true:=JR gN;clear ht ha hb h h0 h1;exact bR
theorem un_d (a b:Option Addr) (c d:Nat) (xs ys:List Sn) (u:Str) (w:World) (L M:Int) (mx my sx sy:Bool) (T V:Str) (ht:Tab w) (ha:UnT w xs a c L mx sx T) (hb:UnT w ys b d M my sy V) (hu:u.length≤maxLen) (h0:¬L<0) (h1:¬M<0) (h2:¬100<u.length) (h:mx=false):Calls Tryz.prog 6 #[.slice a xs.length c,.slice b ys.length d,.string ⟨u.toArray⟩] w fun e w'=>e=.returned (.bool true)∧Below w.heap.size w w':=by
 have HAW:=ab nc;have HT:=ab ht;have HA1:=ab ha.lb;have HB1:=ab hb.lb;unfold maxLen at hu;have HA2:=ab (ha.my gN);have HB2:=ab (hb.my gN);have g1:decide (L<0)=false:=JT h0;have g2:decide (M<0)=false:=JT h1;have g3:decide ((100:Int)<(u.length:Int))=false:=JT gN;subst h;clear ht ha hb h0 h1 h2;go_enter Tryz.func6,Tryz.ntmps6
 go_wp2_with (go_at_call 8;refine(HA1.out _ (Below.refl _ _)).mono ?_)
 first|rintro e w1 rfl hb1|rintro e w1 ⟨rfl,hb1⟩
 go_wp2_with (go_at_call 8;refine(HB1.out _ hb1).mono ?_)
 first|rintro e w2 rfl hb2|rintro e w2 ⟨rfl,hb2⟩
 have hbw2:=bel2 hb1 hb2;go_wp2_with (go_at_call 11;refine(HA2.out _ hbw2).mono ?_)
 exact gI
theorem un_e (a b:Option Addr) (c d:Nat) (xs ys:List Sn) (u:Str) (w:World) (L M:Int) (mx my sx sy:Bool) (T V:Str) (ht:Tab w) (ha:UnT w xs a c L mx sx T) (hb:UnT w ys b d M my sy V) (hu:u.length≤maxLen) (h0:¬L<0) (h1:¬M<0) (h2:¬100<u.length) (h3:mx=true) (h:my=false):Calls Tryz.prog 6 #[.slice a xs.length c,.slice b ys.length d,.string ⟨u.toArray⟩] w fun e w'=>e=.returned (.bool true)∧Below w.heap.size w w':=by
 have HAW:=ab nc;have HT:=ab ht;have HA1:=ab ha.lb;have HB1:=ab hb.lb;unfold maxLen at hu;have HA2:=ab (ha.my gN);have HB2:=ab (hb.my gN);have g1:decide (L<0)=false:=JT h0;have g2:decide (M<0)=false:=JT h1;have g3:decide ((100:Int)<(u.length:Int))=false:=JT gN;subst h;subst h3;clear ht ha hb h0 h1 h2;go_enter Tryz.func6,Tryz.ntmps6
 go_wp2_with (go_at_call 8;refine(HA1.out _ (Below.refl _ _)).mono ?_)
 first|rintro e w1 rfl hb1|rintro e w1 ⟨rfl,hb1⟩
 go_wp2_with (go_at_call 8;refine(HB1.out _ hb1).mono ?_)
 first|rintro e w2 rfl hb2|rintro e w2 ⟨rfl,hb2⟩
 have hbw2:=bel2 hb1 hb2;go_wp2_with (go_at_call 11;refine(HA2.out _ hbw2).mono ?_)
 first|rintro e w3 rfl hb3|rintro e w3 ⟨rfl,hb3⟩
 have hbw3:=bel2 hbw2 hb3;go_wp2_with (go_at_call 11;refine(HB2.out _ hbw3).mono ?_)
 exact bU
theorem un_f (a b:Option Addr) (c d:Nat) (xs ys:List Sn) (u:Str) (w:World) (L M:Int) (mx my sx sy:Bool) (T V:Str) (ht:Tab w) (ha:UnT w xs a c L mx sx T) (hb:UnT w ys b d M my sy V) (hu:u.length≤maxLen) (h0:¬L<0) (h1:¬M<0) (h2:¬100<u.length) (h3:mx=true) (h4:my=true) (h:sx=false):Calls Tryz.prog 6 #[.slice a xs.length c,.slice b ys.length d,.string ⟨u.toArray⟩] w fun e w'=>e=.returned (.bool true)∧Below w.heap.size w w':=by
 have HAW:=ab nc;have HT:=ab ht;have HA1:=ab ha.lb;have HB1:=ab hb.lb;unfold maxLen at hu;have HA2:=ab (ha.my gN);have HB2:=ab (hb.my gN);have g1:decide (L<0)=false:=JT h0;have g2:decide (M<0)=false:=JT h1;have g3:decide ((100:Int)<(u.length:Int))=false:=JT gN;have HA3:=ab (ha.sh gN h3);subst h;subst h3;subst h4;clear ht ha hb h0 h1 h2;go_enter Tryz.func6,Tryz.ntmps6
 go_wp2_with (go_at_call 8;refine(HA1.out _ (Below.refl _ _)).mono ?_)
 first|rintro e w1 rfl hb1|rintro e w1 ⟨rfl,hb1⟩
 go_wp2_with (go_at_call 8;refine(HB1.out _ hb1).mono ?_)
 first|rintro e w2 rfl hb2|rintro e w2 ⟨rfl,hb2⟩
 have hbw2:=bel2 hb1 hb2;go_wp2_with (go_at_call 11;refine(HA2.out _ hbw2).mono ?_)
 first|rintro e w3 rfl hb3|rintro e w3 ⟨rfl,hb3⟩
 have hbw3:=bel2 hbw2 hb3;go_wp2_with (go_at_call 11;refine(HB2.out _ hbw3).mono ?_)
 first|rintro e w4 rfl hb4|rintro e w4 ⟨rfl,hb4⟩
 have hbw4:=bel2 hbw3 hb4;go_wp2_with (go_at_call 12;refine(HA3.out _ hbw4).mono ?_)
 first|rintro e w5 rfl hb5|rintro e w5 ⟨rfl,hb5⟩
 have hbw5:=bel2 hbw4 hb5;go_wp2_with (go_at_call 9;refine(HAW.out _ (HT.out.keep hbw5)).mono ?_;rintro e w9 ⟨rfl,hb9⟩)
 go_ret
 exact⟨rfl,bel2 hbw5 hb9⟩
theorem un_g (a b:Option Addr) (c d:Nat) (xs ys:List Sn) (u:Str) (w:World) (L M:Int) (mx my sx sy:Bool) (T V:Str) (ht:Tab w) (ha:UnT w xs a c L mx sx T) (hb:UnT w ys b d M my sy V) (hu:u.length≤maxLen) (h0:¬L<0) (h1:¬M<0) (h2:¬100<u.length) (h3:mx=true) (h4:my=true) (h5:sx=true) (h:sy=false):Calls Tryz.prog 6 #[.slice a xs.length c,.slice b ys.length d,.string ⟨u.toArray⟩] w fun e w'=>e=.returned (.bool true)∧Below w.heap.size w w':=by
 have HAW:=ab nc;have HT:=ab ht;have HA1:=ab ha.lb;have HB1:=ab hb.lb;unfold maxLen at hu;have HA2:=ab (ha.my gN);have HB2:=ab (hb.my gN);have g1:decide (L<0)=false:=JT h0;have g2:decide (M<0)=false:=JT h1;have g3:decide ((100:Int)<(u.length:Int))=false:=JT gN;have HA3:=ab (ha.sh gN h3);have HB3:=ab (hb.sh gN h4);subst h;subst h3;subst h4;subst h5;clear ht ha hb h0 h1 h2;go_enter Tryz.func6,Tryz.ntmps6
 go_wp2_with (go_at_call 8;refine(HA1.out _ (Below.refl _ _)).mono ?_)
 first|rintro e w1 rfl hb1|rintro e w1 ⟨rfl,hb1⟩
 go_wp2_with (go_at_call 8;refine(HB1.out _ hb1).mono ?_)
 first|rintro e w2 rfl hb2|rintro e w2 ⟨rfl,hb2⟩
 have hbw2:=bel2 hb1 hb2;go_wp2_with (go_at_call 11;refine(HA2.out _ hbw2).mono ?_)
 first|rintro e w3 rfl hb3|rintro e w3 ⟨rfl,hb3⟩
 have hbw3:=bel2 hbw2 hb3;go_wp2_with (go_at_call 11;refine(HB2.out _ hbw3).mono ?_)
 first|rintro e w4 rfl hb4|rintro e w4 ⟨rfl,hb4⟩
 have hbw4:=bel2 hbw3 hb4;go_wp2_with (go_at_call 12;refine(HA3.out _ hbw4).mono ?_)
 first|rintro e w5 rfl hb5|rintro e w5 ⟨rfl,hb5⟩
 have hbw5:=bel2 hbw4 hb5;go_wp2_with (go_at_call 12;refine(HB3.out _ hbw5).mono ?_)
 first|rintro e w6 rfl hb6|rintro e w6 ⟨rfl,hb6⟩
 have hbw6:=bel2 hbw5 hb6;go_wp2_with (go_at_call 9;refine(HAW.out _ (HT.out.keep hbw6)).mono ?_;rintro e w9 ⟨rfl,hb9⟩)
 go_ret
 exact⟨rfl,bel2 hbw6 hb9⟩
theorem un_h (a b:Option Addr) (c d:Nat) (xs ys:List Sn) (u:Str) (w:World) (L M:Int) (mx my sx sy:Bool) (T V:Str) (ht:Tab w) (ha:UnT w xs a c L mx sx T) (hb:UnT w ys b d M my sy V) (hu:u.length≤maxLen) (h0:¬L<0) (h1:¬M<0) (h2:¬100<u.length) (h3:mx=true) (h4:my=true) (h5:sx=true) (h6:sy=true) (h7:T≠V) {q:Int} (hq:q≠0) (hr:pz u=.error q):Calls Tryz.prog 6 #[.slice a xs.length c,.slice b ys.length d,.string ⟨u.toArray⟩] w fun e w'=>e=.returned (.bool true)∧Below w.heap.size w w':=by
 have HAW:=ab nc;have HT:=ab ht;have HA1:=ab ha.lb;have HB1:=ab hb.lb;unfold maxLen at hu;have HA2:=ab (ha.my gN);have HB2:=ab (hb.my gN);have g1:decide (L<0)=false:=JT h0;have g2:decide (M<0)=false:=JT h1;have g3:decide ((100:Int)<(u.length:Int))=false:=JT gN;have HA3:=ab (ha.sh gN h3);have HB3:=ab (hb.sh gN h4);have HA4:=ab (ha.st gN h3);have HB4:=ab (hb.st gN h4);have HSX:=ab ha.sl;have HSY:=ab hb.sl;have HSM:=ab (ha.sm gN);have HN:Hid (∀w',Tab w'→Calls Tryz.prog 10 #[.slice none 0 0] w' fun e w''=>e=.returned (.tuple #[.string ⟨[].toArray⟩,.int .i64 0])∧Below w'.heap.size w' w''):=ab (fun w' ht'=>mH (fun b=>b<w'.heap.size) [] trivial gU gR (by simp [Sn.tellL]) none 0 w' (fun _ h=>h) ht' (SnSl.nil _ _ _));have HR:=ab (fun w=>DN (s:=u) w gN hr);subst h3;subst h4;subst h5;subst h6;have q1:(T==V)=false:=by simpa using h7
 have q2:(T != V)=true:=by simp [bne,q1]
 have q3:decide (T=V)=false:=JT h7;have q4:(q==0)=false:=by simpa using hq
 have q5:(q != 0)=true:=by simp [bne,q4]
 clear ht ha hb h0 h1 h2 h7 hq hr;go_enter Tryz.func6,Tryz.ntmps6
 go_wp2_with (go_at_call 8;refine(HA1.out _ (Below.refl _ _)).mono ?_)
 first|rintro e w1 rfl hb1|rintro e w1 ⟨rfl,hb1⟩
 go_wp2_with (go_at_call 8;refine(HB1.out _ hb1).mono ?_)
 first|rintro e w2 rfl hb2|rintro e w2 ⟨rfl,hb2⟩
 have hbw2:=bel2 hb1 hb2;go_wp2_with (go_at_call 11;refine(HA2.out _ hbw2).mono ?_)
 first|rintro e w3 rfl hb3|rintro e w3 ⟨rfl,hb3⟩
 have hbw3:=bel2 hbw2 hb3;go_wp2_with (go_at_call 11;refine(HB2.out _ hbw3).mono ?_)
 first|rintro e w4 rfl hb4|rintro e w4 ⟨rfl,hb4⟩
 have hbw4:=bel2 hbw3 hb4;go_wp2_with (go_at_call 12;refine(HA3.out _ hbw4).mono ?_)
 first|rintro e w5 rfl hb5|rintro e w5 ⟨rfl,hb5⟩
 have hbw5:=bel2 hbw4 hb5;go_wp2_with (go_at_call 12;refine(HB3.out _ hbw5).mono ?_)
 first|rintro e w6 rfl hb6|rintro e w6 ⟨rfl,hb6⟩
 have hbw6:=bel2 hbw5 hb6;clear hb1 hb2 hb3 hb4 hb5 hb6 hbw2 hbw3 hbw4 hbw5;go_wp2_with (go_at_call 10;refine(HA4.out _ hbw6).mono ?_)
 first|rintro e w7 rfl hb7|rintro e w7 ⟨rfl,hb7⟩
 have hbw7:=bel2 hbw6 hb7;clear hb7 hbw6;go_wp2_with (go_at_call 10;refine(HB4.out _ hbw7).mono ?_)
 first|rintro e w8 rfl hb8|rintro e w8 ⟨rfl,hb8⟩
 have hbw8:=bel2 hbw7 hb8;clear hb8 hbw7;go_wp2_with (go_at_call 13;refine(HR.out _).mono ?_)
 first|rintro e w10 rfl hb10|rintro e w10 ⟨rfl,hb10⟩
 have hbw10:=bel2 hbw8 hb10;go_wp2_with (go_at_call 10;refine(HN.out _ (HT.out.keep hbw10)).mono ?_)
 first|rintro e w11 rfl hb11|rintro e w11 ⟨rfl,hb11⟩
 have hbw11:=bel2 hbw10 hb11;exact dC
theorem un_i (a b:Option Addr) (c d:Nat) (xs:List Sn) (u:Str) (w:World) (L M:Int) (mx my sx sy:Bool) (T:Str) (ht:Tab w) (ha:UnT w xs a c L mx sx T) (hb:UnT w xs b d M my sy T) (hu:u.length≤maxLen) (h0:¬L<0) (h1:¬M<0) (h2:¬100<u.length) (h3:mx=true) (h4:my=true) (h5:sx=true) (h6:sy=true) {q:Int} (hq:q≠0) (hr:pz u=.error q):Calls Tryz.prog 6 #[.slice a xs.length c,.slice b xs.length d,.string ⟨u.toArray⟩] w fun e w'=>e=.returned (.bool true)∧Below w.heap.size w w':=by
 have HAW:=ab nc;have HT:=ab ht;have HA1:=ab ha.lb;have HB1:=ab hb.lb;unfold maxLen at hu;have HA2:=ab (ha.my gN);have HB2:=ab (hb.my gN);have g1:decide (L<0)=false:=JT h0;have g2:decide (M<0)=false:=JT h1;have g3:decide ((100:Int)<(u.length:Int))=false:=JT gN;have HA3:=ab (ha.sh gN h3);have HB3:=ab (hb.sh gN h4);have HA4:=ab (ha.st gN h3);have HB4:=ab (hb.st gN h4);have HSX:=ab ha.sl;have HSY:=ab hb.sl;have HSM:=ab (ha.sm gN);have HN:Hid (∀w',Tab w'→Calls Tryz.prog 10 #[.slice none 0 0] w' fun e w''=>e=.returned (.tuple #[.string ⟨[].toArray⟩,.int .i64 0])∧Below w'.heap.size w' w''):=ab (fun w' ht'=>mH (fun b=>b<w'.heap.size) [] trivial gU gR (by simp [Sn.tellL]) none 0 w' (fun _ h=>h) ht' (SnSl.nil _ _ _));have HR:=ab (fun w=>DN (s:=u) w gN hr);subst h3;subst h4;subst h5;subst h6;have q4:(q==0)=false:=by simpa using hq
 have q5:(q != 0)=true:=by simp [bne,q4]
 clear ht ha hb h0 h1 h2 hq hr;go_enter Tryz.func6,Tryz.ntmps6
 go_wp2_with (go_at_call 8;refine(HA1.out _ (Below.refl _ _)).mono ?_)
 first|rintro e w1 rfl hb1|rintro e w1 ⟨rfl,hb1⟩
 go_wp2_with (go_at_call 8;refine(HB1.out _ hb1).mono ?_)
 first|rintro e w2 rfl hb2|rintro e w2 ⟨rfl,hb2⟩
 have hbw2:=bel2 hb1 hb2;go_wp2_with (go_at_call 11;refine(HA2.out _ hbw2).mono ?_)
 first|rintro e w3 rfl hb3|rintro e w3 ⟨rfl,hb3⟩
 have hbw3:=bel2 hbw2 hb3;go_wp2_with (go_at_call 11;refine(HB2.out _ hbw3).mono ?_)
 first|rintro e w4 rfl hb4|rintro e w4 ⟨rfl,hb4⟩
 have hbw4:=bel2 hbw3 hb4;go_wp2_with (go_at_call 12;refine(HA3.out _ hbw4).mono ?_)
 first|rintro e w5 rfl hb5|rintro e w5 ⟨rfl,hb5⟩
 have hbw5:=bel2 hbw4 hb5;go_wp2_with (go_at_call 12;refine(HB3.out _ hbw5).mono ?_)
 first|rintro e w6 rfl hb6|rintro e w6 ⟨rfl,hb6⟩
 have hbw6:=bel2 hbw5 hb6;clear hb1 hb2 hb3 hb4 hb5 hb6 hbw2 hbw3 hbw4 hbw5;go_wp2_with (go_at_call 10;refine(HA4.out _ hbw6).mono ?_)
 first|rintro e w7 rfl hb7|rintro e w7 ⟨rfl,hb7⟩
 have hbw7:=bel2 hbw6 hb7;clear hb7 hbw6;go_wp2_with (go_at_call 10;refine(HB4.out _ hbw7).mono ?_)
 first|rintro e w8 rfl hb8|rintro e w8 ⟨rfl,hb8⟩
 have hbw8:=bel2 hbw7 hb8;clear hb8 hbw7;go_wp2_with (go_at_call 13;refine(HR.out _).mono ?_)
 first|rintro e w10 rfl hb10|rintro e w10 ⟨rfl,hb10⟩
 have hbw10:=bel2 hbw8 hb10;go_wp2_with (go_at_call 10;refine(HN.out _ (HT.out.keep hbw10)).mono ?_)
 first|rintro e w11 rfl hb11|rintro e w11 ⟨rfl,hb11⟩
 have hbw11:=bel2 hbw10 hb11;exact fY
theorem un_j (a b:Option Addr) (c d:Nat) (xs ys:List Sn) (u:Str) (w:World) (L M:Int) (mx my sx sy:Bool) (T V:Str) (ht:Tab w) (ha:UnT w xs a c L mx sx T) (hb:UnT w ys b d M my sy V) (hu:u.length≤maxLen) (h0:¬L<0) (h1:¬M<0) (h2:¬100<u.length) (h3:mx=true) (h4:my=true) (h5:sx=true) (h6:sy=true) (h7:T≠V) {W:List Sn} {Z:Str} (hr:pz u=.ok W) (hZ:Z=Sn.tellL W) (hti:Sn.tinyL W) (hwl:W.length≤1000000) (hmw:nM W=true) (hzl:Z.length≤10000000) (h8:T≠Z):Calls Tryz.prog 6 #[.slice a xs.length c,.slice b ys.length d,.string ⟨u.toArray⟩] w fun e w'=>e=.returned (.bool true)∧Below w.heap.size w w':=by
 have HAW:=ab nc;have HT:=ab ht;have HA1:=ab ha.lb;have HB1:=ab hb.lb;unfold maxLen at hu;have HA2:=ab (ha.my gN);have HB2:=ab (hb.my gN);have g1:decide (L<0)=false:=JT h0;have g2:decide (M<0)=false:=JT h1;have g3:decide ((100:Int)<(u.length:Int))=false:=JT gN;have HA3:=ab (ha.sh gN h3);have HB3:=ab (hb.sh gN h4);have HA4:=ab (ha.st gN h3);have HB4:=ab (hb.st gN h4);have HSX:=ab ha.sl;have HSY:=ab hb.sl;have HSM:=ab (ha.sm gN);have HR:=ab (uH hr gN);have HST:Hid (∀(a:Option Addr) (c:Nat) (w':World),Below w.heap.size w w'→SnSl w' Any a (W).length W→Calls Tryz.prog 10 #[.slice a (W).length c] w' fun e w''=>e=.returned (.tuple #[.string ⟨Z.toArray⟩,.int .i64 0])∧Below w'.heap.size w' w''):=ab (fun a c w' hb' hx'=>hZ▸mH (fun b=>b<w'.heap.size) W hti hwl hmw kK a c w' (fun _ h=>h) (ht.keep hb') (hx'.mono (fun _ _ h=>h)));subst h3;subst h4;subst h5;subst h6;have q1:(T==V)=false:=by simpa using h7
 have q2:(T != V)=true:=by simp [bne,q1]
 have q3:decide (T=V)=false:=JT h7;have p1:(T==Z)=false:=by simpa using h8
 have p2:(T != Z)=true:=by simp [bne,p1]
 have p3:decide (T=Z)=false:=JT h8;clear ht ha hb h0 h1 h2 h7 h8 hr hZ hti hwl hmw hzl;go_enter Tryz.func6,Tryz.ntmps6
 go_wp2_with (go_at_call 8;refine(HA1.out _ (Below.refl _ _)).mono ?_)
 first|rintro e w1 rfl hb1|rintro e w1 ⟨rfl,hb1⟩
 go_wp2_with (go_at_call 8;refine(HB1.out _ hb1).mono ?_)
 first|rintro e w2 rfl hb2|rintro e w2 ⟨rfl,hb2⟩
 have hbw2:=bel2 hb1 hb2;go_wp2_with (go_at_call 11;refine(HA2.out _ hbw2).mono ?_)
 first|rintro e w3 rfl hb3|rintro e w3 ⟨rfl,hb3⟩
 have hbw3:=bel2 hbw2 hb3;go_wp2_with (go_at_call 11;refine(HB2.out _ hbw3).mono ?_)
 first|rintro e w4 rfl hb4|rintro e w4 ⟨rfl,hb4⟩
 have hbw4:=bel2 hbw3 hb4;go_wp2_with (go_at_call 12;refine(HA3.out _ hbw4).mono ?_)
 first|rintro e w5 rfl hb5|rintro e w5 ⟨rfl,hb5⟩
 have hbw5:=bel2 hbw4 hb5;go_wp2_with (go_at_call 12;refine(HB3.out _ hbw5).mono ?_)
 first|rintro e w6 rfl hb6|rintro e w6 ⟨rfl,hb6⟩
 have hbw6:=bel2 hbw5 hb6;clear hb1 hb2 hb3 hb4 hb5 hb6 hbw2 hbw3 hbw4 hbw5;go_wp2_with (go_at_call 10;refine(HA4.out _ hbw6).mono ?_)
 first|rintro e w7 rfl hb7|rintro e w7 ⟨rfl,hb7⟩
 have hbw7:=bel2 hbw6 hb7;clear hb7 hbw6;go_wp2_with (go_at_call 10;refine(HB4.out _ hbw7).mono ?_)
 first|rintro e w8 rfl hb8|rintro e w8 ⟨rfl,hb8⟩
 have hbw8:=bel2 hbw7 hb8;clear hb8 hbw7;go_wp2_with (go_at_call 13;refine(HR.out _ _ rfl).mono ?_)
 rintro e w10 ⟨a10,c10,rfl,hb10,hs10⟩;have hbw10:=bel2 hbw8 hb10;have HX10:=ab (hs10.mono (fun _ _ _=>trivial):SnSl w10 Any a10 (W).length W);have HC10:=ab (HST.out a10 c10 w10 hbw10 HX10.out);go_wp2_with (go_at_call 10;refine HC10.out.mono ?_)
 first|rintro e w11 rfl hb11|rintro e w11 ⟨rfl,hb11⟩
 have hbw11:=bel2 hbw10 hb11;have HX11:=ab (HX10.out.later hb11);exact dC
theorem un_k (a b:Option Addr) (c d:Nat) (xs ys:List Sn) (u:Str) (w:World) (L M:Int) (mx my sx sy:Bool) (T V:Str) (ht:Tab w) (ha:UnT w xs a c L mx sx T) (hb:UnT w ys b d M my sy V) (hu:u.length≤maxLen) (h0:¬L<0) (h1:¬M<0) (h2:¬100<u.length) (h3:mx=true) (h4:my=true) (h5:sx=true) (h6:sy=true) (h7:T≠V) (hr:pz u=.ok xs) (hZ:T=Sn.tellL xs) (hti:Sn.tinyL xs) (hwl:xs.length≤1000000) (hmw:nM xs=true) (hzl:T.length≤10000000):Calls Tryz.prog 6 #[.slice a xs.length c,.slice b ys.length d,.string ⟨u.toArray⟩] w fun e w'=>e=.returned (.bool true)∧Below w.heap.size w w':=by
 have HAW:=ab nc;have HT:=ab ht;have HA1:=ab ha.lb;have HB1:=ab hb.lb;unfold maxLen at hu;have HA2:=ab (ha.my gN);have HB2:=ab (hb.my gN);have g1:decide (L<0)=false:=JT h0;have g2:decide (M<0)=false:=JT h1;have g3:decide ((100:Int)<(u.length:Int))=false:=JT gN;have HA3:=ab (ha.sh gN h3);have HB3:=ab (hb.sh gN h4);have HA4:=ab (ha.st gN h3);have HB4:=ab (hb.st gN h4);have HSX:=ab ha.sl;have HSY:=ab hb.sl;have HSM:=ab (ha.sm gN);have HR:=ab (uH hr gN);have HST:Hid (∀(a:Option Addr) (c:Nat) (w':World),Below w.heap.size w w'→SnSl w' Any a (xs).length xs→Calls Tryz.prog 10 #[.slice a (xs).length c] w' fun e w''=>e=.returned (.tuple #[.string ⟨T.toArray⟩,.int .i64 0])∧Below w'.heap.size w' w''):=ab (fun a c w' hb' hx'=>hZ▸mH (fun b=>b<w'.heap.size) xs hti hwl hmw kK a c w' (fun _ h=>h) (ht.keep hb') (hx'.mono (fun _ _ h=>h)));subst h3;subst h4;subst h5;subst h6;have q1:(T==V)=false:=by simpa using h7
 have q2:(T != V)=true:=by simp [bne,q1]
 have q3:decide (T=V)=false:=JT h7;clear ht ha hb h0 h1 h2 h7 hr hZ hti hwl hmw hzl;go_enter Tryz.func6,Tryz.ntmps6
 go_wp2_with (go_at_call 8;refine(HA1.out _ (Below.refl _ _)).mono ?_)
 first|rintro e w1 rfl hb1|rintro e w1 ⟨rfl,hb1⟩
 go_wp2_with (go_at_call 8;refine(HB1.out _ hb1).mono ?_)
 first|rintro e w2 rfl hb2|rintro e w2 ⟨rfl,hb2⟩
 have hbw2:=bel2 hb1 hb2;go_wp2_with (go_at_call 11;refine(HA2.out _ hbw2).mono ?_)
 first|rintro e w3 rfl hb3|rintro e w3 ⟨rfl,hb3⟩
 have hbw3:=bel2 hbw2 hb3;go_wp2_with (go_at_call 11;refine(HB2.out _ hbw3).mono ?_)
 first|rintro e w4 rfl hb4|rintro e w4 ⟨rfl,hb4⟩
 have hbw4:=bel2 hbw3 hb4;go_wp2_with (go_at_call 12;refine(HA3.out _ hbw4).mono ?_)
 first|rintro e w5 rfl hb5|rintro e w5 ⟨rfl,hb5⟩
 have hbw5:=bel2 hbw4 hb5;go_wp2_with (go_at_call 12;refine(HB3.out _ hbw5).mono ?_)
 first|rintro e w6 rfl hb6|rintro e w6 ⟨rfl,hb6⟩
 have hbw6:=bel2 hbw5 hb6;clear hb1 hb2 hb3 hb4 hb5 hb6 hbw2 hbw3 hbw4 hbw5;go_wp2_with (go_at_call 10;refine(HA4.out _ hbw6).mono ?_)
 first|rintro e w7 rfl hb7|rintro e w7 ⟨rfl,hb7⟩
 have hbw7:=bel2 hbw6 hb7;clear hb7 hbw6;go_wp2_with (go_at_call 10;refine(HB4.out _ hbw7).mono ?_)
 first|rintro e w8 rfl hb8|rintro e w8 ⟨rfl,hb8⟩
 have hbw8:=bel2 hbw7 hb8;clear hb8 hbw7;go_wp2_with (go_at_call 13;refine(HR.out _ _ rfl).mono ?_)
 rintro e w10 ⟨a10,c10,rfl,hb10,hs10⟩;have hbw10:=bel2 hbw8 hb10;have HX10:=ab (hs10.mono (fun _ _ _=>trivial):SnSl w10 Any a10 (xs).length xs);have HC10:=ab (HST.out a10 c10 w10 hbw10 HX10.out);go_wp2_with (go_at_call 10;refine HC10.out.mono ?_)
 first|rintro e w11 rfl hb11|rintro e w11 ⟨rfl,hb11⟩
 have hbw11:=bel2 hbw10 hb11;have HX11:=ab (HX10.out.later hb11);have HS12:=ab (HSM.out _ _ a a10 c c10 w11 (HSX.out.later hbw11) HX11.out);go_wp2_with (go_at_call 14;refine HS12.out.mono ?_)
 exact bu
theorem un_l (a b:Option Addr) (c d:Nat) (xs:List Sn) (u:Str) (w:World) (L M:Int) (mx my sx sy:Bool) (T:Str) (ht:Tab w) (ha:UnT w xs a c L mx sx T) (hb:UnT w xs b d M my sy T) (hu:u.length≤maxLen) (h0:¬L<0) (h1:¬M<0) (h2:¬100<u.length) (h3:mx=true) (h4:my=true) (h5:sx=true) (h6:sy=true) {W:List Sn} {Z:Str} (hr:pz u=.ok W) (hZ:Z=Sn.tellL W) (hti:Sn.tinyL W) (hwl:W.length≤1000000) (hmw:nM W=true) (hzl:Z.length≤10000000) (h8:T≠Z):Calls Tryz.prog 6 #[.slice a xs.length c,.slice b xs.length d,.string ⟨u.toArray⟩] w fun e w'=>e=.returned (.bool true)∧Below w.heap.size w w':=by
 have HAW:=ab nc;have HT:=ab ht;have HA1:=ab ha.lb;have HB1:=ab hb.lb;unfold maxLen at hu;have HA2:=ab (ha.my gN);have HB2:=ab (hb.my gN);have g1:decide (L<0)=false:=JT h0;have g2:decide (M<0)=false:=JT h1;have g3:decide ((100:Int)<(u.length:Int))=false:=JT gN;have HA3:=ab (ha.sh gN h3);have HB3:=ab (hb.sh gN h4);have HA4:=ab (ha.st gN h3);have HB4:=ab (hb.st gN h4);have HSX:=ab ha.sl;have HSY:=ab hb.sl;have HSM:=ab (ha.sm gN);have HR:=ab (uH hr gN);have HST:Hid (∀(a:Option Addr) (c:Nat) (w':World),Below w.heap.size w w'→SnSl w' Any a (W).length W→Calls Tryz.prog 10 #[.slice a (W).length c] w' fun e w''=>e=.returned (.tuple #[.string ⟨Z.toArray⟩,.int .i64 0])∧Below w'.heap.size w' w''):=ab (fun a c w' hb' hx'=>hZ▸mH (fun b=>b<w'.heap.size) W hti hwl hmw kK a c w' (fun _ h=>h) (ht.keep hb') (hx'.mono (fun _ _ h=>h)));subst h3;subst h4;subst h5;subst h6;have p1:(T==Z)=false:=by simpa using h8
 have p2:(T != Z)=true:=by simp [bne,p1]
 have p3:decide (T=Z)=false:=JT h8;clear ht ha hb h0 h1 h2 h8 hr hZ hti hwl hmw hzl;go_enter Tryz.func6,Tryz.ntmps6
 go_wp2_with (go_at_call 8;refine(HA1.out _ (Below.refl _ _)).mono ?_)
 first|rintro e w1 rfl hb1|rintro e w1 ⟨rfl,hb1⟩
 go_wp2_with (go_at_call 8;refine(HB1.out _ hb1).mono ?_)
 first|rintro e w2 rfl hb2|rintro e w2 ⟨rfl,hb2⟩
 have hbw2:=bel2 hb1 hb2;go_wp2_with (go_at_call 11;refine(HA2.out _ hbw2).mono ?_)
 first|rintro e w3 rfl hb3|rintro e w3 ⟨rfl,hb3⟩
 have hbw3:=bel2 hbw2 hb3;go_wp2_with (go_at_call 11;refine(HB2.out _ hbw3).mono ?_)
 first|rintro e w4 rfl hb4|rintro e w4 ⟨rfl,hb4⟩
 have hbw4:=bel2 hbw3 hb4;go_wp2_with (go_at_call 12;refine(HA3.out _ hbw4).mono ?_)
 first|rintro e w5 rfl hb5|rintro e w5 ⟨rfl,hb5⟩
 have hbw5:=bel2 hbw4 hb5;go_wp2_with (go_at_call 12;refine(HB3.out _ hbw5).mono ?_)
 first|rintro e w6 rfl hb6|rintro e w6 ⟨rfl,hb6⟩
 have hbw6:=bel2 hbw5 hb6;clear hb1 hb2 hb3 hb4 hb5 hb6 hbw2 hbw3 hbw4 hbw5;go_wp2_with (go_at_call 10;refine(HA4.out _ hbw6).mono ?_)
 first|rintro e w7 rfl hb7|rintro e w7 ⟨rfl,hb7⟩
 have hbw7:=bel2 hbw6 hb7;clear hb7 hbw6;go_wp2_with (go_at_call 10;refine(HB4.out _ hbw7).mono ?_)
 first|rintro e w8 rfl hb8|rintro e w8 ⟨rfl,hb8⟩
 have hbw8:=bel2 hbw7 hb8;clear hb8 hbw7;go_wp2_with (go_at_call 13;refine(HR.out _ _ rfl).mono ?_)
 rintro e w10 ⟨a10,c10,rfl,hb10,hs10⟩;have hbw10:=bel2 hbw8 hb10;have HX10:=ab (hs10.mono (fun _ _ _=>trivial):SnSl w10 Any a10 (W).length W);have HC10:=ab (HST.out a10 c10 w10 hbw10 HX10.out);go_wp2_with (go_at_call 10;refine HC10.out.mono ?_)
 first|rintro e w11 rfl hb11|rintro e w11 ⟨rfl,hb11⟩
 have hbw11:=bel2 hbw10 hb11;have HX11:=ab (HX10.out.later hb11);exact fY
theorem un_m (a b:Option Addr) (c d:Nat) (xs:List Sn) (u:Str) (w:World) (L M:Int) (mx my sx sy:Bool) (T:Str) (ht:Tab w) (ha:UnT w xs a c L mx sx T) (hb:UnT w xs b d M my sy T) (hu:u.length≤maxLen) (h0:¬L<0) (h1:¬M<0) (h2:¬100<u.length) (h3:mx=true) (h4:my=true) (h5:sx=true) (h6:sy=true) (hr:pz u=.ok xs) (hZ:T=Sn.tellL xs) (hti:Sn.tinyL xs) (hwl:xs.length≤1000000) (hmw:nM xs=true) (hzl:T.length≤10000000):Calls Tryz.prog 6 #[.slice a xs.length c,.slice b xs.length d,.string ⟨u.toArray⟩] w fun e w'=>e=.returned (.bool true)∧Below w.heap.size w w':=by
 have HAW:=ab nc;have HT:=ab ht;have HA1:=ab ha.lb;have HB1:=ab hb.lb;unfold maxLen at hu;have HA2:=ab (ha.my gN);have HB2:=ab (hb.my gN);have g1:decide (L<0)=false:=JT h0;have g2:decide (M<0)=false:=JT h1;have g3:decide ((100:Int)<(u.length:Int))=false:=JT gN;have HA3:=ab (ha.sh gN h3);have HB3:=ab (hb.sh gN h4);have HA4:=ab (ha.st gN h3);have HB4:=ab (hb.st gN h4);have HSX:=ab ha.sl;have HSY:=ab hb.sl;have HSM:=ab (ha.sm gN);have HR:=ab (uH hr gN);have HST:Hid (∀(a:Option Addr) (c:Nat) (w':World),Below w.heap.size w w'→SnSl w' Any a (xs).length xs→Calls Tryz.prog 10 #[.slice a (xs).length c] w' fun e w''=>e=.returned (.tuple #[.string ⟨T.toArray⟩,.int .i64 0])∧Below w'.heap.size w' w''):=ab (fun a c w' hb' hx'=>hZ▸mH (fun b=>b<w'.heap.size) xs hti hwl hmw kK a c w' (fun _ h=>h) (ht.keep hb') (hx'.mono (fun _ _ h=>h)));subst h3;subst h4;subst h5;subst h6;clear ht ha hb h0 h1 h2 hr hZ hti hwl hmw hzl;go_enter Tryz.func6,Tryz.ntmps6
 go_wp2_with (go_at_call 8;refine(HA1.out _ (Below.refl _ _)).mono ?_)
 first|rintro e w1 rfl hb1|rintro e w1 ⟨rfl,hb1⟩
 go_wp2_with (go_at_call 8;refine(HB1.out _ hb1).mono ?_)
 first|rintro e w2 rfl hb2|rintro e w2 ⟨rfl,hb2⟩
 have hbw2:=bel2 hb1 hb2;go_wp2_with (go_at_call 11;refine(HA2.out _ hbw2).mono ?_)
 first|rintro e w3 rfl hb3|rintro e w3 ⟨rfl,hb3⟩
 have hbw3:=bel2 hbw2 hb3;go_wp2_with (go_at_call 11;refine(HB2.out _ hbw3).mono ?_)
 first|rintro e w4 rfl hb4|rintro e w4 ⟨rfl,hb4⟩
 have hbw4:=bel2 hbw3 hb4;go_wp2_with (go_at_call 12;refine(HA3.out _ hbw4).mono ?_)
 first|rintro e w5 rfl hb5|rintro e w5 ⟨rfl,hb5⟩
 have hbw5:=bel2 hbw4 hb5;go_wp2_with (go_at_call 12;refine(HB3.out _ hbw5).mono ?_)
 first|rintro e w6 rfl hb6|rintro e w6 ⟨rfl,hb6⟩
 have hbw6:=bel2 hbw5 hb6;clear hb1 hb2 hb3 hb4 hb5 hb6 hbw2 hbw3 hbw4 hbw5;go_wp2_with (go_at_call 10;refine(HA4.out _ hbw6).mono ?_)
 first|rintro e w7 rfl hb7|rintro e w7 ⟨rfl,hb7⟩
 have hbw7:=bel2 hbw6 hb7;clear hb7 hbw6;go_wp2_with (go_at_call 10;refine(HB4.out _ hbw7).mono ?_)
 first|rintro e w8 rfl hb8|rintro e w8 ⟨rfl,hb8⟩
 have hbw8:=bel2 hbw7 hb8;clear hb8 hbw7;go_wp2_with (go_at_call 13;refine(HR.out _ _ rfl).mono ?_)
 rintro e w10 ⟨a10,c10,rfl,hb10,hs10⟩;have hbw10:=bel2 hbw8 hb10;have HX10:=ab (hs10.mono (fun _ _ _=>trivial):SnSl w10 Any a10 (xs).length xs);have HC10:=ab (HST.out a10 c10 w10 hbw10 HX10.out);go_wp2_with (go_at_call 10;refine HC10.out.mono ?_)
 first|rintro e w11 rfl hb11|rintro e w11 ⟨rfl,hb11⟩
 have hbw11:=bel2 hbw10 hb11;have HX11:=ab (HX10.out.later hb11);have HS11:=ab (HSM.out _ _ a b c d w11 (HSX.out.later hbw11) (HSY.out.later hbw11));go_wp2_with (go_at_call 14;refine HS11.out.mono ?_)
 first|rintro e w12 rfl hb12|rintro e w12 ⟨rfl,hb12⟩
 have hbw12:=bel2 hbw11 hb12;have HX12:=ab (HX11.out.later hb12);have HS12:=ab (HSM.out _ _ a a10 c c10 w12 (HSX.out.later hbw12) HX12.out);go_wp2_with (go_at_call 14;refine HS12.out.mono ?_)
 first|rintro e w13 rfl hb13|rintro e w13 ⟨rfl,hb13⟩
 have hbw13:=bel2 hbw12 hb13;go_wp2_with (go_at_call 9;refine(HAW.out _ (HT.out.keep hbw13)).mono ?_;rintro e w9 ⟨rfl,hb9⟩)
 go_ret
 exact⟨rfl,bel2 hbw13 hb9⟩
theorem uP (a b:Option Addr) (c d:Nat) (xs ys:List Sn) (u:Str) (w:World) (ht:Tab w) (hx:SnSl w Any a xs.length xs) (hmx:Sn.memL xs) (hlx:xs.length≤maxLen) (hy:SnSl w Any b ys.length ys) (hmy:Sn.memL ys) (hly:ys.length≤maxLen) (hu:u.length≤maxLen) :
  Calls Tryz.prog 6 #[.slice a xs.length c,.slice b ys.length d,.string ⟨u.toArray⟩] w fun e w'=>e=.returned (.bool true)∧Below w.heap.size w w':=by
 have ha:=un_of w xs a c ht hx hmx hlx;have hb:=un_of w ys b d ht hy hmy hly;by_cases h0:Sn.leftL xs 100<0
 ·exact un_a a b c d xs ys u w _ _ _ _ _ _ _ _ ht ha hb hu h0
 by_cases h1:Sn.leftL ys 100<0
 ·exact un_b a b c d xs ys u w _ _ _ _ _ _ _ _ ht ha hb hu h0 h1
 by_cases h2:100<u.length
 ·exact un_c a b c d xs ys u w _ _ _ _ _ _ _ _ ht ha hb hu h0 h1 h2
 cases h3:nM xs with
 | false=>exact un_d a b c d xs ys u w _ _ _ _ _ _ _ _ ht ha hb hu h0 h1 h2 h3
 | true =>
 cases h4:nM ys with
 | false=>exact un_e a b c d xs ys u w _ _ _ _ _ _ _ _ ht ha hb hu h0 h1 h2 h3 h4
 | true =>
 cases h5:Sn.shortL xs with
 | false=>exact un_f a b c d xs ys u w _ _ _ _ _ _ _ _ ht ha hb hu h0 h1 h2 h3 h4 h5
 | true =>
 cases h6:Sn.shortL ys with
 | false=>exact un_g a b c d xs ys u w _ _ _ _ _ _ _ _ ht ha hb hu h0 h1 h2 h3 h4 h5 h6
 | true =>
 obtain⟨hg1,hg2,hg3,hg4⟩:=Bu u;have hsm:=sr (s:=u) gN;have hti:=Ij (s:=u) gN;have hlen:=Il u;have hus:=CZ (s:=u) gN;obtain⟨W,hW⟩:∃W,nn u=W:=⟨_,rfl⟩;have hsn:pz u=if 32<Sn.deepL W then .error 8 else .ok W:=by unfold pz;rw [Jo gN,hW]
 rw [hW] at hg1 hg2 hg3 hg4 hsm hti hlen hus;by_cases hd:32<Sn.deepL W
 ·rw [Jl hd] at hsn
  by_cases h7:Sn.tellL xs=Sn.tellL ys
  ·obtain rfl:=uU h3 h4 (mm _ h5) (mm _ h6) h7
   exact un_i a b c d xs u w _ _ _ _ _ _ _ ht ha hb hu h0 h1 h2 h3 h4 h5 h6 gR hsn
  ·exact un_h a b c d xs ys u w _ _ _ _ _ _ _ _ ht ha hb hu h0 h1 h2 h3 h4 h5 h6 h7 gR hsn
 ·rw [Jo hd] at hsn
  have hmw:nM W=true:=by unfold nM;rw [hg1,hg2];simpa using (by omega:Sn.deepL W≤32)
  have hzl:(Sn.tellL W).length≤10000000:=gN;by_cases h8:Sn.tellL xs=Sn.tellL W
  ·obtain rfl:=uU h3 hmw (mm _ h5) hus h8
   by_cases h7:Sn.tellL xs=Sn.tellL ys
   ·obtain rfl:=uU h3 h4 (mm _ h5) (mm _ h6) h7
    exact un_m a b c d xs u w _ _ _ _ _ _ _ ht ha hb hu h0 h1 h2 h3 h4 h5 h6 hsn rfl hti hsm.2.1 hmw hzl
   ·exact un_k a b c d xs ys u w _ _ _ _ _ _ _ _ ht ha hb hu h0 h1 h2 h3 h4 h5 h6 h7 hsn rfl hti hsm.2.1 hmw hzl
  ·by_cases h7:Sn.tellL xs=Sn.tellL ys
   ·obtain rfl:=uU h3 h4 (mm _ h5) (mm _ h6) h7
    exact un_l a b c d xs u w _ _ _ _ _ _ _ ht ha hb hu h0 h1 h2 h3 h4 h5 h6 hsn rfl hti hsm.2.1 hmw hzl h8
   ·exact un_j a b c d xs ys u w _ _ _ _ _ _ _ _ ht ha hb hu h0 h1 h2 h3 h4 h5 h6 h7 hsn rfl hti hsm.2.1 hmw hzl h8
end Go.Proofs.YtdcnncgpomcaaaaGreatDoor
