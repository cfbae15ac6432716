/- walk of gimletlaw21.SreadOpen -/
import Derived.Test.YtbgcjpefocdkkaaSx1
import Derived.Test.YtbgcjpefocdkkaaSx2
import Derived.Test.YtbgcjpefocdkkaaSx3
import Derived.Test.YtbgcjpefocdkkaaSx4
import Derived.Test.YtbgcjpefocdkkaaSx5
import Derived.Test.YtbgcjpefocdkkaaSx6
import Derived.Test.YtbgcjpefocdkkaaSx7
import Derived.Test.YtbgcjpefocdkkaaSx8
import Derived.Test.YtbgcjpefocdkkaaSx9
import Derived.Test.YtbgcjpefocdkkaaSx10
import Derived.Test.YtbgcjpefocdkkaaSx11
import Derived.Test.YtbgcjpefocdkkaaSx12
import Derived.Lib.ItoaMem
import Derived.Test.YtbgcjpefocdkkaaSx13
import Derived.Test.YtbgcjpefocdkkaaSx32
import Derived.Test.YtbgcjpefocdkkaaSx14
import Derived.Test.YtbgcjpefocdkkaaSx15
import Derived.Test.YtbgcjpefocdkkaaSx16
import Derived.Test.YtbgcjpefocdkkaaSx17
import Derived.Test.YtbgcjpefocdkkaaSx18
import Derived.Test.YtbgcjpefocdkkaaSx19
import Derived.Test.YtbgcjpefocdkkaaSx20
import Derived.Test.YtbgcjpefocdkkaaSx21
import Derived.Test.YtbgcjpefocdkkaaSx22
import Derived.Test.YtbgcjpefocdkkaaSx23
import Derived.Test.YtbgcjpefocdkkaaSx24
import Derived.Test.YtbgcjpefocdkkaaSx25
import Derived.Test.YtbgcjpefocdkkaaSx26
import Derived.Test.YtbgcjpefocdkkaaSx27
import Derived.Test.YtbgcjpefocdkkaaSx28
import Derived.Test.YtbgcjpefocdkkaaSx29
import Derived.Test.YtbgcjpefocdkkaaSx33
set_option maxRecDepth 100000
namespace Go.Proofs.Ytbgcjpefocdkkaa
open Go.RowKit
def OyRel (s:Str) (w:World) (q:Value) (wr:World):Prop:=∃i:Nat,q=.int .i64 i∧i≤s.length∧w=wr∧125 ∉ s.take i
set_option maxHeartbeats 4000000 in
theorem SreadOpen_yes (s:Str) (z:Int) (w:World) (hno:125∈s) (hl:s.length≤100):Calls Try.prog 7 #[.string ⟨(s).toArray⟩,.int .i64 z] w fun e w'=>e=.returned (.bool true)∧Below w.heap.size w w':=by
 have HNO:=Lib.hid hno;have dg:decide ((100:Int)<(s.length:Int))=false:=decide_eq_false (by omega);clear hno;go_enter Try.func7,Try.ntmps7
 go_wp2
 go_loopw [5] (fun q wr=>OyRel s w q wr) (fun q _=>s.length-(intOf q).toNat)
 case atStart=>exact⟨0,rfl,by omega,rfl,by simp⟩
 case round =>
  obtain⟨i,rfl,hi,rfl,htk⟩:=hrel;cases hd:s.drop i with
  | nil =>
   have h2:=drop_nil hd;rw [List.take_of_length_le h2] at htk;exact absurd HNO.out htk
  | cons c r =>
   obtain⟨h2,h3,hr⟩:=drop_cons hd;have HTK:Hid (s.take (i+1)=s.take i++[c]):=Lib.hid (by rw [List.take_add_one,List.getElem?_eq_getElem h2,h3 h2];rfl);have HTK0:=Lib.hid htk;clear hd hr htk;by_cases hc:c.toNat=125
   ·have hcb:((c.toNat:Int)==125)=true:=by rw [beq_iff_eq];omega
    clear hc;go_wp2_with (go_at_call 11;refine(awake21 _).mono ?_;rintro e w9 ⟨rfl,hb9⟩)
    go_ret
    exact⟨rfl,hb9⟩
   ·have hcb:((c.toNat:Int)==125)=false:=by rw [beq_eq_false_iff_ne];omega
    have HC:=Lib.hid hc;clear hc;go_wp2
    go_roundw
    case rel=>exact⟨i+1,by go_num,by omega,rfl,by
     rw [HTK.out];intro e;rcases List.mem_append.1 e with e|e
     ·exact HTK0.out e
     ·exact HC.out (by rw [←List.mem_singleton.1 e];rfl)⟩
    case measure=>simp [intOf];omega
theorem SreadOpen_walk (s:Str) (z:Int) (w:World) (hs:s.length≤maxLen):Calls Try.prog 7 #[.string ⟨(s).toArray⟩,.int .i64 z] w fun e w'=>e=.returned (.bool true)∧Below w.heap.size w w':=by
 unfold maxLen at hs;by_cases hl:s.length≤100
 ·by_cases hno:125∈s
  ·exact SreadOpen_yes s z w hno hl
  ·have h9:=low_lt z (n:=9) (by omega)
   have hz:s.length=0∨0<s.length:=by omega
   rcases(by omega:low z 9=0∨low z 9=1∨low z 9=2∨low z 9=3∨low z 9=4∨low z 9=5∨low z 9=6∨low z 9=7∨low z 9=8) with h|h|h|h|h|h|h|h|h
   ·exact SreadOpen_0 s z w hno hl h
   ·exact SreadOpen_1 s z w hno hl h
   ·exact SreadOpen_2 s z w hno hl h
   ·exact hz.elim (SreadOpen_3n s z w hno hl h) (SreadOpen_3s s z w hno hl h)
   ·exact hz.elim (SreadOpen_4n s z w hno hl h) (SreadOpen_4s s z w hno hl h)
   ·exact hz.elim (SreadOpen_5n s z w hno hl h) (SreadOpen_5s s z w hno hl h)
   ·exact SreadOpen_6 s z w hno hl h
   ·exact SreadOpen_7 s z w hno hl h
   ·exact hz.elim (SreadOpen_8n s z w hno hl h) (SreadOpen_8s s z w hno hl h)
 ·have dg:decide ((100:Int)<(s.length:Int))=true:=decide_eq_true (by omega)
  go_enter Try.func7,Try.ntmps7
  go_wp2_with (go_at_call 11;refine(awake21 _).mono ?_;rintro e w9 ⟨rfl,hb9⟩)
  go_ret
  exact⟨rfl,hb9⟩
end Go.Proofs.Ytbgcjpefocdkkaa
