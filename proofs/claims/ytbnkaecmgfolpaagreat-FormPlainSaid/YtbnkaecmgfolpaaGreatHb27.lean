/- Where characters begin: plain laws. -/
import Derived.Test.YtbnkaecmgfolpaaGreatHb24
import Derived.Test.YtbnkaecmgfolpaaGreatHb23
set_option maxRecDepth 100000
namespace Go.Proofs.YtbnkaecmgfolpaaGreat
theorem we (cs:List Str) {i j:Nat} (h:i≤j):(cs.flatten.drop (cs.take i).flatten.length).take ((cs.take j).flatten.length-(cs.take i).flatten.length)=((cs.drop i).take (j-i)).flatten:=by
 have e1:cs.flatten.drop (cs.take i).flatten.length=(cs.drop i).flatten:=by
  conv=>lhs;rw [←List.take_append_drop i cs]
  rw [List.flatten_append];rw [List.take_append_drop i cs];simp
 have e2:(cs.take j).flatten.length-(cs.take i).flatten.length=((cs.drop i).take (j-i)).flatten.length:=by
  have e:cs.take j=cs.take i++(cs.drop i).take (j-i):=by
   conv=>lhs;rw [show j=i+(j-i) by omega,List.take_add]
  rw [e,List.flatten_append,zX];omega
 rw [e1,e2];conv=>lhs;arg 2;rw [←List.take_append_drop (j-i) (cs.drop i)]
 rw [List.flatten_append];simp
section
variable {C:Rc} {x:Rx} {L B:Nat} {here:Nat→Bool}
end
section
variable {cs:List Str} {here:Nat→Bool} {F:Nat→Str} {L:Nat} {all:Bool}
end
def putF (ps:List Str) (fs:List Fm):Str:=fs.flatMap fun f=>lx [f] ps
theorem uP (ps:List Str):∀(fs:List Fm) (out:Str),out.length+(putF ps fs).length≤65536→putM ps fs out=out++putF ps fs
 | [],out,_=>by simp [putM,putF]
 | f::r,out,h=>by
  have e:putF ps (f::r)=lx [f] ps++putF ps r:=by simp [putF]
  rw [e] at h ⊢;rw [zX] at h;unfold putM;rw [zL fg,uP ps r _ gj,Az]
theorem tj (cs:List Str) (a:Nat):cs.flatten.drop (cs.take a).flatten.length=(cs.drop a).flatten:=by
 have h:cs.flatten=(cs.take a).flatten++(cs.drop a).flatten:=by rw [←List.flatten_append,List.take_append_drop]
 rw [h,List.drop_left]
theorem nk (s:Str) {a b:Nat} (h:a≤b) (hb:b≤(iP s).length) :
  jN s ((jl (iP s) 0).getD a 0) ((jl (iP s) 0).getD b 0)=(((iP s).drop a).take (b-a)).flatten:=by
 rw [jI _ a fg,jI _ b hb];have:=we (iP s) h
 rw [ke] at this;exact this
theorem oe (s:Str) {a:Nat} (ha:a≤(iP s).length):s.drop ((jl (iP s) 0).getD a 0)=((iP s).drop a).flatten:=by
 rw [jI _ a ha];have:=tj (iP s) a
 rw [ke] at this;exact this
section
variable {s:Str} {fs:List Fm} {L B:Nat} {here:Nat→Bool} {x:Rx} {fold:Bool}
end
open Go.RowKit
theorem TfV.lit {w:World} {S:Nat→Prop} {rc:List Value} {x:Rx} {fs:List Fm} {g:Nat} {fold all:Bool} {cs:Array Value} (hv:RxV w S rc x) (hg:w.heap[g]?=some (.cells cs 43 (0,0))) (hS:S g) (hc:cs.toList=kk fs) :
  TfV w S (rc++[.slice (some ⟨g,0,none⟩) fs.length fs.length,.bool fold,.bool all]) ⟨x,fs,fold,all⟩ :=
 ⟨rc,some ⟨g,0,none⟩,fs.length,hv,⟨mg fs,fun _=>⟨g,0,rfl,hS,iN hg,fun j u hu=>by
  rw [zT hg,Nat.zero_add];rw [←hc] at hu;simpa using hu⟩⟩,rfl⟩
end Go.Proofs.YtbnkaecmgfolpaaGreat
