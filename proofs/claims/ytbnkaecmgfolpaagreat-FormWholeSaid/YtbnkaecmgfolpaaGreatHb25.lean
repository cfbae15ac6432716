/- A reading goes on the same with more behind it; the fuel does not matter. · A reading goes on the same with more behind it: atoms, terms, patterns; the fuel. · Two texts side by side, or with | between: on the characters. · Two texts side by side, with | between, in brackets: what is read of them. -/
import Derived.Test.YtbnkaecmgfolpaaGreatHb24
import Derived.Test.YtbnkaecmgfolpaaGreatHb15
set_option maxRecDepth 100000
namespace Go.Proofs.YtbnkaecmgfolpaaGreat
end Go.Proofs.YtbnkaecmgfolpaaGreat
namespace Go.Proofs.YtbnkaecmgfolpaaGreat
theorem wH:∀(k:Nat) (l:Str),l.length≤k→jH k l=iP l
 | k,l,h=>by
  have key:∀(n k:Nat) (l:Str),l.length≤n→n≤k→jH k l=jH n l:=by
   intro n;induction n with
   | zero=>intro k l h1 h2;obtain rfl:=zM (Nat.le_zero.1 h1);cases k<;>rfl
   | succ n ih =>
    intro k l h1 h2;obtain⟨k,rfl⟩:∃k',k=k'+1:=⟨k-1,by omega⟩;cases l with
    | nil=>rfl
    | cons c r =>
     have hd:(r.dropWhile iU).length≤r.length:=(List.dropWhile_suffix iU).length_le;simp only [zW] at h1;simp only [jH];rw [ih k _ fg fg]
  exact key l.length k l (zP _) h
theorem nb (c:UInt8) (r:Str):iP (c::r)=(c::r.takeWhile iU)::iP (r.dropWhile iU):=by
 have hd:(r.dropWhile iU).length≤r.length:=(List.dropWhile_suffix iU).length_le;show jH (r.length+1) (c::r)=_
 simp only [jH];rw [wH r.length _ hd]
def headP:Str→Prop
 | []=>True
 | c::_=>iU c=false
theorem re (s:Str):(iP s).length≤s.length:=(lH s.length s).2
theorem tS {s:Str} (h:s.length≤1000000):okC (iP s):=fun p hp=>by
 have:=(lH s.length s).1 p hp
 exact⟨this.1,by omega⟩
theorem readM_ok {s:Str} {x:Rx}:lK s=.ok x↔s.length≤256∧headP s∧patF ((iP s).length+1) (iP s) 0=.ok (x,[]):=by
 unfold lK;have rc:∀l:List Str,rX l=.ok x↔patF (l.length+1) l 0=.ok (x,[]):=by
  intro l;unfold rX;cases patF (l.length+1) l 0 with
  | error e=>simp
  | ok y =>
   obtain⟨y,r⟩:=y;cases r with
   | nil=>simp
   | cons c r=>simp
 by_cases hl:256<s.length
 ·rw [zL hl]
  exact⟨(fun h=>by cases h),fun h=>by omega⟩
 rw [zO hl];cases s with
 | nil =>
  have:iP []=[]:=rfl
  rw [this];simp only [rc];exact⟨fun h=>⟨by simp,trivial,h⟩,fun h=>h.2.2⟩
 | cons c r =>
  rw [nb];have hp:jS (c::r.takeWhile iU)=!iU c:=by
   show (!iU c&&(r.takeWhile iU).all iU)=_
   have:(r.takeWhile iU).all iU=true:=List.all_takeWhile ..
   rw [this,zH]
  simp only [hp];cases hc:iU c with
  | true=>simp [headP,hc]
  | false =>
   simp only [Bool.not_false,if_true];rw [rc];exact⟨fun h=>⟨by omega,hc,h⟩,fun h=>h.2.2⟩
open Go.RowKit
theorem pP {s:Str} {x:Rx} (h:lK s=.ok x):x.small∧x.parts≤1000:=by
 obtain⟨a1,a2,a3⟩:=readM_ok.1 h;have:=re s
 obtain⟨f1,f2,f3,f4⟩:=nd _ _ _ _ _ fg a3 (tS fg);exact⟨f1,by simp at f2;omega⟩
end Go.Proofs.YtbnkaecmgfolpaaGreat
