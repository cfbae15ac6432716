/- Closing steps of one statement's walk. -/
import Derived.Test.YtbnkaecmgfolpaaGreatHb0
set_option maxRecDepth 100000
namespace Go.Proofs.YtbnkaecmgfolpaaGreat
open Go.RowKit
theorem fO {p:Prop} (h:p:=by simp only [zW,zY];omega):p:=h
theorem gi {p:Prop} (h:p:=by intro g hg;simp at hg;subst hg;exact⟨by simp;omega,by simp⟩):p:=h
theorem gE {p:Prop} (h:p:=by decide +kernel):p:=h
theorem aG {p:Prop} (h:p:=by
 clear hb3 HLF HBN hSl;go_wp2
 go_loopg [11] (16+1) (fun k t wr=>DbC ([128]:Str) 16 w3 k t wr)
 case atStart=>exact⟨0,([128]:Str),by first|rfl|(simp;done),by omega,by omega,ab rfl,rfl⟩
 case round =>
  obtain⟨j,D,rfl,hj,hjk,HD,rfl⟩:=hrel;obtain⟨hj1,hj2⟩:=lP hj;have hDl:D.length=1*2 ^ j:=by rw [←HD.out,mw];rfl
  by_cases hj12:j<16
  ·exact ec
  ·obtain rfl:j=16:=fg
   have hDs:D.length=65536:=by rw [hDl]
   have g3:decide ((D.length:Int)<65536)=false:=Ah fg;clear hj hjk hj1 hj2 hDl hj12;have HDE:=ab (HD.out.symm.trans (px 128 16));clear HD;have hlf:((w3.alloc (.cells #[.int .i64 0,.int .i64 0,.int .i64 0,.string ⟨([120,121]).toArray⟩,.string ⟨([]).toArray⟩] 43)).alloc (.cells #[.int .i64 2,.string ⟨([122]).toArray⟩,.bool false,.slice none 0 0,.int .i64 0,.int .i64 0,.bool false,.slice none 0 0,.slice (some ⟨w3.heap.size,0,none⟩) 1 1,.bool false,.bool false] 28)).heap[w3.heap.size]?=some (.cells #[.int .i64 0,.int .i64 0,.int .i64 0,.string ⟨([120,121]).toArray⟩,.string ⟨([]).toArray⟩] 43 (0,0)):=by
    exact eN
   have HA2:=ab (yV (TfV.leaf (S:=fun _=>True) 2 [122] [120,121] false hlf trivial) fo fo HDE.out fo);have hbn:Below w3.heap.size w3 ((w3.alloc (.cells #[.int .i64 0,.int .i64 0,.int .i64 0,.string ⟨([120,121]).toArray⟩,.string ⟨([]).toArray⟩] 43)).alloc (.cells #[.int .i64 2,.string ⟨([122]).toArray⟩,.bool false,.slice none 0 0,.int .i64 0,.int .i64 0,.bool false,.slice none 0 0,.slice (some ⟨w3.heap.size,0,none⟩) 1 1,.bool false,.bool false] 28)):=((Below.refl _ _).alloc (zP _) _).alloc fq _;exact ef):p:=h
theorem aH {p:Prop} (h:p:=by
 clear hb3 HLF HBN hSl;go_wp2
 go_loopg [11] (16+1) (fun k t wr=>DbC ([128]:Str) 16 w3 k t wr)
 case atStart=>exact⟨0,([128]:Str),by first|rfl|(simp;done),by omega,by omega,ab rfl,rfl⟩
 case round =>
  obtain⟨j,D,rfl,hj,hjk,HD,rfl⟩:=hrel;obtain⟨hj1,hj2⟩:=lP hj;have hDl:D.length=1*2 ^ j:=by rw [←HD.out,mw];rfl
  by_cases hj12:j<16
  ·exact ec
  ·obtain rfl:j=16:=fg
   have hDs:D.length=65536:=by rw [hDl]
   have g3:decide ((D.length:Int)<65536)=false:=Ah fg;clear hj hjk hj1 hj2 hDl hj12;have HDE:=ab (HD.out.symm.trans (px 128 16));clear HD;have hlf:((w3.alloc (.cells #[.int .i64 0,.int .i64 0,.int .i64 0,.string ⟨([120]).toArray⟩,.string ⟨([]).toArray⟩] 43)).alloc (.cells #[.int .i64 2,.string ⟨([122]).toArray⟩,.bool false,.slice none 0 0,.int .i64 0,.int .i64 0,.bool false,.slice none 0 0,.slice (some ⟨w3.heap.size,0,none⟩) 1 1,.bool false,.bool false] 28)).heap[w3.heap.size]?=some (.cells #[.int .i64 0,.int .i64 0,.int .i64 0,.string ⟨([120]).toArray⟩,.string ⟨([]).toArray⟩] 43 (0,0)):=by
    exact eN
   have HA2:=ab (yV (TfV.leaf (S:=fun _=>True) 2 [122] [120] false hlf trivial) fo fo HDE.out fo);have hbn:Below w3.heap.size w3 ((w3.alloc (.cells #[.int .i64 0,.int .i64 0,.int .i64 0,.string ⟨([120]).toArray⟩,.string ⟨([]).toArray⟩] 43)).alloc (.cells #[.int .i64 2,.string ⟨([122]).toArray⟩,.bool false,.slice none 0 0,.int .i64 0,.int .i64 0,.bool false,.slice none 0 0,.slice (some ⟨w3.heap.size,0,none⟩) 1 1,.bool false,.bool false] 28)):=((Below.refl _ _).alloc (zP _) _).alloc fq _;exact ef):p:=h
theorem bi {p:Prop} (h:p:=by
 have g3:decide ((D.length:Int)<65536)=true:=Av (by have:=hj2.2 hj12;omega);have HD2:=ab (show dblS ([97,98]:Str) (j+1)=D++D by rw [dblS,HD.out]);have hDs:(D.length:Int)≤65536:=fg;clear HD hj2 hDl hj1;go_wp2
 go_roundg (15-j)
 case measure=>omega
 case rel=>exact⟨j+1,D++D,by first|rfl|simp,by omega,by omega,HD2,rfl⟩):p:=h
theorem cN {p:Prop} (h:p:=by
 exact⟨0,([97,98]:Str),by first|rfl|(simp;done),by omega,by omega,ab rfl,rfl⟩):p:=h
theorem dk {p:Prop} (h:p:=by
 rw [Below.heap_alloc _ _ _ fq];exact heap_alloc_new w0 _):p:=h
theorem ec {p:Prop} (h:p:=by
 have g3:decide ((D.length:Int)<65536)=true:=Av (by have:=hj2.2 hj12;omega);have HD2:=ab (show dblS ([128]:Str) (j+1)=D++D by rw [dblS,HD.out]);have hDs:(D.length:Int)≤65536:=fg;clear HD hj2 hDl hj1;go_wp2
 go_roundg (16-j)
 case measure=>omega
 case rel=>exact⟨j+1,D++D,by first|rfl|simp,by omega,by omega,HD2,rfl⟩):p:=h
theorem ef {p:Prop} (h:p:=by
 have HBN:=ab (bel2 HB3.out hbn);clear hlf hbn;go_wp2_with (first|(go_at_call 12;refine HA2.out.mono ?_;rintro e w5 ⟨rfl,hb5⟩)|(go_at_call 11;refine(lA _).mono ?_;rintro e w9 ⟨rfl,hb9⟩))
 go_ret
 exact⟨rfl,bel2 (bel2 HBN.out hb5) hb9⟩):p:=h
theorem eN {p:Prop} (h:p:=by
 rw [Below.heap_alloc _ _ _ fq];exact heap_alloc_new w3 _):p:=h
end Go.Proofs.YtbnkaecmgfolpaaGreat
