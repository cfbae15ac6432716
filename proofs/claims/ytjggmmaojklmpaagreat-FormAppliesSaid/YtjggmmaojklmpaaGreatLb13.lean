/- walk of slices.symMergeCmpFunc -/
import Derived.Test.YtjggmmaojklmpaaGreatLb3
set_option maxRecDepth 100000
set_option maxHeartbeats 4000000
namespace Go.Proofs.YtjggmmaojklmpaaGreat
open Go.RowKit
def SymC (B g cap N f:Nat):Prop:=∀(rs:List Row) (a m b:Nat) (az mz bz:Int) (w:World),az=a→mz=m→bz=b→b-a≤f→a<m→m<b→b≤N→RO w B g cap rs→rs.length=N →
  Calls Tryz.prog 197 #[.slice (some ⟨g,0,none⟩) N cap,.int .i64 az,.int .i64 mz,.int .i64 bz,.func (.func 186) #[] #[]] w fun e w'=>e=.returned (.tuple #[])∧RO w' B g cap (symM f rs a m b)∧w.grownBy w' (some g)
theorem Bh {B g cap N:Nat} {rs:List Row} {a m b:Nat} {az mz bz:Int} (f:Value) (w:World) (h1:az=a) (h2:mz=m) (h3:bz=b) (h:RO w B g cap rs) (hN:rs.length=N) (ha:a<m) (hb:m<b) (hbn:b≤N) (hl:N≤1000000) :
  Calls Tryz.prog 198 #[.slice (some ⟨g,0,none⟩) N cap,.int .i64 az,.int .i64 mz,.int .i64 bz,f] w fun e w'=>e=.returned (.tuple #[])∧RO w' B g cap (rotL (b-a) rs m (m-a) (b-m))∧w.grownBy w' (some g):=by
 subst h1 h2 h3;exact zU B g cap N rs a m b f w h hN ha hb hbn hl
def RunC (B g cap N:Nat) (f:FuncId) (x y z:Nat) (l l':List Row):Prop:=∀wr:World,RO wr B g cap l →
  Calls Tryz.prog f #[.slice (some ⟨g,0,none⟩) N cap,.int .i64 x,.int .i64 y,.int .i64 z,.func (.func 186) #[] #[]] wr fun e w'=>e=.returned (.tuple #[])∧RO w' B g cap l'∧wr.grownBy w' (some g)
  theorem smA11 (LO:Nat) (B g cap N a m b M T E:Nat) (rs r1 r2 R:List Row) (w:World) (hN:rs.length=N) (hl:N≤1000000) (ham:a<m) (hmb:m<b) (hbN:b≤N) (hM2:((a:Int)+b) / 2=(M:Int)) (_haM:a≤M) (hMb:M<b) (e1:((m:Int)-a==1)=false) (e2:((b:Int)-m==1)=false) (hE2:(M:Int)+m-T=(E:Int)) (HRO:Hid (RO w B g cap rs)) (q6:M<m) (q7:(M:Int)+m-b=(LO:Int)) (q8:LO≤M) (_haL:a≤LO) (c1:T<m) (c2:m<E) (c5:M<E) (c3:a<T) (c4:T<M) (c6:E<b) (HT:Hid (bs (fun c=>!ltAt rs (M+m-1-c) c) b LO M=T)) (HC1:Hid (RunC B g cap N 198 T m E rs r1)) (HC2:Hid (RunC B g cap N 197 a T M r1 r2)) (HC3:Hid (RunC B g cap N 197 M E b r2 R)):Calls Tryz.prog 197 #[.slice (some ⟨g,0,none⟩) N cap,.int .i64 a,.int .i64 m,.int .i64 b,.func (.func 186) #[] #[]] w fun e w'=>e=.returned (.tuple #[])∧RO w' B g cap R∧w.grownBy w' (some g):=by
   have _hun:True:=(fun(_ _:List Row) {p:Prop} (_:p)=>trivial) r1 r2 c5;go_enter Tryz.func197,Tryz.ntmps197
   go_wp2
   go_loopw [20,21] (fun q s wr=>sh B g cap rs (fun c=>!ltAt rs (M+m-1-c) c) (LO) (M) T w q s wr) (fun q s _=>(intOf s).toNat-(intOf q).toNat)
   case atStart=>exact bS
   case round =>
    exact fK
     theorem smA10 (LO:Nat) (B g cap N a m b M T E:Nat) (rs r1 r2 R:List Row) (w:World) (hN:rs.length=N) (hl:N≤1000000) (ham:a<m) (hmb:m<b) (hbN:b≤N) (hM2:((a:Int)+b) / 2=(M:Int)) (_haM:a≤M) (hMb:M<b) (e1:((m:Int)-a==1)=false) (e2:((b:Int)-m==1)=false) (hE2:(M:Int)+m-T=(E:Int)) (HRO:Hid (RO w B g cap rs)) (q6:M<m) (q7:(M:Int)+m-b=(LO:Int)) (q8:LO≤M) (_haL:a≤LO) (c1:T<m) (c2:m<E) (c5:M<E) (c3:a<T) (c4:T<M) (c6:b≤E) (HT:Hid (bs (fun c=>!ltAt rs (M+m-1-c) c) b LO M=T)) (HC1:Hid (RunC B g cap N 198 T m E rs r1)) (HC2:Hid (RunC B g cap N 197 a T M r1 R)):Calls Tryz.prog 197 #[.slice (some ⟨g,0,none⟩) N cap,.int .i64 a,.int .i64 m,.int .i64 b,.func (.func 186) #[] #[]] w fun e w'=>e=.returned (.tuple #[])∧RO w' B g cap R∧w.grownBy w' (some g):=by
      have _hun:True:=(fun(_ _:List Row) {p:Prop} (_:p)=>trivial) r1 r2 c5;go_enter Tryz.func197,Tryz.ntmps197
      go_wp2
      go_loopw [20,21] (fun q s wr=>sh B g cap rs (fun c=>!ltAt rs (M+m-1-c) c) (LO) (M) T w q s wr) (fun q s _=>(intOf s).toNat-(intOf q).toNat)
      case atStart=>exact bS
      case round =>
       obtain⟨i,j,k,rfl,rfl,hi,hij,hj,hk,hro,hg,HF⟩:=hrel;clear HT HRO;by_cases hlt:i<j
       ·exact ae
       ·have hij2:T=i:=by
         exact aZ
        subst hij2;clear HF hk hi hj;go_wp2_with (go_at_call 198;refine(HC1.out _ hro).mono ?_)
        first|rintro e w6 rfl hr6 hh6|rintro e w6 ⟨rfl,hr6,hh6⟩
        have hg6:=jM hg hh6;clear hh6;go_wp2_with (go_at_call 197;refine(HC2.out _ hr6).mono ?_)
        first|rintro e w7 rfl hr7 hh7|rintro e w7 ⟨rfl,hr7,hh7⟩
        have hg7:=jM hg6 hh7;clear hh7;go_wp2
        go_end0
        exact⟨rfl,hr7,hg7⟩
        theorem smA00 (LO:Nat) (B g cap N a m b M T E:Nat) (rs r1 r2 R:List Row) (w:World) (hN:rs.length=N) (hl:N≤1000000) (ham:a<m) (hmb:m<b) (hbN:b≤N) (hM2:((a:Int)+b) / 2=(M:Int)) (_haM:a≤M) (hMb:M<b) (e1:((m:Int)-a==1)=false) (e2:((b:Int)-m==1)=false) (hE2:(M:Int)+m-T=(E:Int)) (HRO:Hid (RO w B g cap rs)) (q6:M<m) (q7:(M:Int)+m-b=(LO:Int)) (q8:LO≤M) (_haL:a≤LO) (c1:T<m) (c2:m<E) (c5:M<E) (c3:T≤a) (c6:b≤E) (HT:Hid (bs (fun c=>!ltAt rs (M+m-1-c) c) b LO M=T)) (HC1:Hid (RunC B g cap N 198 T m E rs R)):Calls Tryz.prog 197 #[.slice (some ⟨g,0,none⟩) N cap,.int .i64 a,.int .i64 m,.int .i64 b,.func (.func 186) #[] #[]] w fun e w'=>e=.returned (.tuple #[])∧RO w' B g cap R∧w.grownBy w' (some g):=by
         have _hun:True:=(fun(_ _:List Row) {p:Prop} (_:p)=>trivial) r1 r2 c5;go_enter Tryz.func197,Tryz.ntmps197
         go_wp2
         go_loopw [20,21] (fun q s wr=>sh B g cap rs (fun c=>!ltAt rs (M+m-1-c) c) (LO) (M) T w q s wr) (fun q s _=>(intOf s).toNat-(intOf q).toNat)
         case atStart=>exact bS
         case round =>
          exact fL
           theorem smB11  (B g cap N a m b M T E:Nat) (rs r1 r2 R:List Row) (w:World) (hN:rs.length=N) (hl:N≤1000000) (ham:a<m) (hmb:m<b) (hbN:b≤N) (hM2:((a:Int)+b) / 2=(M:Int)) (_haM:a≤M) (hMb:M<b) (e1:((m:Int)-a==1)=false) (e2:((b:Int)-m==1)=false) (hE2:(M:Int)+m-T=(E:Int)) (HRO:Hid (RO w B g cap rs)) (q6:m≤M) (c1:T<m) (c2:m<E) (c5:M<E) (c3:a<T) (c4:T<M) (c6:E<b) (HT:Hid (bs (fun c=>!ltAt rs (M+m-1-c) c) b a m=T)) (HC1:Hid (RunC B g cap N 198 T m E rs r1)) (HC2:Hid (RunC B g cap N 197 a T M r1 r2)) (HC3:Hid (RunC B g cap N 197 M E b r2 R)):Calls Tryz.prog 197 #[.slice (some ⟨g,0,none⟩) N cap,.int .i64 a,.int .i64 m,.int .i64 b,.func (.func 186) #[] #[]] w fun e w'=>e=.returned (.tuple #[])∧RO w' B g cap R∧w.grownBy w' (some g):=by
            have _hun:True:=(fun(_ _:List Row) {p:Prop} (_:p)=>trivial) r1 r2 c5;go_enter Tryz.func197,Tryz.ntmps197
            go_wp2
            go_loopw [20,21] (fun q s wr=>sh B g cap rs (fun c=>!ltAt rs (M+m-1-c) c) (a) (m) T w q s wr) (fun q s _=>(intOf s).toNat-(intOf q).toNat)
            case atStart=>exact bH
            case round =>
             exact fK
              theorem smB01  (B g cap N a m b M T E:Nat) (rs r1 r2 R:List Row) (w:World) (hN:rs.length=N) (hl:N≤1000000) (ham:a<m) (hmb:m<b) (hbN:b≤N) (hM2:((a:Int)+b) / 2=(M:Int)) (_haM:a≤M) (hMb:M<b) (e1:((m:Int)-a==1)=false) (e2:((b:Int)-m==1)=false) (hE2:(M:Int)+m-T=(E:Int)) (HRO:Hid (RO w B g cap rs)) (q6:m≤M) (c1:T<m) (c2:m<E) (c5:M<E) (c3:T≤a) (c6:E<b) (HT:Hid (bs (fun c=>!ltAt rs (M+m-1-c) c) b a m=T)) (HC1:Hid (RunC B g cap N 198 T m E rs r1)) (HC3:Hid (RunC B g cap N 197 M E b r1 R)):Calls Tryz.prog 197 #[.slice (some ⟨g,0,none⟩) N cap,.int .i64 a,.int .i64 m,.int .i64 b,.func (.func 186) #[] #[]] w fun e w'=>e=.returned (.tuple #[])∧RO w' B g cap R∧w.grownBy w' (some g):=by
               have _hun:True:=(fun(_ _:List Row) {p:Prop} (_:p)=>trivial) r1 r2 c5;go_enter Tryz.func197,Tryz.ntmps197
               go_wp2
               go_loopw [20,21] (fun q s wr=>sh B g cap rs (fun c=>!ltAt rs (M+m-1-c) c) (a) (m) T w q s wr) (fun q s _=>(intOf s).toNat-(intOf q).toNat)
               case atStart=>exact bH
               case round =>
                obtain⟨i,j,k,rfl,rfl,hi,hij,hj,hk,hro,hg,HF⟩:=hrel;clear HT HRO;by_cases hlt:i<j
                ·exact ae
                ·have hij2:T=i:=by
                  exact aZ
                 subst hij2;clear HF hk hi hj;go_wp2_with (go_at_call 198;refine(HC1.out _ hro).mono ?_)
                 first|rintro e w6 rfl hr6 hh6|rintro e w6 ⟨rfl,hr6,hh6⟩
                 have hg6:=jM hg hh6;clear hh6;go_wp2_with (go_at_call 197;refine(HC3.out _ hr6).mono ?_)
                 first|rintro e w8 rfl hr8 hh8|rintro e w8 ⟨rfl,hr8,hh8⟩
                 have hg8:=jM hg6 hh8;clear hh8;go_wp2
                 go_end0
                 exact⟨rfl,hr8,hg8⟩
                 theorem smB00  (B g cap N a m b M T E:Nat) (rs r1 r2 R:List Row) (w:World) (hN:rs.length=N) (hl:N≤1000000) (ham:a<m) (hmb:m<b) (hbN:b≤N) (hM2:((a:Int)+b) / 2=(M:Int)) (_haM:a≤M) (hMb:M<b) (e1:((m:Int)-a==1)=false) (e2:((b:Int)-m==1)=false) (hE2:(M:Int)+m-T=(E:Int)) (HRO:Hid (RO w B g cap rs)) (q6:m≤M) (c1:T<m) (c2:m<E) (c5:M<E) (c3:T≤a) (c6:b≤E) (HT:Hid (bs (fun c=>!ltAt rs (M+m-1-c) c) b a m=T)) (HC1:Hid (RunC B g cap N 198 T m E rs R)):Calls Tryz.prog 197 #[.slice (some ⟨g,0,none⟩) N cap,.int .i64 a,.int .i64 m,.int .i64 b,.func (.func 186) #[] #[]] w fun e w'=>e=.returned (.tuple #[])∧RO w' B g cap R∧w.grownBy w' (some g):=by
                  have _hun:True:=(fun(_ _:List Row) {p:Prop} (_:p)=>trivial) r1 r2 c5;go_enter Tryz.func197,Tryz.ntmps197
                  go_wp2
                  go_loopw [20,21] (fun q s wr=>sh B g cap rs (fun c=>!ltAt rs (M+m-1-c) c) (a) (m) T w q s wr) (fun q s _=>(intOf s).toNat-(intOf q).toNat)
                  case atStart=>exact bH
                  case round =>
                   exact fL
                    theorem smAC (LO:Nat) (B g cap N a m b M T E:Nat) (rs r1 r2 R:List Row) (w:World) (hN:rs.length=N) (hl:N≤1000000) (ham:a<m) (hmb:m<b) (hbN:b≤N) (hM2:((a:Int)+b) / 2=(M:Int)) (_haM:a≤M) (hMb:M<b) (e1:((m:Int)-a==1)=false) (e2:((b:Int)-m==1)=false) (hE2:(M:Int)+m-T=(E:Int)) (HRO:Hid (RO w B g cap rs)) (q6:M<m) (q7:(M:Int)+m-b=(LO:Int)) (q8:LO≤M) (_haL:a≤LO) (c1:T<m) (_c2:E≤m) (c4:M≤T) (c3:a<T) (c5:M<E) (c6:E<b) (HT:Hid (bs (fun c=>!ltAt rs (M+m-1-c) c) b LO M=T)) (HC3:Hid (RunC B g cap N 197 M E b rs R)):Calls Tryz.prog 197 #[.slice (some ⟨g,0,none⟩) N cap,.int .i64 a,.int .i64 m,.int .i64 b,.func (.func 186) #[] #[]] w fun e w'=>e=.returned (.tuple #[])∧RO w' B g cap R∧w.grownBy w' (some g):=by
                     have _hun:True:=(fun(_ _:List Row) {p:Prop} (_:p)=>trivial) r1 r2 c5;go_enter Tryz.func197,Tryz.ntmps197
                     go_wp2
                     go_loopw [20,21] (fun q s wr=>sh B g cap rs (fun c=>!ltAt rs (M+m-1-c) c) (LO) (M) T w q s wr) (fun q s _=>(intOf s).toNat-(intOf q).toNat)
                     case atStart=>exact bS
                     case round =>
                      obtain⟨i,j,k,rfl,rfl,hi,hij,hj,hk,hro,hg,HF⟩:=hrel;clear HT HRO;by_cases hlt:i<j
                      ·exact ae
                      ·have hij2:T=i:=by
                        exact aZ
                       subst hij2;clear HF hk hi hj;go_wp2_with (go_at_call 197;refine(HC3.out _ hro).mono ?_)
                       first|rintro e w8 rfl hr8 hh8|rintro e w8 ⟨rfl,hr8,hh8⟩
                       have hg8:=jM hg hh8;clear hh8;go_wp2
                       go_end0
                       exact⟨rfl,hr8,hg8⟩
                       theorem smBB  (B g cap N a m b M T E:Nat) (rs r1 r2 R:List Row) (w:World) (hN:rs.length=N) (hl:N≤1000000) (ham:a<m) (hmb:m<b) (hbN:b≤N) (hM2:((a:Int)+b) / 2=(M:Int)) (_haM:a≤M) (hMb:M<b) (e1:((m:Int)-a==1)=false) (e2:((b:Int)-m==1)=false) (hE2:(M:Int)+m-T=(E:Int)) (HRO:Hid (RO w B g cap rs)) (q6:m≤M) (c1:m≤T) (c3:a<T) (c4:T<M) (c5:E≤M) (HT:Hid (bs (fun c=>!ltAt rs (M+m-1-c) c) b a m=T)) (HC2:Hid (RunC B g cap N 197 a T M rs R)):Calls Tryz.prog 197 #[.slice (some ⟨g,0,none⟩) N cap,.int .i64 a,.int .i64 m,.int .i64 b,.func (.func 186) #[] #[]] w fun e w'=>e=.returned (.tuple #[])∧RO w' B g cap R∧w.grownBy w' (some g):=by
                        have _hun:True:=(fun(_ _:List Row) {p:Prop} (_:p)=>trivial) r1 r2 c5;go_enter Tryz.func197,Tryz.ntmps197
                        go_wp2
                        go_loopw [20,21] (fun q s wr=>sh B g cap rs (fun c=>!ltAt rs (M+m-1-c) c) (a) (m) T w q s wr) (fun q s _=>(intOf s).toNat-(intOf q).toNat)
                        case atStart=>exact bH
                        case round =>
                         obtain⟨i,j,k,rfl,rfl,hi,hij,hj,hk,hro,hg,HF⟩:=hrel;clear HT HRO;by_cases hlt:i<j
                         ·exact ae
                         ·have hij2:T=i:=by
                           exact aZ
                          subst hij2;clear HF hk hi hj;go_wp2_with (go_at_call 197;refine(HC2.out _ hro).mono ?_)
                          first|rintro e w7 rfl hr7 hh7|rintro e w7 ⟨rfl,hr7,hh7⟩
                          have hg7:=jM hg hh7;clear hh7;go_wp2
                          go_end0
                          exact⟨rfl,hr7,hg7⟩
                          theorem smBC  (B g cap N a m b M T E:Nat) (rs r1 r2 R:List Row) (w:World) (hN:rs.length=N) (hl:N≤1000000) (ham:a<m) (hmb:m<b) (hbN:b≤N) (hM2:((a:Int)+b) / 2=(M:Int)) (_haM:a≤M) (hMb:M<b) (e1:((m:Int)-a==1)=false) (e2:((b:Int)-m==1)=false) (hE2:(M:Int)+m-T=(E:Int)) (HRO:Hid (RO w B g cap rs)) (q6:m≤M) (c1:m≤T) (c3:a<T) (c4:M≤T) (c5:E≤M) (hrR:Hid (rs=R)) (HT:Hid (bs (fun c=>!ltAt rs (M+m-1-c) c) b a m=T)) :Calls Tryz.prog 197 #[.slice (some ⟨g,0,none⟩) N cap,.int .i64 a,.int .i64 m,.int .i64 b,.func (.func 186) #[] #[]] w fun e w'=>e=.returned (.tuple #[])∧RO w' B g cap R∧w.grownBy w' (some g):=by
                           have _hun:True:=(fun(_ _:List Row) {p:Prop} (_:p)=>trivial) r1 r2 c5;go_enter Tryz.func197,Tryz.ntmps197
                           go_wp2
                           go_loopw [20,21] (fun q s wr=>sh B g cap rs (fun c=>!ltAt rs (M+m-1-c) c) (a) (m) T w q s wr) (fun q s _=>(intOf s).toNat-(intOf q).toNat)
                           case atStart=>exact bH
                           case round =>
                            obtain⟨i,j,k,rfl,rfl,hi,hij,hj,hk,hro,hg,HF⟩:=hrel;clear HT HRO;by_cases hlt:i<j
                            ·exact ae
                            ·have hij2:T=i:=by
                              exact aZ
                             subst hij2;clear HF hk hi hj;go_wp2
                             go_end0
                             exact⟨rfl,(hrR.out▸hro),hg⟩
theorem oI (B g cap N:Nat) (hl:N≤1000000):∀f:Nat,SymC B g cap N f
 | 0=>by intro rs a m b az mz bz w _ _ _ h1 h2 h3;omega
 | f+1=>by
  rintro rs a m b az mz bz w rfl rfl rfl hf ham hmb hbN h hN;by_cases h1:m=a+1
  ·subst h1
   have:=uC B g cap N rs a b w h hN hmb hbN hl
   rw [xH];exact this
  by_cases h2:b=m+1
  ·subst h2
   have:=tM B g cap N rs a m w h hN gu hbN hl
   rw [vg h1];exact this
  have IH:=oI B g cap N hl f;obtain⟨M,hM⟩:∃M,(a+b) / 2=M:=⟨_,rfl⟩;have hM2:((a:Int)+b) / 2=(M:Int):=gu;obtain⟨LO,hLO⟩:∃LO,sLo a m b=LO:=⟨_,rfl⟩;obtain⟨HI,hHI⟩:∃HI,sHi a m b=HI:=⟨_,rfl⟩;obtain⟨T,hT⟩:∃T,bs (fun c=>!ltAt rs (M+m-1-c) c) b LO HI=T:=⟨_,rfl⟩;have hlohi:a≤LO∧LO≤HI∧HI≤M∧HI≤m∧M+m≤LO+b∧((M<m∧LO=M+m-b∧HI=M)∨(m≤M∧LO=a∧HI=m)):=by
   unfold sLo at hLO;unfold sHi at hHI;rw [hM] at hLO hHI;by_cases hc:M<m
   ·rw [Cl hc] at hLO hHI;omega
   ·rw [Co hc] at hLO hHI;omega
  have hbd:=ug (fun c=>!ltAt rs (M+m-1-c) c) b LO HI hlohi.2.1;rw [hT] at hbd;have hTm:T≤M+m:=gu;obtain⟨E,hE⟩:∃E,M+m-T=E:=⟨_,rfl⟩;have hE2:(M:Int)+m-T=(E:Int):=gu;have hR:symM (f+1) rs a m b=symT f (if T<m∧m<E then rotL (E-T) rs m (m-T) (E-m) else rs) a T M E b:=by
   rw [yD h1 h2,hM,hLO,hHI,hT,hE]
  rw [hR];have e1:((m:Int)-a==1)=false:=by rw [CM];omega
  have e2:((b:Int)-m==1)=false:=by rw [CM];omega
  have HRO:=ab h;have hT0:=hT;have HT:=ab hT;have ROT:T<m→m<E→RunC B g cap N 198 T m E rs (rotL (E-T) rs m (m-T) (E-m)):=fun c1 c2 wr hro=>Bh _ wr rfl rfl rfl hro hN c1 c2 gu hl
  have SYM:∀(l:List Row) (x y z:Nat),l.length=N→z-x≤f→x<y→y<z→z≤N→RunC B g cap N 197 x y z l (symM f l x y z) :=
   fun l x y z k1 k2 k3 k4 k5 wr hro=>IH l x y z x y z wr rfl rfl rfl k2 k3 k4 k5 hro k1
  have hrl:(rotL (E-T) rs m (m-T) (E-m)).length=N:=by rw [rg];exact hN
  clear hR hT0 h hT;obtain⟨q1,q2,q3,q4,q5,q6⟩:=hlohi;rcases q6 with⟨q6,q7,q8⟩|⟨q6,q7,q8⟩
  ·subst q8
   have q7':(HI:Int)+m-b=(LO:Int):=gu;by_cases c4:T<HI
   ·rw [Cl ⟨(by omega:T<m),(by omega:m<E)⟩]
    by_cases c3:a<T
    ·by_cases c6:E<b
     ·have hr:symT f (rotL (E-T) rs m (m-T) (E-m)) a T HI E b=symM f (symM f (rotL (E-T) rs m (m-T) (E-m)) a T HI) HI E b:=by
       unfold symT;rw [Cl ⟨(by omega:HI<E),c6⟩,Cl ⟨c3,c4⟩]
      rw [hr];exact smA11 LO B g cap N a m b HI T E rs _ _ _ w hN hl ham hmb hbN hM2 gu gu e1 e2 hE2 HRO q6 q7' gu gu gu gu gu c3 c4 c6 HT (ab (ROT gu gu)) (ab (SYM _ _ _ _ hrl gu c3 c4 gu)) (ab (SYM _ _ _ _ (by rw [oL];exact hrl) gu gu c6 gu))
     ·have hr:symT f (rotL (E-T) rs m (m-T) (E-m)) a T HI E b=symM f (rotL (E-T) rs m (m-T) (E-m)) a T HI:=by
       unfold symT;rw [Co (fun q=>c6 q.2),Cl ⟨c3,c4⟩]
      rw [hr];exact smA10 LO B g cap N a m b HI T E rs _ [] _ w hN hl ham hmb hbN hM2 gu gu e1 e2 hE2 HRO q6 q7' gu gu gu gu gu c3 c4 gu HT (ab (ROT gu gu)) (ab (SYM _ _ _ _ hrl gu c3 c4 gu))
    ·by_cases c6:E<b
     ·exfalso;omega
     ·have hr:symT f (rotL (E-T) rs m (m-T) (E-m)) a T HI E b=rotL (E-T) rs m (m-T) (E-m):=by
       unfold symT;rw [Co (fun q=>c6 q.2),Co (fun q=>c3 q.1)]
      rw [hr];exact smA00 LO B g cap N a m b HI T E rs [] [] _ w hN hl ham hmb hbN hM2 gu gu e1 e2 hE2 HRO q6 q7' gu gu gu gu gu gu gu HT (ab (ROT gu gu))
   ·rw [Co (fun q=>absurd q.2 (by omega:¬m<E))]
    have hr:symT f rs a T HI E b=symM f rs HI E b:=by
     unfold symT;rw [Cl ⟨(by omega:HI<E),(by omega:E<b)⟩,Co (fun q=>c4 q.2)]
    rw [hr];by_cases c3:a<T
    ·exact smAC LO B g cap N a m b HI T E rs [] [] _ w hN hl ham hmb hbN hM2 gu gu e1 e2 hE2 HRO q6 q7' gu gu gu gu gu c3 gu gu HT (ab (SYM _ _ _ _ hN gu gu gu gu))
    ·exfalso;omega
  ·subst q8
   subst q7;by_cases c1:T<HI
   ·rw [Cl ⟨c1,(by omega:HI<E)⟩]
    by_cases c3:LO<T
    ·by_cases c6:E<b
     ·have hr:symT f (rotL (E-T) rs HI (HI-T) (E-HI)) LO T M E b=symM f (symM f (rotL (E-T) rs HI (HI-T) (E-HI)) LO T M) M E b:=by
       unfold symT;rw [Cl ⟨(by omega:M<E),c6⟩,Cl ⟨c3,(by omega:T<M)⟩]
      rw [hr];exact smB11 B g cap N LO HI b M T E rs _ _ _ w hN hl ham hmb hbN hM2 gu gu e1 e2 hE2 HRO q6 c1 gu gu c3 gu c6 HT (ab (ROT c1 gu)) (ab (SYM _ _ _ _ hrl gu c3 gu gu)) (ab (SYM _ _ _ _ (by rw [oL];exact hrl) gu gu c6 gu))
     ·exfalso;omega
    ·by_cases c6:E<b
     ·have hr:symT f (rotL (E-T) rs HI (HI-T) (E-HI)) LO T M E b=symM f (rotL (E-T) rs HI (HI-T) (E-HI)) M E b:=by
       unfold symT;rw [Cl ⟨(by omega:M<E),c6⟩,Co (fun q=>c3 q.1)]
      rw [hr];exact smB01 B g cap N LO HI b M T E rs _ [] _ w hN hl ham hmb hbN hM2 gu gu e1 e2 hE2 HRO q6 c1 gu gu gu c6 HT (ab (ROT c1 gu)) (ab (SYM _ _ _ _ hrl gu gu c6 gu))
     ·have hr:symT f (rotL (E-T) rs HI (HI-T) (E-HI)) LO T M E b=rotL (E-T) rs HI (HI-T) (E-HI):=by
       unfold symT;rw [Co (fun q=>c6 q.2),Co (fun q=>c3 q.1)]
      rw [hr];exact smB00 B g cap N LO HI b M T E rs [] [] _ w hN hl ham hmb hbN hM2 gu gu e1 e2 hE2 HRO q6 c1 gu gu gu gu HT (ab (ROT c1 gu))
   ·rw [Co (fun q=>c1 q.1)]
    by_cases c4:T<M
    ·have hr:symT f rs LO T M E b=symM f rs LO T M:=by
      unfold symT;rw [Co (fun q=>absurd q.1 (by omega:¬M<E)),Cl ⟨(by omega:LO<T),c4⟩]
     rw [hr];exact smBB B g cap N LO HI b M T E rs [] [] _ w hN hl ham hmb hbN hM2 gu gu e1 e2 hE2 HRO q6 gu gu c4 gu HT (ab (SYM _ _ _ _ hN gu gu c4 gu))
    ·have hr:symT f rs LO T M E b=rs:=by
      unfold symT;rw [Co (fun q=>absurd q.1 (by omega:¬M<E)),Co (fun q=>c4 q.2)]
     rw [hr];exact smBC B g cap N LO HI b M T E rs [] [] rs w hN hl ham hmb hbN hM2 gu gu e1 e2 hE2 HRO q6 gu gu gu gu (ab rfl) HT
end Go.Proofs.YtjggmmaojklmpaaGreat
