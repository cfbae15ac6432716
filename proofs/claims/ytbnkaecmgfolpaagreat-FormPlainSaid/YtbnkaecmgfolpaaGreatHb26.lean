/- walk of Low -/
import Derived.Test.YtbnkaecmgfolpaaGreatHb1
set_option maxRecDepth 100000
set_option maxHeartbeats 4000000
namespace Go.Proofs.YtbnkaecmgfolpaaGreat
open Go.RowKit
def low (x n:Int):Int:=(x % 18446744073709551616) % n
theorem vI (x:Int) {n:Int} (h:1≤n):0≤low x n∧low x n<n:=⟨Int.emod_nonneg _ fg,Int.emod_lt_of_pos _ fg⟩
theorem low_eq (x n:Int) (h1:1≤n) (h2:n≤1000000):wrap64 ((IntKind.u64.wrap x).tmod n)=low x n:=by
 have hu:IntKind.u64.wrap x=x % 18446744073709551616:=by simp [IntKind.wrap,IntKind.signed,IntKind.bits]
 have hnn:0≤x % 18446744073709551616:=fg;rw [hu,Int.tmod_eq_emod_of_nonneg hnn];have:=vI x h1
 unfold low at *;unfold wrap64;omega
theorem nL (x n:Int) (w:World) (h1:1≤n) (h2:n≤1000000) :
  Calls Tryz.prog 16 #[.int .i64 x,.int .i64 n] w fun e w'=>e=.returned (.int .i64 (low x n))∧w=w':=by
 have HE:=ab (low_eq x n h1 h2);go_enter Tryz.func16,Tryz.ntmps16
 go_wp2
 go_ret
 exact⟨mU HE.out,rfl⟩
end Go.Proofs.YtbnkaecmgfolpaaGreat
