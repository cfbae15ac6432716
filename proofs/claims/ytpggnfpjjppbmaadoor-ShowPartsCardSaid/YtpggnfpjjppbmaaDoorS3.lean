/- walk of rxshow.show -/
import Derived.Test.YtpggnfpjjppbmaaDoorS2
import Derived.Test.YtpggnfpjjppbmaaDoorR5
set_option maxRecDepth 100000
namespace Go.Proofs.YtpggnfpjjppbmaaDoor
open Go.RowKit
def ShwPost (B g : Nat) (out : Str) (w : World) (e : Ending) (w' : World) : Prop := e = .returned (.tuple #[]) ∧ Bld B g out w' ∧ Fr B [g] [5] w w'
def TellRel (B g : Nat) (ks : List Rx) (f : Nat → List Rx → Str) (T : Str) (w1 : World) (q : Value) (wr : World) : Prop :=
  ∃ (k : Nat) (acc : Str), k ≤ ks.length ∧ q = .int .i64 k ∧ Bld B g acc wr ∧ Fr B [g] [5] w1 wr ∧ Hid (acc ++ f k (ks.drop k) = T)
theorem Kept.fr {B g : Nat} {w w' : World} (h : Fr B [g] [5] w w') (hB : B ≤ w.heap.size) (hg : B ≤ g) : Kept (· < B) w w' := Kept.below (h.below hB (by simpa using hg)) (fun _ h _ => h)
/-! the parts of a constant text -/
set_option maxHeartbeats 4000000 in
theorem show_const (B g : Nat) (acc : Str) (K : Int) (hK : K = 3 ∨ K = 8 ∨ K = 9 ∨ K = 10 ∨ K = 11) (c : Str) (ng : Bool) (ra : Option Addr) (rs : List (Str × Str)) (rn rc : Nat) (lo hi : Int) (lz : Bool) (ka : Option Addr) (ks : List Rx) (kn kc : Nat) (w : World)
    (hbl : Bld B g acc w) (hB : B ≤ w.heap.size) (hlen : acc.length ≤ 10000000) :
    Calls Tryd.prog 22 #[.pointer (some ⟨g, 0, none⟩), .agg #[.int .i64 K, .string ⟨(c).toArray⟩, .bool ng, .slice ra rn rc, .int .i64 lo, .int .i64 hi, .bool lz, .slice ka kn kc]] w fun e w' => ShwPost B g (acc ++ (Rx.mk K c ng rs lo hi lz ks).tell) w e w' := by
  have hg := hbl.lt
  rcases hK with rfl | rfl | rfl | rfl | rfl
  · skip
    go_enter Tryd.func22, Tryd.ntmps22
    go_wp2_with (go_at_call 36; refine (WriteByte_any B _ (acc) 46 _ (hbl.alloc _) (by first | omega | (simp only [List.length_append, List.length_cons, List.length_nil]; omega)) (by first | omega | (simp; omega)) (by decide) (by decide)).mono ?_)
    first | rintro e w1 rfl hbl1 hfr1 | rintro e w1 ⟨rfl, hbl1, hfr1⟩
    go_wp2
    go_end0
    exact ⟨rfl, by simpa [Rx.tell] using hbl1, ((Fr.refl _ _ _ _).alloc _).trans hfr1⟩
  · skip
    go_enter Tryd.func22, Tryd.ntmps22
    go_wp2_with (go_at_call 36; refine (WriteByte_any B _ (acc) 94 _ (hbl.alloc _) (by first | omega | (simp only [List.length_append, List.length_cons, List.length_nil]; omega)) (by first | omega | (simp; omega)) (by decide) (by decide)).mono ?_)
    first | rintro e w1 rfl hbl1 hfr1 | rintro e w1 ⟨rfl, hbl1, hfr1⟩
    go_wp2
    go_end0
    exact ⟨rfl, by simpa [Rx.tell] using hbl1, ((Fr.refl _ _ _ _).alloc _).trans hfr1⟩
  · skip
    go_enter Tryd.func22, Tryd.ntmps22
    go_wp2_with (go_at_call 36; refine (WriteByte_any B _ (acc) 36 _ (hbl.alloc _) (by first | omega | (simp only [List.length_append, List.length_cons, List.length_nil]; omega)) (by first | omega | (simp; omega)) (by decide) (by decide)).mono ?_)
    first | rintro e w1 rfl hbl1 hfr1 | rintro e w1 ⟨rfl, hbl1, hfr1⟩
    go_wp2
    go_end0
    exact ⟨rfl, by simpa [Rx.tell] using hbl1, ((Fr.refl _ _ _ _).alloc _).trans hfr1⟩
  · skip
    go_enter Tryd.func22, Tryd.ntmps22
    go_wp2_with (go_at_call 37; refine (WriteString_any B _ (acc) _ _ (hbl.alloc _) (by first | omega | (simp only [List.length_append, List.length_cons, List.length_nil]; omega)) (by first | omega | (simp only [List.length_append, List.length_cons, List.length_nil]; omega)) (by first | omega | (simp; omega))).mono ?_)
    first | rintro e w1 rfl hbl1 hfr1 | rintro e w1 ⟨rfl, hbl1, hfr1⟩
    go_wp2
    go_end0
    exact ⟨rfl, by simpa [Rx.tell] using hbl1, ((Fr.refl _ _ _ _).alloc _).trans hfr1⟩
  · skip
    go_enter Tryd.func22, Tryd.ntmps22
    go_wp2_with (go_at_call 37; refine (WriteString_any B _ (acc) _ _ (hbl.alloc _) (by first | omega | (simp only [List.length_append, List.length_cons, List.length_nil]; omega)) (by first | omega | (simp only [List.length_append, List.length_cons, List.length_nil]; omega)) (by first | omega | (simp; omega))).mono ?_)
    first | rintro e w1 rfl hbl1 hfr1 | rintro e w1 ⟨rfl, hbl1, hfr1⟩
    go_wp2
    go_end0
    exact ⟨rfl, by simpa [Rx.tell] using hbl1, ((Fr.refl _ _ _ _).alloc _).trans hfr1⟩
set_option maxHeartbeats 4000000 in
theorem show_char (B g : Nat) (acc : Str) (c : Str) (ng : Bool) (ra : Option Addr) (rs : List (Str × Str)) (rn rc : Nat) (lo hi : Int) (lz : Bool) (ka : Option Addr) (ks : List Rx) (kn kc : Nat) (w : World)
    (hbl : Bld B g acc w) (hB : B ≤ w.heap.size) (hlen : acc.length ≤ 10000000) (hc : c ≠ []) (hcl : c.length ≤ 1000000) :
    Calls Tryd.prog 22 #[.pointer (some ⟨g, 0, none⟩), .agg #[.int .i64 2, .string ⟨(c).toArray⟩, .bool ng, .slice ra rn rc, .int .i64 lo, .int .i64 hi, .bool lz, .slice ka kn kc]] w fun e w' => ShwPost B g (acc ++ (Rx.mk 2 c ng rs lo hi lz ks).tell) w e w' := by
  have HC := Lib.hid hc
  have hq := escL_len th1 c
  clear hc
  go_enter Tryd.func22, Tryd.ntmps22
  go_wp2_with (first | (go_at_call 38; refine (escape_any _ _ _ HC.out (by omega)).mono ?_; rintro e w2 ⟨rfl, rfl⟩; rw [show [94, 36, 92, 46, 42, 43, 63, 40, 41, 91, 93, 123, 125, 124, 47] = th1 from rfl]) | (go_at_call 37; refine (WriteString_any B _ (acc) _ _ (hbl.alloc _) (by first | omega | (simp only [List.length_append, List.length_cons, List.length_nil]; omega)) (by first | omega | (simp only [List.length_append, List.length_cons, List.length_nil]; omega)) (by first | omega | (simp; omega))).mono ?_))
  first | rintro e w1 rfl hbl1 hfr1 | rintro e w1 ⟨rfl, hbl1, hfr1⟩
  go_wp2
  go_end0
  exact ⟨rfl, by simpa [Rx.tell] using hbl1, ((Fr.refl _ _ _ _).alloc _).trans hfr1⟩
set_option maxHeartbeats 4000000 in
theorem show_set (B g : Nat) (acc : Str) (c : Str) (ng : Bool) (ra : Option Addr) (rs : List (Str × Str)) (rc : Nat) (lo hi : Int) (lz : Bool) (ka : Option Addr) (ks : List Rx) (kn kc : Nat) (w : World)
    (hbl : Bld B g acc w) (hB : B ≤ w.heap.size) (hr : Sl w B ra 2 rs.length (rcells rs)) (hne : ∀ r ∈ rs, r.1 ≠ [] ∧ r.2 ≠ []) (hsz : ∀ r ∈ rs, r.1.length ≤ 1000000 ∧ r.2.length ≤ 1000000) (hrl : rs.length ≤ 1000000)
    (hlen : (acc ++ setS ng rs).length ≤ 10000000) :
    Calls Tryd.prog 22 #[.pointer (some ⟨g, 0, none⟩), .agg #[.int .i64 4, .string ⟨(c).toArray⟩, .bool ng, .slice ra rs.length rc, .int .i64 lo, .int .i64 hi, .bool lz, .slice ka kn kc]] w fun e w' => ShwPost B g (acc ++ (Rx.mk 4 c ng rs lo hi lz ks).tell) w e w' := by
  have HNE := Lib.hid hne
  have HSZ := Lib.hid hsz
  have HLN := Lib.hid hlen
  have HR := Lib.hid (hr.keep ((Below.refl B w).alloc hB (.cells #[.int .i64 4, .string ⟨(c).toArray⟩, .bool ng, .slice ra rs.length rc, .int .i64 lo, .int .i64 hi, .bool lz, .slice ka kn kc] 25)))
  clear hne hsz hlen hr
  go_enter Tryd.func22, Tryd.ntmps22
  go_wp2_with (go_at_call 39; refine (set_any B g acc _ _ _ _ rs _ _ _ _ _ _ _ _ (hbl.alloc _) (by simp; omega) HR.out HNE.out HSZ.out hrl HLN.out).mono ?_)
  first | rintro e w1 rfl hbl1 hfr1 | rintro e w1 ⟨rfl, hbl1, hfr1⟩
  go_wp2
  go_end0
  exact ⟨rfl, by simpa [Rx.tell] using hbl1, ((Fr.refl _ _ _ _).alloc _).trans hfr1⟩
end Go.Proofs.YtpggnfpjjppbmaaDoor
