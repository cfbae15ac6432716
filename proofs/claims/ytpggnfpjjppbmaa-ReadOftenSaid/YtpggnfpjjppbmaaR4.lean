/- walks of rxtree: some, fields -/
import Derived.Test.YtpggnfpjjppbmaaR3
set_option maxRecDepth 100000
namespace Go.Proofs.Ytpggnfpjjppbmaa
open Go.RowKit
/-- The cells of a part, told field by field, that lie at a place. -/
def anyK (xs : List Rx) (zs : List Int) : Bool := xs.any fun x => zs.contains x.kind
theorem some1_any (zs : List Int) (a : Option Addr) (n c : Nat) (g : Nat) (k : Int) (ch : Str) (ng : Bool) (ra : Option Addr) (rn rc : Nat) (lo hi : Int) (lz : Bool) (ka : Option Addr) (kn kc : Nat) (w : World)
    (h : Sl w w.heap.size a 1 n (icells zs)) (hn : n ≤ 100000000) (hg : w.cell? ⟨g, 0, none⟩ = some (.slice a n c)) :
    Calls Try.prog 81 #[.agg #[.int .i64 k, .string ⟨(ch).toArray⟩, .bool ng, .slice ra rn rc, .int .i64 lo, .int .i64 hi, .bool lz, .slice ka kn kc], .pointer (some ⟨g, 0, none⟩)] w fun e w' => e = .returned (.bool (zs.contains k)) ∧ Below w.heap.size w w' := by
  have hlt := World.block_lt_of_cell? w _ hg
  replace hlt : g < w.heap.size := hlt
  have HSl := Lib.hid (h.alloc_self (.cells #[.int .i64 k, .string ⟨(ch).toArray⟩, .bool ng, .slice ra rn rc, .int .i64 lo, .int .i64 hi, .bool lz, .slice ka kn kc] 26))
  clear h
  go_enter Try.func81, Try.ntmps81
  go_wp2_with (go_at_call 82; refine (Contains_any _ _ _ zs _ _ HSl.out hn).mono ?_; rintro e w1 ⟨rfl, rfl⟩)
  go_ret
  exact ⟨ret_bool (by simp), (Below.refl _ _).alloc (Nat.le_refl _) _⟩
def SmRel (xs : List Rx) (zs : List Int) (R : Bool) (w : World) (q : Value) (wr : World) : Prop :=
  ∃ k : Nat, k ≤ xs.length ∧ q = .int .i64 k ∧ Below w.heap.size w wr ∧ Hid (anyK (xs.drop k) zs = R)
set_option maxHeartbeats 1000000 in
theorem IndexFunc_any (S : Nat → Prop) (xa : Option Addr) (xc : Nat) (xs : List Rx) (zs : List Int) (a : Option Addr) (n c : Nat) (g : Nat) (w : World)
    (hx : RxSl w S xa xs.length xs) (hxn : xs.length ≤ 100000000)
    (h : Sl w w.heap.size a 1 n (icells zs)) (hn : n ≤ 100000000) (hg : w.cell? ⟨g, 0, none⟩ = some (.slice a n c)) :
    Calls Try.prog 92 #[.slice xa xs.length xc, .func (.func 81) #[] #[.pointer (some ⟨g, 0, none⟩)]] w fun e w' => IdxPost (anyK xs zs) e ∧ Below w.heap.size w w' := by
  obtain ⟨R, hR⟩ : ∃ R, anyK xs zs = R := ⟨_, rfl⟩
  rw [hR]
  have HR0 : Hid (anyK (xs.drop 0) zs = R) := Lib.hid hR
  have HX := Lib.hid hx
  have HSl := Lib.hid h
  have HG := Lib.hid hg
  clear hR hx h hg
  go_enter Try.func92, Try.ntmps92
  go_wp2
  go_loopw [8] (fun q wr => SmRel xs zs R w q wr) (fun q _ => xs.length - (intOf q).toNat)
  case atStart => exact ⟨0, by omega, rfl, Below.refl _ _, HR0⟩
  case round =>
    obtain ⟨k, hk, rfl, hb, HF⟩ := hrel
    clear HR0
    have hB := hb.size
    cases hd : xs.drop k with
    | nil =>
      have h2 : xs.length ≤ k := by simpa using hd
      have HE : Hid (R = false) := Lib.hid (by rw [← HF.out, hd]; rfl)
      clear hd HF
      go_wp2
      go_ret
      exact ⟨⟨-1, rfl, by omega, by rw [HE.out]; rfl⟩, hb⟩
    | cons x r =>
      obtain ⟨h2, h3, hr⟩ := ldrop_cons hd
      obtain ⟨kd, ch, ng, rs, lo, hi, lz, ks⟩ := x
      have HE : Hid (R = (zs.contains kd || anyK r zs)) := Lib.hid (by rw [← HF.out, hd]; rfl)
      have Hr := Lib.hid hr
      obtain ⟨b, o, ra, rc, ka, kc, rfl, hS, hbB, _, _, _, c0, c1, c2, c3, c4, c5, c6, c7⟩ := (HX.out.later hb).cells h3
      have HS2 := Lib.hid ((HSl.out.keep hb).mono hB)
      have HG2 := Lib.hid (cell_kept hb _ _ HG.out)
      clear hd HF hr h3
      cases hz : zs.contains kd with
      | true =>
        have HZ := Lib.hid hz
        clear hz
        go_wp2_with (go_at_call 81; refine (some1_any zs _ _ _ _ _ _ _ _ _ _ _ _ _ _ _ _ _ HS2.out hn HG2.out).mono ?_; rintro e w1 ⟨rfl, hb1⟩; rw [HZ.out])
        go_ret
        exact ⟨⟨k, rfl, by omega, by rw [HE.out, HZ.out]; simp⟩, hb.trans (hb1.mono hB)⟩
      | false =>
        have HZ := Lib.hid hz
        clear hz
        go_wp2_with (go_at_call 81; refine (some1_any zs _ _ _ _ _ _ _ _ _ _ _ _ _ _ _ _ _ HS2.out hn HG2.out).mono ?_; rintro e w1 ⟨rfl, hb1⟩; rw [HZ.out])
        go_roundw
        case rel => exact ⟨k + 1, by omega, by go_num, hb.trans (hb1.mono hB), Lib.hid (by rw [Hr.out, HE.out, HZ.out, Bool.false_or])⟩
        case measure => simp [intOf]; omega
theorem ContainsFunc_any (S : Nat → Prop) (xa : Option Addr) (xc : Nat) (xs : List Rx) (zs : List Int) (a : Option Addr) (n c : Nat) (g : Nat) (w : World)
    (hx : RxSl w S xa xs.length xs) (hxn : xs.length ≤ 100000000)
    (h : Sl w w.heap.size a 1 n (icells zs)) (hn : n ≤ 100000000) (hg : w.cell? ⟨g, 0, none⟩ = some (.slice a n c)) :
    Calls Try.prog 80 #[.slice xa xs.length xc, .func (.func 81) #[] #[.pointer (some ⟨g, 0, none⟩)]] w fun e w' => e = .returned (.bool (anyK xs zs)) ∧ Below w.heap.size w w' := by
  have HX := Lib.hid hx
  have HSl := Lib.hid h
  have HG := Lib.hid hg
  clear hx h hg
  go_enter Try.func80, Try.ntmps80
  go_wp2_with (go_at_call 92; refine (IndexFunc_any S _ _ xs zs _ _ _ _ _ HX.out hxn HSl.out hn HG.out).mono ?_; rintro e w1 ⟨⟨r, rfl, h1, h2⟩, hb1⟩)
  go_ret
  exact ⟨ret_bool (by simp), hb1⟩
theorem some_any (S : Nat → Prop) (xa : Option Addr) (xc : Nat) (xs : List Rx) (zs : List Int) (a : Option Addr) (n c : Nat) (w : World)
    (hx : RxSl w S xa xs.length xs) (hxn : xs.length ≤ 100000000) (h : Sl w w.heap.size a 1 n (icells zs)) (hn : n ≤ 100000000) :
    Calls Try.prog 68 #[.slice xa xs.length xc, .slice a n c] w fun e w' => e = .returned (.bool (anyK xs zs)) ∧ Below w.heap.size w w' := by
  have HX := Lib.hid (hx.later ((Below.refl _ _).alloc (Nat.le_refl _) (.cells #[.slice a n c] 50)))
  have HSl := Lib.hid (h.alloc_self (.cells #[.slice a n c] 50))
  clear hx h
  go_enter Try.func68, Try.ntmps68
  go_wp2_with (go_at_call 80; refine (ContainsFunc_any S _ _ xs zs a n c _ _ HX.out hxn HSl.out hn (by simp)).mono ?_; rintro e w1 ⟨rfl, hb1⟩)
  go_ret
  exact ⟨rfl, ((Below.refl _ _).alloc (Nat.le_refl _) _).trans (hb1.mono (by simp))⟩
end Go.Proofs.Ytpggnfpjjppbmaa
