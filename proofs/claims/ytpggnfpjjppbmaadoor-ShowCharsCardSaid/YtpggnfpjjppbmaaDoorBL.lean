/- walk of the statements of chapter 15: awake -/
import Derived.Test.YtpggnfpjjppbmaaDoorBS
import Derived.Test.YtpggnfpjjppbmaaDoorC2
import Derived.Test.YtpggnfpjjppbmaaDoorBX
import Derived.Test.YtpggnfpjjppbmaaDoorBP
import Derived.Test.YtpggnfpjjppbmaaDoorR8
set_option maxRecDepth 100000
namespace Go.Proofs.YtpggnfpjjppbmaaDoor
open Go.RowKit
def rx2 (c : Str) : Rx := .mk 2 c false [] 0 0 false []
def rxA : Rx := .mk 1 [] false [] 0 0 false [rx2 [97], .mk 7 [] false [] 0 (-1) false [rx2 [47]]]
theorem rxA_tell : rxA.tell = [97, 124, 92, 47, 42] := by decide
theorem rxA_may : mayB rxA = true := by decide
def awW (w : World) : World := (w.alloc (.cells #[.int .i64 2, .string ⟨#[47]⟩, .bool false, .slice none 0 0, .int .i64 0, .int .i64 0, .bool false, .slice none 0 0] 25)).alloc
  (.cells #[.int .i64 2, .string ⟨#[97]⟩, .bool false, .slice none 0 0, .int .i64 0, .int .i64 0, .bool false, .slice none 0 0, .int .i64 7, .string ⟨#[]⟩, .bool false, .slice none 0 0, .int .i64 0, .int .i64 (-1), .bool false, .slice (some ⟨w.heap.size, 0, none⟩) 1 1] 25)
theorem awW_below (w : World) : Below w.heap.size w (awW w) := ((Below.refl _ _).alloc (Nat.le_refl _) _).alloc (by simp) _
theorem rx2_v (w : World) (c : Str) : RxV w Any [.int .i64 2, .string ⟨(c).toArray⟩, .bool false, .slice none 0 0, .int .i64 0, .int .i64 0, .bool false, .slice none 0 0] (rx2 c) :=
  RxV.close (rs := []) (ks := []) (SlS.none_ _ _ _ _) ⟨[], SlS.none_ _ _ _ _, .nil⟩
theorem awW_v (w : World) : RxV (awW w) Any [.int .i64 1, .string ⟨([]).toArray⟩, .bool false, .slice none 0 0, .int .i64 0, .int .i64 0, .bool false, .slice (some ⟨w.heap.size + 1, 0, none⟩) 2 2] rxA := by
  have h0 : (awW w).heap[w.heap.size]? = some (.cells #[.int .i64 2, .string ⟨#[47]⟩, .bool false, .slice none 0 0, .int .i64 0, .int .i64 0, .bool false, .slice none 0 0] 25 (0, 0)) := by
    unfold awW; rw [Below.heap_alloc _ _ _ (by simp)]; exact heap_alloc_new w _
  have h1 : (awW w).heap[w.heap.size + 1]? = some (.cells #[.int .i64 2, .string ⟨#[97]⟩, .bool false, .slice none 0 0, .int .i64 0, .int .i64 0, .bool false, .slice none 0 0, .int .i64 7, .string ⟨#[]⟩, .bool false, .slice none 0 0, .int .i64 0, .int .i64 (-1), .bool false, .slice (some ⟨w.heap.size, 0, none⟩) 1 1] 25 (0, 0)) := by
    unfold awW
    have := heap_alloc_new (w.alloc (.cells #[.int .i64 2, .string ⟨#[47]⟩, .bool false, .slice none 0 0, .int .i64 0, .int .i64 0, .bool false, .slice none 0 0] 25))
      (.cells #[.int .i64 2, .string ⟨#[97]⟩, .bool false, .slice none 0 0, .int .i64 0, .int .i64 0, .bool false, .slice none 0 0, .int .i64 7, .string ⟨#[]⟩, .bool false, .slice none 0 0, .int .i64 0, .int .i64 (-1), .bool false, .slice (some ⟨w.heap.size, 0, none⟩) 1 1] 25)
    simpa using this
  refine RxV.close (rs := []) (ks := [rx2 [97], .mk 7 [] false [] 0 (-1) false [rx2 [47]]]) (SlS.none_ _ _ _ _) ⟨[_, _], ?_, .cons (rx2_v _ [97]) (.cons (RxV.close (rs := []) (ks := [rx2 [47]]) (ka := some ⟨w.heap.size, 0, none⟩) (kc := 1) (ra := none) (rc := 0) (SlS.none_ _ _ _ _) ⟨[_], ?_, .cons (rx2_v _ [47]) .nil⟩) .nil)⟩
  · exact (Sl.lit (sz := 8) (n := 2) h1 rfl).slAny
  · exact (Sl.lit (sz := 8) (n := 1) h0 rfl).slAny
theorem rxA_small : rxA.small := by simp [rxA, rx2, Rx.small, Rx.small1, Rx.smallL]
theorem awake_any (w : World) (ht : Tab w) : Calls Tryd.prog 10 #[] w fun e w' => e = .returned (.bool true) ∧ Below w.heap.size w w' := by
  have hb := awW_below w
  have H := Lib.hid (Show_yes Any rxA _ _ (by decide) rxA_small (awW_v w) (ht.keep hb) rxA_may (by rw [rxA_tell]; decide))
  rw [rxA_tell] at H
  clear ht
  go_enter Tryd.func10, Tryd.ntmps10
  go_wp2_with (go_at_call 11; refine H.out.mono ?_; rintro e w1 ⟨rfl, hb1⟩)
  go_ret
  exact ⟨rfl, bel2 hb hb1⟩
end Go.Proofs.YtpggnfpjjppbmaaDoor
set_option maxRecDepth 100000
namespace Go.Proofs.YtpggnfpjjppbmaaDoor
open Go.RowKit
theorem Read_okX {s : Str} {x : Rx} (w : World) (hs : s.length ≤ 1000000) (h : readM s = .ok x) :
    Calls Tryd.prog 19 #[.string ⟨(s).toArray⟩] w fun e w' => ReadPost w.heap.size w (.ok x) e w' := h ▸ Read_any s w hs
theorem Read_noX {s : Str} {q : Int} (w : World) (hs : s.length ≤ 1000000) (h : readM s = .error q) :
    Calls Tryd.prog 19 #[.string ⟨(s).toArray⟩] w fun e w' => e = .returned (.tuple #[rxv0, .int .i64 q]) ∧ Below w.heap.size w w' := by
  refine (Read_any s w hs).mono ?_
  rintro e w' ⟨h1, h2⟩
  rw [h] at h2
  exact ⟨h2, h1⟩
/-- What a tree within the statement's measure comes to. -/
structure Fac (x : Rx) (cc : List Value) (L : Int) (m : Bool) (T : Str) (mx : Nat) : Prop where
  rx : ∀ w', RxV w' Any cc x → Calls Tryd.prog 9 #[.agg cc.toArray, .int .i64 mx] w' fun e w'' => e = .returned (.int .i64 L) ∧ Below w'.heap.size w' w''
  yes : 0 ≤ L → m = true → ∀ w', RxV w' Any cc x → Tab w' → Calls Tryd.prog 11 #[.agg cc.toArray] w' fun e w'' => e = .returned (.tuple #[.string ⟨(T).toArray⟩, .int .i64 0]) ∧ Below w'.heap.size w' w''
  no : 0 ≤ L → m = false → ∀ w', RxV w' Any cc x → Calls Tryd.prog 11 #[.agg cc.toArray] w' fun e w'' => e = .returned (.tuple #[.string ⟨([]).toArray⟩, .int .i64 10]) ∧ Below w'.heap.size w' w''
  may : 0 ≤ L → ∀ w', RxV w' Any cc x → Calls Tryd.prog 13 #[.agg cc.toArray] w' fun e w'' => e = .returned (.bool m) ∧ Below w'.heap.size w' w''
  rd : m = true → T.length ≤ 256 → ∀ w', Calls Tryd.prog 19 #[.string ⟨(T).toArray⟩] w' fun e w'' => ReadPost w'.heap.size w' (.ok x) e w''
  rn : 256 < T.length → ∀ w', T.length ≤ 1000000 → Calls Tryd.prog 19 #[.string ⟨(T).toArray⟩] w' fun e w'' => e = .returned (.tuple #[rxv0, .int .i64 4]) ∧ Below w'.heap.size w' w''
  len : 0 ≤ L → m = true → T.length ≤ 1000000
  sm : 0 ≤ L → x.small
theorem fac_of {x : Rx} {mx : Nat} (hmx : mx ≤ 1000) (hm : x.mem) (cc : List Value) : ∃ L m T, Fac x cc L m T mx ∧ x.left mx = L ∧ mayB x = m ∧ x.tell = T := by
  refine ⟨_, _, _, ?_, rfl, rfl, rfl⟩
  have hh : 0 ≤ x.left mx → x.wt ≤ mx ∧ x.parts ≤ mx ∧ x.small := by
    intro h0
    have h1 := left_eq _ x mx (Nat.le_refl _) h0
    have hp := parts_wt _ x (Nat.le_refl _)
    have hw : x.wt ≤ mx := by omega
    exact ⟨hw, by omega, small_wt _ x (Nat.le_refl _) (by omega)⟩
  have hlen : 0 ≤ x.left mx → mayB x = true → x.tell.length ≤ 1000000 := by
    intro h0 hmay
    have hwf : x.wf = true := by
      have h := hmay; simp only [mayB, okB, Bool.and_eq_true] at h; exact h.1.1
    have hl := tell_len _ x (Nat.le_refl _) hwf
    have := (hh h0).1
    omega
  exact {
    rx := fun w' h => LawRx_any Any _ x (Nat.le_refl _) hm cc w' mx h (by omega) (by omega)
    yes := fun h0 hmay w' h t => by
      obtain ⟨h1, h2, h3⟩ := hh h0
      exact Show_yes Any x cc w' (by omega) h3 h t hmay (by have := hlen h0 hmay; omega)
    no := fun h0 hmay w' h => by
      obtain ⟨h1, h2, h3⟩ := hh h0
      exact Show_no Any x cc w' (by omega) h3 h hmay
    may := fun h0 w' h => by
      obtain ⟨h1, h2, h3⟩ := hh h0
      exact RxMay_any Any x cc w' (by omega) h3 h
    rd := fun hmay hl w' => Read_okX w' (by omega) (read_tell hmay hl)
    rn := fun hl w' hl2 => Read_noX w' hl2 (read_big hl)
    len := hlen
    sm := fun h0 => (hh h0).2.2 }
set_option maxHeartbeats 4000000 in
theorem ShowBack_walk (x : Rx) (cc : List Value) (w : World) (ht : Tab w) (hv : RxV w Any cc x) (hm : x.mem) :
    Calls Tryd.prog 6 #[.agg cc.toArray] w fun e w' => e = .returned (.bool true) ∧ Below w.heap.size w w' := by
  obtain ⟨L, m, T, hF, _, _, _⟩ := fac_of (mx := 120) (by omega) hm cc
  have HF := Lib.hid hF
  have HAW := Lib.hid awake_any
  obtain ⟨X, hX⟩ : ∃ X, X = x := ⟨_, rfl⟩
  rw [← hX] at HF hv
  have hv' := hv
  rw [hX] at hv'
  obtain ⟨k, c, ng, rs, lo, hi, lz, ks⟩ := x
  obtain ⟨ra, rc, ka, kc, rfl, hrs, hx⟩ := hv'.open_
  obtain ⟨w0, hw0⟩ : ∃ w0, w0 = w.alloc (.cells #[.int .i64 k, .string ⟨(c).toArray⟩, .bool ng, .slice ra rs.length rc, .int .i64 lo, .int .i64 hi, .bool lz, .slice ka ks.length kc] 25) := ⟨_, rfl⟩
  have hb0 : Below w.heap.size w w0 := by rw [hw0]; exact (Below.refl _ _).alloc (Nat.le_refl _) _
  have hbx0 : w0.heap[w.heap.size]? = some (.cells #[.int .i64 k, .string ⟨(c).toArray⟩, .bool ng, .slice ra rs.length rc, .int .i64 lo, .int .i64 hi, .bool lz, .slice ka ks.length kc] 25 (0, 0)) := by rw [hw0]; exact heap_alloc_new w _
  have HV0 := Lib.hid (hv.later hb0)
  have HT := Lib.hid (ht.keep hb0)
  have HBX0 := Lib.hid hbx0
  have HRX := Lib.hid (HF.out.rx _ HV0.out)
  rw [hw0] at HRX
  have HW0 := Lib.hid hw0
  clear hv hv' hrs hx ht hbx0 hw0 hF hX hm
  unfold rxc at HV0 HRX HF ⊢
  go_enter Tryd.func6, Tryd.ntmps6
  go_wp2_with (go_at_call 9; refine HRX.out.mono ?_)
  first | rintro e w1 rfl hb1 | rintro e w1 ⟨rfl, hb1⟩
  rw [← HW0.out] at hb1
  replace hb1 : Below w0.heap.size w0 w1 := hb1.mono (by rw [HW0.out]; simp)
  clear HRX
  by_cases hneg : L < 0
  · skip
    go_wp2_with (go_at_call 10; refine (HAW.out _ (HT.out.keep hb1)).mono ?_; rintro e w9 ⟨rfl, hb9⟩)
    go_ret
    exact ⟨rfl, bel2 (bel2 hb0 hb1) hb9⟩
  have h0 : 0 ≤ L := by omega
  have hge : decide (L < 0) = false := decide_eq_false hneg
  have HV1 := Lib.hid (HV0.out.later hb1)
  obtain ⟨e0, e1, e2, e3, e4, e5, e6, e7, _⟩ := bx_cells ((hb1.block _ (heap_lt HBX0.out)).trans HBX0.out)
  clear hneg
  cases m with
  | false =>
    go_wp2_with (go_at_call 11; refine (HF.out.no h0 rfl _ HV1.out).mono ?_)
    first | rintro e w2 rfl hb2' | rintro e w2 ⟨rfl, hb2'⟩
    have hb2 := bel2 hb1 hb2'
    have HV2 := Lib.hid (HV0.out.later hb2)
    clear e0 e1 e2 e3 e4 e5 e6 e7 hb2'
    obtain ⟨e0, e1, e2, e3, e4, e5, e6, e7, _⟩ := bx_cells ((hb2.block _ (heap_lt HBX0.out)).trans HBX0.out)
    go_wp2_with (go_at_call 13; refine (HF.out.may h0 _ HV2.out).mono ?_)
    first | rintro e w3 rfl hb3' | rintro e w3 ⟨rfl, hb3'⟩
    have hb3 := bel2 hb2 hb3'
    clear e0 e1 e2 e3 e4 e5 e6 e7 hb3'
    go_wp2_with (go_at_call 10; refine (HAW.out _ (HT.out.keep hb3)).mono ?_; rintro e w9 ⟨rfl, hb9⟩)
    go_ret
    exact ⟨rfl, bel2 (bel2 hb0 hb3) hb9⟩
  | true =>
    have hlen := HF.out.len h0 rfl
    go_wp2_with (go_at_call 11; refine (HF.out.yes h0 rfl _ HV1.out (HT.out.keep hb1)).mono ?_)
    first | rintro e w2 rfl hb2' | rintro e w2 ⟨rfl, hb2'⟩
    have hb2 := bel2 hb1 hb2'
    have HV2 := Lib.hid (HV0.out.later hb2)
    clear e0 e1 e2 e3 e4 e5 e6 e7 hb2'
    obtain ⟨e0, e1, e2, e3, e4, e5, e6, e7, _⟩ := bx_cells ((hb2.block _ (heap_lt HBX0.out)).trans HBX0.out)
    go_wp2_with (go_at_call 13; refine (HF.out.may h0 _ HV2.out).mono ?_)
    first | rintro e w3 rfl hb3' | rintro e w3 ⟨rfl, hb3'⟩
    have hb3 := bel2 hb2 hb3'
    clear e0 e1 e2 e3 e4 e5 e6 e7 hb3'
    by_cases hl : T.length ≤ 256
    · have dl : decide ((256 : Int) < (T.length : Int)) = false := decide_eq_false (by omega)
      go_wp2_with (go_at_call 19; refine (HF.out.rd rfl hl _).mono ?_)
      rintro e w5 ⟨hb5, cc5, rfl, hv5⟩
      obtain ⟨k5, c5, n5, r5, l5, h5, z5, s5, a5, d5, b5, g5, hx5, rfl⟩ := hv5.box
      have HV5 := Lib.hid hv5
      clear hv5 hx5
      unfold rxc at HV5 ⊢
      have hz5 := hb5.size
      have hB5 : Below w5.heap.size w5 (w5.alloc (.cells #[.int .i64 k5, .string ⟨(c5).toArray⟩, .bool n5, .slice a5 r5.length d5, .int .i64 l5, .int .i64 h5, .bool z5, .slice b5 s5.length g5] 25)) := (Below.refl _ _).alloc (Nat.le_refl _) _
      have hb6 := bel2 (bel2 hb3 hb5) hB5
      obtain ⟨e0, e1, e2, e3, e4, e5, e6, e7, _⟩ := bx_cells ((hb6.block _ (heap_lt HBX0.out)).trans HBX0.out)
      obtain ⟨y0, y1, y2, y3, y4, y5, y6, y7, _⟩ := bx_cells (heap_alloc_new w5 (.cells #[.int .i64 k5, .string ⟨(c5).toArray⟩, .bool n5, .slice a5 r5.length d5, .int .i64 l5, .int .i64 h5, .bool z5, .slice b5 s5.length g5] 25))
      have HVX := Lib.hid (HV0.out.later hb6)
      have HVY := Lib.hid (HV5.out.later hB5)
      go_wp2_with (go_at_call 21; refine (Same_eq _ (HF.out.sm h0) HVX.out HVY.out).mono ?_)
      first | rintro e w7 rfl hb7' | rintro e w7 ⟨rfl, hb7'⟩
      have hb7 := bel2 hb6 hb7'
      clear e0 e1 e2 e3 e4 e5 e6 e7 y0 y1 y2 y3 y4 y5 y6 y7 hb7'
      go_wp2_with (go_at_call 10; refine (HAW.out _ (HT.out.keep hb7)).mono ?_; rintro e w9 ⟨rfl, hb9⟩)
      go_ret
      exact ⟨rfl, bel2 (bel2 hb0 hb7) hb9⟩
    · have dl : decide ((256 : Int) < (T.length : Int)) = true := decide_eq_true (by omega)
      go_wp2_with (go_at_call 19; refine (HF.out.rn (by omega) _ hlen).mono ?_)
      first | rintro e w5 rfl hb5 | rintro e w5 ⟨rfl, hb5⟩
      unfold rxv0
      have hB5 : Below w5.heap.size w5 (w5.alloc (.cells #[.int .i64 0, .string ⟨#[]⟩, .bool false, .slice none 0 0, .int .i64 0, .int .i64 0, .bool false, .slice none 0 0] 25)) := (Below.refl _ _).alloc (Nat.le_refl _) _
      have hb6 := bel2 (bel2 hb3 hb5) hB5
      go_wp2_with (go_at_call 10; refine (HAW.out _ (HT.out.keep hb6)).mono ?_; rintro e w9 ⟨rfl, hb9⟩)
      go_ret
      exact ⟨rfl, bel2 (bel2 hb0 hb6) hb9⟩
end Go.Proofs.YtpggnfpjjppbmaaDoor
set_option maxRecDepth 100000
namespace Go.Proofs.YtpggnfpjjppbmaaDoor
open Go.RowKit
theorem readM_errX {s : Str} {q : Int} (h : readM s = .error q) : q ≠ 0 := by
  have hc : ∀ l : List Str, readC l = .error q → q ≠ 0 := by
    intro l h
    unfold readC at h
    cases hp : patF (l.length + 1) l 0 with
    | error e => rw [hp] at h; injection h with h; subst h; exact pat_err _ _ _ _ hp
    | ok y =>
      obtain ⟨y, r⟩ := y
      rw [hp] at h
      cases r with
      | nil => cases h
      | cons c r => injection h with h; rw [← h]; decide
  unfold readM at h
  by_cases hl : 256 < s.length
  · rw [if_pos hl] at h; injection h with h; rw [← h]; decide
  rw [if_neg hl] at h
  cases hs : splitM s with
  | nil => rw [hs] at h; exact hc _ h
  | cons c r =>
    rw [hs] at h
    simp only at h
    by_cases hp : properB c = true
    · rw [if_pos hp] at h; exact hc _ h
    · rw [if_neg hp] at h; injection h with h; rw [← h]; decide
/-- What is read, told. -/
theorem Show_read {s : Str} {x : Rx} (h : readM s = .ok x) (S : Nat → Prop) (cc : List Value) (w' : World) (hv : RxV w' S cc x) (t : Tab w') :
    Calls Tryd.prog 11 #[.agg cc.toArray] w' fun e w'' => e = .returned (.tuple #[.string ⟨(x.tell).toArray⟩, .int .i64 0]) ∧ Below w'.heap.size w' w'' := by
  obtain ⟨h1, h2, h3, h4⟩ := read_light h
  exact Show_yes S x cc w' (by omega) h2 hv t h1 (by omega)
set_option maxHeartbeats 4000000 in
theorem ShowRead_walk (s : Str) (w : World) (ht : Tab w) (hs : s.length ≤ maxLen) :
    Calls Tryd.prog 7 #[.string ⟨(s).toArray⟩] w fun e w' => e = .returned (.bool true) ∧ Below w.heap.size w w' := by
  unfold maxLen at hs
  have HAW := Lib.hid awake_any
  have HT := Lib.hid ht
  clear ht
  by_cases h1 : s.length ≤ 120
  · cases hx : readM s with
    | error q =>
      have hq0 := readM_errX hx
      have HX := Lib.hid (fun w => Read_noX w (by omega) hx)
      have ne1 : (q != 0) = true := by simp [bne, hq0]
      clear hx
      go_enter Tryd.func7, Tryd.ntmps7
      go_wp2_with (go_at_call 19; refine (HX.out _).mono ?_)
      first | rintro e w1 rfl hb1 | rintro e w1 ⟨rfl, hb1⟩
      unfold rxv0
      have hB1 : Below w1.heap.size w1 (w1.alloc (.cells #[.int .i64 0, .string ⟨#[]⟩, .bool false, .slice none 0 0, .int .i64 0, .int .i64 0, .bool false, .slice none 0 0] 25)) := (Below.refl _ _).alloc (Nat.le_refl _) _
      have hbq := bel2 hb1 hB1
      go_wp2_with (go_at_call 10; refine (HAW.out _ (HT.out.keep hbq)).mono ?_; rintro e w9 ⟨rfl, hb9⟩)
      go_ret
      exact ⟨rfl, bel2 hbq hb9⟩
    | ok x =>
      obtain ⟨l1, l2, l3, l4⟩ := read_light hx
      have HX := Lib.hid (fun w => Read_okX w (by omega) hx)
      have HSH := Lib.hid (Show_read hx)
      obtain ⟨T, hT⟩ : ∃ T, x.tell = T := ⟨_, rfl⟩
      rw [hT] at HSH l4
      have HSX := Lib.hid l2
      have HRD : Hid (T.length ≤ 256 → ∀ w', Calls Tryd.prog 19 #[.string ⟨(T).toArray⟩] w' fun e w'' => ReadPost w'.heap.size w' (.ok x) e w'') := Lib.hid (fun hl w' => by rw [← hT] at hl ⊢; exact Read_okX w' (by omega) (read_tell l1 hl))
      clear hx l1 l2 hT
      go_enter Tryd.func7, Tryd.ntmps7
      go_wp2_with (go_at_call 19; refine (HX.out _).mono ?_)
      rintro e w1 ⟨hb1, cc1, rfl, hv1⟩
      obtain ⟨k1, c1, n1, r1, l1, h1, z1, s1, a1, d1, b1, g1, hx1, rfl⟩ := hv1.box
      have HV1 := Lib.hid hv1
      clear hv1 hx1
      unfold rxc at HV1 ⊢
      have hB1 : Below w1.heap.size w1 (w1.alloc (.cells #[.int .i64 k1, .string ⟨(c1).toArray⟩, .bool n1, .slice a1 r1.length d1, .int .i64 l1, .int .i64 h1, .bool z1, .slice b1 s1.length g1] 25)) := (Below.refl _ _).alloc (Nat.le_refl _) _
      have hbq := bel2 hb1 hB1
      have HQ1 := Lib.hid (heap_alloc_new w1 (.cells #[.int .i64 k1, .string ⟨(c1).toArray⟩, .bool n1, .slice a1 r1.length d1, .int .i64 l1, .int .i64 h1, .bool z1, .slice b1 s1.length g1] 25))
      have HVX := Lib.hid (HV1.out.later hB1)
      obtain ⟨x0, x1, x2, x3, x4, x5, x6, x7, _⟩ := bx_cells HQ1.out
      go_wp2_with (go_at_call 11; refine (HSH.out _ _ _ HVX.out (HT.out.keep hbq)).mono ?_)
      first | rintro e w2 rfl hb2 | rintro e w2 ⟨rfl, hb2⟩
      have hbw2 := bel2 hbq hb2
      clear x0 x1 x2 x3 x4 x5 x6 x7
      by_cases hl : T.length ≤ 256
      · have dl : decide ((256 : Int) < (T.length : Int)) = false := decide_eq_false (by omega)
        go_wp2_with (go_at_call 19; refine (HRD.out hl _).mono ?_)
        rintro e w3 ⟨hb3, cc3, rfl, hv3⟩
        obtain ⟨k3, c3, n3, r3, l3, h3, z3, s3, a3, d3, b3, g3, hx3, rfl⟩ := hv3.box
        have HV3 := Lib.hid hv3
        clear hv3 hx3
        unfold rxc at HV3 ⊢
        have hB3 : Below w3.heap.size w3 (w3.alloc (.cells #[.int .i64 k3, .string ⟨(c3).toArray⟩, .bool n3, .slice a3 r3.length d3, .int .i64 l3, .int .i64 h3, .bool z3, .slice b3 s3.length g3] 25)) := (Below.refl _ _).alloc (Nat.le_refl _) _
        have h23 := bel2 hb3 hB3
        have h13 := bel2 hb2 h23
        have hbw3 := bel2 hbq h13
        have HQ3 := Lib.hid (heap_alloc_new w3 (.cells #[.int .i64 k3, .string ⟨(c3).toArray⟩, .bool n3, .slice a3 r3.length d3, .int .i64 l3, .int .i64 h3, .bool z3, .slice b3 s3.length g3] 25))
        have HVY := Lib.hid (HV3.out.later hB3)
        obtain ⟨y0, y1, y2, y3, y4, y5, y6, y7, _⟩ := bx_cells HQ3.out
        go_wp2_with (go_at_call 11; refine (HSH.out _ _ _ HVY.out (HT.out.keep hbw3)).mono ?_)
        first | rintro e w4 rfl hb4 | rintro e w4 ⟨rfl, hb4⟩
        have h14 := bel2 h13 hb4
        have hbw4 := bel2 hbw3 hb4
        clear y0 y1 y2 y3 y4 y5 y6 y7
        obtain ⟨x0, x1, x2, x3, x4, x5, x6, x7, _⟩ := bx_cells ((h14.block _ (heap_lt HQ1.out)).trans HQ1.out)
        obtain ⟨y0, y1, y2, y3, y4, y5, y6, y7, _⟩ := bx_cells ((hb4.block _ (heap_lt HQ3.out)).trans HQ3.out)
        have HVX4 := Lib.hid (HVX.out.later h14)
        have HVY4 := Lib.hid (HVY.out.later hb4)
        go_wp2_with (go_at_call 21; refine (Same_eq _ HSX.out HVX4.out HVY4.out).mono ?_)
        first | rintro e w5 rfl hb5 | rintro e w5 ⟨rfl, hb5⟩
        have hbw5 := bel2 hbw4 hb5
        clear x0 x1 x2 x3 x4 x5 x6 x7 y0 y1 y2 y3 y4 y5 y6 y7
        go_wp2_with (go_at_call 10; refine (HAW.out _ (HT.out.keep hbw5)).mono ?_; rintro e w9 ⟨rfl, hb9⟩)
        go_ret
        exact ⟨rfl, bel2 hbw5 hb9⟩
      · have dl : decide ((256 : Int) < (T.length : Int)) = true := decide_eq_true (by omega)
        go_wp2_with (go_at_call 10; refine (HAW.out _ (HT.out.keep hbw2)).mono ?_; rintro e w9 ⟨rfl, hb9⟩)
        go_ret
        exact ⟨rfl, bel2 hbw2 hb9⟩
  · go_enter Tryd.func7, Tryd.ntmps7
    have hr := Below.refl w.heap.size w
    go_wp2_with (go_at_call 10; refine (HAW.out _ HT.out).mono ?_; rintro e w4 ⟨rfl, hb4⟩)
    all_goals first
      | (go_ret; exact ⟨rfl, hb4⟩)
      | (exfalso; omega)
end Go.Proofs.YtpggnfpjjppbmaaDoor
