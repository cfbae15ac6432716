/- Arguments opened: a slice of whatever elements as cells; lists of strings. -/
import Derived.Test.YtpggnfpjjppbmaaAppS
import Derived.ChangeArms
import Derived.Deep.Slices
import Derived.OpenShut
import Derived.Test.YtpggnfpjjppbmaaRows
import Derived.WalkKit
import Derived.ProofKit
import Derived.ShutString
import Derived.Below
import Derived.ChangeSame
import Derived.Carry
set_option maxRecDepth 100000
namespace Go.Proofs.Ytpggnfpjjppbmaa
open Go.ChangeShapes Go.WideShapes Go.RowKit
section
variable {H : Type} {enc : TypeId × Value → H} {P : Program} {w : World} {spare : Nat → Bool} {held : Bool}
theorem flatten_get {C : Nat} : ∀ {css : List (List Value)}, (∀ c ∈ css, c.length = C) → ∀ {j : Nat} {u : Value}, css.flatten[j]? = some u → ∃ i k c, css[i]? = some c ∧ k < C ∧ j = i * C + k ∧ c[k]? = some u
  | [], _, j, u, h => by simp at h
  | c :: css, hC, j, u, h => by
    have hc := hC c (List.mem_cons_self ..)
    rw [List.flatten_cons] at h
    by_cases hj : j < c.length
    · rw [List.getElem?_append_left hj] at h
      exact ⟨0, j, c, rfl, by omega, by omega, h⟩
    · rw [List.getElem?_append_right (by omega)] at h
      obtain ⟨i, k, c', h1, h2, h3, h4⟩ := flatten_get (fun x hx => hC x (List.mem_cons_of_mem _ hx)) h
      exact ⟨i + 1, k, c', by simpa using h1, h2, by rw [Nat.succ_mul]; omega, h4⟩
theorem flatten_len {C : Nat} : ∀ {css : List (List Value)}, (∀ c ∈ css, c.length = C) → css.flatten.length = css.length * C
  | [], _ => by simp
  | c :: css, hC => by
    rw [List.flatten_cons, List.length_append, flatten_len (fun x hx => hC x (List.mem_cons_of_mem _ hx)), hC c (List.mem_cons_self ..), List.length_cons, Nat.succ_mul]; omega
/-- A slice's cells, element by element: what holds of each element's cells (Q), given that they read. -/
theorem slice_cells {t e : TypeId} {C fuel : Nat} {cs : List Value} {x : DataW H × List MemPlace} (ht : P.underlying t = some (.slice e)) (hC : P.cellsOf e = C) (hC0 : 0 < C)
    (h : DataW.trod enc P w 0 spare held fuel t cs = some x) (Q : List Value → Prop)
    (hQ : ∀ n c y, n < fuel → c.length = C → DataW.trod enc P w 0 spare held n e c = some y → Q c) :
    ∃ (a : Option Addr) (len cap : Nat) (css : List (List Value)), cs = [.slice a len cap] ∧ len ≤ maxLen ∧ css.length = len ∧ (∀ c ∈ css, Q c ∧ c.length = C) ∧ Sl w w.heap.size a C len css.flatten := by
  rcases DataW.trod_slice ht h with ⟨rfl, _⟩ | ⟨a, len, cap, elems, rest, n, hf, rfl, _, _, hl, hm, hlen, hel, _, _⟩
  · exact ⟨none, 0, 0, [], rfl, by simp [maxLen], rfl, by simp, Sl.none_ _ _ _ _⟩
  · have each : ∀ i, i < len → ∃ c, c.length = C ∧ Q c ∧ ∀ j, j < C → w.cell? ((a.add (i * C)).add j) = c[j]? := by
      intro i hi
      have h1 := hel i hi
      have hlt : i < elems.length := by omega
      rw [List.getElem?_eq_getElem hlt, Option.bind_eq_some_iff] at h1
      obtain ⟨c, hc, hy⟩ := h1
      obtain ⟨_, h2, h3⟩ := World.cells?_some hc
      rw [hC] at h2 h3
      exact ⟨c, h2, hQ n c _ (by omega) h2 hy, h3⟩
    have all : ∃ css : List (List Value), css.length = len ∧ ∀ i c, css[i]? = some c → c.length = C ∧ Q c ∧ ∀ j, j < C → w.cell? ((a.add (i * C)).add j) = c[j]? := by
      have : ∀ m, m ≤ len → ∃ css : List (List Value), css.length = m ∧ ∀ i c, css[i]? = some c → c.length = C ∧ Q c ∧ ∀ j, j < C → w.cell? ((a.add (i * C)).add j) = c[j]? := by
        intro m
        induction m with
        | zero => intro _; exact ⟨[], rfl, by simp⟩
        | succ m ih =>
          intro hm
          obtain ⟨css, h1, h2⟩ := ih (by omega)
          obtain ⟨c, hc⟩ := each m (by omega)
          refine ⟨css ++ [c], by simp [h1], fun i d hd => ?_⟩
          by_cases hi : i < css.length
          · rw [List.getElem?_append_left hi] at hd; exact h2 i d hd
          · rw [List.getElem?_append_right (by omega)] at hd
            have hi0 : i - css.length = 0 := by
              rcases Nat.eq_zero_or_pos (i - css.length) with h0 | h0
              · exact h0
              · rw [List.getElem?_eq_none (by simp; omega)] at hd; cases hd
            rw [hi0] at hd
            simp at hd; subst hd
            rw [show i = m by omega]; exact hc
      exact this len (Nat.le_refl _)
    obtain ⟨css, h1, h2⟩ := all
    have h3 : ∀ c ∈ css, Q c ∧ c.length = C := fun c hc => by
      obtain ⟨i, hi⟩ := List.getElem?_of_mem hc
      exact ⟨(h2 i c hi).2.1, (h2 i c hi).1⟩
    refine ⟨some a, len, cap, css, rfl, by omega, h1, h3, by rw [flatten_len (fun c hc => (h3 c hc).2), h1], fun hn => ?_⟩
    have h0 : w.cell? a ≠ none := by
      obtain ⟨c, hc⟩ : ∃ c, css[0]? = some c := ⟨_, List.getElem?_eq_getElem (by omega)⟩
      obtain ⟨hc1, _, hc2⟩ := h2 0 c hc
      have := hc2 0 hC0
      rw [show (a.add (0 * C)).add 0 = a by simp [Addr.add], List.getElem?_eq_getElem (by omega)] at this
      rw [this]; simp
    obtain ⟨b, off, spot⟩ := a
    have hspot : spot = none := by
      cases spot with
      | none => rfl
      | some s => exfalso; apply h0; unfold World.cell?; split <;> simp
    subst hspot
    have hb : b < w.heap.size := by
      rcases Nat.lt_or_ge b w.heap.size with h4 | h4
      · exact h4
      · exfalso; apply h0; simp [World.cell?, Array.getElem?_eq_none h4]
    refine ⟨b, off, rfl, hb, fun j u hu => ?_⟩
    obtain ⟨i, k, c, g1, g2, rfl, g4⟩ := flatten_get (fun c hc => (h3 c hc).2) hu
    have := (h2 i c g1).2.2 k g2
    rw [g4] at this
    rw [← this]; congr 1
    unfold Addr.add; (repeat' split) <;> simp_all <;> omega
theorem choose_map {X : Type} (f : X → List Value) (K : X → Prop) : ∀ {css : List (List Value)}, (∀ c ∈ css, ∃ x, c = f x ∧ K x) → ∃ xs : List X, css = xs.map f ∧ ∀ x ∈ xs, K x
  | [], _ => ⟨[], rfl, by simp⟩
  | c :: css, h => by
    obtain ⟨x, rfl, hx⟩ := h c (List.mem_cons_self ..)
    obtain ⟨xs, rfl, hxs⟩ := choose_map f K (fun d hd => h d (List.mem_cons_of_mem _ hd))
    exact ⟨x :: xs, rfl, fun y hy => by
      rcases List.mem_cons.1 hy with rfl | hy
      · exact hx
      · exact hxs y hy⟩
theorem slice_map {X : Type} (f : X → List Value) (K : X → Prop) {t e : TypeId} {C fuel : Nat} {cs : List Value} {x : DataW H × List MemPlace} (ht : P.underlying t = some (.slice e)) (hC : P.cellsOf e = C) (hC0 : 0 < C)
    (h : DataW.trod enc P w 0 spare held fuel t cs = some x)
    (hQ : ∀ n c y, n < fuel → c.length = C → DataW.trod enc P w 0 spare held n e c = some y → ∃ x, c = f x ∧ K x) :
    ∃ (a : Option Addr) (cap : Nat) (xs : List X), cs = [.slice a xs.length cap] ∧ xs.length ≤ maxLen ∧ (∀ x ∈ xs, K x) ∧ Sl w w.heap.size a C xs.length (xs.flatMap f) := by
  obtain ⟨a, len, cap, css, h1, h2, h3, h4, h5⟩ := slice_cells ht hC hC0 h (fun c => ∃ x, c = f x ∧ K x) hQ
  obtain ⟨xs, rfl, hx⟩ := choose_map f K (fun c hc => (h4 c hc).1)
  rw [List.length_map] at h3
  subst h3
  exact ⟨a, cap, xs, h1, h2, hx, by rw [List.flatMap_def]; exact h5⟩
end
theorem cells_slice {a : Option Addr} {n c : Nat} : (Value.slice a n c).cells.toList = [.slice a n c] := rfl
section
variable {H : Type} {enc : TypeId × Value → H} {w : World} {base : Nat} {spare : Nat → Bool} {held : Bool}
theorem open_slice_val {P : Program} {t e : TypeId} (ht : P.underlying t = some (.slice e)) {r : Reach} {b0 : Nat} {v : Value} (hval : Value.okWide P w r b0 t v) : v.cells.toList = [v] := by
  obtain ⟨a, len, cap, rfl⟩ := okWide_slice ht hval
  rfl
theorem open_strs {r : Reach} {b0 : Nat} {v : Value} {d : DataW H} {ps : List MemPlace} (hval : Value.okWide Try.prog w r b0 49 v) (h : DataW.Trod enc Try.prog w 0 spare held 49 v d ps) :
    ∃ (a : Option Addr) (cap : Nat) (xs : List Str), v = .slice a xs.length cap ∧ xs.length ≤ maxLen ∧ (∀ x ∈ xs, x.length ≤ maxLen) ∧ Sl w w.heap.size a 1 xs.length (scells xs) := by
  obtain ⟨fuel, hf⟩ := h
  rw [open_slice_val Try.underlying49 hval] at hf
  obtain ⟨a, cap, xs, h1, h2, h3, h4⟩ := slice_map (fun s : Str => [.string ⟨(s).toArray⟩]) (fun s => s.length ≤ maxLen) Try.underlying49 (C := 1) (by kernel_rfl) (by decide) hf (by
    intro n c y _ _ hy
    obtain ⟨s, rfl, _, hs⟩ := DataW.trod_string Try.underlying9 hy
    exact ⟨s.data.toList, by simp, by simpa using hs⟩)
  injection h1 with h1
  have hm : ∀ ys : List Str, ys.flatMap (fun s : Str => [.string ⟨(s).toArray⟩]) = scells ys := by
    intro ys
    induction ys with
    | nil => rfl
    | cons y ys ih => rw [List.flatMap_cons, ih]; rfl
  rw [hm] at h4
  exact ⟨a, cap, xs, h1, h2, h3, h4⟩
end
end Go.Proofs.Ytpggnfpjjppbmaa
set_option maxRecDepth 100000
namespace Go.Proofs.Ytpggnfpjjppbmaa
open Go.ChangeShapes Go.WideShapes Go.RowKit
def pcells2 (xs : List (Int × Int)) : List Value := xs.flatMap fun p => [.int .i64 p.1, .int .i64 p.2]
theorem pcells2_at {xs : List (Int × Int)} {k : Nat} {p : Int × Int} (h : xs[k]? = some p) : (pcells2 xs)[k * 2]? = some (.int .i64 p.1) ∧ (pcells2 xs)[k * 2 + 1]? = some (.int .i64 p.2) := by
  induction xs generalizing k with
  | nil => simp at h
  | cons g xs ih =>
    cases k with
    | zero => simp at h; subst h; simp [pcells2]
    | succ k =>
      simp only [List.getElem?_cons_succ] at h
      obtain ⟨h1, h2⟩ := ih h
      simp only [pcells2, List.flatMap_cons] at h1 h2 ⊢
      refine ⟨?_, ?_⟩
      · rw [List.getElem?_append_right (by simp; omega)]; simpa [show (k + 1) * 2 - 2 = k * 2 by omega] using h1
      · rw [List.getElem?_append_right (by simp; omega)]; simpa [show (k + 1) * 2 + 1 - 2 = k * 2 + 1 by omega] using h2
theorem Sl.pair {w : World} {B : Nat} {a : Option Addr} {n : Nat} {xs : List (Int × Int)} (h : Sl w B a 2 n (pcells2 xs)) {k : Nat} {p : Int × Int} (hk : xs[k]? = some p) (hn : n = xs.length) :
    ∃ b o, a = some ⟨b, o, none⟩ ∧ b < B ∧ w.cell? ⟨b, o + k * 2, none⟩ = some (.int .i64 p.1) ∧ w.cell? ⟨b, o + k * 2 + 1, none⟩ = some (.int .i64 p.2) := by
  have hlt := (List.getElem?_eq_some_iff.1 hk).1
  obtain ⟨b, o, h1, h2, h3⟩ := h.2 (by omega)
  obtain ⟨c1, c2⟩ := pcells2_at hk
  exact ⟨b, o, h1, h2, h3 _ _ c1, h3 _ _ c2⟩
section
variable {H : Type} {enc : TypeId × Value → H} {w : World} {base : Nat} {spare : Nat → Bool} {held : Bool}
theorem open_rows2 {r : Reach} {b0 : Nat} {v : Value} {d : DataW H} {ps : List MemPlace} (hval : Value.okWide Try.prog w r b0 41 v) (h : DataW.Trod enc Try.prog w 0 spare held 41 v d ps) :
    ∃ (a : Option Addr) (cap : Nat) (xs : List (Int × Int)), v = .slice a xs.length cap ∧ xs.length ≤ maxLen ∧ (∀ x ∈ xs, x = x) ∧ Sl w w.heap.size a 2 xs.length (pcells2 xs) := by
  obtain ⟨fuel, hf⟩ := h
  rw [open_slice_val Try.underlying41 hval] at hf
  obtain ⟨a, cap, xs, h1, h2, h3, h4⟩ := slice_map (fun p : Int × Int => [.int .i64 p.1, .int .i64 p.2]) (fun x => x = x) Try.underlying41 (C := 2) (by kernel_rfl) (by decide) hf (by
    intro n c y _ hc hy
    obtain ⟨ys, m, _, _, _, hl, hfs⟩ := DataW.trod_array Try.underlying42 hy
    match c, hc with
    | [c0, c1], _ =>
      have k0 : Try.prog.cellsOf 3 = 1 := by kernel_rfl
      have f0 := hfs 0 (by omega)
      have f1 := hfs 1 (by omega)
      rw [k0] at f0 f1
      simp only [List.drop, List.take] at f0 f1
      rw [List.getElem?_eq_getElem (by omega)] at f0 f1
      obtain ⟨n0, e0, _⟩ := DataW.trod_int Try.underlying3 f0
      obtain ⟨n1, e1, _⟩ := DataW.trod_int Try.underlying3 f1
      injection e0 with e0; injection e1 with e1
      subst e0 e1
      exact ⟨(n0, n1), rfl, rfl⟩)
  injection h1 with h1
  exact ⟨a, cap, xs, h1, h2, h3, h4⟩
end
end Go.Proofs.Ytpggnfpjjppbmaa
set_option maxRecDepth 100000
namespace Go.Proofs.Ytpggnfpjjppbmaa
open Go.RowKit Go.WideShapes Go.ChangeShapes
theorem own : ownKnob Try.prog.godebug = none := by kernel_rfl
section
variable {H : Type} {enc : TypeId × Value → H} {P : Program}
theorem args_again (hl : laidOutB P = true) {W W' : World} (hb : Below W.heap.size W W') : ∀ {ts : List TypeId} {vs : List Value} {ds : List (DataW H)} {ps : List MemPlace},
    (∀ t ∈ ts, P.readableRec t = true ∧ t < P.types.size) → DataW.TrodAll enc P W 0 (fun _ => true) true ts vs ds ps → (∀ p ∈ ps, p.block < W.heap.size) → ∀ sp : Nat → Bool, (∀ p ∈ ps, sp p.block = true) →
    DataW.TrodAll enc P W' 0 sp true ts vs ds ps
  | [], vs, ds, ps, _, h, _, sp, _ => by
    obtain ⟨rfl, rfl, rfl⟩ := trodAll_nil h
    exact trodAll_mk0
  | t :: ts, vs, ds, ps, ht, h, hlt, sp, hsp => by
    obtain ⟨v, vs', d, ds', p, q, rfl, rfl, rfl, h1, h2⟩ := trodAll_cons h
    obtain ⟨r1, r2⟩ := ht t (List.mem_cons_self ..)
    exact trodAll_cons_mk (WideElems.Trod_stays hl r1 r2 h1 (fun x hx => hb.same (hlt x (List.mem_append_left _ hx))) (fun x hx => hsp x (List.mem_append_left _ hx)))
      (args_again hl hb (fun t hm => ht t (List.mem_cons_of_mem _ hm)) h2 (fun x hx => hlt x (List.mem_append_right _ hx)) sp (fun x hx => hsp x (List.mem_append_right _ hx)))
theorem post_of_below {f : Func} {s : ChangeSpec} {apart fresh handsOn again : Bool} {W W' : World} {args : Array Value} {v : Value} {ds gs : List (DataW H)} {before pa pv : List MemPlace}
    (hW : DataW.Whole enc P f.params.toList s.vars apart W args.toList ds gs before)
    (hres : ∀ (b : Nat) (sp : Nat → Bool) (hd : Bool), DataW.TrodAll enc P W' b sp hd f.resultTypes.toList (v.resultList f.resultTypes.size) (s.fn H (ds ++ gs)).results [])
    (hargs : ∀ sp : Nat → Bool, (∀ p ∈ before, sp p.block = true) → DataW.TrodAll enc P W' 0 sp true f.params.toList args.toList (s.fn H (ds ++ gs)).args pa)
    (hvars : ∀ sp : Nat → Bool, (∀ p ∈ before, sp p.block = true) → DataW.TrodVars enc P W' sp s.vars (s.fn H (ds ++ gs)).vars pv)
    (hps : before = pa ++ pv) (hb : Below W.heap.size W W')
    (hok : ∀ (j : Nat) (t : TypeId) (r : Value), f.resultTypes[j]? = some t → (v.resultList f.resultTypes.size)[j]? = some r → Value.okWide P W' .any 0 t r) :
    s.post enc P f apart fresh handsOn again W args v W' := by
  have hlt : ∀ p ∈ before, p.block < W.heap.size := fun p hp => hW.lt p hp
  have hold : ∀ p ∈ before, (fun b => decide (b < W.heap.size)) p.block = true := fun p hp => by simpa using hlt p hp
  refine ⟨ds, gs, before, [], pa, pv, hW, hres _ _ _, hargs _ hold, hvars _ hold, World.keptBut_mono (fun p hp => ⟨hp, ?_⟩) (hb.frame (· ∈ before)), fun _ => ?_⟩
  · rw [hps, List.mem_append] at hp
    exact Or.inr hp
  · obtain ⟨_, _, _, _, _, hz, hn⟩ := hW
    refine ⟨hok, _, _, ([] ++ pa) ++ pv, ⟨[] ++ pa, pv, trodAll_append (hargs _ (fun _ _ => rfl)) (hres _ _ _), hvars _ (fun _ _ => rfl), rfl, ?_, ?_⟩, ?_⟩
    · intro b off hp
      have hin : MemPlace.cell b off ∈ before := by rw [hps]; simpa using hp
      rw [hb.frozen (hlt _ hin)]
      exact hz b off hin
    · intro ha
      have := hn ha
      rw [hps] at this
      simpa using this
    · intro p hp _
      rw [hps]
      simpa using hp
end
end Go.Proofs.Ytpggnfpjjppbmaa
