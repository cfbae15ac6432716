/- Small laws on strings told as lists of bytes, on rows that a call owns, and on worlds; nothing of the program's own but the numbers of its types. -/
import Derived.Test.YtemophfieihgaaaProg
import Derived.WalkKit
import Derived.WalkLawsBesides
import Derived.WalkSpells
import Derived.BigQuiet
import Derived.Deep.QuietTactic
import Derived.Deep.LoopGhost
import Derived.Deep.DeepCutAuto
import Derived.Lib.Hide
import Derived.Deep.RegionLaw
import Derived.BigRegion
import Derived.KernelRfl
set_option maxRecDepth 100000
namespace Go.Proofs.Ytemophfieihgaaa
open Go.RowKit

/-! ### strings as lists -/
@[simp, go_sem] theorem ba_get (l : List UInt8) (i : Nat) (h : i < (ByteArray.mk l.toArray).size) : (ByteArray.mk l.toArray)[i]'h = l[i]'(by exact h) := by
  simp [ByteArray.getElem_eq_getElem_data]
@[simp, go_sem] theorem ba_toList (l : List UInt8) : (ByteArray.mk l.toArray).toList = l := by rw [ByteArray.toList_eq]
@[simp, go_sem] theorem ba_append (l r : List UInt8) : ByteArray.mk l.toArray ++ ByteArray.mk r.toArray = ByteArray.mk (l ++ r).toArray := by
  apply ByteArray.ext; simp
@[simp, go_sem] theorem ba_size (l : List UInt8) : (ByteArray.mk l.toArray).size = l.length := rfl
@[simp, go_sem] theorem ba_extract (l : List UInt8) (i j : Nat) : (ByteArray.mk l.toArray).extract i j = ByteArray.mk ((l.drop i).take (j - i)).toArray := by
  apply ByteArray.ext; simp [ByteArray.data_extract]
@[simp, go_sem] theorem ba_extract_end (l : List UInt8) (i : Nat) : (ByteArray.mk l.toArray).extract i l.length = ByteArray.mk (l.drop i).toArray := by
  rw [ba_extract, List.take_of_length_le (by simp)]
@[simp, go_sem] theorem take_drop_all (l : List UInt8) (i : Nat) : (l.drop i).take (l.length - i) = l.drop i := List.take_of_length_le (by simp)
theorem ba_of (s : ByteArray) : s = ByteArray.mk s.data.toList.toArray := by simp
theorem ba_inj {l r : List UInt8} (h : l = r) : ByteArray.mk l.toArray = ByteArray.mk r.toArray := by rw [h]

theorem drop_cons {l r : List UInt8} {i : Nat} {c : UInt8} (h : l.drop i = c :: r) : i < l.length ∧ (∀ hi : i < l.length, l[i]'hi = c) ∧ l.drop (i + 1) = r := by
  have hi : i < l.length := by
    rcases Nat.lt_or_ge i l.length with h1 | h1
    · exact h1
    · rw [List.drop_of_length_le h1] at h; cases h
  rw [List.drop_eq_getElem_cons hi] at h
  injection h with h1 h2
  exact ⟨hi, fun _ => h1, h2⟩
theorem drop_nil {l : List UInt8} {i : Nat} (h : l.drop i = []) : l.length ≤ i := by simpa using h

theorem u8_back (c : UInt8) : UInt8.ofNat ((c.toNat : Int)).toNat = c := by simp
theorem u8_lt (c : UInt8) : c.toNat < 256 := c.toNat_lt

theorem pre1 (k c : UInt8) (r : List UInt8) : List.isPrefixOf [k] (c :: r) = decide (c.toNat = k.toNat) := by
  rw [Bool.eq_iff_iff]
  simp only [List.isPrefixOf, Bool.and_true, beq_iff_eq, decide_eq_true_eq, ← UInt8.toNat_inj]
  exact eq_comm

/-! ### rows of the call's own -/
abbrev Str := List UInt8
def bcells (l : Str) : List Value := l.map fun c => .int .u8 c.toNat
theorem bcells_length (l : Str) : (bcells l).length = l.length := by simp [bcells]

theorem u8_info : (Try.prog.info? 5).map (fun i => (i.zero, i.size, i.bytes)) = some (some (.int .u8 0), 1, 1) := by kernel_rfl

theorem wp_app1 {P : Program} {w : World} {o : Oper} {a : Act} {K : Act → World → Prop} {Q : Exit → Act → World → Prop} (B : Nat) (e : TypeId) {cs : Array Value} {m : Nat × Nat} (s x : Operand) (t : TypeId)
    (ho : o.op = .call { callee := .builtin .append, args := #[s, x], argTypes := #[t, t] })
    {i : TypeInfo} {z : Value} {size bytes : Nat} (ht : P.underlying t = some (.slice e)) (hinf : P.info? e = some i ∧ i.zero = some z ∧ i.size = size ∧ i.bytes = bytes)
    (hzs : z.cells.size = size) (hsz : 0 < size)
    {v : Value} {n : Nat} {xs : List Value} (hs : a.eval s = v) (hown : w.ownsRow B e size v n xs)
    {g : Nat} (hx : a.eval x = .slice (some ⟨g, 0, none⟩) 1 1) (hgz : g = w.heap.size) (hl : cs.size = size) (h1 : ∀ u ∈ cs.toList, u.oneCell' = true)
    (hn : n ≤ 100000000) (hb : bytes ≤ 1000) (hB : B ≤ w.heap.size)
    (h : ∀ v' w', w'.ownsRow B e size v' (n + 1) (xs ++ cs.toList) → w.grownBy w' v.ownBlock → Below B w w' → v' ≠ .slice none 0 0 → K (a.put o.dst v') w') :
    o.wp P a (w.alloc (.cells cs e m)) K Q := by
  subst hgz
  obtain ⟨hi, hz0, hz1, hz2⟩ := hinf
  refine wp_append_own (P := P) (w.alloc (.cells cs e m)) s x t ho B e i z size bytes ht hi hz0 hz1 hz2 hzs hsz v n xs hs (hown.alloc _) ⟨w.heap.size, 0, none⟩ 1 1 cs.toList hx (by simpa using hl) ?_ h1 (by simp only [maxLen]; omega) ?_ (by simp; omega) ?_
  · intro j u hu
    have hadd : (⟨w.heap.size, 0, none⟩ : Addr).add j = ⟨w.heap.size, j, none⟩ := by unfold Addr.add; split <;> simp_all
    rw [hadd, cell_of_row _ w.heap.size j cs e m (heap_alloc_new w _)]
    simpa using hu
  · have : (n + 1) * bytes ≤ (100000000 + 1) * 1000 := Nat.mul_le_mul (by omega) hb
    omega
  · intro v' w' h2 h3 h4
    have hg : w.grownBy w' v.ownBlock := by
      refine ⟨h3.os, h3.tape, h3.output, by have := h3.size; simp at this; omega, fun k hk hne => ?_⟩
      rw [h3.block k (by simp; omega) hne]
      exact Below.heap_alloc w _ k hk
    refine h v' w' h2 hg ?_ (fun hv => by have := (h4.1 hv).2; omega)
    exact ((Below.refl B w).grown hg hB fun k hk => (hown.lt k hk).1)
/-- 'append(v, x)': x lies in a block that was just laid; v's row is the call's own. -/
theorem wpList_app1 {P : Program} {w : World} {ops : Array Oper} {rest : List Oper} {o : Oper} {a : Act} {Q : Exit → Act → World → Prop} (B : Nat) (e : TypeId) {cs : Array Value} {m : Nat × Nat} (hgd : o.guard = none) (s x : Operand) (t : TypeId)
    (ho : o.op = .call { callee := .builtin .append, args := #[s, x], argTypes := #[t, t] })
    {i : TypeInfo} {z : Value} {size bytes : Nat} (ht : P.underlying t = some (.slice e)) (hinf : P.info? e = some i ∧ i.zero = some z ∧ i.size = size ∧ i.bytes = bytes)
    (hzs : z.cells.size = size) (hsz : 0 < size)
    {v : Value} {n : Nat} {xs : List Value} (hs : a.eval s = v) (hown : w.ownsRow B e size v n xs)
    {g : Nat} (hx : a.eval x = .slice (some ⟨g, 0, none⟩) 1 1) (hgz : g = w.heap.size) (hl : cs.size = size) (h1 : ∀ u ∈ cs.toList, u.oneCell' = true)
    (hn : n ≤ 100000000) (hb : bytes ≤ 1000) (hB : B ≤ w.heap.size)
    (h : ∀ v' w', w'.ownsRow B e size v' (n + 1) (xs ++ cs.toList) → w.grownBy w' v.ownBlock → Below B w w' → v' ≠ .slice none 0 0 → wpList P ops Q rest (a.put o.dst v') w') :
    wpList P ops Q (o :: rest) a (w.alloc (.cells cs e m)) :=
  wpList_plain hgd fun _ hK => wp_app1 B e s x t ho ht hinf hzs hsz hs hown hx hgz hl h1 hn hb hB fun v' w' a1 a2 a3 a4 => hK _ _ (h v' w' a1 a2 a3 a4)
theorem step_app1 {P : Program} {w W : World} {ops : Array Oper} {o : Oper} {a : Act} {K : Act → World → Prop} {Q : Exit → Act → World → Prop} {E : Prop} (B : Nat) (e : TypeId) {cs : Array Value} {m : Nat × Nat} (hW : W = w.alloc (.cells cs e m)) (hgd : o.guard = none) (s x : Operand) (t : TypeId)
    (ho : o.op = .call { callee := .builtin .append, args := #[s, x], argTypes := #[t, t] })
    {i : TypeInfo} {z : Value} {size bytes : Nat} (ht : P.underlying t = some (.slice e)) (hinf : P.info? e = some i ∧ i.zero = some z ∧ i.size = size ∧ i.bytes = bytes)
    (hzs : z.cells.size = size) (hsz : 0 < size)
    {v : Value} {n : Nat} {xs : List Value} (hs : a.eval s = v) (hown : w.ownsRow B e size v n xs)
    {g : Nat} (hx : a.eval x = .slice (some ⟨g, 0, none⟩) 1 1) (hgz : g = w.heap.size) (hl : cs.size = size) (h1 : ∀ u ∈ cs.toList, u.oneCell' = true)
    (hn : n ≤ 100000000) (hb : bytes ≤ 1000) (hB : B ≤ w.heap.size)
    (h : ∀ v' w', w'.ownsRow B e size v' (n + 1) (xs ++ cs.toList) → w.grownBy w' v.ownBlock → Below B w w' → v' ≠ .slice none 0 0 → K (a.put o.dst v') w') :
    if Region.wanted o (yielded ops a.tmps) = true then Oper.wp P o a W K Q else E := by
  subst hW
  have hw : Region.wanted o (yielded ops a.tmps) = true := by simp [Region.wanted, hgd]
  rw [if_pos hw]
  exact wp_app1 B e s x t ho ht hinf hzs hsz hs hown hx hgz hl h1 hn hb hB h

/-- 'string(v)' of bytes that the call owns. -/
theorem conv_own {P : Program} {w : World} {B : Nat} {src e dst : TypeId} (hs : P.underlying src = some (.slice e)) (he : P.underlying e = some (.int .u8)) (hd : P.underlying dst = some .string)
    {v : Value} {l : Str} {n : Nat} (h : w.ownsRow B e 1 v n (bcells l)) : (convert src dst v).run P w = .ok (.string ⟨l.toArray⟩) w := by
  have hn : n = l.length := by have := h.1; rw [bcells_length] at this; omega
  subst hn
  rcases h.2 with ⟨rfl, h0⟩ | ⟨g, cap, cur, rfl, hb, hg, hnc, hcm, hcs, htake⟩
  · have hl : l = [] := List.eq_nil_of_length_eq_zero h0
    subst hl
    exact run_convert_bytes_nil w src e hs he 0 0 dst hd
  · refine run_convert_bytes_back w src dst e ⟨g, 0, none⟩ cap l hs he hd fun j hj => ?_
    have := h.cells (g := g) rfl j (.int .u8 (l[j].toNat)) (by simp [bcells, List.getElem?_map, List.getElem?_eq_getElem hj])
    exact this
/-! ### a row of bytes that '[]byte(s)' has laid -/
def BRow (w : World) (g : Nat) (bs : Str) : Prop :=
  ∃ arr lo hi, w.heap[g]? = some (.cells arr 5 (lo, hi)) ∧ bs.length ≤ lo ∧ bs.length ≤ arr.size ∧ ∀ (j : Nat) (c : UInt8), bs[j]? = some c → arr[j]? = some (.int .u8 c.toNat)
theorem BRow.cell {w : World} {g : Nat} {bs : Str} (h : BRow w g bs) {j : Nat} {c : UInt8} (hj : bs[j]? = some c) : w.cell? ⟨g, j, none⟩ = some (.int .u8 c.toNat) := by
  obtain ⟨arr, lo, hi, h1, _, _, h4⟩ := h
  simp only [World.cell?, h1]; simpa using h4 j c hj
theorem BRow.free {w : World} {g : Nat} {bs : Str} (h : BRow w g bs) {j : Nat} (hj : j < bs.length) : w.frozen? ⟨g, j, none⟩ = false := by
  obtain ⟨arr, lo, hi, h1, h2, _, _⟩ := h
  simp only [World.frozen?, h1]; simp; omega
theorem BRow.set {w : World} {g : Nat} {bs : Str} (h : BRow w g bs) {j : Nat} (c : UInt8) : BRow (w.setCell ⟨g, j, none⟩ (.int .u8 c.toNat)) g (bs.set j c) := by
  obtain ⟨arr, lo, hi, h1, h2, h3, h4⟩ := h
  refine ⟨arr.setIfInBounds j (.int .u8 c.toNat), lo, hi, by simp [World.setCell, Array.getElem?_modify, h1], by simpa using h2, by simpa using h3, fun i d hd => ?_⟩
  rw [List.getElem?_set] at hd
  by_cases hij : j = i
  · subst hij
    simp at hd
    obtain ⟨hlt, rfl⟩ := hd
    simp [Array.getElem?_setIfInBounds]; omega
  · rw [if_neg hij] at hd
    rw [Array.getElem?_setIfInBounds_ne hij]; exact h4 i d hd
theorem BRow.back {P : Program} {w : World} {g : Nat} {bs : Str} (h : BRow w g bs) {src e dst : TypeId} (hs : P.underlying src = some (.slice e)) (he : P.underlying e = some (.int .u8)) (hd : P.underlying dst = some .string) (cap : Nat) :
    (convert src dst (.slice (some ⟨g, 0, none⟩) bs.length cap)).run P w = .ok (.string ⟨bs.toArray⟩) w := by
  refine run_convert_bytes_back w src dst e ⟨g, 0, none⟩ cap bs hs he hd fun j hj => ?_
  have hadd : (⟨g, 0, none⟩ : Addr).add j = ⟨g, j, none⟩ := by unfold Addr.add; split <;> simp_all
  rw [hadd]; exact h.cell (List.getElem?_eq_getElem hj)
theorem BRow.made {P : Program} (w : World) {src dst : TypeId} (l : Str) (hs : P.underlying src = some .string) (hd : P.underlying dst = some (.slice 5)) (he : P.underlying 5 = some (.int .u8)) :
    ∃ cap w1, (convert src dst (.string ⟨l.toArray⟩)).run P w = .ok (.slice (some ⟨w.heap.size, 0, none⟩) l.length cap) w1 ∧ BRow w1 w.heap.size l ∧ Below w.heap.size w w1 ∧ w1.heap.size = w.heap.size + 1 := by
  have h := run_bytes_of_string (P := P) w src dst 5 ⟨l.toArray⟩ hs hd he
  refine ⟨_, _, h, ⟨_, _, _, heap_alloc_new w.drew _, ?_, ?_, fun j c hj => ?_⟩, ((Below.refl _ w).drew).alloc (Nat.le_refl _) _, by simp⟩
  · simp [bytesRow]
  · simp [bytesRow]
  · have hlt := (List.getElem?_eq_some_iff.1 hj).1
    simp only [bytesRow]
    rw [Array.getElem?_append_left (by simpa using hlt)]
    simp [hj]
theorem ret_bool {a b : Bool} (h : a = b) : Ending.returned (.bool a) = .returned (.bool b) := by rw [h]
theorem ret_int {k : IntKind} {a b : Int} (h : a = b) : Ending.returned (.int k a) = .returned (.int k b) := by rw [h]
theorem ret_str {a b : Str} (h : a = b) : Ending.returned (.string ⟨(a).toArray⟩) = .returned (.string ⟨(b).toArray⟩) := by rw [h]
theorem own_form {w : World} {B : Nat} {e : TypeId} {sz : Nat} {v : Value} {n : Nat} {xs : List Value} (h : w.ownsRow B e sz v n xs) : ∃ a c, v = .slice a n c := by
  rcases h.2 with ⟨rfl, rfl⟩ | ⟨g, cap, cur, rfl, _⟩
  · exact ⟨_, _, rfl⟩
  · exact ⟨_, _, rfl⟩
end Go.Proofs.Ytemophfieihgaaa
