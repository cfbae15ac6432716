/- 'append' onto one of several rows that the call owns: where the new row lies; append of a slice that came in. -/
import Derived.Test.YtlomkfennnmkdaaT14
import Derived.Maps.AppendAt
namespace Go.Proofs.Ytlomkfennnmkdaa
open Go.RowKit
theorem wp_app2 {P : Program} {w : World} {o : Oper} {a : Act} {K : Act → World → Prop} {Q : Exit → Act → World → Prop} (B : Nat) (e : TypeId) {cs : Array Value} {m : Nat × Nat} (s x : Operand) (t : TypeId)
    (ho : o.op = .call { callee := .builtin .append, args := #[s, x], argTypes := #[t, t] })
    {i : TypeInfo} {z : Value} {size bytes : Nat} (ht : P.underlying t = some (.slice e)) (hinf : P.info? e = some i ∧ i.zero = some z ∧ i.size = size ∧ i.bytes = bytes)
    (hzs : z.cells.size = size) (hsz : 0 < size)
    {v : Value} {n : Nat} {xs : List Value} (hs : a.eval s = v) (hown : w.ownsRow B e size v n xs)
    {g : Nat} (hx : a.eval x = .slice (some ⟨g, 0, none⟩) 1 1) (hgz : g = w.heap.size) (hl : cs.size = size) (h1 : ∀ u ∈ cs.toList, u.oneCell' = true)
    (hn : n ≤ 100000000) (hb : bytes ≤ 1000) (hB : B ≤ w.heap.size)
    (h : ∀ v' w', w'.ownsRow B e size v' (n + 1) (xs ++ cs.toList) → w.grownBy w' v.ownBlock → Below B w w' → (v'.ownBlock = v.ownBlock ∨ ∃ g, v'.ownBlock = some g ∧ w.heap.size ≤ g) → K (a.put o.dst v') w') :
    o.wp P a (w.alloc (.cells cs e m)) K Q := by
  subst hgz
  obtain ⟨hi, hz0, hz1, hz2⟩ := hinf
  obtain ⟨v', w', hrun, h2, h3, _, h5⟩ := run_append_own_at (P := P) (w.alloc (.cells cs e m)) B t o.type e i z size bytes ht hi hz0 hz1 hz2 hzs hsz v n xs (hown.alloc _) ⟨w.heap.size, 0, none⟩ 1 1 cs.toList (by simpa using hl) (by
      intro j u hu
      have hadd : (⟨w.heap.size, 0, none⟩ : Addr).add j = ⟨w.heap.size, j, none⟩ := by unfold Addr.add; split <;> simp_all
      rw [hadd, cell_of_row _ w.heap.size j cs e m (heap_alloc_new w _)]
      simpa using hu) h1 (by simp only [maxLen]; omega) (by
      have : (n + 1) * bytes ≤ (100000000 + 1) * 1000 := Nat.mul_le_mul (by omega) hb
      omega) (by simp; omega)
  have hg : w.grownBy w' v.ownBlock := by
    refine ⟨h3.os, h3.tape, h3.output, by have := h3.size; simp at this; omega, fun k hk hne => ?_⟩
    rw [h3.block k (by simp; omega) hne]
    exact Below.heap_alloc w _ k hk
  unfold Oper.wp execOp
  simp only [ho, resolve, invoke, builtin, Sem.run_bind, Sem.run_pure, Result.andThen_ok, List.map_toArray, List.map_cons, List.map_nil, hs, hx, hrun]
  refine h v' w' h2 hg ((Below.refl B w).grown hg hB fun k hk => (hown.lt k hk).1) ?_
  rcases h5 with h5 | h5
  · exact .inl h5
  · exact .inr ⟨_, h5, by simp⟩
theorem wpList_app2 {P : Program} {w : World} {ops : Array Oper} {rest : List Oper} {o : Oper} {a : Act} {Q : Exit → Act → World → Prop} (B : Nat) (e : TypeId) {cs : Array Value} {m : Nat × Nat} (hgd : o.guard = none) (s x : Operand) (t : TypeId)
    (ho : o.op = .call { callee := .builtin .append, args := #[s, x], argTypes := #[t, t] })
    {i : TypeInfo} {z : Value} {size bytes : Nat} (ht : P.underlying t = some (.slice e)) (hinf : P.info? e = some i ∧ i.zero = some z ∧ i.size = size ∧ i.bytes = bytes)
    (hzs : z.cells.size = size) (hsz : 0 < size)
    {v : Value} {n : Nat} {xs : List Value} (hs : a.eval s = v) (hown : w.ownsRow B e size v n xs)
    {g : Nat} (hx : a.eval x = .slice (some ⟨g, 0, none⟩) 1 1) (hgz : g = w.heap.size) (hl : cs.size = size) (h1 : ∀ u ∈ cs.toList, u.oneCell' = true)
    (hn : n ≤ 100000000) (hb : bytes ≤ 1000) (hB : B ≤ w.heap.size)
    (h : ∀ v' w', w'.ownsRow B e size v' (n + 1) (xs ++ cs.toList) → w.grownBy w' v.ownBlock → Below B w w' → (v'.ownBlock = v.ownBlock ∨ ∃ g, v'.ownBlock = some g ∧ w.heap.size ≤ g) → wpList P ops Q rest (a.put o.dst v') w') :
    wpList P ops Q (o :: rest) a (w.alloc (.cells cs e m)) :=
  wpList_plain hgd fun _ hK => wp_app2 B e s x t ho ht hinf hzs hsz hs hown hx hgz hl h1 hn hb hB fun v' w' a1 a2 a3 a4 => hK _ _ (h v' w' a1 a2 a3 a4)
/-- Two rows of the call's own that share nothing. -/
def apartV (v u : Value) : Prop := v.ownBlock = none ∨ v.ownBlock ≠ u.ownBlock
theorem apartV.symm {v u : Value} (h : apartV v u) : apartV u v := by
  unfold apartV at *
  cases hu : u.ownBlock with
  | none => exact .inl rfl
  | some g =>
    refine .inr fun e => ?_
    rcases h with h | h
    · rw [h] at e; cases e
    · exact h (by rw [hu, e])
/-- v has been appended to (it is v' now); the other row u is kept, and apart still. -/
theorem apart_app {w w' : World} {B : Nat} {e e' : TypeId} {sz sz' n n' : Nat} {v v' u : Value} {xs ys : List Value} (hu : w.ownsRow B e' sz' u n' ys) (_hv : w.ownsRow B e sz v n xs) (ha : apartV u v) (hg : w.grownBy w' v.ownBlock)
    (h5 : v'.ownBlock = v.ownBlock ∨ ∃ g, v'.ownBlock = some g ∧ w.heap.size ≤ g) : w'.ownsRow B e' sz' u n' ys ∧ apartV u v' := by
  refine ⟨hu.kept hg ha, ?_⟩
  rcases h5 with h5 | ⟨g, h5, hlt⟩
  · unfold apartV; rw [h5]; exact ha
  · cases hub : u.ownBlock with
    | none => exact .inl hub
    | some k =>
      refine .inr ?_
      rw [hub, h5]; intro e'; injection e' with e'
      have := (hu.lt k hub).2; omega
end Go.Proofs.Ytlomkfennnmkdaa
