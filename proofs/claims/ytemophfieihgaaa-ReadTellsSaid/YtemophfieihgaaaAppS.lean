/- 'append(v, xs...)': xs a slice that reads as cells, nil or not. -/
import Derived.Test.YtemophfieihgaaaMem
set_option maxRecDepth 100000
namespace Go.Proofs.Ytemophfieihgaaa
open Go.RowKit
theorem run_app_nil {P : Program} (w : World) (base : Nat) (t ty e : TypeId) (i : TypeInfo) (size : Nat) (ht : P.underlying t = some (.slice e)) (hi : P.info? e = some i)
    (v : Value) (n : Nat) (xs : List Value) (hown : w.ownsRow base e size v n xs) (c : Nat) : (Builtin.append_ #[t, t] ty #[v, .slice none 0 c]).run P w = .ok v w := by
  rcases hown.2 with ⟨rfl, rfl⟩ | ⟨g, cap, cur, rfl, _, _, hnc, _⟩
  · simp [Builtin.append_, run_underlying ht, sizeOf, typeInfo, hi, Builtin.lenOf, Builtin.firstCells]
  · simp [Builtin.append_, run_underlying ht, sizeOf, typeInfo, hi, Builtin.lenOf, Builtin.firstCells, hnc, storeCells]
theorem wpList_appS {P : Program} {w : World} {ops : Array Oper} {rest : List Oper} {o : Oper} {a : Act} {Q : Exit → Act → World → Prop} (base : Nat) (e : TypeId) (hgd : o.guard = none) (s x : Operand) (t : TypeId)
    (ho : o.op = .call { callee := .builtin .append, args := #[s, x], argTypes := #[t, t] })
    {i : TypeInfo} {z : Value} {size bytes : Nat} (ht : P.underlying t = some (.slice e)) (hinf : P.info? e = some i ∧ i.zero = some z ∧ i.size = size ∧ i.bytes = bytes)
    (hzs : z.cells.size = size) (hsz : 0 < size)
    {v : Value} {n : Nat} {xs : List Value} (hs : a.eval s = v) (hown : w.ownsRow base e size v n xs)
    {B : Nat} {A : Option Addr} {m c : Nat} {news : List Value} (hx : a.eval x = .slice A m c) (hr : Sl w B A size m news) (h1 : ∀ u ∈ news, u.oneCell' = true)
    (hn : n ≤ 10000000) (hm : m ≤ 10000000) (hb : bytes ≤ 1000) (hB : base ≤ w.heap.size)
    (h : ∀ v' w', w'.ownsRow base e size v' (n + m) (xs ++ news) → w.grownBy w' v.ownBlock → Below base w w' → wpList P ops Q rest (a.put o.dst v') w') :
    wpList P ops Q (o :: rest) a w := by
  refine wpList_plain hgd fun K hK => ?_
  obtain ⟨hi, hz0, hz1, hz2⟩ := hinf
  have key : ∃ v' w', (Builtin.append_ #[t, t] o.type #[v, .slice A m c]).run P w = .ok v' w' ∧ w'.ownsRow base e size v' (n + m) (xs ++ news) ∧ w.grownBy w' v.ownBlock := by
    have h63 : n + m ≤ maxLen := by simp only [maxLen]; omega
    have hby : (n + m) * bytes ≤ 140737488355328 := by
      have : (n + m) * bytes ≤ (10000000 + 10000000) * 1000 := Nat.mul_le_mul (by omega) hb
      omega
    rcases A with _ | ad
    · have hm0 : m = 0 := by
        rcases Nat.eq_zero_or_pos m with h0 | h0
        · exact h0
        · obtain ⟨b, o, h, _⟩ := hr.2 h0; cases h
      subst hm0
      have hn0 : news = [] := List.eq_nil_of_length_eq_zero (by simpa using hr.1)
      subst hn0
      exact ⟨v, w, run_app_nil w base t o.type e i size ht hi v n xs hown c, by simpa using hown, ⟨rfl, rfl, rfl, Nat.le_refl _, fun _ _ _ => rfl⟩⟩
    · obtain ⟨v', w', hrun, h2, h3, _⟩ := run_append_own (P := P) w base t o.type e i z size bytes ht hi hz0 hz1 hz2 hzs hsz v n xs hown ad m c news hr.1 (by
        intro j u hu
        rcases Nat.eq_zero_or_pos m with h0 | h0
        · subst h0
          have hn0 : news = [] := List.eq_nil_of_length_eq_zero (by simpa using hr.1)
          subst hn0; simp at hu
        · obtain ⟨b, o', hab, _, hc⟩ := hr.2 h0
          injection hab with hab; subst hab
          have hadd : (⟨b, o', none⟩ : Addr).add j = ⟨b, o' + j, none⟩ := by unfold Addr.add; split <;> simp_all
          rw [hadd]; exact hc j u hu) h1 h63 hby hB
      exact ⟨v', w', hrun, h2, h3⟩
  obtain ⟨v', w', hrun, h2, h3⟩ := key
  unfold Oper.wp execOp
  simp only [ho, resolve, invoke, builtin, Sem.run_bind, Sem.run_pure, Result.andThen_ok, List.map_toArray, List.map_cons, List.map_nil, hs, hx, hrun]
  exact hK _ _ (h v' w' h2 h3 ((Below.refl base w).grown h3 hB fun k hk => (hown.lt k hk).1))
end Go.Proofs.Ytemophfieihgaaa
