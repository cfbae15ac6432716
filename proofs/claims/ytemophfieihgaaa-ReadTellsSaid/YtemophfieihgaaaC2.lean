/- Rows of parts that a call owns; an append onto them. · walks of slices.Clone of rows, rxtree.Clone -/
import Derived.Test.YtemophfieihgaaaAppS
import Derived.Test.YtemophfieihgaaaRxV
import Derived.Laws.OwnMore
import Derived.Test.YtemophfieihgaaaR5
import Derived.Lib.LazyBuf
set_option maxRecDepth 100000
namespace Go.Proofs.Ytemophfieihgaaa
open Go.RowKit
/-- An append leaves the row where it was, or lays it anew. -/
def Moved (w : World) (v v' : Value) : Prop := v'.ownBlock = v.ownBlock ∨ ∀ k, v'.ownBlock = some k → w.heap.size ≤ k
theorem append_moves {P : Program} {w : World} {base : Nat} {t ty e : TypeId} {i : TypeInfo} {z : Value} {size bytes : Nat} (ht : P.underlying t = some (.slice e)) (hi : P.info? e = some i) (hz : i.zero = some z)
    (hsize : i.size = size) (hby : i.bytes = bytes) (hzs : z.cells.size = size) (hsz : 0 < size)
    {v : Value} {n : Nat} {xs : List Value} (hown : w.ownsRow base e size v n xs)
    {a : Addr} {m c : Nat} {news : List Value} (hl : news.length = m * size) (hnews : ∀ j u, news[j]? = some u → w.cell? (a.add j) = some u) (h1 : ∀ u ∈ news, u.oneCell' = true)
    (h63 : n + m ≤ maxLen) (hbytes : (n + m) * bytes ≤ 140737488355328) {v' : Value} {w' : World}
    (hr : (Builtin.append_ #[t, t] ty #[v, .slice (some a) m c]).run P w = .ok v' w') : Moved w v v' := by
  rcases hown.2 with ⟨rfl, rfl⟩ | ⟨g, cap, cur, rfl, hbg, hg, hnc, hcm, hcs, htake⟩
  · obtain ⟨v2, w2, h2, h3, _, _⟩ := run_append_own (P := P) w w.heap.size t ty e i z size bytes ht hi hz hsize hby hzs hsz _ 0 [] (World.ownsRow_nil w _ e size) a m c news hl hnews h1 h63 hbytes (Nat.le_refl _)
    rw [h2] at hr
    injection hr with hr _
    subst hr
    exact .inr fun k hk => (h3.lt k hk).1
  · subst hsize
    subst hby
    by_cases hroom : n + m ≤ cap
    · have hfit : n * i.size + news.length ≤ cur.size := by rw [hl, hcs, ← Nat.add_mul]; exact Nat.mul_le_mul_right _ hroom
      have h2 := run_append_room (P := P) w t ty e i ht hi g n cap cur hg a m c news hl hnews h1 hroom hfit
      rw [h2] at hr
      injection hr with hr _
      subst hr
      exact .inl rfl
    · have hsmall : n + m ≤ 9223372036854775807 := by simp only [maxLen] at h63; omega
      have holds : ∀ j u, xs[j]? = some u → w.cell? ((⟨g, 0, none⟩ : Addr).add j) = some u := hown.cells (g := g) rfl
      have h2 := run_append_grow (P := P) w t ty e i z ht hi hz ⟨g, 0, none⟩ n cap xs hown.1 holds a m c news hl hnews (by omega) (by omega) (growslice_fits (by omega) hbytes)
      rw [h2] at hr
      injection hr with hr _
      subst hr
      exact .inr fun k hk => by simp [Value.ownBlock] at hk; omega
theorem wpList_appM {P : Program} {w : World} {ops : Array Oper} {rest : List Oper} {o : Oper} {a : Act} {Q : Exit → Act → World → Prop} (base : Nat) (e : TypeId) (hgd : o.guard = none) (s x : Operand) (t : TypeId)
    (ho : o.op = .call { callee := .builtin .append, args := #[s, x], argTypes := #[t, t] })
    {i : TypeInfo} {z : Value} {size bytes : Nat} (ht : P.underlying t = some (.slice e)) (hinf : P.info? e = some i ∧ i.zero = some z ∧ i.size = size ∧ i.bytes = bytes)
    (hzs : z.cells.size = size) (hsz : 0 < size)
    {v : Value} {n : Nat} {xs : List Value} (hs : a.eval s = v) (hown : w.ownsRow base e size v n xs)
    {B : Nat} {A : Option Addr} {m c : Nat} {news : List Value} (hx : a.eval x = .slice A m c) (hr : Sl w B A size m news) (h1 : ∀ u ∈ news, u.oneCell' = true)
    (hn : n ≤ 10000000) (hm : m ≤ 10000000) (hb : bytes ≤ 1000) (hB : base ≤ w.heap.size)
    (h : ∀ v' w', w'.ownsRow base e size v' (n + m) (xs ++ news) → w.grownBy w' v.ownBlock → Below base w w' → Moved w v v' → wpList P ops Q rest (a.put o.dst v') w') :
    wpList P ops Q (o :: rest) a w := by
  refine wpList_plain hgd fun K hK => ?_
  obtain ⟨hi, hz0, hz1, hz2⟩ := hinf
  have key : ∃ v' w', (Builtin.append_ #[t, t] o.type #[v, .slice A m c]).run P w = .ok v' w' ∧ w'.ownsRow base e size v' (n + m) (xs ++ news) ∧ w.grownBy w' v.ownBlock ∧ Moved w v v' := by
    have h63 : n + m ≤ maxLen := by simp only [maxLen]; omega
    have hby : (n + m) * bytes ≤ 140737488355328 := by
      have : (n + m) * bytes ≤ (10000000 + 10000000) * 1000 := Nat.mul_le_mul (by omega) hb
      omega
    rcases A with _ | ad
    · have hm0 : m = 0 := by
        rcases Nat.eq_zero_or_pos m with h0 | h0
        · exact h0
        · obtain ⟨b, o, h, _⟩ := hr.2 h0; cases h
      subst hm0
      have hn0 : news = [] := List.eq_nil_of_length_eq_zero (by simpa using hr.1)
      subst hn0
      exact ⟨v, w, run_app_nil w base t o.type e i size ht hi v n xs hown c, by simpa using hown, ⟨rfl, rfl, rfl, Nat.le_refl _, fun _ _ _ => rfl⟩, .inl rfl⟩
    · have hnews : ∀ j u, news[j]? = some u → w.cell? (ad.add j) = some u := by
        intro j u hu
        rcases Nat.eq_zero_or_pos m with h0 | h0
        · subst h0
          have hn0 : news = [] := List.eq_nil_of_length_eq_zero (by simpa using hr.1)
          subst hn0; simp at hu
        · obtain ⟨b, o', hab, _, hc⟩ := hr.2 h0
          injection hab with hab; subst hab
          have hadd : (⟨b, o', none⟩ : Addr).add j = ⟨b, o' + j, none⟩ := by unfold Addr.add; split <;> simp_all
          rw [hadd]; exact hc j u hu
      obtain ⟨v', w', hrun, h2, h3, _⟩ := run_append_own (P := P) w base t o.type e i z size bytes ht hi hz0 hz1 hz2 hzs hsz v n xs hown ad m c news hr.1 hnews h1 h63 hby hB
      exact ⟨v', w', hrun, h2, h3, append_moves ht hi hz0 hz1 hz2 hzs hsz hown hr.1 hnews h1 h63 hby hrun⟩
  obtain ⟨v', w', hrun, h2, h3, h4⟩ := key
  unfold Oper.wp execOp
  simp only [ho, resolve, invoke, builtin, Sem.run_bind, Sem.run_pure, Result.andThen_ok, List.map_toArray, List.map_cons, List.map_nil, hs, hx, hrun]
  exact hK _ _ (h v' w' h2 h3 ((Below.refl base w).grown h3 hB fun k hk => (hown.lt k hk).1) h4)
theorem rx_info : (Try.prog.info? 26).map (fun i => (i.zero, i.size, i.bytes)) = some (some (.agg #[.int .i64 0, .string ⟨#[]⟩, .bool false, .slice none 0 0, .int .i64 0, .int .i64 0, .bool false, .slice none 0 0]), 8, 104) := by kernel_rfl
theorem row_info : (Try.prog.info? 47).map (fun i => (i.zero, i.size, i.bytes)) = some (some (.agg #[.string ⟨#[]⟩, .string ⟨#[]⟩]), 2, 32) := by kernel_rfl
theorem rcells_one (rs : List (Str × Str)) : ∀ u ∈ rcells rs, u.oneCell' = true := by
  intro u hu
  simp only [rcells, List.mem_flatMap] at hu
  obtain ⟨r, _, hr⟩ := hu
  simp only [List.mem_cons, List.not_mem_nil, or_false] at hr
  rcases hr with rfl | rfl <;> rfl
theorem RxV.one {w : World} {S : Nat → Prop} {c : List Value} {x : Rx} (h : RxV w S c x) : ∀ u ∈ c, u.oneCell' = true := by
  cases h
  intro u hu
  simp only [rxc, List.mem_cons, List.not_mem_nil, or_false] at hu
  rcases hu with rfl | rfl | rfl | rfl | rfl | rfl | rfl | rfl <;> rfl
theorem RxVs.one {w : World} {S : Nat → Prop} : ∀ {css : List (List Value)} {xs : List Rx}, RxVs w S css xs → ∀ u ∈ css.flatten, u.oneCell' = true
  | _, _, .nil, u, hu => by simp at hu
  | _, _, .cons h1 h2, u, hu => by
    rw [List.flatten_cons, List.mem_append] at hu
    rcases hu with hu | hu
    · exact h1.one u hu
    · exact h2.one u hu
/-- Parts in a row that the call owns; what they lead to lies from block B on, and not in that row. -/
def OwnX (w : World) (B : Nat) (v : Value) (xs : List Rx) : Prop :=
  ∃ css, w.ownsRow B 26 8 v xs.length css.flatten ∧ RxVs w (fun b => B ≤ b ∧ v.ownBlock ≠ some b) css xs
theorem OwnX.nil (w : World) (B : Nat) : OwnX w B (.slice none 0 0) [] := ⟨[], World.ownsRow_nil _ _ _ _, .nil⟩
theorem own_below {w w' : World} {B : Nat} {e : TypeId} {sz : Nat} {v : Value} {n : Nat} {xs : List Value} (h : w.ownsRow B e sz v n xs) (hb : Below w.heap.size w w') : w'.ownsRow B e sz v n xs := by
  refine ⟨h.1, ?_⟩
  rcases h.2 with h0 | ⟨g, cap, cur, rfl, h1, h2, h3⟩
  · exact .inl h0
  · exact .inr ⟨g, cap, cur, rfl, h1, (hb.block g (heap_lt h2)).trans h2, h3⟩
theorem OwnX.later {w w' : World} {B : Nat} {v : Value} {xs : List Rx} (h : OwnX w B v xs) (hb : Below w.heap.size w w') : OwnX w' B v xs := by
  obtain ⟨css, h1, h2⟩ := h
  exact ⟨css, own_below h1 hb, h2.later hb⟩
theorem own_setLow {w : World} {B : Nat} {e : TypeId} {sz : Nat} {v : Value} {n : Nat} {xs : List Value} (h : w.ownsRow B e sz v n xs) {a : Addr} (ha : a.block < B) (u : Value) : (w.setCell a u).ownsRow B e sz v n xs :=
  ownsRow_setCell_below h ha u
theorem Kept.setLow {w : World} {S : Nat → Prop} {a : Addr} (u : Value) (hS : ∀ b, S b → b ≠ a.block) : Kept S w (w.setCell a u) :=
  ⟨by simp [World.setCell], fun b hb _ => heap_setCell_other w a b u (hS b hb)⟩
theorem OwnX.setLow {w : World} {B : Nat} {v : Value} {xs : List Rx} (h : OwnX w B v xs) {a : Addr} (ha : a.block < B) (u : Value) : OwnX (w.setCell a u) B v xs := by
  obtain ⟨css, h1, h2⟩ := h
  exact ⟨css, own_setLow h1 ha u, h2.keep (Kept.setLow u fun b hb => by have := hb.1; omega)⟩
/-- Behind an append of parts. -/
theorem OwnX.app {w w' : World} {B : Nat} {v v' : Value} {xs ys : List Rx} {css ds : List (List Value)} {m : Nat} (hr1 : RxVs w (fun b => B ≤ b ∧ v.ownBlock ≠ some b) css xs)
    (hr2 : RxVs w (fun b => B ≤ b ∧ v.ownBlock ≠ some b) ds ys) (hm : m = ys.length)
    (ho : w'.ownsRow B 26 8 v' (xs.length + m) (css.flatten ++ ds.flatten)) (hg : w.grownBy w' v.ownBlock) (hmv : Moved w v v') : OwnX w' B v' (xs ++ ys) := by
  subst hm
  refine ⟨css ++ ds, by rw [List.flatten_append, List.length_append]; exact ho, ?_⟩
  have hS : ∀ b, (B ≤ b ∧ v.ownBlock ≠ some b) → b < w.heap.size → ((B ≤ b ∧ v.ownBlock ≠ some b) ∧ b < w.heap.size) := fun b h1 h2 => ⟨h1, h2⟩
  have hk : Kept (fun b => (B ≤ b ∧ v.ownBlock ≠ some b) ∧ b < w.heap.size) w w' := ⟨hg.size, fun b hb hlt => hg.block b hlt (fun e => hb.1.2 e.symm)⟩
  refine (((hr1.append hr2).mono hS).keep hk).mono fun b hb _ => ⟨hb.1.1, fun e => ?_⟩
  rcases hmv with h | h
  · exact hb.1.2 (h ▸ e)
  · have := h b e; omega
/-- .. read as a slice of parts. -/
theorem OwnX.sl {w : World} {B : Nat} {a : Option Addr} {n c : Nat} {xs : List Rx} (h : OwnX w B (.slice a n c) xs) : n = xs.length ∧ RxSl w (fun b => B ≤ b) a xs.length xs := by
  obtain ⟨css, h1, h2⟩ := h
  have hn : n = xs.length := by
    rcases h1.2 with ⟨h, h0⟩ | ⟨g, cap, cur, h, _⟩
    · injection h with _ h _; omega
    · injection h with _ h _
  subst hn
  refine ⟨rfl, css, ⟨(Sl.of_own h1).1, fun hn => ?_⟩, h2.mono fun b hb _ => hb.1⟩
  obtain ⟨b, o, e, hlt, hc⟩ := (Sl.of_own h1).2 hn
  subst e
  exact ⟨b, o, rfl, (h1.lt b rfl).1, hlt, hc⟩
theorem bel2 {W w0 w1 : World} (h : Below W.heap.size W w0) (h1 : Below w0.heap.size w0 w1) : Below W.heap.size W w1 := h.trans (h1.mono h.size)
theorem bx_cells {w : World} {g : Nat} {k : Int} {c : Str} {ng : Bool} {ra : Option Addr} {rn rc : Nat} {lo hi : Int} {lz : Bool} {ka : Option Addr} {kn kc : Nat}
    (h : w.heap[g]? = some (.cells #[.int .i64 k, .string ⟨(c).toArray⟩, .bool ng, .slice ra rn rc, .int .i64 lo, .int .i64 hi, .bool lz, .slice ka kn kc] 26 (0, 0))) :
    w.cell? ⟨g, 0, none⟩ = some (.int .i64 k) ∧ w.cell? ⟨g, 1, none⟩ = some (.string ⟨(c).toArray⟩) ∧ w.cell? ⟨g, 2, none⟩ = some (.bool ng) ∧ w.cell? ⟨g, 3, none⟩ = some (.slice ra rn rc) ∧
    w.cell? ⟨g, 4, none⟩ = some (.int .i64 lo) ∧ w.cell? ⟨g, 5, none⟩ = some (.int .i64 hi) ∧ w.cell? ⟨g, 6, none⟩ = some (.bool lz) ∧ w.cell? ⟨g, 7, none⟩ = some (.slice ka kn kc) ∧
    ∀ i, i < 8 → w.frozen? ⟨g, i, none⟩ = false := by
  refine ⟨?_, ?_, ?_, ?_, ?_, ?_, ?_, ?_, ?_⟩
  · rw [Lib.cell_of_heap h]; rfl
  · rw [Lib.cell_of_heap h]; rfl
  · rw [Lib.cell_of_heap h]; rfl
  · rw [Lib.cell_of_heap h]; rfl
  · rw [Lib.cell_of_heap h]; rfl
  · rw [Lib.cell_of_heap h]; rfl
  · rw [Lib.cell_of_heap h]; rfl
  · rw [Lib.cell_of_heap h]; rfl
  · intro i hi; simp only [World.frozen?, h]; simp
end Go.Proofs.Ytemophfieihgaaa
namespace Go.Proofs.Ytemophfieihgaaa
open Go.RowKit
theorem own_slS {w : World} {B : Nat} {e : TypeId} {sz : Nat} {a : Option Addr} {n c : Nat} {xs : List Value} (h : w.ownsRow B e sz (.slice a n c) n xs) : SlS w (fun b => B ≤ b) a sz n xs := by
  refine ⟨(Sl.of_own h).1, fun hn => ?_⟩
  obtain ⟨b, o, e, hlt, hc⟩ := (Sl.of_own h).2 hn
  subst e
  exact ⟨b, o, rfl, (h.lt b rfl).1, hlt, hc⟩
set_option maxHeartbeats 1000000 in
theorem SClone_any (a : Option Addr) (n c : Nat) (rs : List (Str × Str)) (w : World) (h : Sl w w.heap.size a 2 n (rcells rs)) (hn : n ≤ 1000000) :
    Calls Try.prog 44 #[.slice a n c] w fun e w' => ∃ a' c', e = .returned (.slice a' n c') ∧ SlS w' (fun b => w.heap.size ≤ b) a' 2 n (rcells rs) ∧ Below w.heap.size w w' := by
  obtain rfl := h.row_len
  obtain ⟨ir, hir⟩ := info_parts row_info
  cases a with
  | none =>
    have h0 : rs = [] := by
      rcases Nat.eq_zero_or_pos rs.length with h0 | h0
      · exact List.eq_nil_of_length_eq_zero h0
      · obtain ⟨b, o, e, _⟩ := h.2 h0; cases e
    subst h0
    have hq : (binOp .eql 23 (.slice none 0 c) (.slice none 0 0)).run Try.prog w = .ok (.bool true) w := Go.run_eql_slice_nil w _ _ none 0 c Try.underlying23
    go_enter Try.func44, Try.ntmps44
    go_wp2
    go_ret
    exact ⟨none, 0, rfl, SlS.none_ _ _ _ _, Below.refl _ _⟩
  | some ad =>
    have HS := Lib.hid (h.alloc_self (.cells #[] 47))
    have hq : (binOp .eql 23 (.slice (some ad) rs.length c) (.slice none 0 0)).run Try.prog w = .ok (.bool false) w := Go.run_eql_slice_nil w _ _ (some ad) _ c Try.underlying23
    clear h
    go_enter Try.func44, Try.ntmps44
    go_wp2_with (at_builtin; refine wpList_appM w.heap.size 47 rfl _ _ 23 rfl Try.underlying23 hir rfl (by decide) rfl (World.ownsRow_made w #[] 0 (Nat.le_refl _) (by simp [maxLen]) rfl) rfl HS.out (rcells_one rs) (by omega) (by omega) (by decide) (by simp) ?_)
    intro v1 w1 ho1 hg1 hb1 _
    obtain ⟨a1, c1, rfl⟩ := own_form ho1
    go_wp2
    go_ret
    refine ⟨a1, c1, by simp, by simpa using own_slS ho1, ((Below.refl _ _).alloc (Nat.le_refl _) _).trans hb1⟩
end Go.Proofs.Ytemophfieihgaaa
