/- append([]byte, s...), s a string, with a word on where the new row lies. -/
import Derived.Test.YtiohiiekaofkbaaPNamesPutsx0
import Derived.Room.AppendFits
namespace Go.Proofs.Ytiohiiekaofkbaa.PNamesPuts
open Go.RowKit Go.Proofs.YtiohiiekaofkbaaW.PrintWords Go.Lib
section
variable {P : Program} {ops : Array Oper} {rest : List Oper} {o : Oper} {a : Act} {Q : Exit → Act → World → Prop}
theorem append_str_at {w0 W : World} (base : Nat) (hgd : o.guard = none) (s x : Operand) (t u e : TypeId)
    (ho : o.op = .call { callee := .builtin .append, args := #[s, x], argTypes := #[t, u] })
    (ht : P.underlying t = some (.slice e)) (hu : P.underlying u = some .string) (hinfo : (P.info? e).map (fun i => (i.zero, i.size, i.bytes)) = some (some (.int .u8 0), 1, 1))
    (v : Value) (xs : List Int) (y : ByteArray) (hs : a.eval s = v) (hx : a.eval x = .string y)
    (HO : W.ownsRow base e 1 v xs.length (nums .u8 xs)) (HB : Below base w0 W) (hbase : base ≤ W.heap.size) (hl : xs.length + y.size ≤ 140737488355328)
    (h : ∀ v1 w1, w1.ownsRow base e 1 v1 (xs ++ bytesOf y).length (nums .u8 (xs ++ bytesOf y)) → Below base w0 w1 → W.grownBy w1 v.ownBlock → (∀ k, v1.ownBlock = some k → v.ownBlock = some k ∨ W.heap.size ≤ k) → wpList P ops Q rest (a.put o.dst v1) w1) :
    wpList P ops Q (o :: rest) a W := by
  obtain ⟨i0, hi, hzz⟩ := Option.map_eq_some_iff.1 hinfo
  simp only [Prod.mk.injEq] at hzz
  obtain ⟨hz0, hz1, hz2⟩ := hzz
  refine wpList_plain hgd fun K hK => ?_
  have hm : xs.length + y.size ≤ maxLen := by simp only [maxLen]; omega
  obtain ⟨v', w', hr, h2, h3, h4⟩ := run_append_own_string (P := P) W base t u o.type e i0 ht hu hi hz0 hz1 hz2 v xs.length (nums .u8 xs) HO y hm hl hbase
  have key : ∀ k, v'.ownBlock = some k → v.ownBlock = some k ∨ W.heap.size ≤ k := by
    intro k hk
    rcases HO.2 with ⟨rfl, hn⟩ | ⟨g, cap, cur, rfl, hbg, hg, hnc, hcm, hcs, htake⟩
    · rcases Nat.eq_zero_or_pos y.size with h0 | h0
      · rw [h4.2 ⟨rfl, h0⟩] at hk
        cases hk
      · have hr' := run_append_nil_string (P := P) W t u o.type e i0 (.int .u8 0) ht hu hi hz0 y h0 (by omega) (by rw [hz2]; omega)
        rw [hr] at hr'
        injection hr' with e1 e2
        rw [e1] at hk
        simp [Value.ownBlock] at hk
        exact .inr (by omega)
    · by_cases hroom : xs.length + y.size ≤ cap
      · rcases Nat.eq_zero_or_pos cap with hc | hc
        · have hy : y.size = 0 := by omega
          have hx0 : xs.length = 0 := by omega
          have hr' := run_append_room_string (P := P) W t u o.type e i0 ht hu hi hz1 g xs.length cap cur hg y hroom (by have := hcs; simp at this; omega)
          rw [hr] at hr'
          injection hr' with e1 e2
          rw [e1] at hk
          exact .inl hk
        · obtain ⟨w2, hr', _⟩ := run_append_fits_string (P := P) W base t u o.type e i0 ht hu hi hz1 (some ⟨g, 0, none⟩) xs.length cap (nums .u8 xs) HO y hc hroom
          rw [hr] at hr'
          injection hr' with e1 e2
          rw [e1] at hk
          exact .inl hk
      · have holds : ∀ j u, (nums .u8 xs)[j]? = some u → W.cell? ((⟨g, 0, none⟩ : Addr).add j) = some u := HO.cells (g := g) rfl
        have hr' := run_append_grow_string (P := P) W t u o.type e i0 (.int .u8 0) ht hu hi hz0 ⟨g, 0, none⟩ xs.length cap (nums .u8 xs) (by rw [hz1]; simp [nums]) holds y (by omega) (by omega) (by rw [hz2]; exact growslice_fits (by omega) (by omega))
        rw [hr] at hr'
        injection hr' with e1 e2
        rw [e1] at hk
        simp [Value.ownBlock] at hk
        exact .inr (by omega)
  have hl2 : (xs ++ bytesOf y).length = xs.length + y.size := by rw [List.length_append, bytesOf_length]
  have hc : nums .u8 (xs ++ bytesOf y) = nums .u8 xs ++ Lib.strCells y := by
    rw [nums_append]
    congr 1
    simp [nums, bytesOf, Lib.strCells]
  unfold Oper.wp execOp
  simp only [ho, resolve, invoke, builtin, Sem.run_bind, Sem.run_pure, Result.andThen_ok, List.map_toArray, List.map_cons, List.map_nil, hs, hx, hr]
  exact hK _ _ (h v' w' (by rw [hl2, hc]; exact h2) (HB.grown h3 hbase (own_base HO)) h3 key)
end
end Go.Proofs.Ytiohiiekaofkbaa.PNamesPuts
