/- Contract of near: eleven numbers in a new row. -/
import Derived.Test.YtlpocahflolmpaaDoorB7
namespace Go.Proofs.YtlpocahflolmpaaDoor
set_option linter.unusedVariables false
set_option linter.unusedSimpArgs false
open Go.RowKit

def nearL (lo hi : Int) (k : Nat) : List Int := [0, 1, 2, 4294967295] ++ (List.range k).flatMap fun (d : Nat) => [lo + (d : Int) - 1, hi + (d : Int) - 1]
def nearAll (lo hi : Int) : List Int := nearL lo hi 3 ++ [(lo + hi) / 2]
def iv (l : List Int) : List Value := l.map (Value.int .i64)
theorem nearL_len (lo hi : Int) (k : Nat) : (nearL lo hi k).length = 4 + 2 * k := by
  induction k with
  | zero => rfl
  | succ k ih => simp [nearL, List.range_succ, List.flatMap_append] at ih ⊢; omega
theorem nearL_succ (lo hi : Int) (k : Nat) : nearL lo hi (k + 1) = nearL lo hi k ++ [lo + k - 1, hi + k - 1] := by
  simp [nearL, List.range_succ, List.flatMap_append]

def NearPost (w : World) (lo hi : Int) (e : Ending) (w' : World) : Prop := ∃ v, e = .returned v ∧ w'.ownsRow (w.heap.size + 1) 3 1 v 11 (iv (nearAll lo hi)) ∧ Below w.heap.size w w'

theorem info3 : (Tryd.prog.info? 3).map (fun i => (i.zero, i.size, i.bytes)) = some (some (.int .i64 0), 1, 8) := by kernel_rfl

theorem two_new (w : World) (a b : Value) (t : TypeId) : ∀ (j : Nat) (u : Value), [a, b][j]? = some u → (w.alloc (.cells #[a, b] t)).cell? ((⟨w.heap.size, 0, none⟩ : Addr).add j) = some u := by
  intro j u h
  match j, h with
  | 0, h => simp at h; subst h; simp [Addr.add, World.cell?_alloc_new]
  | 1, h => simp at h; subst h; simp [Addr.add, World.cell?_alloc_new]
  | j + 2, h => simp at h
theorem one_new (w : World) (a : Value) (t : TypeId) : ∀ (j : Nat) (u : Value), [a][j]? = some u → (w.alloc (.cells #[a] t)).cell? ((⟨w.heap.size, 0, none⟩ : Addr).add j) = some u := by
  intro j u h
  match j, h with
  | 0, h => simp at h; subst h; simp [Addr.add, World.cell?_alloc_new]
  | j + 1, h => simp at h

/-- what stays behind an append onto an own row -/
theorem app_keep {B : Nat} {w wr w1 : World} {o : Obj} {v : Value} {e : TypeId} {size n : Nat} {xs : List Value} (hB : Below w.heap.size w wr) (hs : w.heap.size < wr.heap.size) (ho : wr.ownsRow (w.heap.size + 1) e size v n xs) (hg : (wr.alloc o).grownBy w1 v.ownBlock) :
    (∀ q, w1.cell? ⟨w.heap.size, q, none⟩ = wr.cell? ⟨w.heap.size, q, none⟩) ∧ w.heap.size < w1.heap.size ∧ Below w.heap.size w w1 := by
  have hl := ho.lt
  refine ⟨fun q => ?_, ?_, ?_⟩
  · have h1 := hg.block w.heap.size (by simp; omega) (fun h => by have := (hl _ h.symm).1; omega)
    rw [World.cell?_of_block (w := wr.alloc o) (a := ⟨w.heap.size, q, none⟩) h1]
    exact World.cell?_of_block (w := wr) (Below.heap_alloc _ _ _ hs)
  · have := hg.size; simp at this; omega
  · exact (hB.alloc (by omega) o).grown hg (by simp; omega) (fun k hk => by have := (hl _ hk).1; omega)

set_option maxHeartbeats 1000000 in
theorem near_any (lo hi : Int) (w : World) (h1 : 0 ≤ lo) (h2 : lo ≤ 1099511627776) (h3 : 0 ≤ hi) (h4 : hi ≤ 1099511627776) :
    Calls Tryd.prog 12 #[.agg #[.int .u64 lo, .int .u64 hi]] w (NearPost w lo hi) := by
  obtain ⟨i0, hi0, hz0, hz1, hz2⟩ := info_parts info3
  go_enter Tryd.func12, Tryd.ntmps12
  go_wp2
  go_loopw [3, 4] (fun v i wr => ∃ k : Nat, k ≤ 3 ∧ i = .int .i64 k ∧ wr.ownsRow (w.heap.size + 1) 3 1 v (4 + 2 * k) (iv (nearL lo hi k)) ∧ wr.cell? ⟨w.heap.size, 0, none⟩ = some (.int .u64 lo) ∧ wr.cell? ⟨w.heap.size, 1, none⟩ = some (.int .u64 hi) ∧ w.heap.size < wr.heap.size ∧ Below w.heap.size w wr) (fun _ i wr => 3 - (intOf i).toNat)
  case atStart =>
    refine ⟨0, by omega, rfl, ?_, ?_, ?_, by simp <;> omega, (by repeat (first | exact Below.refl _ _ | assumption | refine Below.alloc ?_ (by first | exact Nat.le_refl _ | (simp; done) | (simp; omega) | omega) _ | refine Below.drew ?_ | refine Below.setCell ?_ (by first | exact Nat.le_refl _ | (simp; done) | (simp; omega) | omega) _ | refine below_call ?_ (by assumption) (by first | exact Nat.le_refl _ | (simp; done) | (simp; omega) | omega)))⟩
    · have e1 : ((w.alloc (Obj.cells #[Value.int IntKind.u64 lo, Value.int IntKind.u64 hi] 27)).heap.size) = w.heap.size + 1 := by simp
      rw [← e1]
      refine World.ownsRow_lit (w.alloc (Obj.cells #[Value.int IntKind.u64 lo, Value.int IntKind.u64 hi] 27)) #[Value.int IntKind.i64 0, Value.int IntKind.i64 1, Value.int IntKind.i64 2, Value.int IntKind.i64 4294967295] 4 ?_ ?_ ?_
      · simp
      · decide
      · rfl
    · simp [World.cell?_alloc_new]
    · simp [World.cell?_alloc_new]
  case round =>
    obtain ⟨k, hk, rfl, hown, hc0, hc1, hsz, hbel⟩ := hrel
    have hbs := hbel.size
    have HB := hid hbel
    have HO := hid hown
    clear hbel hown
    by_cases hlt : k < 3
    · go_wp2_with (first | (at_builtin; refine wpList_append_own _ rfl _ _ 31 rfl (w.heap.size + 1) 3 i0 (.int .i64 0) 1 8 Tryd.underlying31 hi0 hz0 hz1 hz2 rfl (by decide) _ _ _ rfl (HO.out.alloc _) ⟨wr.heap.size, 0, none⟩ 2 2 [.int .i64 (lo + k - 1), .int .i64 (hi + k - 1)] rfl rfl ?c1 ?c2 ?c3 ?c4 ?c5 ?c6))
      case c1 => exact two_new _ _ _ _
      case c2 => intro u hu; simp at hu; rcases hu with rfl | rfl <;> rfl
      case c3 => unfold maxLen; omega
      case c4 => omega
      case c5 => simp; omega
      case c6 =>
        intro v1 w1 hown1 hgrow _
        obtain ⟨k1, k2, k3⟩ := app_keep (B := 0) HB.out hsz HO.out hgrow
        have K1 := hid k1
        have K3 := hid k3
        have HN := hid hown1
        clear k1 k3 hown1 hgrow
        go_wp2
        go_roundw
        case rel =>
          refine ⟨k + 1, by omega, by go_num, ?_, (K1.out 0).trans hc0, (K1.out 1).trans hc1, k2, K3.out⟩
          rw [nearL_succ]
          have e1 : 4 + 2 * (k + 1) = 4 + 2 * k + 2 := by omega
          rw [e1]
          have h := HN.out
          simpa [iv] using h
        case measure => simp [intOf]; omega
    · have hk3 : k = 3 := by omega
      subst hk3
      go_wp2_with (first | (at_builtin; refine wpList_append_own _ rfl _ _ 31 rfl (w.heap.size + 1) 3 i0 (.int .i64 0) 1 8 Tryd.underlying31 hi0 hz0 hz1 hz2 rfl (by decide) _ _ _ rfl (HO.out.alloc _) ⟨wr.heap.size, 0, none⟩ 1 1 [.int .i64 ((lo + hi) / 2)] rfl rfl ?c1 ?c2 ?c3 ?c4 ?c5 ?c6))
      case c1 => exact one_new _ _ _
      case c2 => intro u hu; simp at hu; subst hu; rfl
      case c3 => unfold maxLen; omega
      case c4 => omega
      case c5 => simp; omega
      case c6 =>
        intro v1 w1 hown1 hgrow _
        obtain ⟨k1, k2, k3⟩ := app_keep (B := 0) HB.out hsz HO.out hgrow
        have K3 := hid k3
        have HN := hid hown1
        clear k1 k3 hown1 hgrow
        go_wp2
        go_ret
        exact ⟨v1, rfl, by have h := HN.out; simpa [iv, nearAll] using h, K3.out⟩

end Go.Proofs.YtlpocahflolmpaaDoor
