/- Try: something is done with a cursor; where it gives up is told. -/
import Derived.Test.YtiohiiekaofkbaaDoorC2
import Derived.Defers
import Derived.Recover
import Derived.Laws.Pointers
namespace Go.Proofs.YtiohiiekaofkbaaDoor
set_option linter.unusedVariables false
set_option linter.unusedSimpArgs false
open Go.RowKit

/-- all but two blocks is as it was -/
structure Off2 (B C : Nat) (w w' : World) : Prop where
  os : w'.os = w.os
  tape : w'.tape = w.tape
  output : w'.output = w.output
  size : w.heap.size ≤ w'.heap.size
  block : ∀ k, k < w.heap.size → k ≠ B → k ≠ C → w'.heap[k]? = w.heap[k]?

set_option maxHeartbeats 2000000 in
theorem try1_idle (a b : Addr) (w : World) :
    CallsD Tryd.prog 91 #[.pointer (some a), .pointer (some b)] .returning w fun e u' w' => e = .returned (.tuple #[]) ∧ u' = .returning ∧ w' = w := by
  refine callsD_of_wpS Tryd.func91 rfl fun c₀ cs hu => ?_
  apply wpS_seq
  apply wpS_region
  generalize hQ : Exit.thenS (Code.wpS _ _ _) _ = Q
  simp [wpOpsS, go_sem, recoverD, hu, Tryd.ntmps91]
  subst hQ
  simp only [Exit.thenS]
  refine wpS_of_wp ?_
  generalize hQ : (fun e a' w' => _) = Q
  simp only [Array.replicate_succ, Array.replicate_zero, List.push_toArray, List.append_toArray, List.setIfInBounds_toArray, List.set_cons_zero, List.set_cons_succ, List.nil_append, List.cons_append]
  go_wp2
  subst hQ
  cases c₀
  simp_all [bodyPostS, results, Tryd.results91]
theorem as_stop (v : Value) (xT : TypeId) (w : World) : (Instr.typeAssert (.iface 138 v) xT 138 true).run Tryd.prog w = .ok (.tuple #[v, .bool true]) w := by kernel_rfl
theorem off2_end {r r2 : Nat} {x y : Value} {w : World} (u v : Value) (o : Obj) (hne : r2 ≠ r) (h0 : w.cell? ⟨r, 0, none⟩ = some x) (h1 : w.cell? ⟨r2, 0, none⟩ = some y) :
    Off2 r r2 w ((((w.setCell ⟨r, 0, none⟩ u).setCell ⟨r2, 0, none⟩ v).alloc o).drew) ∧ ((((w.setCell ⟨r, 0, none⟩ u).setCell ⟨r2, 0, none⟩ v).alloc o).drew).cell? ⟨r, 0, none⟩ = some u ∧ ((((w.setCell ⟨r, 0, none⟩ u).setCell ⟨r2, 0, none⟩ v).alloc o).drew).cell? ⟨r2, 0, none⟩ = some v := by
  have z0 := cell_lt h0
  have z1 := cell_lt h1
  refine ⟨⟨rfl, rfl, rfl, by simp, fun k hk k0 k1 => ?_⟩, ?_, ?_⟩
  · have e : ∀ W : World, k < W.heap.size → (W.alloc o).heap[k]? = W.heap[k]? := fun W hW => ((Below.refl W.heap.size W).alloc (Nat.le_refl _) o).block k hW
    show (((w.setCell ⟨r, 0, none⟩ u).setCell ⟨r2, 0, none⟩ v).alloc o).heap[k]? = _
    rw [e _ (by simp; exact hk), heap_setCell_other _ _ _ _ k1, heap_setCell_other _ _ _ _ k0]
  · show (((w.setCell ⟨r, 0, none⟩ u).setCell ⟨r2, 0, none⟩ v).alloc o).cell? ⟨r, 0, none⟩ = some u
    rw [World.cell?_alloc_lt _ _ _ (by simp; exact z0), World.cell?_setCell_far _ _ _ _ (fun e => hne e)]
    apply World.cell?_setCell_same; exact h0
  · show (((w.setCell ⟨r, 0, none⟩ u).setCell ⟨r2, 0, none⟩ v).alloc o).cell? ⟨r2, 0, none⟩ = some v
    rw [World.cell?_alloc_lt _ _ _ (by simp; exact z1)]
    apply World.cell?_setCell_same
    rw [World.cell?_setCell_far _ _ _ _ (fun e => hne e.symm)]
    exact h1
set_option maxHeartbeats 2000000 in
theorem try1_stop (r r2 : Nat) (x y : Value) (p er : Int) (older : List PanicEntry) (w : World) (hne : r2 ≠ r) (h0 : w.cell? ⟨r, 0, none⟩ = some x) (h1 : w.cell? ⟨r2, 0, none⟩ = some y) (f0 : w.frozen? ⟨r, 0, none⟩ = false) (f1 : w.frozen? ⟨r2, 0, none⟩ = false) :
    CallsD Tryd.prog 91 #[.pointer (some ⟨r, 0, none⟩), .pointer (some ⟨r2, 0, none⟩)] (.panicking ({ v := stopV p er, recovered := false } :: older)) w fun e u' w' =>
      e = .returned (.tuple #[]) ∧ u' = .panicking ({ v := stopV p er, recovered := true } :: older) ∧ Off2 r r2 w w' ∧ w'.cell? ⟨r, 0, none⟩ = some (.int .i64 p) ∧ w'.cell? ⟨r2, 0, none⟩ = some (.int .i64 er) := by
  have hz0 := cell_lt h0
  have hz1 := cell_lt h1
  refine callsD_of_wpS Tryd.func91 rfl fun c₀ cs hu => ?_
  apply wpS_seq
  apply wpS_region
  generalize hQ : Exit.thenS (Code.wpS _ _ _) _ = Q
  simp [wpOpsS, go_sem, recoverD, hu, Tryd.ntmps91]
  subst hQ
  simp only [Exit.thenS]
  refine wpS_of_wp ?_
  generalize hQ : (fun e a' w' => _) = Q
  simp only [Array.replicate_succ, Array.replicate_zero, List.push_toArray, List.append_toArray, List.setIfInBounds_toArray, List.set_cons_zero, List.set_cons_succ, List.nil_append, List.cons_append]
  unfold stopV
  have HQ := hid hQ
  clear hQ
  have hA := as_stop
  go_upto_region 3 with (fail)
  go_wp2
  go_region
  have hQ := HQ.out
  have hO := off2_end (.int .i64 p) (.int .i64 er) (.cells #[.int .i64 p, .int .i64 er] 138) hne h0 h1
  subst hQ
  refine ⟨rfl, _, rfl, .tuple #[], ?_, rfl, rfl, hO⟩
  simp [results, Tryd.results91, go_sem]

theorem off2_set {r r2 : Nat} {x y : Value} {w : World} (u v : Value) (hne : r2 ≠ r) (h0 : w.cell? ⟨r, 0, none⟩ = some x) (h1 : w.cell? ⟨r2, 0, none⟩ = some y) :
    Off2 r r2 w ((w.setCell ⟨r, 0, none⟩ u).setCell ⟨r2, 0, none⟩ v) ∧ ((w.setCell ⟨r, 0, none⟩ u).setCell ⟨r2, 0, none⟩ v).cell? ⟨r, 0, none⟩ = some u ∧ ((w.setCell ⟨r, 0, none⟩ u).setCell ⟨r2, 0, none⟩ v).cell? ⟨r2, 0, none⟩ = some v := by
  refine ⟨⟨rfl, rfl, rfl, by simp, fun k hk k0 k1 => ?_⟩, ?_, ?_⟩
  · rw [heap_setCell_other _ _ _ _ k1, heap_setCell_other _ _ _ _ k0]
  · rw [World.cell?_setCell_far _ _ _ _ (fun e => hne e)]
    apply World.cell?_setCell_same; exact h0
  · apply World.cell?_setCell_same
    rw [World.cell?_setCell_far _ _ _ _ (fun e => hne e.symm)]
    exact h1
/-- what is asked of what is done with the cursor g: it keeps the two blocks ahead of it; it ends, or gives up -/
def Does (B : Nat) (A : Option Addr) (c : Nat) (l : List Int) (Dn : Int → World → Prop) (St : Int → Int → World → Prop) (W : World) (e : Ending) (w' : World) : Prop :=
  W.heap.size ≤ w'.heap.size ∧ (∀ i, i = B ∨ i = B + 1 → w'.heap[i]? = W.heap[i]?) ∧ ((e = .returned (.tuple #[]) ∧ ∃ p lim, Cu (B + 1 + 1) (.slice A l.length c) p lim w' ∧ Dn p w') ∨ (∃ p er, Stops p er e ∧ St p er w'))

set_option maxHeartbeats 4000000 in
theorem try_walk (A : Option Addr) (c : Nat) (l : List Int) (w : World) (k : Nat) (caps : Array Value) (Dn : Int → World → Prop) (St : Int → Int → World → Prop) (hE : Enters k)
    (hd : ∀ W, Below w.heap.size w W → W.heap.size = w.heap.size + 1 + 1 + 1 → Cu (w.heap.size + 1 + 1) (.slice A l.length c) 0 (-1) W → Calls Tryd.prog k (#[.pointer (some ⟨w.heap.size + 1 + 1, 0, none⟩)] ++ caps) W (Does w.heap.size A c l Dn St W)) :
    Calls Tryd.prog 43 #[.slice A l.length c, .func (.func k) #[] caps] w (fun e w'' => ∃ w', Off2 w.heap.size (w.heap.size + 1) w' w'' ∧ ((∃ p, e = .returned (.tuple #[.int .i64 p, .int .i64 0]) ∧ Dn p w') ∨ (∃ p er, e = .returned (.tuple #[.int .i64 p, .int .i64 er]) ∧ St p er w'))) := by
  have hmf : ∀ (fn : Fn) (first cap : Array Value) (w : World), (Instr.makeFunc fn first cap).run Tryd.prog w = .ok (.func fn first cap) w := fun _ _ _ _ => rfl
  have HD := hid hd
  have HE : ∀ (args : Array Value) (w : World), (callFunc k args).run Tryd.prog w = .ok (.enter k args) w := hE
  clear hd hE
  go_enter_defers Tryd.func43, Tryd.ntmps43
  go_upto_region 3 with (fail)
  have hB : Below w.heap.size w (((w.alloc (.cells #[.int .i64 0] 3)).alloc (.cells #[.int .i64 0] 28)).alloc (.cells #[.slice A l.length c, .int .i64 0, .int .i64 (-1)] 136)) := (by repeat (first | exact Below.refl _ _ | assumption | refine Below.alloc ?_ (by first | exact Nat.le_refl _ | (simp; done) | (simp; omega) | omega) _ | refine Below.drew ?_ | refine Below.setCell ?_ (by first | exact Nat.le_refl _ | (simp; done) | (simp; omega) | omega) _ | refine below_call ?_ (by assumption) (by first | exact Nat.le_refl _ | (simp; done) | (simp; omega) | omega)))
  have hC := HD.out _ hB (by simp) ⟨by go_simp, by go_simp, by go_simp, by go_simp, by go_simp⟩
  have HC := hid hC
  clear hC
  have E0 := hid (show (((w.alloc (.cells #[.int .i64 0] 3)).alloc (.cells #[.int .i64 0] 28)).alloc (.cells #[.slice A l.length c, .int .i64 0, .int .i64 (-1)] 136)).cell? ⟨w.heap.size, 0, none⟩ = some (.int .i64 0) by go_simp)
  have E1 := hid (show (((w.alloc (.cells #[.int .i64 0] 3)).alloc (.cells #[.int .i64 0] 28)).alloc (.cells #[.slice A l.length c, .int .i64 0, .int .i64 (-1)] 136)).cell? ⟨w.heap.size + 1, 0, none⟩ = some (.int .i64 0) by go_simp)
  have Z0 := hid (show (((w.alloc (.cells #[.int .i64 0] 3)).alloc (.cells #[.int .i64 0] 28)).alloc (.cells #[.slice A l.length c, .int .i64 0, .int .i64 (-1)] 136)).frozen? ⟨w.heap.size, 0, none⟩ = false by go_simp)
  have Z1 := hid (show (((w.alloc (.cells #[.int .i64 0] 3)).alloc (.cells #[.int .i64 0] 28)).alloc (.cells #[.slice A l.length c, .int .i64 0, .int .i64 (-1)] 136)).frozen? ⟨w.heap.size + 1, 0, none⟩ = false by go_simp)
  clear hB
  go_wp2_with (first | ((with_reducible refine HC.out.mono ?_); rintro e w1 ⟨hz, hk, (⟨rfl, p, lim, hc, hdn⟩ | ⟨p, er, rfl, hst⟩)⟩ <;> (have k0 := (World.cell?_of_block (a := ⟨w.heap.size, 0, none⟩) (hk _ (.inl rfl))).trans E0.out; have k1 := (World.cell?_of_block (a := ⟨w.heap.size + 1, 0, none⟩) (hk _ (.inr rfl))).trans E1.out; have g0 := (World.frozen?_of_block (a := ⟨w.heap.size, 0, none⟩) (hk _ (.inl rfl))).trans Z0.out; have g1 := (World.frozen?_of_block (a := ⟨w.heap.size + 1, 0, none⟩) (hk _ (.inr rfl))).trans Z1.out; have HK := hid hk; clear hk; (try have c1 := hc.c1))))
  · refine leaves_cons (f := 91) (args := #[.pointer (some ⟨w.heap.size, 0, none⟩), .pointer (some ⟨w.heap.size + 1, 0, none⟩)]) (by simp) (by simp [go_sem]) ?_
    refine (try1_idle _ _ _).mono ?_
    rintro e u' w'' ⟨rfl, rfl, rfl⟩
    obtain ⟨hO, q0, q1⟩ := off2_set (.int .i64 p) (.int .i64 0) (by omega) k0 k1
    refine ⟨.tuple #[.int .i64 p, .int .i64 0], ?_, w1, hO, .inl ⟨p, rfl, hdn⟩⟩
    simp [results, Tryd.results43, go_sem, q0, q1]
  · refine leaves_cons (f := 91) (args := #[.pointer (some ⟨w.heap.size, 0, none⟩), .pointer (some ⟨w.heap.size + 1, 0, none⟩)]) (by simp) (by simp [go_sem]) ?_
    refine (try1_stop w.heap.size (w.heap.size + 1) _ _ p er _ _ (by omega) k0 k1 g0 g1).mono ?_
    rintro e u' w'' ⟨rfl, rfl, hO, q0, q1⟩
    refine ⟨.tuple #[.int .i64 p, .int .i64 er], ?_, w1, hO, .inr ⟨p, er, rfl, hst⟩⟩
    simp [results, Tryd.results43, go_sem, q0, q1]
end Go.Proofs.YtiohiiekaofkbaaDoor
