/- asked's question for a byte; want made; the readers as asked asks them. -/
import Derived.Test.YtiohiiekaofkbaaDoorE1
import Derived.Test.YtiohiiekaofkbaaDoorE0
import Derived.Test.YtiohiiekaofkbaaDoorH0
namespace Go.Proofs.YtiohiiekaofkbaaDoor
set_option linter.unusedVariables false
set_option linter.unusedSimpArgs false
open Go.RowKit Go.Proofs.YtiohiiekaofkbaaDoor.PCursorPlaces Go.Proofs.YtiohiiekaofkbaaDoorW.PrintWords

def inB (lo hi x : Int) : Bool := decide (lo ≤ x ∧ x ≤ hi)
set_option maxHeartbeats 1000000 in
theorem asked1_any (X C g : Nat) (x lo hi p lim : Int) (A : Option Addr) (c : Nat) (l : List Int) (W : World) (h2 : W.cell? ⟨X, 2, none⟩ = some (.int .u8 lo)) (h3 : W.cell? ⟨X, 3, none⟩ = some (.int .u8 hi)) (hc : W.cell? ⟨C, 0, none⟩ = some (.pointer (some ⟨g, 0, none⟩))) (h : CB g A c l p lim W) :
    Calls Tryd.prog 105 #[.int .u8 x, .int .i64 (rest p lim), .pointer (some ⟨X, 0, none⟩), .pointer (some ⟨C, 0, none⟩)] W (fun e w' => e = .returned (.bool (inB lo hi x)) ∧ Below W.heap.size W w') := by
  have HR := hid (rest_b h)
  clear h
  by_cases q1 : lo ≤ x
  · by_cases q2 : x ≤ hi
    · go_enter Tryd.func105, Tryd.ntmps105
      go_wp2_with (first | (go_at_call 68; (with_reducible refine (HR.out _ (Below.refl _ _)).mono ?_); rintro e w1 ⟨rfl, hb1⟩))
      go_ret
      exact ⟨ret_bool (by simp [inB, q1, q2]), hb1⟩
    · go_enter Tryd.func105, Tryd.ntmps105
      go_wp2
      go_ret
      exact ⟨ret_bool (by simp [inB]; omega), Below.refl _ _⟩
  · go_enter Tryd.func105, Tryd.ntmps105
    go_wp2
    go_ret
    exact ⟨ret_bool (by simp [inB]; omega), Below.refl _ _⟩
/-- a byte as it is asked -/
theorem abyte_walk (g X C : Nat) (A : Option Addr) (c : Nat) (l : List Int) (p lim lo hi : Int) (w : World) (h : CB g A c l p lim w) (hX : X ≠ g) (hC : C ≠ g) (h2 : w.cell? ⟨X, 2, none⟩ = some (.int .u8 lo)) (h3 : w.cell? ⟨X, 3, none⟩ = some (.int .u8 hi)) (hc : w.cell? ⟨C, 0, none⟩ = some (.pointer (some ⟨g, 0, none⟩))) :
    Calls Tryd.prog 94 #[.pointer (some ⟨g, 0, none⟩), .func (.func 105) #[] #[.pointer (some ⟨X, 0, none⟩), .pointer (some ⟨C, 0, none⟩)]] w (Post g A c l lim w (byteM (fun x _ => inB lo hi x) l p lim)) :=
  byte_walk2 g A c l p lim w 105 #[.pointer (some ⟨X, 0, none⟩), .pointer (some ⟨C, 0, none⟩)] (fun x _ => inB lo hi x) (enters Tryd.func105 (by kernel_rfl) rfl) h
    (fun x W _ _ hW hB => asked1_any X C g x lo hi (p + 1) lim A c l W (hW.cell hX h2) (hW.cell hX h3) (hW.cell hC hc) hB)
theorem byteU_ok {lo hi lim p : Int} {l : List Int} : (∃ x, byteM (fun x _ => inB lo hi x) l p lim = .ok (.int .u8 x, p + 1) ∧ byteU lo hi lim p l = .ok ((), p + 1)) ∨ (∃ s, byteM (fun x _ => inB lo hi x) l p lim = .error s ∧ byteU lo hi lim p l = .error s) := by
  unfold byteM byteU nc
  rcases nextR l p lim with s | x
  · exact .inr ⟨s, rfl, rfl⟩
  · simp only
    by_cases q : lo ≤ x ∧ x ≤ hi
    · exact .inl ⟨x, by simp [inB, q], by simp [q]⟩
    · exact .inr ⟨(p, 2), by simp [inB, q], by simp [q]⟩
set_option maxHeartbeats 1000000 in
/-- a want is boxed -/
theorem want_any (x : S152) (A : Option Addr) (c : Nat) (w : World) :
    Calls Tryd.prog 108 #[.agg #[.int .i64 x.f0, .int .u64 x.f1, .int .u64 x.f2, .int .i64 x.f3.f0, .int .i64 x.f3.f1, .int .i64 x.f4.f0, .int .i64 x.f4.f1, .int .i64 x.f5.f0, .int .i64 x.f5.f1, .slice A x.f6.length c]] w
      (fun e w' => ∃ B, e = .returned (.func (.func 147) #[] #[.pointer (some ⟨B, 0, none⟩)]) ∧ w.heap.size ≤ B ∧ BoxQ B x A c w' ∧ Below w.heap.size w w') := by
  have hmf : ∀ (fn : Fn) (first cap : Array Value) (w : World), (Instr.makeFunc fn first cap).run Tryd.prog w = .ok (.func fn first cap) w := fun _ _ _ _ => rfl
  go_enter Tryd.func108, Tryd.ntmps108
  go_wp2
  go_ret
  exact ⟨w.heap.size, rfl, Nat.le_refl _, ⟨by go_simp, by go_simp, by go_simp, by go_simp, by go_simp, by go_simp, by go_simp, by go_simp, by go_simp, by go_simp⟩, (by repeat (first | exact Below.refl _ _ | assumption | refine Below.alloc ?_ (by first | exact Nat.le_refl _ | (simp; done) | (simp; omega) | omega) _ | refine Below.drew ?_ | refine Below.setCell ?_ (by first | exact Nat.le_refl _ | (simp; done) | (simp; omega) | omega) _ | refine below_call ?_ (by assumption) (by first | exact Nat.le_refl _ | (simp; done) | (simp; omega) | omega)))⟩
end Go.Proofs.YtiohiiekaofkbaaDoor
