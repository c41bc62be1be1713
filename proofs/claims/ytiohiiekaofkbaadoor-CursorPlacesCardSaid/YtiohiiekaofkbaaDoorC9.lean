/- The readers of wtype: a byte that may be, a value type. -/
import Derived.Test.YtiohiiekaofkbaaDoorC8
import Derived.Test.YtiohiiekaofkbaaDoorC3
namespace Go.Proofs.YtiohiiekaofkbaaDoor
set_option linter.unusedVariables false
set_option linter.unusedSimpArgs false
open Go.RowKit

def byteM (m : Int → Int → Bool) (l : List Int) (p lim : Int) : Res := match nextR l p lim with | .error s => .error s | .ok x => if m x (rest (p + 1) lim) then .ok (.int .u8 x, p + 1) else .error (p, 2)
theorem byte_walk2 (g : Nat) (A : Option Addr) (c : Nat) (l : List Int) (p lim : Int) (w : World) (k : Nat) (caps : Array Value) (m : Int → Int → Bool) (hE : Enters k) (h : CB g A c l p lim w)
    (hm : ∀ x W, 0 ≤ x → x < 256 → Rd g w W → CB g A c l (p + 1) lim W → Calls Tryd.prog k (#[.int .u8 x, .int .i64 (rest (p + 1) lim)] ++ caps) W (fun e w' => e = .returned (.bool (m x (rest (p + 1) lim))) ∧ Below W.heap.size W w')) :
    Calls Tryd.prog 94 #[.pointer (some ⟨g, 0, none⟩), .func (.func k) #[] caps] w (Post g A c l lim w (byteM m l p lim)) := by
  rcases hx : nextR l p lim with s | x
  · have e : byteM m l p lim = .error s := by rw [byteM, hx]
    rw [e]
    exact byte_err g A c l p lim w k caps h s hx
  · obtain ⟨b0, b1⟩ := h.b8 x (next_mem hx).1
    rcases hb : m x (rest (p + 1) lim) with _ | _
    · have e : byteM m l p lim = .error (p, 2) := by rw [byteM, hx]; simp [hb]
      rw [e]
      exact byte_not g A c l p lim w k caps hE h x hx (fun w1 hw1 hc1 W hz hW => by
        have := hm x W b0 b1 (hw1.trans ⟨hW.os, hW.tape, hW.output, hW.size, fun i hi _ => hW.block i hi⟩) (hc1.below hW); rwa [hb] at this)
    · have e : byteM m l p lim = .ok (.int .u8 x, p + 1) := by rw [byteM, hx]; simp [hb]
      rw [e]
      exact byte_yes g A c l p lim w k caps hE h x hx (fun w1 hw1 hc1 W hz hW => by
        have := hm x W b0 b1 (hw1.trans ⟨hW.os, hW.tape, hW.output, hW.size, fun i hi _ => hW.block i hi⟩) (hc1.below hW); rwa [hb] at this)
theorem byte_walk (g : Nat) (A : Option Addr) (c : Nat) (l : List Int) (p lim : Int) (w : World) (k : Nat) (caps : Array Value) (m : Int → Int → Bool) (hE : Enters k) (h : CB g A c l p lim w)
    (hm : ∀ x r W, 0 ≤ x → x < 256 → Rd g w W → Calls Tryd.prog k (#[.int .u8 x, .int .i64 r] ++ caps) W (fun e w' => e = .returned (.bool (m x r)) ∧ Below W.heap.size W w')) :
    Calls Tryd.prog 94 #[.pointer (some ⟨g, 0, none⟩), .func (.func k) #[] caps] w (Post g A c l lim w (byteM m l p lim)) :=
  byte_walk2 g A c l p lim w k caps m hE h (fun x W x0 x1 hW _ => hm x _ W x0 x1 hW)
set_option maxHeartbeats 1000000 in
theorem readVal_walk (g : Nat) (A : Option Addr) (c : Nat) (l : List Int) (p lim : Int) (w : World) (h : CB g A c l p lim w) :
    Calls Tryd.prog 98 #[.pointer (some ⟨g, 0, none⟩)] w (Post g A c l lim w (byteM (fun x _ => valB x) l p lim)) := by
  have HB := hid (byte_walk g A c l p lim w 144 #[] (fun x _ => valB x) (enters Tryd.func144 (by kernel_rfl) rfl) h (fun x r W _ _ _ => readVal1_any x r W))
  rcases hr : byteM (fun x _ => valB x) l p lim with s | ⟨v, p'⟩
  · rw [hr] at HB
    clear hr
    go_enter Tryd.func98, Tryd.ntmps98
    go_wp2_with (first | (go_at_call 94; refine HB.out.mono ?_; rintro e w1 ⟨rfl, HG⟩))
    exact ⟨rfl, rfl, HG⟩
  · rw [hr] at HB
    clear hr
    go_enter Tryd.func98, Tryd.ntmps98
    go_wp2_with (first | (go_at_call 94; refine HB.out.mono ?_; rintro e w1 ⟨rfl, HC, HG⟩; have HC := hid HC))
    go_ret
    exact ⟨rfl, HC.out, HG⟩
end Go.Proofs.YtiohiiekaofkbaaDoor
