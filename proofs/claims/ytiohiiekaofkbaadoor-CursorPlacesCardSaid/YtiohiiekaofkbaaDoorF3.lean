/- A try of what is asked. -/
import Derived.Test.YtiohiiekaofkbaaDoorE4
import Derived.Test.YtiohiiekaofkbaaDoorF2
namespace Go.Proofs.YtiohiiekaofkbaaDoor
set_option linter.unusedVariables false
set_option linter.unusedSimpArgs false
open Go.RowKit Go.Proofs.YtiohiiekaofkbaaDoor.PCursorPlaces Go.Proofs.YtiohiiekaofkbaaDoorW.PrintWords

/-- bytes as they lie -/
structure Bts (w : World) (A : Option Addr) (c : Nat) (l : List Int) : Prop where
  at_ : BytesAt A l w
  lt : ∀ ad, A = some ad → ad.block < w.heap.size
  cap : l.length ≤ c
  nil : A = none → c = 0
  b8 : ∀ x ∈ l, 0 ≤ x ∧ x < 256
theorem Bts.below {w W : World} {A : Option Addr} {c : Nat} {l : List Int} (h : Bts w A c l) (hb : Below w.heap.size w W) : Bts W A c l :=
  ⟨h.at_.rd (g := w.heap.size) (fun ad e => by have := h.lt ad e; omega) (grown_of_below hb _), fun ad e => Nat.lt_of_lt_of_le (h.lt ad e) hb.size, h.cap, h.nil, h.b8⟩
/-- the asks as they lie, all fine -/
structure Asks (w : World) (L : Nat) (A1 : Option Addr) (c1 : Nat) (xs : List S154) : Prop where
  cell : w.cell? ⟨L, 0, none⟩ = some (.slice A1 xs.length c1)
  cap : xs.length ≤ c1
  at_ : AsksAt w A1 xs
  fine : ∀ x ∈ xs, FineA x
  len : xs.length ≤ 30
theorem AskAt.below {w W : World} {a : Addr} {x : S154} (h : AskAt w a x) (hb : Below w.heap.size w W) : AskAt W a x := by
  obtain ⟨A13, c13, e0, e1, e2, e3, e4, e5, e6, e7, e8, e9, e10, e11, e12, e13, hp⟩ := h
  exact ⟨A13, c13, pw_cell_below hb e0, pw_cell_below hb e1, pw_cell_below hb e2, pw_cell_below hb e3, pw_cell_below hb e4, pw_cell_below hb e5, pw_cell_below hb e6, pw_cell_below hb e7, pw_cell_below hb e8, pw_cell_below hb e9, pw_cell_below hb e10, pw_cell_below hb e11, pw_cell_below hb e12, pw_cell_below hb e13, Kd.C_below hp hb⟩
theorem AsksAt.below {w W : World} {A : Option Addr} {xs : List S154} (h : AsksAt w A xs) (hb : Below w.heap.size w W) : AsksAt W A xs := fun i hi => by
  obtain ⟨ad, e, k⟩ := h i hi
  exact ⟨ad, e, k.below hb⟩
theorem Asks.below {w W : World} {L : Nat} {A1 : Option Addr} {c1 : Nat} {xs : List S154} (h : Asks w L A1 c1 xs) (hb : Below w.heap.size w W) : Asks W L A1 c1 xs :=
  ⟨still hb h.cell, h.cap, h.at_.below hb, h.fine, h.len⟩
def askR (xs : List S154) (l : List Int) : Except (Int × Int) (Unit × Int) := askM (xs.map askV) (-1) 0 l
def DnP (xs : List S154) (l : List Int) (w : World) (p : Int) (w' : World) : Prop := askR xs l = .ok ((), p) ∧ Below w.heap.size w w'
def StP (xs : List S154) (l : List Int) (w : World) (p er : Int) (w' : World) : Prop := askR xs l = .error (p, er) ∧ Below w.heap.size w w'
set_option maxHeartbeats 2000000 in
theorem cp11_walk (A : Option Addr) (c : Nat) (l : List Int) (L : Nat) (A1 : Option Addr) (c1 : Nat) (xs : List S154) (w W : World) (hB : Bts w A c l) (hl : l.length ≤ 1000) (hX : Asks w L A1 c1 xs) (hG : Glob w) (hW : Below w.heap.size w W) (hz : W.heap.size = w.heap.size + 1 + 1 + 1) (hC : Cu (w.heap.size + 1 + 1) (.slice A l.length c) 0 (-1) W) :
    Calls Tryd.prog 55 #[.pointer (some ⟨w.heap.size + 1 + 1, 0, none⟩), .pointer (some ⟨L, 0, none⟩)] W (Does w.heap.size A c l (DnP xs l w) (StP xs l w) W) := by
  have hL := cell_lt hX.cell
  have cL := still hW hX.cell
  have hb2 : Below W.heap.size W (W.alloc (.cells #[.slice none 0 0] 95)) := (Below.refl _ _).alloc (Nat.le_refl _) _
  have hcell : (W.alloc (.cells #[.slice none 0 0] 95)).cell? ⟨W.heap.size, 0, none⟩ = some (.slice none 0 0) := by go_simp
  have norow : ∀ k, ¬ RowB (W.alloc (.cells #[.slice none 0 0] 95)) W.heap.size k := by
    rintro k ⟨v, e, hv⟩
    rw [hcell] at e; cases e
    simp [Value.ownBlock] at hv
  have hCB : CB (w.heap.size + 1 + 1) A c l 0 (-1) W := ⟨hC, (hB.below hW).at_, fun ad e => by have := hB.lt ad e; omega, by omega, by omega, by omega, by omega, hB.b8⟩
  have hb3 : Below w.heap.size w (W.alloc (.cells #[.slice none 0 0] 95)) := hW.trans (hb2.mono hW.size)
  have hS : Ast w (w.heap.size + 1 + 1) W.heap.size 0 A c l 0 (-1) (W.alloc (.cells #[.slice none 0 0] 95)) :=
    ⟨hCB.below hb2, ⟨_, [], hcell, World.ownsRow_nil _ _ _ _⟩, by go_simp, hb3, by omega, by omega, by omega, norow _, norow _, .inl (by decide), hB.lt⟩
  have HA := hid (asked_walk w (w.heap.size + 1 + 1) W.heap.size A c l hB.cap hG xs.length xs A1 c1 0 0 (-1) _ (Nat.le_refl _) hX.cap hX.at_ hX.fine (by have := hX.len; omega) hS)
  have HZ := hid hz
  have hLW : L < W.heap.size := by omega
  have HBF := hid (fun (w1 : World) (h : Fo (w.heap.size + 1 + 1) W.heap.size (W.alloc (.cells #[.slice none 0 0] 95)) w1) => show Below w.heap.size w w1 from below_fo hb3 (by omega) (by omega) (fun k q => absurd q (norow k)) h)
  have HKF := hid (fun (w1 : World) (h : Fo (w.heap.size + 1 + 1) W.heap.size (W.alloc (.cells #[.slice none 0 0] 95)) w1) => show W.heap.size ≤ w1.heap.size ∧ (∀ i, i = w.heap.size ∨ i = w.heap.size + 1 → w1.heap[i]? = W.heap[i]?) from
    ⟨Nat.le_trans hb2.size h.size, fun i hi => (h.keep i (by have := hb2.size; omega) (by omega) (by omega) (norow i)).trans (hb2.block i (by omega))⟩)
  have hr : askM (xs.map askV) (-1) 0 l = askR xs l := rfl
  rw [hr] at HA
  clear hC hz hcell norow hCB hb3 hS hB hX hG hr
  rcases hr : askR xs l with ⟨s, er⟩ | ⟨u, p⟩
  · have HR := hid hr
    rw [hr] at HA
    clear hr
    go_enter Tryd.func55, Tryd.ntmps55
    go_wp2_with (first | (go_at_call 56; (with_reducible refine (HA.out).mono ?_); rintro e w1 ⟨rfl, hF⟩))
    exact ⟨rfl, (HKF.out w1 hF).1, (HKF.out w1 hF).2, .inr ⟨s, er, rfl, HR.out, HBF.out w1 hF⟩⟩
  · have HR := hid hr
    rw [hr] at HA
    clear hr
    go_enter Tryd.func55, Tryd.ntmps55
    go_wp2_with (first | (go_at_call 56; (with_reducible refine (HA.out).mono ?_); rintro e w1 ⟨rfl, ⟨n, hn, hS⟩, hF⟩))
    go_end0
    exact ⟨(HKF.out w1 hF).1, (HKF.out w1 hF).2, .inl ⟨rfl, p, -1, hS.cb.cu, HR.out, HBF.out w1 hF⟩⟩
/-- where it came to, and with which error -/
def resR (r : Except (Int × Int) (Unit × Int)) : Int × Int := match r with | .ok (_, p) => (p, 0) | .error s => s
theorem off2_below {B C : Nat} {w w1 w2 : World} (h : Below w.heap.size w w1) (k : Off2 B C w1 w2) (hB : w.heap.size ≤ B) (hC : w.heap.size ≤ C) : Below w.heap.size w w2 :=
  ⟨k.os.trans h.os, k.tape.trans h.tape, k.output.trans h.output, Nat.le_trans h.size k.size, fun i hi => (k.block i (Nat.lt_of_lt_of_le hi h.size) (by omega) (by omega)).trans (h.block i hi)⟩
set_option maxHeartbeats 2000000 in
theorem cp1_walk (A : Option Addr) (c : Nat) (l : List Int) (L : Nat) (A1 : Option Addr) (c1 : Nat) (xs : List S154) (w : World) (hB : Bts w A c l) (hl : l.length ≤ 1000) (hX : Asks w L A1 c1 xs) (hG : Glob w) :
    Calls Tryd.prog 54 #[.slice A l.length c, .pointer (some ⟨L, 0, none⟩)] w (fun e w' => e = .returned (.tuple #[.int .i64 (resR (askR xs l)).1, .int .i64 (resR (askR xs l)).2]) ∧ Below w.heap.size w w') := by
  have HT := hid (fun W (hW : Below w.heap.size w W) => try_walk A c l W 55 #[.pointer (some ⟨L, 0, none⟩)] (DnP xs l W) (StP xs l W) (enters Tryd.func55 (by kernel_rfl) rfl) (fun V hV hz hC => cp11_walk A c l L A1 c1 xs W V (hB.below hW) hl (hX.below hW) (hG.of hW) hV hz hC))
  have hmf : ∀ (fn : Fn) (first cap : Array Value) (w : World), (Instr.makeFunc fn first cap).run Tryd.prog w = .ok (.func fn first cap) w := fun _ _ _ _ => rfl
  clear hB hX hG
  go_enter Tryd.func54, Tryd.ntmps54
  go_wp2_with (first | (go_at_call 43; (with_reducible refine (HT.out _ (by repeat (first | exact Below.refl _ _ | assumption | refine Below.alloc ?_ (by first | exact Nat.le_refl _ | (simp; done) | (simp; omega) | omega) _ | refine Below.drew ?_ | refine Below.setCell ?_ (by first | exact Nat.le_refl _ | (simp; done) | (simp; omega) | omega) _ | refine below_call ?_ (by assumption) (by first | exact Nat.le_refl _ | (simp; done) | (simp; omega) | omega)))).mono ?_); rintro e w2 ⟨w1, hO, (⟨p, rfl, hr, hb⟩ | ⟨p, er, rfl, hr, hb⟩)⟩))
  · refine bodyPost_ret (v := .tuple #[.int .i64 p, .int .i64 0]) ?_ rfl ⟨by rw [hr]; rfl, off2_below hb hO (Nat.le_refl _) (by omega)⟩
    simp [results, Tryd.results54, go_sem]
  · refine bodyPost_ret (v := .tuple #[.int .i64 p, .int .i64 er]) ?_ rfl ⟨by rw [hr]; rfl, off2_below hb hO (Nat.le_refl _) (by omega)⟩
    simp [results, Tryd.results54, go_sem]
end Go.Proofs.YtiohiiekaofkbaaDoor
