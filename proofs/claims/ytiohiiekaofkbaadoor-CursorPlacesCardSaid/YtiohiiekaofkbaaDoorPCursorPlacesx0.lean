import Derived.Test.YtiohiiekaofkbaaDoorVW
import Derived.Test.YtiohiiekaofkbaaDoorProg
import Derived.Below
import Derived.Deep.Draws
import Derived.Deep.AppendLies
import Derived.Maps.AppendAt
import Derived.OwnWalk
import Derived.Laws.BytesArg
import Derived.Laws.MakeOwn
import Derived.Laws.OwnMore
import Derived.Deep.OwnRows
import Derived.Tactics
import Derived.Lib.ConvBytes
import Derived.Laws.Slices
import Derived.WalkKit
import Derived.KernelRfl
import Derived.RowKit3
import Derived.Deep.LoopGhost
import Derived.Deep.QuietTactic
import Derived.BigQuiet
import Derived.WideLaws
import Derived.Deep.DeepCutAuto
import Derived.Deep.CutBlock
import Derived.Deep.RegionHeld3
import Derived.Laws.Rows
import Derived.Lib.AppendStr
import Derived.ArgAppend
import Derived.Laws.IdiomCopy
import Derived.OrdersHeld
import Derived.Laws.BitsLemmas
import Derived.RowKit
namespace Go.Proofs.YtiohiiekaofkbaaDoor.PCursorPlaces
open Go.RowKit Go.Proofs.YtiohiiekaofkbaaDoorW.PrintWords Go.Proofs.YtiohiiekaofkbaaDoorW.PrintLast Go.Proofs.YtiohiiekaofkbaaDoorW.PrintMore
attribute [local go_sem] max2_int min2_int max_two min_two max_three min_three max_four min_four   -- for this text's walks alone
set_option linter.unusedVariables false
set_option linter.unusedSimpArgs false



def errW : Option Int → Value
  | none => .nilIface
  | some c => .iface 0 (.int .i64 c)
theorem errW_none : errW none = .nilIface := rfl
theorem errW_some (c : Int) : errW (some c) = .iface 0 (.int .i64 c) := rfl

-- the values' own types
/-! #### struct type 149 -/
structure S149 where
  f0 : Int
  f1 : Int
def z149 : S149 := ⟨(0 : Int), (0 : Int)⟩
def k149 : Kd S149 := Kd.iso (Kd.pair (Kd.int .i64) (Kd.int .i64)) (fun x : S149 => (x.f0, x.f1))
theorem k149_open {w : World} {x : S149} {cs : List Value} (h : k149.K w x cs) : cs = [.int .i64 x.f0, .int .i64 x.f1] := by
  obtain ⟨_, _, rfl, rfl, rfl⟩ := h
  exact rfl
theorem k149_openM {w : World} {base : Nat} {ok : Nat → Prop} {x : S149} {cs : List Value} (h : k149.M w base ok x cs) : cs = [.int .i64 x.f0, .int .i64 x.f1] := by
  obtain ⟨_, _, rfl, rfl, rfl⟩ := h
  exact rfl
theorem k149_mk (w : World) (x : S149)  : k149.K w x [.int .i64 x.f0, .int .i64 x.f1] := ⟨[.int .i64 x.f0], [.int .i64 x.f1], rfl, rfl, rfl⟩
theorem k149_mkM (w : World) (base : Nat) (ok : Nat → Prop) (x : S149)  : k149.M w base ok x [.int .i64 x.f0, .int .i64 x.f1] := ⟨[.int .i64 x.f0], [.int .i64 x.f1], rfl, rfl, rfl⟩
def rd_T149 (xs : List S149) (i : Int) : S149 := xs.getD i.toNat z149
theorem at_T149 {w : World} {A : Option Addr} {n : Nat} {xs : List S149} (h : Kd.C k149 w A n xs) (i : Int) (h0 : 0 ≤ i) (h1 : i < n) : ∃ ad , A = some ad ∧ w.cell? (ad.add (i.toNat * 2)) = some (.int .i64 (rd_T149 xs i).f0) ∧ w.cell? ⟨(ad.add (i.toNat * 2)).block, (ad.add (i.toNat * 2)).off + 1, none⟩ = some (.int .i64 (rd_T149 xs i).f1) := by
  obtain ⟨ad, c, e, _, hK, hc0⟩ := Kd.C_get h z149 i h0 h1
  have hc : ∀ j u, c[j]? = some u → w.cell? (ad.add (i.toNat * 2 + j)) = some u := hc0
  obtain rfl := k149_open hK
  exact ⟨ad, e, hc 0 _ rfl, by rw [← add_field _ _ 1 (by omega)]; exact hc 1 _ rfl⟩

/-! #### struct type 157 -/
structure S157 where
  f0 : Int
  f1 : S149
def z157 : S157 := ⟨(0 : Int), z149⟩
def k157 : Kd S157 := Kd.iso (Kd.pair (Kd.int .u64) k149) (fun x : S157 => (x.f0, x.f1))
theorem k157_open {w : World} {x : S157} {cs : List Value} (h : k157.K w x cs) : cs = [.int .u64 x.f0, .int .i64 x.f1.f0, .int .i64 x.f1.f1] := by
  obtain ⟨_, _, rfl, rfl, s1⟩ := h
  obtain rfl := k149_open s1
  exact rfl
theorem k157_openM {w : World} {base : Nat} {ok : Nat → Prop} {x : S157} {cs : List Value} (h : k157.M w base ok x cs) : cs = [.int .u64 x.f0, .int .i64 x.f1.f0, .int .i64 x.f1.f1] := by
  obtain ⟨_, _, rfl, rfl, s1⟩ := h
  obtain rfl := k149_openM s1
  exact rfl
theorem k157_mk (w : World) (x : S157)  : k157.K w x [.int .u64 x.f0, .int .i64 x.f1.f0, .int .i64 x.f1.f1] := ⟨[.int .u64 x.f0], [.int .i64 x.f1.f0, .int .i64 x.f1.f1], rfl, rfl, (k149_mk w x.f1 )⟩
theorem k157_mkM (w : World) (base : Nat) (ok : Nat → Prop) (x : S157)  : k157.M w base ok x [.int .u64 x.f0, .int .i64 x.f1.f0, .int .i64 x.f1.f1] := ⟨[.int .u64 x.f0], [.int .i64 x.f1.f0, .int .i64 x.f1.f1], rfl, rfl, (k149_mkM w base ok x.f1 )⟩
def rd_T157 (xs : List S157) (i : Int) : S157 := xs.getD i.toNat z157
theorem at_T157 {w : World} {A : Option Addr} {n : Nat} {xs : List S157} (h : Kd.C k157 w A n xs) (i : Int) (h0 : 0 ≤ i) (h1 : i < n) : ∃ ad , A = some ad ∧ w.cell? (ad.add (i.toNat * 3)) = some (.int .u64 (rd_T157 xs i).f0) ∧ w.cell? ⟨(ad.add (i.toNat * 3)).block, (ad.add (i.toNat * 3)).off + 1, none⟩ = some (.int .i64 (rd_T157 xs i).f1.f0) ∧ w.cell? ⟨(ad.add (i.toNat * 3)).block, (ad.add (i.toNat * 3)).off + 2, none⟩ = some (.int .i64 (rd_T157 xs i).f1.f1) := by
  obtain ⟨ad, c, e, _, hK, hc0⟩ := Kd.C_get h z157 i h0 h1
  have hc : ∀ j u, c[j]? = some u → w.cell? (ad.add (i.toNat * 3 + j)) = some u := hc0
  obtain rfl := k157_open hK
  exact ⟨ad, e, hc 0 _ rfl, by rw [← add_field _ _ 1 (by omega)]; exact hc 1 _ rfl, by rw [← add_field _ _ 2 (by omega)]; exact hc 2 _ rfl⟩

def rd_L5 (xs : List (List S157)) (i : Int) : (List S157) := xs.getD i.toNat ([] : List S157)
theorem at_L5 {w : World} {A : Option Addr} {n : Nat} {xs : List (List S157)} (h : Kd.C (Kd.slice 157 k157) w A n xs) (i : Int) (h0 : 0 ≤ i) (h1 : i < n) : ∃ ad A0 c0, A = some ad ∧ w.cell? (ad.add i.toNat) = some (.slice A0 (rd_L5 xs i).length c0) ∧ (rd_L5 xs i).length ≤ c0 ∧ k157.C w A0 (rd_L5 xs i).length (rd_L5 xs i) := by
  obtain ⟨ad, c, e, _, hK, hc0⟩ := Kd.C_get h ([] : List S157) i h0 h1
  have hc : ∀ j u, c[j]? = some u → w.cell? (ad.add (i.toNat * 1 + j)) = some u := hc0
  obtain ⟨A0, c0, rfl, l0, g0⟩ := hK
  exact ⟨ad, A0, c0, e, by have hq := hc 0 _ rfl; rwa [Nat.mul_one, Nat.add_zero] at hq, l0, g0⟩

/-! #### struct type 152 -/
structure S152 where
  f0 : Int
  f1 : Int
  f2 : Int
  f3 : S149
  f4 : S149
  f5 : S149
  f6 : (List S157)
def z152 : S152 := ⟨(0 : Int), (0 : Int), (0 : Int), z149, z149, z149, ([] : List S157)⟩
def k152 : Kd S152 := Kd.iso (Kd.pair (Kd.int .i64) (Kd.pair (Kd.int .u64) (Kd.pair (Kd.int .u64) (Kd.pair k149 (Kd.pair k149 (Kd.pair k149 (Kd.slice 157 k157))))))) (fun x : S152 => (x.f0, x.f1, x.f2, x.f3, x.f4, x.f5, x.f6))
theorem k152_open {w : World} {x : S152} {cs : List Value} (h : k152.K w x cs) : ∃ A9 c9, cs = [.int .i64 x.f0, .int .u64 x.f1, .int .u64 x.f2, .int .i64 x.f3.f0, .int .i64 x.f3.f1, .int .i64 x.f4.f0, .int .i64 x.f4.f1, .int .i64 x.f5.f0, .int .i64 x.f5.f1, .slice A9 x.f6.length c9] ∧ x.f6.length ≤ c9 ∧ k157.C w A9 x.f6.length x.f6 := by
  obtain ⟨_, _, rfl, rfl, ⟨_, _, rfl, rfl, ⟨_, _, rfl, rfl, ⟨_, _, rfl, s3, ⟨_, _, rfl, s5, ⟨_, _, rfl, s7, ⟨A9, c9, rfl, l9, g9⟩⟩⟩⟩⟩⟩⟩ := h
  obtain rfl := k149_open s3
  obtain rfl := k149_open s5
  obtain rfl := k149_open s7
  exact ⟨A9, c9, rfl, l9, g9⟩
theorem k152_openM {w : World} {base : Nat} {ok : Nat → Prop} {x : S152} {cs : List Value} (h : k152.M w base ok x cs) : ∃ v9, cs = [.int .i64 x.f0, .int .u64 x.f1, .int .u64 x.f2, .int .i64 x.f3.f0, .int .i64 x.f3.f1, .int .i64 x.f4.f0, .int .i64 x.f4.f1, .int .i64 x.f5.f0, .int .i64 x.f5.f1, v9] ∧ k157.R 157 w base ok v9 x.f6 := by
  obtain ⟨_, _, rfl, rfl, ⟨_, _, rfl, rfl, ⟨_, _, rfl, rfl, ⟨_, _, rfl, s3, ⟨_, _, rfl, s5, ⟨_, _, rfl, s7, ⟨v9, rfl, g9⟩⟩⟩⟩⟩⟩⟩ := h
  obtain rfl := k149_openM s3
  obtain rfl := k149_openM s5
  obtain rfl := k149_openM s7
  exact ⟨v9, rfl, g9⟩
theorem k152_mk (w : World) (x : S152) {A9 : Option Addr} {c9 : Nat} (l9 : x.f6.length ≤ c9) (g9 : k157.C w A9 x.f6.length x.f6) : k152.K w x [.int .i64 x.f0, .int .u64 x.f1, .int .u64 x.f2, .int .i64 x.f3.f0, .int .i64 x.f3.f1, .int .i64 x.f4.f0, .int .i64 x.f4.f1, .int .i64 x.f5.f0, .int .i64 x.f5.f1, .slice A9 x.f6.length c9] := ⟨[.int .i64 x.f0], [.int .u64 x.f1, .int .u64 x.f2, .int .i64 x.f3.f0, .int .i64 x.f3.f1, .int .i64 x.f4.f0, .int .i64 x.f4.f1, .int .i64 x.f5.f0, .int .i64 x.f5.f1, .slice A9 x.f6.length c9], rfl, rfl, ⟨[.int .u64 x.f1], [.int .u64 x.f2, .int .i64 x.f3.f0, .int .i64 x.f3.f1, .int .i64 x.f4.f0, .int .i64 x.f4.f1, .int .i64 x.f5.f0, .int .i64 x.f5.f1, .slice A9 x.f6.length c9], rfl, rfl, ⟨[.int .u64 x.f2], [.int .i64 x.f3.f0, .int .i64 x.f3.f1, .int .i64 x.f4.f0, .int .i64 x.f4.f1, .int .i64 x.f5.f0, .int .i64 x.f5.f1, .slice A9 x.f6.length c9], rfl, rfl, ⟨[.int .i64 x.f3.f0, .int .i64 x.f3.f1], [.int .i64 x.f4.f0, .int .i64 x.f4.f1, .int .i64 x.f5.f0, .int .i64 x.f5.f1, .slice A9 x.f6.length c9], rfl, (k149_mk w x.f3 ), ⟨[.int .i64 x.f4.f0, .int .i64 x.f4.f1], [.int .i64 x.f5.f0, .int .i64 x.f5.f1, .slice A9 x.f6.length c9], rfl, (k149_mk w x.f4 ), ⟨[.int .i64 x.f5.f0, .int .i64 x.f5.f1], [.slice A9 x.f6.length c9], rfl, (k149_mk w x.f5 ), ⟨A9, c9, rfl, l9, g9⟩⟩⟩⟩⟩⟩⟩
theorem k152_mkM (w : World) (base : Nat) (ok : Nat → Prop) (x : S152) {v9 : Value} (g9 : k157.R 157 w base ok v9 x.f6) : k152.M w base ok x [.int .i64 x.f0, .int .u64 x.f1, .int .u64 x.f2, .int .i64 x.f3.f0, .int .i64 x.f3.f1, .int .i64 x.f4.f0, .int .i64 x.f4.f1, .int .i64 x.f5.f0, .int .i64 x.f5.f1, v9] := ⟨[.int .i64 x.f0], [.int .u64 x.f1, .int .u64 x.f2, .int .i64 x.f3.f0, .int .i64 x.f3.f1, .int .i64 x.f4.f0, .int .i64 x.f4.f1, .int .i64 x.f5.f0, .int .i64 x.f5.f1, v9], rfl, rfl, ⟨[.int .u64 x.f1], [.int .u64 x.f2, .int .i64 x.f3.f0, .int .i64 x.f3.f1, .int .i64 x.f4.f0, .int .i64 x.f4.f1, .int .i64 x.f5.f0, .int .i64 x.f5.f1, v9], rfl, rfl, ⟨[.int .u64 x.f2], [.int .i64 x.f3.f0, .int .i64 x.f3.f1, .int .i64 x.f4.f0, .int .i64 x.f4.f1, .int .i64 x.f5.f0, .int .i64 x.f5.f1, v9], rfl, rfl, ⟨[.int .i64 x.f3.f0, .int .i64 x.f3.f1], [.int .i64 x.f4.f0, .int .i64 x.f4.f1, .int .i64 x.f5.f0, .int .i64 x.f5.f1, v9], rfl, (k149_mkM w base ok x.f3 ), ⟨[.int .i64 x.f4.f0, .int .i64 x.f4.f1], [.int .i64 x.f5.f0, .int .i64 x.f5.f1, v9], rfl, (k149_mkM w base ok x.f4 ), ⟨[.int .i64 x.f5.f0, .int .i64 x.f5.f1], [v9], rfl, (k149_mkM w base ok x.f5 ), ⟨v9, rfl, g9⟩⟩⟩⟩⟩⟩⟩
def rd_T152 (xs : List S152) (i : Int) : S152 := xs.getD i.toNat z152
theorem at_T152 {w : World} {A : Option Addr} {n : Nat} {xs : List S152} (h : Kd.C k152 w A n xs) (i : Int) (h0 : 0 ≤ i) (h1 : i < n) : ∃ ad A9 c9, A = some ad ∧ w.cell? (ad.add (i.toNat * 10)) = some (.int .i64 (rd_T152 xs i).f0) ∧ w.cell? ⟨(ad.add (i.toNat * 10)).block, (ad.add (i.toNat * 10)).off + 1, none⟩ = some (.int .u64 (rd_T152 xs i).f1) ∧ w.cell? ⟨(ad.add (i.toNat * 10)).block, (ad.add (i.toNat * 10)).off + 2, none⟩ = some (.int .u64 (rd_T152 xs i).f2) ∧ w.cell? ⟨(ad.add (i.toNat * 10)).block, (ad.add (i.toNat * 10)).off + 3, none⟩ = some (.int .i64 (rd_T152 xs i).f3.f0) ∧ w.cell? ⟨(ad.add (i.toNat * 10)).block, (ad.add (i.toNat * 10)).off + 4, none⟩ = some (.int .i64 (rd_T152 xs i).f3.f1) ∧ w.cell? ⟨(ad.add (i.toNat * 10)).block, (ad.add (i.toNat * 10)).off + 5, none⟩ = some (.int .i64 (rd_T152 xs i).f4.f0) ∧ w.cell? ⟨(ad.add (i.toNat * 10)).block, (ad.add (i.toNat * 10)).off + 6, none⟩ = some (.int .i64 (rd_T152 xs i).f4.f1) ∧ w.cell? ⟨(ad.add (i.toNat * 10)).block, (ad.add (i.toNat * 10)).off + 7, none⟩ = some (.int .i64 (rd_T152 xs i).f5.f0) ∧ w.cell? ⟨(ad.add (i.toNat * 10)).block, (ad.add (i.toNat * 10)).off + 8, none⟩ = some (.int .i64 (rd_T152 xs i).f5.f1) ∧ w.cell? ⟨(ad.add (i.toNat * 10)).block, (ad.add (i.toNat * 10)).off + 9, none⟩ = some (.slice A9 (rd_T152 xs i).f6.length c9) ∧ (rd_T152 xs i).f6.length ≤ c9 ∧ k157.C w A9 (rd_T152 xs i).f6.length (rd_T152 xs i).f6 := by
  obtain ⟨ad, c, e, _, hK, hc0⟩ := Kd.C_get h z152 i h0 h1
  have hc : ∀ j u, c[j]? = some u → w.cell? (ad.add (i.toNat * 10 + j)) = some u := hc0
  obtain ⟨A9, c9, rfl, l9, g9⟩ := k152_open hK
  exact ⟨ad, A9, c9, e, hc 0 _ rfl, by rw [← add_field _ _ 1 (by omega)]; exact hc 1 _ rfl, by rw [← add_field _ _ 2 (by omega)]; exact hc 2 _ rfl, by rw [← add_field _ _ 3 (by omega)]; exact hc 3 _ rfl, by rw [← add_field _ _ 4 (by omega)]; exact hc 4 _ rfl, by rw [← add_field _ _ 5 (by omega)]; exact hc 5 _ rfl, by rw [← add_field _ _ 6 (by omega)]; exact hc 6 _ rfl, by rw [← add_field _ _ 7 (by omega)]; exact hc 7 _ rfl, by rw [← add_field _ _ 8 (by omega)]; exact hc 8 _ rfl, by rw [← add_field _ _ 9 (by omega)]; exact hc 9 _ rfl, l9, g9⟩

/-! #### struct type 154 -/
structure S154 where
  f0 : Int
  f1 : Int
  f2 : Int
  f3 : Int
  f4 : S152
def z154 : S154 := ⟨(0 : Int), (0 : Int), (0 : Int), (0 : Int), z152⟩
def k154 : Kd S154 := Kd.iso (Kd.pair (Kd.int .u8) (Kd.pair (Kd.int .i64) (Kd.pair (Kd.int .u8) (Kd.pair (Kd.int .u8) k152)))) (fun x : S154 => (x.f0, x.f1, x.f2, x.f3, x.f4))
theorem k154_open {w : World} {x : S154} {cs : List Value} (h : k154.K w x cs) : ∃ A13 c13, cs = [.int .u8 x.f0, .int .i64 x.f1, .int .u8 x.f2, .int .u8 x.f3, .int .i64 x.f4.f0, .int .u64 x.f4.f1, .int .u64 x.f4.f2, .int .i64 x.f4.f3.f0, .int .i64 x.f4.f3.f1, .int .i64 x.f4.f4.f0, .int .i64 x.f4.f4.f1, .int .i64 x.f4.f5.f0, .int .i64 x.f4.f5.f1, .slice A13 x.f4.f6.length c13] ∧ x.f4.f6.length ≤ c13 ∧ k157.C w A13 x.f4.f6.length x.f4.f6 := by
  obtain ⟨_, _, rfl, rfl, ⟨_, _, rfl, rfl, ⟨_, _, rfl, rfl, ⟨_, _, rfl, rfl, s4⟩⟩⟩⟩ := h
  obtain ⟨A13, c13, rfl, l13, g13⟩ := k152_open s4
  exact ⟨A13, c13, rfl, l13, g13⟩
theorem k154_openM {w : World} {base : Nat} {ok : Nat → Prop} {x : S154} {cs : List Value} (h : k154.M w base ok x cs) : ∃ v13, cs = [.int .u8 x.f0, .int .i64 x.f1, .int .u8 x.f2, .int .u8 x.f3, .int .i64 x.f4.f0, .int .u64 x.f4.f1, .int .u64 x.f4.f2, .int .i64 x.f4.f3.f0, .int .i64 x.f4.f3.f1, .int .i64 x.f4.f4.f0, .int .i64 x.f4.f4.f1, .int .i64 x.f4.f5.f0, .int .i64 x.f4.f5.f1, v13] ∧ k157.R 157 w base ok v13 x.f4.f6 := by
  obtain ⟨_, _, rfl, rfl, ⟨_, _, rfl, rfl, ⟨_, _, rfl, rfl, ⟨_, _, rfl, rfl, s4⟩⟩⟩⟩ := h
  obtain ⟨v13, rfl, g13⟩ := k152_openM s4
  exact ⟨v13, rfl, g13⟩
theorem k154_mk (w : World) (x : S154) {A13 : Option Addr} {c13 : Nat} (l13 : x.f4.f6.length ≤ c13) (g13 : k157.C w A13 x.f4.f6.length x.f4.f6) : k154.K w x [.int .u8 x.f0, .int .i64 x.f1, .int .u8 x.f2, .int .u8 x.f3, .int .i64 x.f4.f0, .int .u64 x.f4.f1, .int .u64 x.f4.f2, .int .i64 x.f4.f3.f0, .int .i64 x.f4.f3.f1, .int .i64 x.f4.f4.f0, .int .i64 x.f4.f4.f1, .int .i64 x.f4.f5.f0, .int .i64 x.f4.f5.f1, .slice A13 x.f4.f6.length c13] := ⟨[.int .u8 x.f0], [.int .i64 x.f1, .int .u8 x.f2, .int .u8 x.f3, .int .i64 x.f4.f0, .int .u64 x.f4.f1, .int .u64 x.f4.f2, .int .i64 x.f4.f3.f0, .int .i64 x.f4.f3.f1, .int .i64 x.f4.f4.f0, .int .i64 x.f4.f4.f1, .int .i64 x.f4.f5.f0, .int .i64 x.f4.f5.f1, .slice A13 x.f4.f6.length c13], rfl, rfl, ⟨[.int .i64 x.f1], [.int .u8 x.f2, .int .u8 x.f3, .int .i64 x.f4.f0, .int .u64 x.f4.f1, .int .u64 x.f4.f2, .int .i64 x.f4.f3.f0, .int .i64 x.f4.f3.f1, .int .i64 x.f4.f4.f0, .int .i64 x.f4.f4.f1, .int .i64 x.f4.f5.f0, .int .i64 x.f4.f5.f1, .slice A13 x.f4.f6.length c13], rfl, rfl, ⟨[.int .u8 x.f2], [.int .u8 x.f3, .int .i64 x.f4.f0, .int .u64 x.f4.f1, .int .u64 x.f4.f2, .int .i64 x.f4.f3.f0, .int .i64 x.f4.f3.f1, .int .i64 x.f4.f4.f0, .int .i64 x.f4.f4.f1, .int .i64 x.f4.f5.f0, .int .i64 x.f4.f5.f1, .slice A13 x.f4.f6.length c13], rfl, rfl, ⟨[.int .u8 x.f3], [.int .i64 x.f4.f0, .int .u64 x.f4.f1, .int .u64 x.f4.f2, .int .i64 x.f4.f3.f0, .int .i64 x.f4.f3.f1, .int .i64 x.f4.f4.f0, .int .i64 x.f4.f4.f1, .int .i64 x.f4.f5.f0, .int .i64 x.f4.f5.f1, .slice A13 x.f4.f6.length c13], rfl, rfl, (k152_mk w x.f4 l13 g13)⟩⟩⟩⟩
theorem k154_mkM (w : World) (base : Nat) (ok : Nat → Prop) (x : S154) {v13 : Value} (g13 : k157.R 157 w base ok v13 x.f4.f6) : k154.M w base ok x [.int .u8 x.f0, .int .i64 x.f1, .int .u8 x.f2, .int .u8 x.f3, .int .i64 x.f4.f0, .int .u64 x.f4.f1, .int .u64 x.f4.f2, .int .i64 x.f4.f3.f0, .int .i64 x.f4.f3.f1, .int .i64 x.f4.f4.f0, .int .i64 x.f4.f4.f1, .int .i64 x.f4.f5.f0, .int .i64 x.f4.f5.f1, v13] := ⟨[.int .u8 x.f0], [.int .i64 x.f1, .int .u8 x.f2, .int .u8 x.f3, .int .i64 x.f4.f0, .int .u64 x.f4.f1, .int .u64 x.f4.f2, .int .i64 x.f4.f3.f0, .int .i64 x.f4.f3.f1, .int .i64 x.f4.f4.f0, .int .i64 x.f4.f4.f1, .int .i64 x.f4.f5.f0, .int .i64 x.f4.f5.f1, v13], rfl, rfl, ⟨[.int .i64 x.f1], [.int .u8 x.f2, .int .u8 x.f3, .int .i64 x.f4.f0, .int .u64 x.f4.f1, .int .u64 x.f4.f2, .int .i64 x.f4.f3.f0, .int .i64 x.f4.f3.f1, .int .i64 x.f4.f4.f0, .int .i64 x.f4.f4.f1, .int .i64 x.f4.f5.f0, .int .i64 x.f4.f5.f1, v13], rfl, rfl, ⟨[.int .u8 x.f2], [.int .u8 x.f3, .int .i64 x.f4.f0, .int .u64 x.f4.f1, .int .u64 x.f4.f2, .int .i64 x.f4.f3.f0, .int .i64 x.f4.f3.f1, .int .i64 x.f4.f4.f0, .int .i64 x.f4.f4.f1, .int .i64 x.f4.f5.f0, .int .i64 x.f4.f5.f1, v13], rfl, rfl, ⟨[.int .u8 x.f3], [.int .i64 x.f4.f0, .int .u64 x.f4.f1, .int .u64 x.f4.f2, .int .i64 x.f4.f3.f0, .int .i64 x.f4.f3.f1, .int .i64 x.f4.f4.f0, .int .i64 x.f4.f4.f1, .int .i64 x.f4.f5.f0, .int .i64 x.f4.f5.f1, v13], rfl, rfl, (k152_mkM w base ok x.f4 g13)⟩⟩⟩⟩
def rd_T154 (xs : List S154) (i : Int) : S154 := xs.getD i.toNat z154
theorem at_T154 {w : World} {A : Option Addr} {n : Nat} {xs : List S154} (h : Kd.C k154 w A n xs) (i : Int) (h0 : 0 ≤ i) (h1 : i < n) : ∃ ad A13 c13, A = some ad ∧ w.cell? (ad.add (i.toNat * 14)) = some (.int .u8 (rd_T154 xs i).f0) ∧ w.cell? ⟨(ad.add (i.toNat * 14)).block, (ad.add (i.toNat * 14)).off + 1, none⟩ = some (.int .i64 (rd_T154 xs i).f1) ∧ w.cell? ⟨(ad.add (i.toNat * 14)).block, (ad.add (i.toNat * 14)).off + 2, none⟩ = some (.int .u8 (rd_T154 xs i).f2) ∧ w.cell? ⟨(ad.add (i.toNat * 14)).block, (ad.add (i.toNat * 14)).off + 3, none⟩ = some (.int .u8 (rd_T154 xs i).f3) ∧ w.cell? ⟨(ad.add (i.toNat * 14)).block, (ad.add (i.toNat * 14)).off + 4, none⟩ = some (.int .i64 (rd_T154 xs i).f4.f0) ∧ w.cell? ⟨(ad.add (i.toNat * 14)).block, (ad.add (i.toNat * 14)).off + 5, none⟩ = some (.int .u64 (rd_T154 xs i).f4.f1) ∧ w.cell? ⟨(ad.add (i.toNat * 14)).block, (ad.add (i.toNat * 14)).off + 6, none⟩ = some (.int .u64 (rd_T154 xs i).f4.f2) ∧ w.cell? ⟨(ad.add (i.toNat * 14)).block, (ad.add (i.toNat * 14)).off + 7, none⟩ = some (.int .i64 (rd_T154 xs i).f4.f3.f0) ∧ w.cell? ⟨(ad.add (i.toNat * 14)).block, (ad.add (i.toNat * 14)).off + 8, none⟩ = some (.int .i64 (rd_T154 xs i).f4.f3.f1) ∧ w.cell? ⟨(ad.add (i.toNat * 14)).block, (ad.add (i.toNat * 14)).off + 9, none⟩ = some (.int .i64 (rd_T154 xs i).f4.f4.f0) ∧ w.cell? ⟨(ad.add (i.toNat * 14)).block, (ad.add (i.toNat * 14)).off + 10, none⟩ = some (.int .i64 (rd_T154 xs i).f4.f4.f1) ∧ w.cell? ⟨(ad.add (i.toNat * 14)).block, (ad.add (i.toNat * 14)).off + 11, none⟩ = some (.int .i64 (rd_T154 xs i).f4.f5.f0) ∧ w.cell? ⟨(ad.add (i.toNat * 14)).block, (ad.add (i.toNat * 14)).off + 12, none⟩ = some (.int .i64 (rd_T154 xs i).f4.f5.f1) ∧ w.cell? ⟨(ad.add (i.toNat * 14)).block, (ad.add (i.toNat * 14)).off + 13, none⟩ = some (.slice A13 (rd_T154 xs i).f4.f6.length c13) ∧ (rd_T154 xs i).f4.f6.length ≤ c13 ∧ k157.C w A13 (rd_T154 xs i).f4.f6.length (rd_T154 xs i).f4.f6 := by
  obtain ⟨ad, c, e, _, hK, hc0⟩ := Kd.C_get h z154 i h0 h1
  have hc : ∀ j u, c[j]? = some u → w.cell? (ad.add (i.toNat * 14 + j)) = some u := hc0
  obtain ⟨A13, c13, rfl, l13, g13⟩ := k154_open hK
  exact ⟨ad, A13, c13, e, hc 0 _ rfl, by rw [← add_field _ _ 1 (by omega)]; exact hc 1 _ rfl, by rw [← add_field _ _ 2 (by omega)]; exact hc 2 _ rfl, by rw [← add_field _ _ 3 (by omega)]; exact hc 3 _ rfl, by rw [← add_field _ _ 4 (by omega)]; exact hc 4 _ rfl, by rw [← add_field _ _ 5 (by omega)]; exact hc 5 _ rfl, by rw [← add_field _ _ 6 (by omega)]; exact hc 6 _ rfl, by rw [← add_field _ _ 7 (by omega)]; exact hc 7 _ rfl, by rw [← add_field _ _ 8 (by omega)]; exact hc 8 _ rfl, by rw [← add_field _ _ 9 (by omega)]; exact hc 9 _ rfl, by rw [← add_field _ _ 10 (by omega)]; exact hc 10 _ rfl, by rw [← add_field _ _ 11 (by omega)]; exact hc 11 _ rfl, by rw [← add_field _ _ 12 (by omega)]; exact hc 12 _ rfl, by rw [← add_field _ _ 13 (by omega)]; exact hc 13 _ rfl, l13, g13⟩

end Go.Proofs.YtiohiiekaofkbaaDoor.PCursorPlaces
