/- Texts of this claim, as far as they are used here: J1, H0. -/
import Derived.Test.YtiohiiekaofkbaaGreatDoorZ06
import Derived.Test.YtiohiiekaofkbaaGreatDoorZ04
import Derived.Deep.RegionHeld
import Derived.Deep.RegionHeld3
/- Lists whose indexes rise: names.rising, for names and for locals. -/
namespace Go.Proofs.YtiohiiekaofkbaaGreatDoor
set_option linter.unusedVariables false
set_option linter.unusedSimpArgs false
open Go.RowKit Go.Proofs.YtiohiiekaofkbaaGreatDoor.PNamesReads Go.Proofs.YtiohiiekaofkbaaGreatDoorW.PrintWords
theorem infoN1 : (Tryz.prog.info? 149).map (fun i => (i.zero, i.size, i.bytes)) = some (some (.agg #[(.int .u32 0), (.string ⟨#[]⟩)]), 2, 24) := by kernel_rfl
theorem infoL1 : (Tryz.prog.info? 90).map (fun i => (i.zero, i.size, i.bytes)) = some (some (.agg #[(.int .u32 0), (.slice none 0 0)]), 2, 32) := by kernel_rfl
def riM {α : Type} (rd : Int → Int → Int → Int → Except (Int × Int) (α × Int)) (a b : Int) (l : List Int) (lim : Int) : Nat → Int → Int → Except (Int × Int) (List α × Int)
  | 0, _, p => .ok ([], p)
  | m + 1, nx, p => match uM (rgX nx (1 + (tmMin 2 m + a))) l lim 5 0 p with
    | .error s => .error s
    | .ok (ix, p1) => match rd ix (tmMin 2 m + a) (andMax (tmMax 1099511627776 m) b) p1 with
      | .error s => .error s
      | .ok (x, p2) => match riM rd a b l lim m (ix + 1) p2 with
        | .error s => .error s
        | .ok (xs, p3) => .ok (x :: xs, p3)
def liM {α : Type} (rd : Int → Int → Int → Int → Except (Int × Int) (α × Int)) (a b : Int) (l : List Int) (p lim : Int) : Except (Int × Int) (List α × Int) :=
  match uM (rgL 2 1099511627776 a b) l lim 5 0 p with
  | .error s => .error s
  | .ok (n, p1) => riM rd a b l lim n.toNat 0 p1
def ahead {α : Type} (xs : List α) (r : Except (Int × Int) (List α × Int)) : Except (Int × Int) (List α × Int) := match r with | .error s => .error s | .ok (ys, p) => .ok (xs ++ ys, p)
theorem ahead_nil {α : Type} (r : Except (Int × Int) (List α × Int)) : ahead [] r = r := by unfold ahead; rcases r with s | ⟨ys, p⟩ <;> rfl
theorem ri_stop {α : Type} {rd : Int → Int → Int → Int → Except (Int × Int) (α × Int)} {a b : Int} {l : List Int} {lim nx p : Int} {m : Nat} {s : Int × Int} (xs : List α) (h : uM (rgX nx (1 + (tmMin 2 m + a))) l lim 5 0 p = .error s) : ahead xs (riM rd a b l lim (m + 1) nx p) = .error s := by
  rw [riM, h]; rfl
theorem ri_stop2 {α : Type} {rd : Int → Int → Int → Int → Except (Int × Int) (α × Int)} {a b : Int} {l : List Int} {lim nx p ix p1 : Int} {m : Nat} {s : Int × Int} (xs : List α) (h : uM (rgX nx (1 + (tmMin 2 m + a))) l lim 5 0 p = .ok (ix, p1)) (h2 : rd ix (tmMin 2 m + a) (andMax (tmMax 1099511627776 m) b) p1 = .error s) : ahead xs (riM rd a b l lim (m + 1) nx p) = .error s := by
  rw [riM, h]; simp only [h2]; rfl
theorem ri_step {α : Type} {rd : Int → Int → Int → Int → Except (Int × Int) (α × Int)} {a b : Int} {l : List Int} {lim nx p ix p1 p2 : Int} {m : Nat} {x : α} (xs : List α) (h : uM (rgX nx (1 + (tmMin 2 m + a))) l lim 5 0 p = .ok (ix, p1)) (h2 : rd ix (tmMin 2 m + a) (andMax (tmMax 1099511627776 m) b) p1 = .ok (x, p2)) : ahead xs (riM rd a b l lim (m + 1) nx p) = ahead (xs ++ [x]) (riM rd a b l lim m (ix + 1) p2) := by
  rw [riM, h]
  simp only [h2]
  rcases riM rd a b l lim m (ix + 1) p2 with s | ⟨ys, p3⟩
  · rfl
  · simp [ahead]
def PostIt {α : Type} (d : Kd α) (f0 : α → Int) (g : Nat) (A : Option Addr) (c : Nat) (l : List Int) (lim : Int) (W : World) (r : Except (Int × Int) (α × Int)) (e : Ending) (w' : World) : Prop :=
  match r with
  | .ok (x, p') => (∃ v, e = .returned (.agg #[.int .u32 (f0 x), v]) ∧ d.M w' W.heap.size (fun k => W.heap.size ≤ k) x [.int .u32 (f0 x), v]) ∧ CB g A c l p' lim w' ∧ Rd g W w'
  | .error s => Stops s.1 s.2 e ∧ Rd g W w'
def PostLi {α : Type} (d : Kd α) (T : Nat) (g : Nat) (A : Option Addr) (c : Nat) (l : List Int) (lim : Int) (W : World) (r : Except (Int × Int) (List α × Int)) (e : Ending) (w' : World) : Prop :=
  match r with
  | .ok (xs, p') => (∃ v, e = .returned v ∧ d.R T w' W.heap.size (fun k => W.heap.size ≤ k) v xs) ∧ CB g A c l p' lim w' ∧ Rd g W w'
  | .error s => Stops s.1 s.2 e ∧ Rd g W w'
structure RdI {α : Type} (d : Kd α) (f0 : α → Int) (g : Nat) (A : Option Addr) (c : Nat) (l : List Int) (lim M : Int) (rd : Int → Int → Int → Int → Except (Int × Int) (α × Int)) (k : Nat) (caps : Array Value) (w : World) : Prop where
  ent : Enters k
  call : ∀ W, Rd g w W → ∀ ix a b p, 0 ≤ ix → ix ≤ 4294967295 → 0 ≤ a → a ≤ M → 0 ≤ b → b ≤ 1099511627776 → CB g A c l p lim W → Calls Tryz.prog k (#[.int .u32 ix, .agg #[.int .i64 a, .int .i64 b]] ++ caps) W (PostIt d f0 g A c l lim W (rd ix a b p))
theorem RdI.rd {α : Type} {d : Kd α} {f0 : α → Int} {g : Nat} {A : Option Addr} {c : Nat} {l : List Int} {lim M : Int} {rd : Int → Int → Int → Int → Except (Int × Int) (α × Int)} {k : Nat} {caps : Array Value} {w w' : World} (h : RdI d f0 g A c l lim M rd k caps w) (hR : Rd g w w') : RdI d f0 g A c l lim M rd k caps w' :=
  ⟨h.ent, fun W hW => h.call W (hR.trans hW)⟩
theorem tm_bd (m : Nat) (hm : (m : Int) ≤ 4294967296) : 0 ≤ tmMin 2 (m : Int) ∧ tmMin 2 (m : Int) ≤ 8589934592 ∧ 0 ≤ tmMax 1099511627776 (m : Int) ∧ tmMax 1099511627776 (m : Int) ≤ 1099511627776 := by
  unfold tmMin tmMax capM
  split
  · omega
  · split <;> split <;> omega
theorem am_bd {x y : Int} (hx : 0 ≤ x) (hy : 0 ≤ y) : 0 ≤ andMax x y ∧ andMax x y ≤ 1099511627776 := by
  unfold andMax; split <;> omega
theorem am_E (y : Int) : andMax 1099511627776 y = 1099511627776 := by unfold andMax; rw [if_pos (.inl (by decide))]
theorem cb_base {g : Nat} {A : Option Addr} {c : Nat} {l : List Int} {p lim p' : Int} {w0 w w1 : World} (h0 : CB g A c l p' lim w0) (h : CB g A c l p lim w) (hr : Rd g w0 w) (hb : Below w0.heap.size w w1) : CB g A c l p lim w1 := by
  have hg := h0.cu.lt
  have e : w1.heap[g]? = w.heap[g]? := hb.block g hg
  have hc : ∀ i, w1.cell? ⟨g, i, none⟩ = w.cell? ⟨g, i, none⟩ := fun i => World.cell?_of_block (a := ⟨g, i, none⟩) e
  have hf : ∀ i, w1.frozen? ⟨g, i, none⟩ = w.frozen? ⟨g, i, none⟩ := fun i => World.frozen?_of_block (a := ⟨g, i, none⟩) e
  have hr1 : Rd g w0 w1 := ⟨hb.os.trans hr.os, hb.tape.trans hr.tape, hb.output.trans hr.output, Nat.le_trans hr.size hb.size, fun k hk hne => (hb.block k hk).trans (hr.block k hk hne)⟩
  exact h0.rd hr1 ⟨(hc 0).trans h.cu.c0, (hc 1).trans h.cu.c1, (hc 2).trans h.cu.c2, (hf 1).trans h.cu.f1, (hf 2).trans h.cu.f2⟩ h.p0 h.p1 h.l2
theorem rd_base {g : Nat} {w0 w w1 : World} (hr : Rd g w0 w) (hb : Below w0.heap.size w w1) : Rd g w0 w1 := ⟨hb.os.trans hr.os, hb.tape.trans hr.tape, hb.output.trans hr.output, Nat.le_trans hr.size hb.size, fun k hk hne => (hb.block k hk).trans (hr.block k hk hne)⟩
theorem r_rd {α : Type} {d : Kd α} {T base X g : Nat} {w w' : World} {v : Value} {xs : List α} (h : d.R T w base (fun k => X < k) v xs) (hg : g ≤ X) (hR : Rd g w w') : d.R T w' base (fun k => X < k) v xs :=
  Kd.R_step h (fun k hk hlt => hR.block k hlt (fun e => by have := Option.some.inj e; omega))
theorem blkB {w w1 : World} {g : Nat} {o : Obj} (h : w.heap[g]? = some o) (hb : Below w.heap.size w w1) : w1.heap[g]? = some o := by
  have : g < w.heap.size := by
    rcases Nat.lt_or_ge g w.heap.size with h2 | h2
    · exact h2
    · rw [Array.getElem?_eq_none h2] at h; cases h
  exact (hb.block g this).trans h
theorem blkN (w : World) (o : Obj) : (w.alloc o).heap[w.heap.size]? = some o := heap_alloc_new w o
theorem two_at {W : World} {B : Nat} {a b : Value} {t : TypeId} (h : W.heap[B]? = some (.cells #[a, b] t (0, 0))) : W.cell? ⟨B, 0, none⟩ = some a ∧ W.cell? ⟨B, 1, none⟩ = some b ∧ W.frozen? ⟨B, 0, none⟩ = false ∧ W.frozen? ⟨B, 1, none⟩ = false := by
  simp [World.cell?, World.frozen?, h]
theorem keepF {w1 W : World} {p1 p2 p3 p4 : Nat × Nat} {a b c d : Value} (h : w1.cell? ⟨p1.1, p1.2, none⟩ = some a ∧ w1.cell? ⟨p2.1, p2.2, none⟩ = some b ∧ w1.cell? ⟨p3.1, p3.2, none⟩ = some c ∧ w1.cell? ⟨p4.1, p4.2, none⟩ = some d) (hb : Below w1.heap.size w1 W) :
    W.cell? ⟨p1.1, p1.2, none⟩ = some a ∧ W.cell? ⟨p2.1, p2.2, none⟩ = some b ∧ W.cell? ⟨p3.1, p3.2, none⟩ = some c ∧ W.cell? ⟨p4.1, p4.2, none⟩ = some d ∧ Below w1.heap.size w1 W :=
  ⟨still hb h.1, still hb h.2.1, still hb h.2.2.1, still hb h.2.2.2, hb⟩
theorem two_set {W : World} {B : Nat} {a b x y : Value} {t : TypeId} (h : W.heap[B]? = some (.cells #[a, b] t (0, 0))) : ((W.setCell ⟨B, 0, none⟩ x).setCell ⟨B, 1, none⟩ y).cell? ⟨B, 0, none⟩ = some x ∧ ((W.setCell ⟨B, 0, none⟩ x).setCell ⟨B, 1, none⟩ y).cell? ⟨B, 1, none⟩ = some y := by
  obtain ⟨z0, z1, _, _⟩ := two_at h
  exact ⟨by go_simp, by go_simp⟩
theorem newIs {w1 W : World} {R1 R2 R3 R4 : Prop} (h : R1 ∧ R2 ∧ R3 ∧ R4 ∧ Below w1.heap.size w1 W) : ∃ Wn B, W.alloc (.cells #[.int .i64 0, .int .i64 0] 171) = Wn ∧ W.heap.size = B ∧ Wn.heap[B]? = some (.cells #[.int .i64 0, .int .i64 0] 171 (0, 0)) ∧ Below w1.heap.size w1 Wn ∧ w1.heap.size ≤ B :=
  ⟨_, _, rfl, rfl, blkN W _, h.2.2.2.2.alloc h.2.2.2.2.size _, h.2.2.2.2.size⟩
set_option maxRecDepth 100000 in
set_option maxHeartbeats 8000000 in
theorem ris_N (g : Nat) (A : Option Addr) (c : Nat) (l : List Int) (p lim : Int) (w : World) (a b M : Int) (k : Nat) (caps : Array Value) (rd : Int → Int → Int → Int → Except (Int × Int) (S149 × Int)) (h : CB g A c l p lim w) (hG : GlobH g w) (a0 : 0 ≤ a) (a1 : a ≤ 1000000000000) (b0 : 0 ≤ b) (b1 : b ≤ 1099511627776) (hM : 8589934592 + a ≤ M) (hr : RdI k149 (fun x : S149 => x.f0) g A c l lim M rd k caps w) :
    Calls Tryz.prog 46 #[.pointer (some ⟨g, 0, none⟩), .agg #[.int .i64 a, .int .i64 b], .func (.func k) #[] caps] w (PostLi k149 149 g A c l lim w (liM rd a b l p lim)) := by
  have HU := hid (fun W (hC : CB g A c l p lim W) (hW : Rd g w W) B C (hne : B ≠ g) (hne2 : C ≠ g) (h0 : W.cell? ⟨B, 0, none⟩ = some (.int .i64 2)) (h1 : W.cell? ⟨B, 1, none⟩ = some (.int .i64 1099511627776)) (k0 : W.cell? ⟨C, 0, none⟩ = some (.int .i64 a)) (k1 : W.cell? ⟨C, 1, none⟩ = some (.int .i64 b)) => uint_walk g A c l p lim W 87 #[.pointer (some ⟨B, 0, none⟩), .pointer (some ⟨C, 0, none⟩)] _ hC (list_wants hG.h0 hne hne2 (by omega) (by omega) (by omega) (by omega) a0 (by omega) b0 (by omega) (hG.rd hW).gl h0 h1 k0 k1))
  have HC := hid h
  have hlt := h.cu.lt
  have HGH := hid hG
  have HRD := hid hr
  have HEN : ∀ (args : Array Value) (w : World), (callFunc k args).run Tryz.prog w = .ok (.enter k args) w := hr.ent
  obtain ⟨z0, z1, s0, s1, -, -⟩ := hG.gm
  have za := cell_lt z0
  have hl0 : ∀ x ∈ l, 0 ≤ x := fun x hx => (h.b8 x hx).1
  have hmf : ∀ (fn : Fn) (first cap : Array Value) (w : World), (Instr.makeFunc fn first cap).run Tryz.prog w = .ok (.func fn first cap) w := fun _ _ _ _ => rfl
  have hsf : ∀ (a : Addr) (f : Fn) (x y : Array Value) (m : Mode) (w : World), (store a (.func f x y) m).run Tryz.prog w = stored Tryz.prog w a (.func f x y) m := fun a f x y m w => run_store _ w a _ m rfl
  have hzz : (w.alloc (.cells #[.int .i64 a, .int .i64 b] 171)).heap.size = w.heap.size + 1 := by simp
  have HZ := hid hzz
  rcases hu : uM (rgL 2 1099511627776 a b) l lim 5 0 p with s | ⟨n, p1⟩
  · have HE := hid (show liM rd a b l p lim = .error s by rw [liM, hu])
    rw [hu] at HU
    clear hu h hG hr hzz hl0
    go_enter Tryz.func46, Tryz.ntmps46
    go_wp2_with (first | (go_at_call 67; (with_reducible refine (list_walk _ _ _ _ _).mono ?_); rintro e w1 ⟨rfl, hb1, hs1, i0', i1, i2, i3⟩; rw [HZ.out] at hs1 i0' i1 i2 i3) | (go_at_call 41; go_loud ((with_reducible refine (HU.out _ (HC.out.below bel) (grown_of_below bel _) _ _ (by omega) (by omega) i0' i1 i2 i3).mono ?_); rintro e w2 ⟨rfl, HG2⟩)))
    refine ⟨rfl, ?_⟩
    show PostLi k149 149 g A c l lim w (liM rd a b l p lim) _ _
    rw [HE.out]
    exact ⟨rfl, (grown_of_below bel _).trans HG2⟩
  · obtain ⟨g1, n0, hx⟩ := uM_ge 5 0 p n p1 (by decide) hl0 hu
    have n1 := uM_lt 4 0 p n p1 (by decide) (by decide) (by decide) hl0 hu
    have HE := hid (show liM rd a b l p lim = riM rd a b l lim n.toNat 0 p1 by rw [liM, hu])
    rw [hu] at HU
    have hwn : IntKind.i64.wrap n = n := by rw [IntKind.wrap_i64]; omega
    have HL0 := hid hl0
    clear hu h hG hr hzz hx hl0
    go_enter Tryz.func46, Tryz.ntmps46
    go_wp2_with (first | (go_at_call 67; (with_reducible refine (list_walk _ _ _ _ _).mono ?_); rintro e w1 ⟨rfl, hb1, hs1, i0', i1, i2, i3⟩; rw [HZ.out] at hs1 i0' i1 i2 i3) | (go_at_call 41; go_loud ((with_reducible refine (HU.out _ (HC.out.below bel) (grown_of_below bel _) _ _ (by omega) (by omega) i0' i1 i2 i3).mono ?_); rintro e w2 ⟨rfl, HC2, HG2⟩; have HC2 := hid HC2)))
    have HR2 := hid ((grown_of_below bel _).trans HG2 : Rd g w w2)
    have b40 : w2.cell? ⟨w.heap.size, 0, none⟩ = some (.int .i64 a) := HG2.cell (by omega) (still hb1 (by go_simp))
    have b41 : w2.cell? ⟨w.heap.size, 1, none⟩ = some (.int .i64 b) := HG2.cell (by omega) (still hb1 (by go_simp))
    have hz2 : w.heap.size < w2.heap.size := cell_lt b40
    have HX2 := hid hz2
    clear HU hb1 hs1 i0' i1 i2 i3 HG2
    go_loopw [9, 21] (fun v9 v21 wr => ∃ (j : Nat) (nx q : Int) (xs : List S149), v21 = .int .i64 j ∧ (j : Int) ≤ n ∧ 0 ≤ nx ∧ nx ≤ 4294967296 ∧ Hid (xs.length = j) ∧ Hid (k149.R 149 wr w.heap.size (fun k => w2.heap.size < k) v9 xs) ∧ Hid (liM rd a b l p lim = ahead xs (riM rd a b l lim (n.toNat - j) nx q)) ∧ wr.cell? ⟨w2.heap.size, 0, none⟩ = some (.int .u64 nx) ∧ wr.frozen? ⟨w2.heap.size, 0, none⟩ = false ∧ w2.heap.size < wr.heap.size ∧ wr.cell? ⟨w.heap.size, 0, none⟩ = some (.int .i64 a) ∧ wr.cell? ⟨w.heap.size, 1, none⟩ = some (.int .i64 b) ∧ Hid (CB g (A) c l q lim wr) ∧ Hid (Rd g w wr)) (fun _ v21 _ => n.toNat - (intOf v21).toNat)
    case atStart => exact ⟨0, 0, p1, [], by go_num, by omega, by omega, by omega, hid rfl, hid (Kd.R_nil _ _ _ _ _), hid (by rw [HE.out, ahead_nil]; rfl), by go_simp, by go_simp, by simp, by go_simp, by go_simp, hid (HC2.out.below bel), hid (HR2.out.trans (grown_of_below bel _))⟩
    case round =>
      obtain ⟨j, nx, q, xs, rfl, hj, nx0, nx1, HXL, HO, HN, cX, fX, hXw, b40, b41, HCr, HR⟩ := hrel
      by_cases hjn : (j : Int) < n
      · obtain ⟨m, hm⟩ : ∃ m : Nat, n.toNat - j = m + 1 := ⟨n.toNat - j - 1, by omega⟩
        have hmn : n - 1 - (j : Int) = (m : Int) := by omega
        have hm4 : (m : Int) ≤ 4294967296 := by omega
        have HWM := hid (show IntKind.i64.wrap (IntKind.i64.wrap (n - 1) - (j : Int)) = (m : Int) by rw [IntKind.wrap_i64, IntKind.wrap_i64]; omega)
        have HN2 := hid (by have := HN.out; rwa [hm] at this : liM rd a b l p lim = ahead xs (riM rd a b l lim (m + 1) nx q))
        obtain ⟨tm0, tm1, tx0, tx1⟩ := tm_bd m hm4
        obtain ⟨am0, am1⟩ := am_bd tx0 b0
        have HGr := hid (HGH.out.rd HR.out)
        obtain ⟨z0, z1, s0, s1, -, -⟩ := HGr.out.gm
        have HTM := hid (fun W => tms_any 2 1099511627776 (m : Int) W (by decide) (by decide) (by decide) (by decide) (by omega))
        have HA1 := hid (fun W => and_any (tmMin 2 (m : Int)) (tmMax 1099511627776 (m : Int)) a b W tm0 (by omega) a0 (by omega) tx0 b0)
        have HRX := hid (show ∃ rmin rmax, rmin = tmMin 2 (m : Int) + a ∧ rmax = andMax (tmMax 1099511627776 (m : Int)) b from ⟨_, _, rfl, rfl⟩)
        obtain ⟨rmin, rmax, hrmin, hrmax⟩ := HRX.out
        rw [← hrmin, ← hrmax] at HA1
        have hr0 : 0 ≤ rmin := by omega
        have hr1 : rmin ≤ M := by omega
        have hr2 : rmin ≤ 2000000000000 := by omega
        rw [← hrmax] at am0 am1
        have HA2 := hid (fun W => show Calls Tryz.prog 69 #[.agg #[.int .i64 1, .int .i64 1099511627776], .agg #[.int .i64 rmin, .int .i64 rmax]] W (fun e w' => e = .returned (.agg #[.int .i64 (1 + rmin), .int .i64 1099511627776]) ∧ Below W.heap.size W w') from by
          have := and_any 1 1099511627776 rmin rmax W (by decide) (by decide) hr0 (by omega) (by decide) am0
          rwa [am_E] at this)
        have HUX := hid (fun W T B (hC : CB g A c l q lim W) (hT : T ≠ g) (hB : B ≠ g) (cT : W.cell? ⟨T, 0, none⟩ = some (.func (.func 89) #[] #[.pointer (some ⟨B, 0, none⟩)])) (cX : W.cell? ⟨w2.heap.size, 0, none⟩ = some (.int .u64 nx)) (c0 : W.cell? ⟨B, 0, none⟩ = some (.int .i64 (1 + rmin))) (c1 : W.cell? ⟨B, 1, none⟩ = some (.int .i64 1099511627776)) => uint_walk g A c l q lim W 71 #[.pointer (some ⟨T, 0, none⟩), .pointer (some ⟨w2.heap.size, 0, none⟩)] _ hC (rise1_wants_N hT (by omega) hB cT cX c0 c1 nx0 (by omega)))
        have HRM := hid hrmin
        have HRB := hid hrmax
        clear hrmin hrmax HRX
        have S0 := hid (And.intro z0 (And.intro z1 (And.intro b40 b41)))
        clear HN hm
        go_upto_region 7 with (fail)
        go_cut [11] (fun s11 wx => ∃ R5, s11 = .pointer (some ⟨R5, 0, none⟩) ∧ wr.heap.size ≤ R5 ∧ wx.cell? ⟨R5, 0, none⟩ = some (.int .i64 rmin) ∧ wx.cell? ⟨R5, 1, none⟩ = some (.int .i64 rmax) ∧ Hid (Below wr.heap.size wr wx))
        case first =>
          refine wp_region_noPanic ?_
          refine wp_region_held_drew (S := (fun W => W.cell? ⟨3, 0, none⟩ = some (.int .i64 2) ∧ W.cell? ⟨3, 1, none⟩ = some (.int .i64 1099511627776) ∧ W.cell? ⟨w.heap.size, 0, none⟩ = some (.int .i64 a) ∧ W.cell? ⟨w.heap.size, 1, none⟩ = some (.int .i64 b) ∧ Below wr.heap.size wr W)) (by kernel_rfl) ?hSaN1 (fun hHeld => ?goaN1)
          case hSaN1 => exact keepF (p1 := (3, 0)) (p2 := (3, 1)) (p3 := (w.heap.size, 0)) (p4 := (w.heap.size, 1)) S0.out (Below.drew (Below.refl _ _))
          refine tk 0 ⟨some 24, .load 171 (.global 3), 171, "names.go:124", #[], none⟩ rfl ?_
          refine tk 1 ⟨some 25, .move (.tmp 7), 3, "names.go:124", #[], none⟩ rfl ?_
          refine tk 2 ⟨some 26, .binOp .sub 3 (.tmp 25) (.const (.int .i64 1)) 3, 3, "names.go:124", #[⟨1, .data⟩], none⟩ rfl ?_
          refine tk 3 ⟨some 27, .move (.tmp 10), 3, "names.go:124", #[], none⟩ rfl ?_
          refine tk 4 ⟨some 28, .binOp .sub 3 (.tmp 26) (.tmp 27) 3, 3, "names.go:124", #[⟨2, .data⟩, ⟨3, .data⟩], none⟩ rfl ?_
          refine tk 6 ⟨some 30, .load 171 (.tmp 4), 171, "names.go:124", #[], none⟩ rfl ?_
          refine wpAnyH_ready (rs := [5, 8]) (by kernel_rfl) (by simp) ?_
          refine AllReadyH.cons (o := ⟨some 29, .call { callee := .value (.func 68), args := #[.tmp 24, .tmp 28], argTypes := #[171, 3] }, 171, "names.go:124", #[⟨0, .data⟩, ⟨4, .data⟩], none⟩) rfl (fun K hK => ?_) ?_
          · go_simp
            (try rw [HWM.out]); go_at_call 68; (with_reducible refine (HTM.out _).mono ?_); rintro e w3 ⟨rfl, hb1⟩; (try have hz := hid (blkB hz.out hb1))
            refine hK.out _ _ ?_ (fun hHeld => ?_)
            · (try dsimp only); exact keepF (p1 := (3, 0)) (p2 := (3, 1)) (p3 := (w.heap.size, 0)) (p4 := (w.heap.size, 1)) S0.out (hHeld.2.2.2.2.trans (hb1.mono hHeld.2.2.2.2.size))
            clear hK K
            try simp only [Act.put, List.setIfInBounds_toArray, List.set_cons_zero, List.set_cons_succ]
            refine wpAnyH_ready (rs := [7, 8]) (by kernel_rfl) (by simp) ?_
            refine AllReadyH.cons (o := ⟨some 31, .call { callee := .value (.func 69), args := #[.tmp 29, .tmp 30], argTypes := #[171, 171] }, 171, "names.go:124", #[⟨5, .data⟩, ⟨6, .data⟩, ⟨5, .chain⟩], none⟩) rfl (fun K hK => ?_) ?_
            · go_simp
              go_at_call 69; (with_reducible refine (HA1.out _).mono ?_); rintro e w4 ⟨rfl, hb1⟩; (try have hz := hid (blkB hz.out hb1))
              refine hK.out _ _ ?_ (fun hHeld => ?_)
              · (try dsimp only); exact keepF (p1 := (3, 0)) (p2 := (3, 1)) (p3 := (w.heap.size, 0)) (p4 := (w.heap.size, 1)) S0.out (hHeld.2.2.2.2.trans (hb1.mono hHeld.2.2.2.2.size))
              clear hK K
              try simp only [Act.put, List.setIfInBounds_toArray, List.set_cons_zero, List.set_cons_succ]
              refine wpAnyH_ready (rs := [8]) (by kernel_rfl) (by simp) ?_
              refine AllReadyH.cons (o := ⟨some 11, .alloc 171, 0, "names.go:124", #[], none⟩) rfl (fun K hK => ?_) AllReadyH.nil
              go_simp
              obtain ⟨Wn, B, e1, e2, hz, hBn, hW⟩ := newIs hHeld; (try simp only [show ∀ W : World, W.drew.heap.size = W.heap.size from fun _ => rfl] at e2); have hz := hid hz; have hBn := hid hBn; (first | rw [e1, e2] | rw [show (wr.alloc (.cells #[.int .i64 0, .int .i64 0] 171)).drew = Wn from e1, e2]); clear e1 e2
              refine hK.out _ _ ?_ (fun hHeld => ?_)
              · (try dsimp only); exact keepF (p1 := (3, 0)) (p2 := (3, 1)) (p3 := (w.heap.size, 0)) (p4 := (w.heap.size, 1)) S0.out (hBn.out)
              clear hK K
              try simp only [Act.put, List.setIfInBounds_toArray, List.set_cons_zero, List.set_cons_succ]
              refine wpAnyH_ready (rs := [9]) (by kernel_rfl) (by simp) ?_
              refine AllReadyH.cons (o := ⟨none, .store 171 (.tmp 11) (.tmp 31), 0, "names.go:124", #[⟨8, .data⟩, ⟨7, .data⟩, ⟨7, .chain⟩, ⟨0, .phase⟩, ⟨1, .phase⟩, ⟨2, .phase⟩, ⟨3, .phase⟩, ⟨4, .phase⟩, ⟨5, .phase⟩, ⟨6, .phase⟩, ⟨7, .phase⟩, ⟨8, .phase⟩], none⟩) rfl (fun K hK => ?_) AllReadyH.nil
              obtain ⟨z0, z1, f0, f1⟩ := two_at hz.out
              go_simp
              refine hK.out _ _ ?_ (fun hHeld => ?_)
              · (try dsimp only); exact keepF (p1 := (3, 0)) (p2 := (3, 1)) (p3 := (w.heap.size, 0)) (p4 := (w.heap.size, 1)) S0.out ((Below.setCell (p := ⟨B, 0, none⟩) hHeld.2.2.2.2 hW _).setCell (p := ⟨B, 1, none⟩) hW _)
              clear hK K
              try simp only [Act.put, List.setIfInBounds_toArray, List.set_cons_zero, List.set_cons_succ]
              refine wpAnyH_done (by kernel_rfl) ?_ _
              refine NoPanic.normal ?_
              go_wp2_with fail
              go_meet
              exact ⟨_, rfl, hW, (two_set hz.out).1, (two_set hz.out).2, hid hHeld.2.2.2.2⟩
            refine AllReadyH.cons (o := ⟨some 11, .alloc 171, 0, "names.go:124", #[], none⟩) rfl (fun K hK => ?_) ?_
            · go_simp
              obtain ⟨Wn, B, e1, e2, hz, hBn, hW⟩ := newIs hHeld; (try simp only [show ∀ W : World, W.drew.heap.size = W.heap.size from fun _ => rfl] at e2); have hz := hid hz; have hBn := hid hBn; (first | rw [e1, e2] | rw [show (wr.alloc (.cells #[.int .i64 0, .int .i64 0] 171)).drew = Wn from e1, e2]); clear e1 e2
              refine hK.out _ _ ?_ (fun hHeld => ?_)
              · (try dsimp only); exact keepF (p1 := (3, 0)) (p2 := (3, 1)) (p3 := (w.heap.size, 0)) (p4 := (w.heap.size, 1)) S0.out (hBn.out)
              clear hK K
              try simp only [Act.put, List.setIfInBounds_toArray, List.set_cons_zero, List.set_cons_succ]
              refine wpAnyH_ready (rs := [7]) (by kernel_rfl) (by simp) ?_
              refine AllReadyH.cons (o := ⟨some 31, .call { callee := .value (.func 69), args := #[.tmp 29, .tmp 30], argTypes := #[171, 171] }, 171, "names.go:124", #[⟨5, .data⟩, ⟨6, .data⟩, ⟨5, .chain⟩], none⟩) rfl (fun K hK => ?_) AllReadyH.nil
              go_simp
              go_at_call 69; (with_reducible refine (HA1.out _).mono ?_); rintro e w4 ⟨rfl, hb1⟩; (try have hz := hid (blkB hz.out hb1))
              refine hK.out _ _ ?_ (fun hHeld => ?_)
              · (try dsimp only); exact keepF (p1 := (3, 0)) (p2 := (3, 1)) (p3 := (w.heap.size, 0)) (p4 := (w.heap.size, 1)) S0.out (hHeld.2.2.2.2.trans (hb1.mono hHeld.2.2.2.2.size))
              clear hK K
              try simp only [Act.put, List.setIfInBounds_toArray, List.set_cons_zero, List.set_cons_succ]
              refine wpAnyH_ready (rs := [9]) (by kernel_rfl) (by simp) ?_
              refine AllReadyH.cons (o := ⟨none, .store 171 (.tmp 11) (.tmp 31), 0, "names.go:124", #[⟨8, .data⟩, ⟨7, .data⟩, ⟨7, .chain⟩, ⟨0, .phase⟩, ⟨1, .phase⟩, ⟨2, .phase⟩, ⟨3, .phase⟩, ⟨4, .phase⟩, ⟨5, .phase⟩, ⟨6, .phase⟩, ⟨7, .phase⟩, ⟨8, .phase⟩], none⟩) rfl (fun K hK => ?_) AllReadyH.nil
              obtain ⟨z0, z1, f0, f1⟩ := two_at hz.out
              go_simp
              refine hK.out _ _ ?_ (fun hHeld => ?_)
              · (try dsimp only); exact keepF (p1 := (3, 0)) (p2 := (3, 1)) (p3 := (w.heap.size, 0)) (p4 := (w.heap.size, 1)) S0.out ((Below.setCell (p := ⟨B, 0, none⟩) hHeld.2.2.2.2 hW _).setCell (p := ⟨B, 1, none⟩) hW _)
              clear hK K
              try simp only [Act.put, List.setIfInBounds_toArray, List.set_cons_zero, List.set_cons_succ]
              refine wpAnyH_done (by kernel_rfl) ?_ _
              refine NoPanic.normal ?_
              go_wp2_with fail
              go_meet
              exact ⟨_, rfl, hW, (two_set hz.out).1, (two_set hz.out).2, hid hHeld.2.2.2.2⟩
            exact AllReadyH.nil
          refine AllReadyH.cons (o := ⟨some 11, .alloc 171, 0, "names.go:124", #[], none⟩) rfl (fun K hK => ?_) ?_
          · go_simp
            obtain ⟨Wn, B, e1, e2, hz, hBn, hW⟩ := newIs hHeld; (try simp only [show ∀ W : World, W.drew.heap.size = W.heap.size from fun _ => rfl] at e2); have hz := hid hz; have hBn := hid hBn; (first | rw [e1, e2] | rw [show (wr.alloc (.cells #[.int .i64 0, .int .i64 0] 171)).drew = Wn from e1, e2]); clear e1 e2
            refine hK.out _ _ ?_ (fun hHeld => ?_)
            · (try dsimp only); exact keepF (p1 := (3, 0)) (p2 := (3, 1)) (p3 := (w.heap.size, 0)) (p4 := (w.heap.size, 1)) S0.out (hBn.out)
            clear hK K
            try simp only [Act.put, List.setIfInBounds_toArray, List.set_cons_zero, List.set_cons_succ]
            refine wpAnyH_ready (rs := [5]) (by kernel_rfl) (by simp) ?_
            refine AllReadyH.cons (o := ⟨some 29, .call { callee := .value (.func 68), args := #[.tmp 24, .tmp 28], argTypes := #[171, 3] }, 171, "names.go:124", #[⟨0, .data⟩, ⟨4, .data⟩], none⟩) rfl (fun K hK => ?_) AllReadyH.nil
            go_simp
            (try rw [HWM.out]); go_at_call 68; (with_reducible refine (HTM.out _).mono ?_); rintro e w3 ⟨rfl, hb1⟩; (try have hz := hid (blkB hz.out hb1))
            refine hK.out _ _ ?_ (fun hHeld => ?_)
            · (try dsimp only); exact keepF (p1 := (3, 0)) (p2 := (3, 1)) (p3 := (w.heap.size, 0)) (p4 := (w.heap.size, 1)) S0.out (hHeld.2.2.2.2.trans (hb1.mono hHeld.2.2.2.2.size))
            clear hK K
            try simp only [Act.put, List.setIfInBounds_toArray, List.set_cons_zero, List.set_cons_succ]
            refine wpAnyH_ready (rs := [7]) (by kernel_rfl) (by simp) ?_
            refine AllReadyH.cons (o := ⟨some 31, .call { callee := .value (.func 69), args := #[.tmp 29, .tmp 30], argTypes := #[171, 171] }, 171, "names.go:124", #[⟨5, .data⟩, ⟨6, .data⟩, ⟨5, .chain⟩], none⟩) rfl (fun K hK => ?_) AllReadyH.nil
            go_simp
            go_at_call 69; (with_reducible refine (HA1.out _).mono ?_); rintro e w4 ⟨rfl, hb1⟩; (try have hz := hid (blkB hz.out hb1))
            refine hK.out _ _ ?_ (fun hHeld => ?_)
            · (try dsimp only); exact keepF (p1 := (3, 0)) (p2 := (3, 1)) (p3 := (w.heap.size, 0)) (p4 := (w.heap.size, 1)) S0.out (hHeld.2.2.2.2.trans (hb1.mono hHeld.2.2.2.2.size))
            clear hK K
            try simp only [Act.put, List.setIfInBounds_toArray, List.set_cons_zero, List.set_cons_succ]
            refine wpAnyH_ready (rs := [9]) (by kernel_rfl) (by simp) ?_
            refine AllReadyH.cons (o := ⟨none, .store 171 (.tmp 11) (.tmp 31), 0, "names.go:124", #[⟨8, .data⟩, ⟨7, .data⟩, ⟨7, .chain⟩, ⟨0, .phase⟩, ⟨1, .phase⟩, ⟨2, .phase⟩, ⟨3, .phase⟩, ⟨4, .phase⟩, ⟨5, .phase⟩, ⟨6, .phase⟩, ⟨7, .phase⟩, ⟨8, .phase⟩], none⟩) rfl (fun K hK => ?_) AllReadyH.nil
            obtain ⟨z0, z1, f0, f1⟩ := two_at hz.out
            go_simp
            refine hK.out _ _ ?_ (fun hHeld => ?_)
            · (try dsimp only); exact keepF (p1 := (3, 0)) (p2 := (3, 1)) (p3 := (w.heap.size, 0)) (p4 := (w.heap.size, 1)) S0.out ((Below.setCell (p := ⟨B, 0, none⟩) hHeld.2.2.2.2 hW _).setCell (p := ⟨B, 1, none⟩) hW _)
            clear hK K
            try simp only [Act.put, List.setIfInBounds_toArray, List.set_cons_zero, List.set_cons_succ]
            refine wpAnyH_done (by kernel_rfl) ?_ _
            refine NoPanic.normal ?_
            go_wp2_with fail
            go_meet
            exact ⟨_, rfl, hW, (two_set hz.out).1, (two_set hz.out).2, hid hHeld.2.2.2.2⟩
          exact AllReadyH.nil
        case rest =>
          obtain ⟨R5, rfl, hR5, r0, r1, HB5⟩ := hcut
          have hb5 := HB5.out
          have hz5 : wr.heap.size ≤ wc.heap.size := hb5.size
          have hR5l := cell_lt r0
          have s0 := still hb5 s0
          have s1 := still hb5 s1
          have cX := still hb5 cX
          have b40 := still hb5 b40
          have b41 := still hb5 b41
          have fX : wc.frozen? ⟨w2.heap.size, 0, none⟩ = false := by rw [World.frozen?_of_block (a := ⟨w2.heap.size, 0, none⟩) (hb5.block _ hXw)]; exact fX
          have HC5 := hid (HCr.out.below hb5)
          have HR5 := hid (HR.out.trans (grown_of_below hb5 _))
          have HO5 := hid (Kd.R_below HO.out hb5)
          have hXl : w2.heap.size < wc.heap.size := by omega
          have hsl := cell_lt s0
          have hgl : g < wc.heap.size := HC5.out.cu.lt
          have hgw : g < w.heap.size := hlt
          clear hb5 z0 z1
          rcases hux : uM (rgX nx (1 + rmin)) l lim 5 0 q with s | ⟨ix, q1⟩
          · have HF := hid (HN2.out.trans (ri_stop xs (by rw [← HRM.out]; exact hux)))
            rw [hux] at HUX
            clear hux HN2
            go_wp2_with (first | (go_at_call 69; (with_reducible refine (HA2.out _).mono ?_); rintro e w6 ⟨rfl, hb6⟩; have HB6 := hid hb6) | (go_at_call 70; (with_reducible refine (index_walk _ _ _).mono ?_); rintro e w7 ⟨rfl, hb7, hs7, i0, i1⟩; have HB7 := hid (HB6.out.trans (hb7.mono HB6.out.size)); have cX := still HB7.out cX; have r0 := still HB7.out r0; have r1 := still HB7.out r1; have b40 := still HB7.out b40; have b41 := still HB7.out b41; have HC7 := hid (HC5.out.below HB7.out); have HR7 := hid (HR5.out.trans (grown_of_below HB7.out _)); have HO7 := hid (Kd.R_below HO5.out HB7.out); have hz7 := HB7.out.size; have hz6 := HB6.out.size) | (go_at_call 41; go_loud ((with_reducible refine (HUX.out _ w7.heap.size w6.heap.size (HC7.out.below ((Below.refl _ _).alloc (Nat.le_refl _) _)) (by omega) (by omega) (by go_simp) (still ((Below.refl _ _).alloc (Nat.le_refl _) _) cX) (still ((Below.refl _ _).alloc (Nat.le_refl _) _) i0) (still ((Below.refl _ _).alloc (Nat.le_refl _) _) i1)).mono ?_); rintro e w8 ⟨rfl, HG8⟩)))
            refine ⟨rfl, ?_⟩
            show PostLi k149 149 g A c l lim w (liM rd a b l p lim) _ _
            rw [HF.out]
            exact ⟨rfl, HR7.out.trans ((grown_of_below ((Below.refl _ _).alloc (Nat.le_refl _) (.cells #[.func (.func 89) #[] #[.pointer (some ⟨w6.heap.size, 0, none⟩)]] 196)) _).trans HG8)⟩
          · obtain ⟨-, ix0, -⟩ := uM_ge 5 0 q ix q1 (by decide) HL0.out hux
            have ix1 := uM_lt 4 0 q ix q1 (by decide) (by decide) (by decide) HL0.out hux
            rw [hux] at HUX
            have hwx : IntKind.u64.wrap (ix + 1) = ix + 1 := by rw [wu]; omega
            have FXB := hid (fun (W : World) (hb : Below wc.heap.size wc W) => show W.frozen? ⟨w2.heap.size, 0, none⟩ = false by rw [World.frozen?_of_block (a := ⟨w2.heap.size, 0, none⟩) (hb.block _ hXl)]; exact fX)
            have HRDc := hid (fun W (hW : Rd g w W) (hC : CB g A c l q1 lim W) => HRD.out.call W hW ix rmin rmax q1 ix0 (by omega) hr0 hr1 am0 am1 hC)
            have hXg : w2.heap.size ≠ g := by omega
            have hRg : R5 ≠ g := by omega
            have hRX : R5 ≠ w2.heap.size := by omega
            go_upto_region 10 with (first | (go_at_call 69; (with_reducible refine (HA2.out _).mono ?_); rintro e w6 ⟨rfl, hb6⟩; have HB6 := hid hb6) | (go_at_call 70; (with_reducible refine (index_walk _ _ _).mono ?_); rintro e w7 ⟨rfl, hb7, hs7, i0, i1⟩; have HB7 := hid (HB6.out.trans (hb7.mono HB6.out.size)); have cX := still HB7.out cX; have r0 := still HB7.out r0; have r1 := still HB7.out r1; have b40 := still HB7.out b40; have b41 := still HB7.out b41; have HC7 := hid (HC5.out.below HB7.out); have HR7 := hid (HR5.out.trans (grown_of_below HB7.out _)); have HO7 := hid (Kd.R_below HO5.out HB7.out); have hz7 := HB7.out.size; have hz6 := HB6.out.size) | (go_at_call 41; go_loud ((with_reducible refine (HUX.out _ w7.heap.size w6.heap.size (HC7.out.below ((Below.refl _ _).alloc (Nat.le_refl _) _)) (by omega) (by omega) (by go_simp) (still ((Below.refl _ _).alloc (Nat.le_refl _) _) cX) (still ((Below.refl _ _).alloc (Nat.le_refl _) _) i0) (still ((Below.refl _ _).alloc (Nat.le_refl _) _) i1)).mono ?_); rintro e w8 ⟨rfl, HC8, HG8⟩; have HC8 := hid HC8)))
            have hb7a : Below wc.heap.size wc (w7.alloc (.cells #[.func (.func 89) #[] #[.pointer (some ⟨w6.heap.size, 0, none⟩)]] 196)) := HB7.out.alloc HB7.out.size _
            have hb7b : Below w7.heap.size w7 (w7.alloc (.cells #[.func (.func 89) #[] #[.pointer (some ⟨w6.heap.size, 0, none⟩)]] 196)) := (Below.refl _ _).alloc (Nat.le_refl _) _
            have HR8 := hid (HR7.out.trans ((grown_of_below hb7b _).trans HG8))
            have fX8 : w8.frozen? ⟨w2.heap.size, 0, none⟩ = false := by
              rw [World.frozen?_of_block (a := ⟨w2.heap.size, 0, none⟩) (HG8.block _ (Nat.lt_of_lt_of_le hXl hb7a.size) (fun e => hXg (Option.some.inj e)))]
              exact FXB.out _ hb7a
            have cX8 := HG8.cell hXg (still hb7b cX)
            have r08 := HG8.cell hRg (still hb7b r0)
            have r18 := HG8.cell hRg (still hb7b r1)
            have b408 := HG8.cell (by omega) (still hb7b b40)
            have b418 := HG8.cell (by omega) (still hb7b b41)
            have HO8 := hid (r_rd (Kd.R_below HO7.out hb7b) (by omega) HG8)
            have hX8 : w2.heap.size < w8.heap.size := cell_lt cX8
            clear cX r0 r1 b40 b41 s0 s1 i0 i1 fX hb7a hb7b HG8
            go_upto_region 11 with (fail)
            obtain ⟨W9, hW9⟩ : ∃ W9, W9 = w8.setCell ⟨w2.heap.size, 0, none⟩ (.int .u64 (ix + 1)) := ⟨_, rfl⟩
            have hb9 : Below w.heap.size w8 W9 := by rw [hW9]; exact (Below.refl _ _).setCell (p := ⟨w2.heap.size, 0, none⟩) (by show w.heap.size ≤ w2.heap.size; omega) _
            have cX : W9.cell? ⟨w2.heap.size, 0, none⟩ = some (.int .u64 (ix + 1)) := by rw [hW9]; apply World.cell?_setCell_same; exact cX8
            have fX : W9.frozen? ⟨w2.heap.size, 0, none⟩ = false := by rw [hW9, World.frozen?_setCell]; exact fX8
            have r0 : W9.cell? ⟨R5, 0, none⟩ = some (.int .i64 rmin) := by rw [hW9, World.cell?_setCell_far _ _ _ _ (fun e => hRX e.symm)]; exact r08
            have r1 : W9.cell? ⟨R5, 1, none⟩ = some (.int .i64 rmax) := by rw [hW9, World.cell?_setCell_far _ _ _ _ (fun e => hRX e.symm)]; exact r18
            have b40 : W9.cell? ⟨w.heap.size, 0, none⟩ = some (.int .i64 a) := by rw [hW9, World.cell?_setCell_far _ _ _ _ (fun e => by have : w2.heap.size = w.heap.size := e; omega)]; exact b408
            have b41 : W9.cell? ⟨w.heap.size, 1, none⟩ = some (.int .i64 b) := by rw [hW9, World.cell?_setCell_far _ _ _ _ (fun e => by have : w2.heap.size = w.heap.size := e; omega)]; exact b418
            have HC9 := hid (cb_base HC.out HC8.out HR8.out hb9)
            have HR9 := hid (rd_base HR8.out hb9)
            have HO9 := hid (show k149.R 149 W9 w.heap.size (fun k => w2.heap.size < k) u9 xs by rw [hW9]; exact Kd.R_far HO8.out (p := ⟨w2.heap.size, 0, none⟩) (fun k hk e => by have : k = w2.heap.size := e; omega) _)
            have hz9 : w2.heap.size < W9.heap.size := cell_lt cX
            rw [← hW9]
            clear hW9 cX8 fX8 r08 r18 b408 b418 hb9
            have hmj : m = n.toNat - (j + 1) := by omega
            have hxl := HXL.out
            have HJ4 := hid (show (xs.length + 1) * 24 ≤ 140737488355328 by omega)
            rcases hrd : rd ix rmin rmax q1 with s | ⟨x, q2⟩
            · have HF := hid (HN2.out.trans (ri_stop2 xs (by rw [← HRM.out]; exact hux) (by rw [← HRM.out, ← HRB.out]; exact hrd)))
              rw [hrd] at HRDc
              clear hux hrd HN2
              go_wp2_with (first | ((with_reducible refine (HRDc.out _ HR9.out HC9.out).mono ?_); rintro e w10 ⟨rfl, HG10⟩))
              refine ⟨rfl, ?_⟩
              show PostLi k149 149 g A c l lim w (liM rd a b l p lim) _ _
              rw [HF.out]
              exact ⟨rfl, HR9.out.trans HG10⟩
            · have HN3 := hid (HN2.out.trans (ri_step xs (by rw [← HRM.out]; exact hux) (by rw [← HRM.out, ← HRB.out]; exact hrd)))
              rw [hrd] at HRDc
              clear hux hrd HN2
              go_wp2_with (first | ((with_reducible refine (HRDc.out _ HR9.out HC9.out).mono ?_); rintro e w10 ⟨⟨v, rfl, hM⟩, HC10, HG10⟩; have HM := hid (k149.M_lower (base' := w.heap.size) (by omega) hM); have HO10 := hid (r_rd HO9.out (by omega) HG10); have HC10 := hid HC10; have HR10 := hid (HR9.out.trans HG10); have hz10 := HG10.size; have HOB := hid (Kd.R_bound HO9.out).1) | (at_builtin; go_loud (refine Kd.R_append k149 (w0 := w10) w.heap.size rfl _ _ 23 149 (.agg #[.int .u32 0, .string ⟨#[]⟩]) 24 rfl Tryz.underlying23 infoN1 rfl (by decide) (by decide) u9 xs x [.int .u32 x.f0, v] (fun k => w2.heap.size < k) (fun k => W9.heap.size ≤ k) rfl rfl HM.out (fun k hk => ⟨by omega, fun e => by have := HOB.out k e.symm; omega⟩) (fun k hk => by omega) HO10.out (Below.refl _ _) (by omega) HJ4.out ?_)))
              intro v1 w12 hR1 hB12 hG12 hat12
              have HO12 := hid hR1
              have hne : ∀ q, q ≤ w2.heap.size → some q ≠ u9.ownBlock := fun q hq e => by have := (HOB.out q e.symm).1; omega
              have cX := hG12.cell (HG10.cell hXg cX) (hne _ (Nat.le_refl _))
              have fX : w12.frozen? ⟨w2.heap.size, 0, none⟩ = false := by
                rw [World.frozen?_of_block (a := ⟨w2.heap.size, 0, none⟩) (hG12.block w2.heap.size (by omega) (hne _ (Nat.le_refl _))), World.frozen?_of_block (a := ⟨w2.heap.size, 0, none⟩) (HG10.block _ hz9 (fun e => hXg (Option.some.inj e)))]
                exact fX
              have b40 := hG12.cell (HG10.cell (by omega) b40) (hne _ (by show w.heap.size ≤ _; omega))
              have b41 := hG12.cell (HG10.cell (by omega) b41) (hne _ (by show w.heap.size ≤ _; omega))
              have HC12 := hid (cb_base HC.out HC10.out HR10.out hB12)
              have HR12 := hid (rd_base HR10.out hB12)
              have hz12 : w2.heap.size < w12.heap.size := cell_lt cX
              clear hR1 hB12 hG12 hat12 hM HG10 r0 r1
              go_wp2
              go_roundw
              case rel => exact ⟨j + 1, ix + 1, q2, xs ++ [x], by go_num, by omega, by omega, by omega, hid (by rw [List.length_append, hxl]; rfl), HO12, hid (by rw [← hmj]; exact HN3.out), cX, fX, hz12, b40, b41, HC12, HR12⟩
              case measure => simp [intOf]; omega
      · have hje : (j : Int) = n := by omega
        go_wp2
        go_ret
        show PostLi k149 149 g A c l lim w (liM rd a b l p lim) _ _
        rw [HN.out, show n.toNat - j = 0 by omega, riM]
        simp only [ahead, List.append_nil]
        exact ⟨⟨_, rfl, Kd.R_mono HO.out (fun k hk => by have := HX2.out; omega)⟩, HCr.out, HR.out⟩
set_option maxRecDepth 100000 in
set_option maxHeartbeats 8000000 in
theorem ris_L (g : Nat) (A : Option Addr) (c : Nat) (l : List Int) (p lim : Int) (w : World) (a b M : Int) (k : Nat) (caps : Array Value) (rd : Int → Int → Int → Int → Except (Int × Int) (S90 × Int)) (h : CB g A c l p lim w) (hG : GlobH g w) (a0 : 0 ≤ a) (a1 : a ≤ 1000000000000) (b0 : 0 ≤ b) (b1 : b ≤ 1099511627776) (hM : 8589934592 + a ≤ M) (hr : RdI k90 (fun x : S90 => x.f0) g A c l lim M rd k caps w) :
    Calls Tryz.prog 48 #[.pointer (some ⟨g, 0, none⟩), .agg #[.int .i64 a, .int .i64 b], .func (.func k) #[] caps] w (PostLi k90 90 g A c l lim w (liM rd a b l p lim)) := by
  have HU := hid (fun W (hC : CB g A c l p lim W) (hW : Rd g w W) B C (hne : B ≠ g) (hne2 : C ≠ g) (h0 : W.cell? ⟨B, 0, none⟩ = some (.int .i64 2)) (h1 : W.cell? ⟨B, 1, none⟩ = some (.int .i64 1099511627776)) (k0 : W.cell? ⟨C, 0, none⟩ = some (.int .i64 a)) (k1 : W.cell? ⟨C, 1, none⟩ = some (.int .i64 b)) => uint_walk g A c l p lim W 87 #[.pointer (some ⟨B, 0, none⟩), .pointer (some ⟨C, 0, none⟩)] _ hC (list_wants hG.h0 hne hne2 (by omega) (by omega) (by omega) (by omega) a0 (by omega) b0 (by omega) (hG.rd hW).gl h0 h1 k0 k1))
  have HC := hid h
  have hlt := h.cu.lt
  have HGH := hid hG
  have HRD := hid hr
  have HEN : ∀ (args : Array Value) (w : World), (callFunc k args).run Tryz.prog w = .ok (.enter k args) w := hr.ent
  obtain ⟨z0, z1, s0, s1, -, -⟩ := hG.gm
  have za := cell_lt z0
  have hl0 : ∀ x ∈ l, 0 ≤ x := fun x hx => (h.b8 x hx).1
  have hmf : ∀ (fn : Fn) (first cap : Array Value) (w : World), (Instr.makeFunc fn first cap).run Tryz.prog w = .ok (.func fn first cap) w := fun _ _ _ _ => rfl
  have hsf : ∀ (a : Addr) (f : Fn) (x y : Array Value) (m : Mode) (w : World), (store a (.func f x y) m).run Tryz.prog w = stored Tryz.prog w a (.func f x y) m := fun a f x y m w => run_store _ w a _ m rfl
  have hzz : (w.alloc (.cells #[.int .i64 a, .int .i64 b] 171)).heap.size = w.heap.size + 1 := by simp
  have HZ := hid hzz
  rcases hu : uM (rgL 2 1099511627776 a b) l lim 5 0 p with s | ⟨n, p1⟩
  · have HE := hid (show liM rd a b l p lim = .error s by rw [liM, hu])
    rw [hu] at HU
    clear hu h hG hr hzz hl0
    go_enter Tryz.func48, Tryz.ntmps48
    go_wp2_with (first | (go_at_call 67; (with_reducible refine (list_walk _ _ _ _ _).mono ?_); rintro e w1 ⟨rfl, hb1, hs1, i0', i1, i2, i3⟩; rw [HZ.out] at hs1 i0' i1 i2 i3) | (go_at_call 41; go_loud ((with_reducible refine (HU.out _ (HC.out.below bel) (grown_of_below bel _) _ _ (by omega) (by omega) i0' i1 i2 i3).mono ?_); rintro e w2 ⟨rfl, HG2⟩)))
    refine ⟨rfl, ?_⟩
    show PostLi k90 90 g A c l lim w (liM rd a b l p lim) _ _
    rw [HE.out]
    exact ⟨rfl, (grown_of_below bel _).trans HG2⟩
  · obtain ⟨g1, n0, hx⟩ := uM_ge 5 0 p n p1 (by decide) hl0 hu
    have n1 := uM_lt 4 0 p n p1 (by decide) (by decide) (by decide) hl0 hu
    have HE := hid (show liM rd a b l p lim = riM rd a b l lim n.toNat 0 p1 by rw [liM, hu])
    rw [hu] at HU
    have hwn : IntKind.i64.wrap n = n := by rw [IntKind.wrap_i64]; omega
    have HL0 := hid hl0
    clear hu h hG hr hzz hx hl0
    go_enter Tryz.func48, Tryz.ntmps48
    go_wp2_with (first | (go_at_call 67; (with_reducible refine (list_walk _ _ _ _ _).mono ?_); rintro e w1 ⟨rfl, hb1, hs1, i0', i1, i2, i3⟩; rw [HZ.out] at hs1 i0' i1 i2 i3) | (go_at_call 41; go_loud ((with_reducible refine (HU.out _ (HC.out.below bel) (grown_of_below bel _) _ _ (by omega) (by omega) i0' i1 i2 i3).mono ?_); rintro e w2 ⟨rfl, HC2, HG2⟩; have HC2 := hid HC2)))
    have HR2 := hid ((grown_of_below bel _).trans HG2 : Rd g w w2)
    have b40 : w2.cell? ⟨w.heap.size, 0, none⟩ = some (.int .i64 a) := HG2.cell (by omega) (still hb1 (by go_simp))
    have b41 : w2.cell? ⟨w.heap.size, 1, none⟩ = some (.int .i64 b) := HG2.cell (by omega) (still hb1 (by go_simp))
    have hz2 : w.heap.size < w2.heap.size := cell_lt b40
    have HX2 := hid hz2
    clear HU hb1 hs1 i0' i1 i2 i3 HG2
    go_loopw [9, 21] (fun v9 v21 wr => ∃ (j : Nat) (nx q : Int) (xs : List S90), v21 = .int .i64 j ∧ (j : Int) ≤ n ∧ 0 ≤ nx ∧ nx ≤ 4294967296 ∧ Hid (xs.length = j) ∧ Hid (k90.R 90 wr w.heap.size (fun k => w2.heap.size < k) v9 xs) ∧ Hid (liM rd a b l p lim = ahead xs (riM rd a b l lim (n.toNat - j) nx q)) ∧ wr.cell? ⟨w2.heap.size, 0, none⟩ = some (.int .u64 nx) ∧ wr.frozen? ⟨w2.heap.size, 0, none⟩ = false ∧ w2.heap.size < wr.heap.size ∧ wr.cell? ⟨w.heap.size, 0, none⟩ = some (.int .i64 a) ∧ wr.cell? ⟨w.heap.size, 1, none⟩ = some (.int .i64 b) ∧ Hid (CB g (A) c l q lim wr) ∧ Hid (Rd g w wr)) (fun _ v21 _ => n.toNat - (intOf v21).toNat)
    case atStart => exact ⟨0, 0, p1, [], by go_num, by omega, by omega, by omega, hid rfl, hid (Kd.R_nil _ _ _ _ _), hid (by rw [HE.out, ahead_nil]; rfl), by go_simp, by go_simp, by simp, by go_simp, by go_simp, hid (HC2.out.below bel), hid (HR2.out.trans (grown_of_below bel _))⟩
    case round =>
      obtain ⟨j, nx, q, xs, rfl, hj, nx0, nx1, HXL, HO, HN, cX, fX, hXw, b40, b41, HCr, HR⟩ := hrel
      by_cases hjn : (j : Int) < n
      · obtain ⟨m, hm⟩ : ∃ m : Nat, n.toNat - j = m + 1 := ⟨n.toNat - j - 1, by omega⟩
        have hmn : n - 1 - (j : Int) = (m : Int) := by omega
        have hm4 : (m : Int) ≤ 4294967296 := by omega
        have HWM := hid (show IntKind.i64.wrap (IntKind.i64.wrap (n - 1) - (j : Int)) = (m : Int) by rw [IntKind.wrap_i64, IntKind.wrap_i64]; omega)
        have HN2 := hid (by have := HN.out; rwa [hm] at this : liM rd a b l p lim = ahead xs (riM rd a b l lim (m + 1) nx q))
        obtain ⟨tm0, tm1, tx0, tx1⟩ := tm_bd m hm4
        obtain ⟨am0, am1⟩ := am_bd tx0 b0
        have HGr := hid (HGH.out.rd HR.out)
        obtain ⟨z0, z1, s0, s1, -, -⟩ := HGr.out.gm
        have HTM := hid (fun W => tms_any 2 1099511627776 (m : Int) W (by decide) (by decide) (by decide) (by decide) (by omega))
        have HA1 := hid (fun W => and_any (tmMin 2 (m : Int)) (tmMax 1099511627776 (m : Int)) a b W tm0 (by omega) a0 (by omega) tx0 b0)
        have HRX := hid (show ∃ rmin rmax, rmin = tmMin 2 (m : Int) + a ∧ rmax = andMax (tmMax 1099511627776 (m : Int)) b from ⟨_, _, rfl, rfl⟩)
        obtain ⟨rmin, rmax, hrmin, hrmax⟩ := HRX.out
        rw [← hrmin, ← hrmax] at HA1
        have hr0 : 0 ≤ rmin := by omega
        have hr1 : rmin ≤ M := by omega
        have hr2 : rmin ≤ 2000000000000 := by omega
        rw [← hrmax] at am0 am1
        have HA2 := hid (fun W => show Calls Tryz.prog 69 #[.agg #[.int .i64 1, .int .i64 1099511627776], .agg #[.int .i64 rmin, .int .i64 rmax]] W (fun e w' => e = .returned (.agg #[.int .i64 (1 + rmin), .int .i64 1099511627776]) ∧ Below W.heap.size W w') from by
          have := and_any 1 1099511627776 rmin rmax W (by decide) (by decide) hr0 (by omega) (by decide) am0
          rwa [am_E] at this)
        have HUX := hid (fun W T B (hC : CB g A c l q lim W) (hT : T ≠ g) (hB : B ≠ g) (cT : W.cell? ⟨T, 0, none⟩ = some (.func (.func 89) #[] #[.pointer (some ⟨B, 0, none⟩)])) (cX : W.cell? ⟨w2.heap.size, 0, none⟩ = some (.int .u64 nx)) (c0 : W.cell? ⟨B, 0, none⟩ = some (.int .i64 (1 + rmin))) (c1 : W.cell? ⟨B, 1, none⟩ = some (.int .i64 1099511627776)) => uint_walk g A c l q lim W 73 #[.pointer (some ⟨T, 0, none⟩), .pointer (some ⟨w2.heap.size, 0, none⟩)] _ hC (rise1_wants_L hT (by omega) hB cT cX c0 c1 nx0 (by omega)))
        have HRM := hid hrmin
        have HRB := hid hrmax
        clear hrmin hrmax HRX
        have S0 := hid (And.intro z0 (And.intro z1 (And.intro b40 b41)))
        clear HN hm
        go_upto_region 7 with (fail)
        go_cut [11] (fun s11 wx => ∃ R5, s11 = .pointer (some ⟨R5, 0, none⟩) ∧ wr.heap.size ≤ R5 ∧ wx.cell? ⟨R5, 0, none⟩ = some (.int .i64 rmin) ∧ wx.cell? ⟨R5, 1, none⟩ = some (.int .i64 rmax) ∧ Hid (Below wr.heap.size wr wx))
        case first =>
          refine wp_region_noPanic ?_
          refine wp_region_held_drew (S := (fun W => W.cell? ⟨3, 0, none⟩ = some (.int .i64 2) ∧ W.cell? ⟨3, 1, none⟩ = some (.int .i64 1099511627776) ∧ W.cell? ⟨w.heap.size, 0, none⟩ = some (.int .i64 a) ∧ W.cell? ⟨w.heap.size, 1, none⟩ = some (.int .i64 b) ∧ Below wr.heap.size wr W)) (by kernel_rfl) ?hSaL1 (fun hHeld => ?goaL1)
          case hSaL1 => exact keepF (p1 := (3, 0)) (p2 := (3, 1)) (p3 := (w.heap.size, 0)) (p4 := (w.heap.size, 1)) S0.out (Below.drew (Below.refl _ _))
          refine tk 0 ⟨some 24, .load 171 (.global 3), 171, "names.go:124", #[], none⟩ rfl ?_
          refine tk 1 ⟨some 25, .move (.tmp 7), 3, "names.go:124", #[], none⟩ rfl ?_
          refine tk 2 ⟨some 26, .binOp .sub 3 (.tmp 25) (.const (.int .i64 1)) 3, 3, "names.go:124", #[⟨1, .data⟩], none⟩ rfl ?_
          refine tk 3 ⟨some 27, .move (.tmp 10), 3, "names.go:124", #[], none⟩ rfl ?_
          refine tk 4 ⟨some 28, .binOp .sub 3 (.tmp 26) (.tmp 27) 3, 3, "names.go:124", #[⟨2, .data⟩, ⟨3, .data⟩], none⟩ rfl ?_
          refine tk 6 ⟨some 30, .load 171 (.tmp 4), 171, "names.go:124", #[], none⟩ rfl ?_
          refine wpAnyH_ready (rs := [5, 8]) (by kernel_rfl) (by simp) ?_
          refine AllReadyH.cons (o := ⟨some 29, .call { callee := .value (.func 68), args := #[.tmp 24, .tmp 28], argTypes := #[171, 3] }, 171, "names.go:124", #[⟨0, .data⟩, ⟨4, .data⟩], none⟩) rfl (fun K hK => ?_) ?_
          · go_simp
            (try rw [HWM.out]); go_at_call 68; (with_reducible refine (HTM.out _).mono ?_); rintro e w3 ⟨rfl, hb1⟩; (try have hz := hid (blkB hz.out hb1))
            refine hK.out _ _ ?_ (fun hHeld => ?_)
            · (try dsimp only); exact keepF (p1 := (3, 0)) (p2 := (3, 1)) (p3 := (w.heap.size, 0)) (p4 := (w.heap.size, 1)) S0.out (hHeld.2.2.2.2.trans (hb1.mono hHeld.2.2.2.2.size))
            clear hK K
            try simp only [Act.put, List.setIfInBounds_toArray, List.set_cons_zero, List.set_cons_succ]
            refine wpAnyH_ready (rs := [7, 8]) (by kernel_rfl) (by simp) ?_
            refine AllReadyH.cons (o := ⟨some 31, .call { callee := .value (.func 69), args := #[.tmp 29, .tmp 30], argTypes := #[171, 171] }, 171, "names.go:124", #[⟨5, .data⟩, ⟨6, .data⟩, ⟨5, .chain⟩], none⟩) rfl (fun K hK => ?_) ?_
            · go_simp
              go_at_call 69; (with_reducible refine (HA1.out _).mono ?_); rintro e w4 ⟨rfl, hb1⟩; (try have hz := hid (blkB hz.out hb1))
              refine hK.out _ _ ?_ (fun hHeld => ?_)
              · (try dsimp only); exact keepF (p1 := (3, 0)) (p2 := (3, 1)) (p3 := (w.heap.size, 0)) (p4 := (w.heap.size, 1)) S0.out (hHeld.2.2.2.2.trans (hb1.mono hHeld.2.2.2.2.size))
              clear hK K
              try simp only [Act.put, List.setIfInBounds_toArray, List.set_cons_zero, List.set_cons_succ]
              refine wpAnyH_ready (rs := [8]) (by kernel_rfl) (by simp) ?_
              refine AllReadyH.cons (o := ⟨some 11, .alloc 171, 0, "names.go:124", #[], none⟩) rfl (fun K hK => ?_) AllReadyH.nil
              go_simp
              obtain ⟨Wn, B, e1, e2, hz, hBn, hW⟩ := newIs hHeld; (try simp only [show ∀ W : World, W.drew.heap.size = W.heap.size from fun _ => rfl] at e2); have hz := hid hz; have hBn := hid hBn; (first | rw [e1, e2] | rw [show (wr.alloc (.cells #[.int .i64 0, .int .i64 0] 171)).drew = Wn from e1, e2]); clear e1 e2
              refine hK.out _ _ ?_ (fun hHeld => ?_)
              · (try dsimp only); exact keepF (p1 := (3, 0)) (p2 := (3, 1)) (p3 := (w.heap.size, 0)) (p4 := (w.heap.size, 1)) S0.out (hBn.out)
              clear hK K
              try simp only [Act.put, List.setIfInBounds_toArray, List.set_cons_zero, List.set_cons_succ]
              refine wpAnyH_ready (rs := [9]) (by kernel_rfl) (by simp) ?_
              refine AllReadyH.cons (o := ⟨none, .store 171 (.tmp 11) (.tmp 31), 0, "names.go:124", #[⟨8, .data⟩, ⟨7, .data⟩, ⟨7, .chain⟩, ⟨0, .phase⟩, ⟨1, .phase⟩, ⟨2, .phase⟩, ⟨3, .phase⟩, ⟨4, .phase⟩, ⟨5, .phase⟩, ⟨6, .phase⟩, ⟨7, .phase⟩, ⟨8, .phase⟩], none⟩) rfl (fun K hK => ?_) AllReadyH.nil
              obtain ⟨z0, z1, f0, f1⟩ := two_at hz.out
              go_simp
              refine hK.out _ _ ?_ (fun hHeld => ?_)
              · (try dsimp only); exact keepF (p1 := (3, 0)) (p2 := (3, 1)) (p3 := (w.heap.size, 0)) (p4 := (w.heap.size, 1)) S0.out ((Below.setCell (p := ⟨B, 0, none⟩) hHeld.2.2.2.2 hW _).setCell (p := ⟨B, 1, none⟩) hW _)
              clear hK K
              try simp only [Act.put, List.setIfInBounds_toArray, List.set_cons_zero, List.set_cons_succ]
              refine wpAnyH_done (by kernel_rfl) ?_ _
              refine NoPanic.normal ?_
              go_wp2_with fail
              go_meet
              exact ⟨_, rfl, hW, (two_set hz.out).1, (two_set hz.out).2, hid hHeld.2.2.2.2⟩
            refine AllReadyH.cons (o := ⟨some 11, .alloc 171, 0, "names.go:124", #[], none⟩) rfl (fun K hK => ?_) ?_
            · go_simp
              obtain ⟨Wn, B, e1, e2, hz, hBn, hW⟩ := newIs hHeld; (try simp only [show ∀ W : World, W.drew.heap.size = W.heap.size from fun _ => rfl] at e2); have hz := hid hz; have hBn := hid hBn; (first | rw [e1, e2] | rw [show (wr.alloc (.cells #[.int .i64 0, .int .i64 0] 171)).drew = Wn from e1, e2]); clear e1 e2
              refine hK.out _ _ ?_ (fun hHeld => ?_)
              · (try dsimp only); exact keepF (p1 := (3, 0)) (p2 := (3, 1)) (p3 := (w.heap.size, 0)) (p4 := (w.heap.size, 1)) S0.out (hBn.out)
              clear hK K
              try simp only [Act.put, List.setIfInBounds_toArray, List.set_cons_zero, List.set_cons_succ]
              refine wpAnyH_ready (rs := [7]) (by kernel_rfl) (by simp) ?_
              refine AllReadyH.cons (o := ⟨some 31, .call { callee := .value (.func 69), args := #[.tmp 29, .tmp 30], argTypes := #[171, 171] }, 171, "names.go:124", #[⟨5, .data⟩, ⟨6, .data⟩, ⟨5, .chain⟩], none⟩) rfl (fun K hK => ?_) AllReadyH.nil
              go_simp
              go_at_call 69; (with_reducible refine (HA1.out _).mono ?_); rintro e w4 ⟨rfl, hb1⟩; (try have hz := hid (blkB hz.out hb1))
              refine hK.out _ _ ?_ (fun hHeld => ?_)
              · (try dsimp only); exact keepF (p1 := (3, 0)) (p2 := (3, 1)) (p3 := (w.heap.size, 0)) (p4 := (w.heap.size, 1)) S0.out (hHeld.2.2.2.2.trans (hb1.mono hHeld.2.2.2.2.size))
              clear hK K
              try simp only [Act.put, List.setIfInBounds_toArray, List.set_cons_zero, List.set_cons_succ]
              refine wpAnyH_ready (rs := [9]) (by kernel_rfl) (by simp) ?_
              refine AllReadyH.cons (o := ⟨none, .store 171 (.tmp 11) (.tmp 31), 0, "names.go:124", #[⟨8, .data⟩, ⟨7, .data⟩, ⟨7, .chain⟩, ⟨0, .phase⟩, ⟨1, .phase⟩, ⟨2, .phase⟩, ⟨3, .phase⟩, ⟨4, .phase⟩, ⟨5, .phase⟩, ⟨6, .phase⟩, ⟨7, .phase⟩, ⟨8, .phase⟩], none⟩) rfl (fun K hK => ?_) AllReadyH.nil
              obtain ⟨z0, z1, f0, f1⟩ := two_at hz.out
              go_simp
              refine hK.out _ _ ?_ (fun hHeld => ?_)
              · (try dsimp only); exact keepF (p1 := (3, 0)) (p2 := (3, 1)) (p3 := (w.heap.size, 0)) (p4 := (w.heap.size, 1)) S0.out ((Below.setCell (p := ⟨B, 0, none⟩) hHeld.2.2.2.2 hW _).setCell (p := ⟨B, 1, none⟩) hW _)
              clear hK K
              try simp only [Act.put, List.setIfInBounds_toArray, List.set_cons_zero, List.set_cons_succ]
              refine wpAnyH_done (by kernel_rfl) ?_ _
              refine NoPanic.normal ?_
              go_wp2_with fail
              go_meet
              exact ⟨_, rfl, hW, (two_set hz.out).1, (two_set hz.out).2, hid hHeld.2.2.2.2⟩
            exact AllReadyH.nil
          refine AllReadyH.cons (o := ⟨some 11, .alloc 171, 0, "names.go:124", #[], none⟩) rfl (fun K hK => ?_) ?_
          · go_simp
            obtain ⟨Wn, B, e1, e2, hz, hBn, hW⟩ := newIs hHeld; (try simp only [show ∀ W : World, W.drew.heap.size = W.heap.size from fun _ => rfl] at e2); have hz := hid hz; have hBn := hid hBn; (first | rw [e1, e2] | rw [show (wr.alloc (.cells #[.int .i64 0, .int .i64 0] 171)).drew = Wn from e1, e2]); clear e1 e2
            refine hK.out _ _ ?_ (fun hHeld => ?_)
            · (try dsimp only); exact keepF (p1 := (3, 0)) (p2 := (3, 1)) (p3 := (w.heap.size, 0)) (p4 := (w.heap.size, 1)) S0.out (hBn.out)
            clear hK K
            try simp only [Act.put, List.setIfInBounds_toArray, List.set_cons_zero, List.set_cons_succ]
            refine wpAnyH_ready (rs := [5]) (by kernel_rfl) (by simp) ?_
            refine AllReadyH.cons (o := ⟨some 29, .call { callee := .value (.func 68), args := #[.tmp 24, .tmp 28], argTypes := #[171, 3] }, 171, "names.go:124", #[⟨0, .data⟩, ⟨4, .data⟩], none⟩) rfl (fun K hK => ?_) AllReadyH.nil
            go_simp
            (try rw [HWM.out]); go_at_call 68; (with_reducible refine (HTM.out _).mono ?_); rintro e w3 ⟨rfl, hb1⟩; (try have hz := hid (blkB hz.out hb1))
            refine hK.out _ _ ?_ (fun hHeld => ?_)
            · (try dsimp only); exact keepF (p1 := (3, 0)) (p2 := (3, 1)) (p3 := (w.heap.size, 0)) (p4 := (w.heap.size, 1)) S0.out (hHeld.2.2.2.2.trans (hb1.mono hHeld.2.2.2.2.size))
            clear hK K
            try simp only [Act.put, List.setIfInBounds_toArray, List.set_cons_zero, List.set_cons_succ]
            refine wpAnyH_ready (rs := [7]) (by kernel_rfl) (by simp) ?_
            refine AllReadyH.cons (o := ⟨some 31, .call { callee := .value (.func 69), args := #[.tmp 29, .tmp 30], argTypes := #[171, 171] }, 171, "names.go:124", #[⟨5, .data⟩, ⟨6, .data⟩, ⟨5, .chain⟩], none⟩) rfl (fun K hK => ?_) AllReadyH.nil
            go_simp
            go_at_call 69; (with_reducible refine (HA1.out _).mono ?_); rintro e w4 ⟨rfl, hb1⟩; (try have hz := hid (blkB hz.out hb1))
            refine hK.out _ _ ?_ (fun hHeld => ?_)
            · (try dsimp only); exact keepF (p1 := (3, 0)) (p2 := (3, 1)) (p3 := (w.heap.size, 0)) (p4 := (w.heap.size, 1)) S0.out (hHeld.2.2.2.2.trans (hb1.mono hHeld.2.2.2.2.size))
            clear hK K
            try simp only [Act.put, List.setIfInBounds_toArray, List.set_cons_zero, List.set_cons_succ]
            refine wpAnyH_ready (rs := [9]) (by kernel_rfl) (by simp) ?_
            refine AllReadyH.cons (o := ⟨none, .store 171 (.tmp 11) (.tmp 31), 0, "names.go:124", #[⟨8, .data⟩, ⟨7, .data⟩, ⟨7, .chain⟩, ⟨0, .phase⟩, ⟨1, .phase⟩, ⟨2, .phase⟩, ⟨3, .phase⟩, ⟨4, .phase⟩, ⟨5, .phase⟩, ⟨6, .phase⟩, ⟨7, .phase⟩, ⟨8, .phase⟩], none⟩) rfl (fun K hK => ?_) AllReadyH.nil
            obtain ⟨z0, z1, f0, f1⟩ := two_at hz.out
            go_simp
            refine hK.out _ _ ?_ (fun hHeld => ?_)
            · (try dsimp only); exact keepF (p1 := (3, 0)) (p2 := (3, 1)) (p3 := (w.heap.size, 0)) (p4 := (w.heap.size, 1)) S0.out ((Below.setCell (p := ⟨B, 0, none⟩) hHeld.2.2.2.2 hW _).setCell (p := ⟨B, 1, none⟩) hW _)
            clear hK K
            try simp only [Act.put, List.setIfInBounds_toArray, List.set_cons_zero, List.set_cons_succ]
            refine wpAnyH_done (by kernel_rfl) ?_ _
            refine NoPanic.normal ?_
            go_wp2_with fail
            go_meet
            exact ⟨_, rfl, hW, (two_set hz.out).1, (two_set hz.out).2, hid hHeld.2.2.2.2⟩
          exact AllReadyH.nil
        case rest =>
          obtain ⟨R5, rfl, hR5, r0, r1, HB5⟩ := hcut
          have hb5 := HB5.out
          have hz5 : wr.heap.size ≤ wc.heap.size := hb5.size
          have hR5l := cell_lt r0
          have s0 := still hb5 s0
          have s1 := still hb5 s1
          have cX := still hb5 cX
          have b40 := still hb5 b40
          have b41 := still hb5 b41
          have fX : wc.frozen? ⟨w2.heap.size, 0, none⟩ = false := by rw [World.frozen?_of_block (a := ⟨w2.heap.size, 0, none⟩) (hb5.block _ hXw)]; exact fX
          have HC5 := hid (HCr.out.below hb5)
          have HR5 := hid (HR.out.trans (grown_of_below hb5 _))
          have HO5 := hid (Kd.R_below HO.out hb5)
          have hXl : w2.heap.size < wc.heap.size := by omega
          have hsl := cell_lt s0
          have hgl : g < wc.heap.size := HC5.out.cu.lt
          have hgw : g < w.heap.size := hlt
          clear hb5 z0 z1
          rcases hux : uM (rgX nx (1 + rmin)) l lim 5 0 q with s | ⟨ix, q1⟩
          · have HF := hid (HN2.out.trans (ri_stop xs (by rw [← HRM.out]; exact hux)))
            rw [hux] at HUX
            clear hux HN2
            go_wp2_with (first | (go_at_call 69; (with_reducible refine (HA2.out _).mono ?_); rintro e w6 ⟨rfl, hb6⟩; have HB6 := hid hb6) | (go_at_call 70; (with_reducible refine (index_walk _ _ _).mono ?_); rintro e w7 ⟨rfl, hb7, hs7, i0, i1⟩; have HB7 := hid (HB6.out.trans (hb7.mono HB6.out.size)); have cX := still HB7.out cX; have r0 := still HB7.out r0; have r1 := still HB7.out r1; have b40 := still HB7.out b40; have b41 := still HB7.out b41; have HC7 := hid (HC5.out.below HB7.out); have HR7 := hid (HR5.out.trans (grown_of_below HB7.out _)); have HO7 := hid (Kd.R_below HO5.out HB7.out); have hz7 := HB7.out.size; have hz6 := HB6.out.size) | (go_at_call 41; go_loud ((with_reducible refine (HUX.out _ w7.heap.size w6.heap.size (HC7.out.below ((Below.refl _ _).alloc (Nat.le_refl _) _)) (by omega) (by omega) (by go_simp) (still ((Below.refl _ _).alloc (Nat.le_refl _) _) cX) (still ((Below.refl _ _).alloc (Nat.le_refl _) _) i0) (still ((Below.refl _ _).alloc (Nat.le_refl _) _) i1)).mono ?_); rintro e w8 ⟨rfl, HG8⟩)))
            refine ⟨rfl, ?_⟩
            show PostLi k90 90 g A c l lim w (liM rd a b l p lim) _ _
            rw [HF.out]
            exact ⟨rfl, HR7.out.trans ((grown_of_below ((Below.refl _ _).alloc (Nat.le_refl _) (.cells #[.func (.func 89) #[] #[.pointer (some ⟨w6.heap.size, 0, none⟩)]] 196)) _).trans HG8)⟩
          · obtain ⟨-, ix0, -⟩ := uM_ge 5 0 q ix q1 (by decide) HL0.out hux
            have ix1 := uM_lt 4 0 q ix q1 (by decide) (by decide) (by decide) HL0.out hux
            rw [hux] at HUX
            have hwx : IntKind.u64.wrap (ix + 1) = ix + 1 := by rw [wu]; omega
            have FXB := hid (fun (W : World) (hb : Below wc.heap.size wc W) => show W.frozen? ⟨w2.heap.size, 0, none⟩ = false by rw [World.frozen?_of_block (a := ⟨w2.heap.size, 0, none⟩) (hb.block _ hXl)]; exact fX)
            have HRDc := hid (fun W (hW : Rd g w W) (hC : CB g A c l q1 lim W) => HRD.out.call W hW ix rmin rmax q1 ix0 (by omega) hr0 hr1 am0 am1 hC)
            have hXg : w2.heap.size ≠ g := by omega
            have hRg : R5 ≠ g := by omega
            have hRX : R5 ≠ w2.heap.size := by omega
            go_upto_region 10 with (first | (go_at_call 69; (with_reducible refine (HA2.out _).mono ?_); rintro e w6 ⟨rfl, hb6⟩; have HB6 := hid hb6) | (go_at_call 70; (with_reducible refine (index_walk _ _ _).mono ?_); rintro e w7 ⟨rfl, hb7, hs7, i0, i1⟩; have HB7 := hid (HB6.out.trans (hb7.mono HB6.out.size)); have cX := still HB7.out cX; have r0 := still HB7.out r0; have r1 := still HB7.out r1; have b40 := still HB7.out b40; have b41 := still HB7.out b41; have HC7 := hid (HC5.out.below HB7.out); have HR7 := hid (HR5.out.trans (grown_of_below HB7.out _)); have HO7 := hid (Kd.R_below HO5.out HB7.out); have hz7 := HB7.out.size; have hz6 := HB6.out.size) | (go_at_call 41; go_loud ((with_reducible refine (HUX.out _ w7.heap.size w6.heap.size (HC7.out.below ((Below.refl _ _).alloc (Nat.le_refl _) _)) (by omega) (by omega) (by go_simp) (still ((Below.refl _ _).alloc (Nat.le_refl _) _) cX) (still ((Below.refl _ _).alloc (Nat.le_refl _) _) i0) (still ((Below.refl _ _).alloc (Nat.le_refl _) _) i1)).mono ?_); rintro e w8 ⟨rfl, HC8, HG8⟩; have HC8 := hid HC8)))
            have hb7a : Below wc.heap.size wc (w7.alloc (.cells #[.func (.func 89) #[] #[.pointer (some ⟨w6.heap.size, 0, none⟩)]] 196)) := HB7.out.alloc HB7.out.size _
            have hb7b : Below w7.heap.size w7 (w7.alloc (.cells #[.func (.func 89) #[] #[.pointer (some ⟨w6.heap.size, 0, none⟩)]] 196)) := (Below.refl _ _).alloc (Nat.le_refl _) _
            have HR8 := hid (HR7.out.trans ((grown_of_below hb7b _).trans HG8))
            have fX8 : w8.frozen? ⟨w2.heap.size, 0, none⟩ = false := by
              rw [World.frozen?_of_block (a := ⟨w2.heap.size, 0, none⟩) (HG8.block _ (Nat.lt_of_lt_of_le hXl hb7a.size) (fun e => hXg (Option.some.inj e)))]
              exact FXB.out _ hb7a
            have cX8 := HG8.cell hXg (still hb7b cX)
            have r08 := HG8.cell hRg (still hb7b r0)
            have r18 := HG8.cell hRg (still hb7b r1)
            have b408 := HG8.cell (by omega) (still hb7b b40)
            have b418 := HG8.cell (by omega) (still hb7b b41)
            have HO8 := hid (r_rd (Kd.R_below HO7.out hb7b) (by omega) HG8)
            have hX8 : w2.heap.size < w8.heap.size := cell_lt cX8
            clear cX r0 r1 b40 b41 s0 s1 i0 i1 fX hb7a hb7b HG8
            go_upto_region 11 with (fail)
            obtain ⟨W9, hW9⟩ : ∃ W9, W9 = w8.setCell ⟨w2.heap.size, 0, none⟩ (.int .u64 (ix + 1)) := ⟨_, rfl⟩
            have hb9 : Below w.heap.size w8 W9 := by rw [hW9]; exact (Below.refl _ _).setCell (p := ⟨w2.heap.size, 0, none⟩) (by show w.heap.size ≤ w2.heap.size; omega) _
            have cX : W9.cell? ⟨w2.heap.size, 0, none⟩ = some (.int .u64 (ix + 1)) := by rw [hW9]; apply World.cell?_setCell_same; exact cX8
            have fX : W9.frozen? ⟨w2.heap.size, 0, none⟩ = false := by rw [hW9, World.frozen?_setCell]; exact fX8
            have r0 : W9.cell? ⟨R5, 0, none⟩ = some (.int .i64 rmin) := by rw [hW9, World.cell?_setCell_far _ _ _ _ (fun e => hRX e.symm)]; exact r08
            have r1 : W9.cell? ⟨R5, 1, none⟩ = some (.int .i64 rmax) := by rw [hW9, World.cell?_setCell_far _ _ _ _ (fun e => hRX e.symm)]; exact r18
            have b40 : W9.cell? ⟨w.heap.size, 0, none⟩ = some (.int .i64 a) := by rw [hW9, World.cell?_setCell_far _ _ _ _ (fun e => by have : w2.heap.size = w.heap.size := e; omega)]; exact b408
            have b41 : W9.cell? ⟨w.heap.size, 1, none⟩ = some (.int .i64 b) := by rw [hW9, World.cell?_setCell_far _ _ _ _ (fun e => by have : w2.heap.size = w.heap.size := e; omega)]; exact b418
            have HC9 := hid (cb_base HC.out HC8.out HR8.out hb9)
            have HR9 := hid (rd_base HR8.out hb9)
            have HO9 := hid (show k90.R 90 W9 w.heap.size (fun k => w2.heap.size < k) u9 xs by rw [hW9]; exact Kd.R_far HO8.out (p := ⟨w2.heap.size, 0, none⟩) (fun k hk e => by have : k = w2.heap.size := e; omega) _)
            have hz9 : w2.heap.size < W9.heap.size := cell_lt cX
            rw [← hW9]
            clear hW9 cX8 fX8 r08 r18 b408 b418 hb9
            have hmj : m = n.toNat - (j + 1) := by omega
            have hxl := HXL.out
            have HJ4 := hid (show (xs.length + 1) * 32 ≤ 140737488355328 by omega)
            rcases hrd : rd ix rmin rmax q1 with s | ⟨x, q2⟩
            · have HF := hid (HN2.out.trans (ri_stop2 xs (by rw [← HRM.out]; exact hux) (by rw [← HRM.out, ← HRB.out]; exact hrd)))
              rw [hrd] at HRDc
              clear hux hrd HN2
              go_wp2_with (first | ((with_reducible refine (HRDc.out _ HR9.out HC9.out).mono ?_); rintro e w10 ⟨rfl, HG10⟩))
              refine ⟨rfl, ?_⟩
              show PostLi k90 90 g A c l lim w (liM rd a b l p lim) _ _
              rw [HF.out]
              exact ⟨rfl, HR9.out.trans HG10⟩
            · have HN3 := hid (HN2.out.trans (ri_step xs (by rw [← HRM.out]; exact hux) (by rw [← HRM.out, ← HRB.out]; exact hrd)))
              rw [hrd] at HRDc
              clear hux hrd HN2
              go_wp2_with (first | ((with_reducible refine (HRDc.out _ HR9.out HC9.out).mono ?_); rintro e w10 ⟨⟨v, rfl, hM⟩, HC10, HG10⟩; have HM := hid (k90.M_lower (base' := w.heap.size) (by omega) hM); have HO10 := hid (r_rd HO9.out (by omega) HG10); have HC10 := hid HC10; have HR10 := hid (HR9.out.trans HG10); have hz10 := HG10.size; have HOB := hid (Kd.R_bound HO9.out).1) | (at_builtin; go_loud (refine Kd.R_append k90 (w0 := w10) w.heap.size rfl _ _ 24 90 (.agg #[.int .u32 0, .slice none 0 0]) 32 rfl Tryz.underlying24 infoL1 rfl (by decide) (by decide) u9 xs x [.int .u32 x.f0, v] (fun k => w2.heap.size < k) (fun k => W9.heap.size ≤ k) rfl rfl HM.out (fun k hk => ⟨by omega, fun e => by have := HOB.out k e.symm; omega⟩) (fun k hk => by omega) HO10.out (Below.refl _ _) (by omega) HJ4.out ?_)))
              intro v1 w12 hR1 hB12 hG12 hat12
              have HO12 := hid hR1
              have hne : ∀ q, q ≤ w2.heap.size → some q ≠ u9.ownBlock := fun q hq e => by have := (HOB.out q e.symm).1; omega
              have cX := hG12.cell (HG10.cell hXg cX) (hne _ (Nat.le_refl _))
              have fX : w12.frozen? ⟨w2.heap.size, 0, none⟩ = false := by
                rw [World.frozen?_of_block (a := ⟨w2.heap.size, 0, none⟩) (hG12.block w2.heap.size (by omega) (hne _ (Nat.le_refl _))), World.frozen?_of_block (a := ⟨w2.heap.size, 0, none⟩) (HG10.block _ hz9 (fun e => hXg (Option.some.inj e)))]
                exact fX
              have b40 := hG12.cell (HG10.cell (by omega) b40) (hne _ (by show w.heap.size ≤ _; omega))
              have b41 := hG12.cell (HG10.cell (by omega) b41) (hne _ (by show w.heap.size ≤ _; omega))
              have HC12 := hid (cb_base HC.out HC10.out HR10.out hB12)
              have HR12 := hid (rd_base HR10.out hB12)
              have hz12 : w2.heap.size < w12.heap.size := cell_lt cX
              clear hR1 hB12 hG12 hat12 hM HG10 r0 r1
              go_wp2
              go_roundw
              case rel => exact ⟨j + 1, ix + 1, q2, xs ++ [x], by go_num, by omega, by omega, by omega, hid (by rw [List.length_append, hxl]; rfl), HO12, hid (by rw [← hmj]; exact HN3.out), cX, fX, hz12, b40, b41, HC12, HR12⟩
              case measure => simp [intOf]; omega
      · have hje : (j : Int) = n := by omega
        go_wp2
        go_ret
        show PostLi k90 90 g A c l lim w (liM rd a b l p lim) _ _
        rw [HN.out, show n.toNat - j = 0 by omega, riM]
        simp only [ahead, List.append_nil]
        exact ⟨⟨_, rfl, Kd.R_mono HO.out (fun k hk => by have := HX2.out; omega)⟩, HCr.out, HR.out⟩
end Go.Proofs.YtiohiiekaofkbaaGreatDoor
/- A drawn region whose last operation, always the same one, writes what the others read. -/
namespace Go.Proofs.YtiohiiekaofkbaaGreatDoor
set_option linter.unusedVariables false
open Go
section
variable {P : Program} {ops : Array Oper} {Q : Exit → Act → World → Prop} {S : World → Prop} {d : Nat}
def closedB (ops : Array Oper) (listed : Array Bool) : Bool := (List.range ops.size).all fun j => !(listed.getD j true) || ((ops[j]?).map fun o => o.after.all fun e => !(Region.binds .any e) || listed.getD e.on false).getD true
def lastB (ops : Array Oper) (d : Nat) : Bool := decide (d < ops.size) && (List.range d).all fun i => (List.range (d + 1)).any fun j => decide (i < j) && ((ops[j]?).map fun o => o.after.any fun e => (e.on == i) && Region.binds .any e).getD false
theorem closed_spec {listed : Array Bool} (h : closedB ops listed = true) {j : Nat} {o : Oper} (ho : ops[j]? = some o) (hl : listed.getD j true = true) : ∀ e ∈ o.after, Region.binds .any e = true → listed.getD e.on false = true := by
  have hj : j < ops.size := (Array.getElem?_eq_some_iff.1 ho).1
  unfold closedB at h
  rw [List.all_eq_true] at h
  have := h j (List.mem_range.2 hj)
  rw [hl, ho] at this
  simp only [Bool.not_true, Bool.false_or, Option.map_some, Option.getD_some, Array.all_eq_true_iff_forall_mem, Bool.or_eq_true, Bool.not_eq_true'] at this
  intro e he hb
  rcases this e he with q | q
  · rw [hb] at q; cases q
  · exact q
theorem closed_set {listed : Array Bool} (h : closedB ops listed = true) {j : Nat} (hj : j ∈ Region.ready .any ops listed) : closedB ops (listed.setIfInBounds j true) = true := by
  unfold closedB
  rw [List.all_eq_true]
  intro k hk
  have hk' := List.mem_range.1 hk
  obtain ⟨o, ho⟩ : ∃ o, ops[k]? = some o := ⟨_, Array.getElem?_eq_getElem hk'⟩
  simp only [ho, Option.map_some, Option.getD_some, Bool.or_eq_true, Bool.not_eq_true', Array.all_eq_true_iff_forall_mem]
  by_cases hjk : j = k
  · subst hjk
    obtain ⟨h0, o', ho', hall⟩ := mem_ready.1 hj
    rw [ho] at ho'
    cases ho'
    right
    intro e he
    cases hb : Region.binds .any e
    · left; rfl
    · right; exact getD_set_true (hall e he hb)
  · cases hl : listed.getD k true
    · left; rw [getD_set_ne true hjk]; exact hl
    · right
      intro e he
      cases hb : Region.binds .any e
      · left; rfl
      · right; exact getD_set_true (closed_spec h ho hl e he hb)
theorem last_all {listed : Array Bool} (hL : lastB ops d = true) (h : closedB ops listed = true) (hz : ops.size ≤ listed.size) (hd : d ∈ Region.ready .any ops listed) : ∀ n i, i + n = d → i < d → listed.getD i true = true := by
  unfold lastB at hL
  rw [Bool.and_eq_true, List.all_eq_true] at hL
  obtain ⟨hL0, hL⟩ := hL
  have hds : d < ops.size := of_decide_eq_true hL0
  intro n
  induction n using Nat.strongRecOn with
  | ind n ih =>
    intro i hin hid
    have h1 := hL i (List.mem_range.2 hid)
    rw [List.any_eq_true] at h1
    obtain ⟨j, hj, h2⟩ := h1
    have hj' := List.mem_range.1 hj
    rw [Bool.and_eq_true] at h2
    have hij : i < j := of_decide_eq_true h2.1
    rcases ho : ops[j]? with _ | o
    · rw [ho] at h2; simp at h2
    · rw [ho] at h2
      simp only [Option.map_some, Option.getD_some] at h2
      obtain ⟨k, hk, hp⟩ := Array.any_eq_true.1 h2.2
      obtain ⟨e, hek⟩ : ∃ e, e = o.after[k] := ⟨_, rfl⟩
      have he : e ∈ o.after := by rw [hek]; exact Array.getElem_mem hk
      rw [← hek, Bool.and_eq_true, beq_iff_eq] at hp
      obtain ⟨rfl, hb⟩ := hp
      have key : listed.getD e.on false = true := by
        by_cases hjd : j = d
        · subst hjd
          obtain ⟨_, o', ho', hall⟩ := mem_ready.1 hd
          rw [ho] at ho'; cases ho'
          exact hall e he hb
        · exact closed_spec h ho (ih (d - j) (by omega) j (by omega) (by omega)) e he hb
      rw [show listed.getD e.on true = listed.getD e.on false from ?_]
      · exact key
      · have : e.on < listed.size := by omega
        simp [this]
def wpAnyD (P : Program) (ops : Array Oper) (Q : Exit → Act → World → Prop) (S : World → Prop) (d : Nat) : Nat → Array Bool → Act → World → Prop
  | 0, listed, a, w => Region.ready .any ops listed = [] ∧ Q .normal a w
  | fuel + 1, listed, a, w =>
    (Region.ready .any ops listed = [] → Q .normal a w) ∧
    ∀ i ∈ Region.ready .any ops listed, wpOp P ops Q i (fun a' w' => if i = d then wpAny P .any ops Q fuel (listed.setIfInBounds i true) a' w' else S w' ∧ wpAnyD P ops Q S d fuel (listed.setIfInBounds i true) a' w') a w
theorem wpAny_of_heldD : ∀ (fuel : Nat) (listed : Array Bool) (a : Act) (w : World), wpAnyD P ops Q S d fuel listed a w → wpAny P .any ops Q fuel listed a w
  | 0, _, _, _, h => h
  | fuel + 1, _, _, _, h => ⟨h.1, fun i hi => wpOp_mono (fun a' w' h' => by
      by_cases e : i = d
      · rw [if_pos e] at h'; exact h'
      · rw [if_neg e] at h'; exact wpAny_of_heldD fuel _ a' w' h'.2) (h.2 i hi)⟩
theorem wpAnyD_first {i : Nat} {oi : Oper} {v : Value} (hid : i ≠ d) (hL : lastB ops d = true) (hi : ops[i]? = some oi) (hsel : ∀ (j : Nat) (o : Oper) cs b, ops[j]? = some o → o.op ≠ .select cs b)
    (hQ : ∀ c a w, Q (.panic c) (a.put oi.dst v) w → Q (.panic c) a w) :
    ∀ (fuel : Nat) (listed : Array Bool) (a : Act) (w : World),
      (∀ j oj, ops[j]? = some oj → j ≠ i → listed.getD j true = false → (∀ e ∈ oj.after, Region.binds .any e = true → e.on ≠ i) → oi.apart ops oj = true) →
      closedB ops listed = true → ops.size ≤ listed.size → i < d →
      i ∈ Region.ready .any ops listed → YieldsIf P ops S oi v a → S w →
      wpAnyD P ops Q S d fuel (listed.setIfInBounds i true) (a.put oi.dst v) w → wpAnyD P ops Q S d (fuel + 1) listed a w := by
  intro fuel
  induction fuel with
  | zero =>
    intro listed a w _ hcl hz hlt hr hy hS H
    refine ⟨fun h => (by rw [h] at hr; cases hr), fun j hj => ?_⟩
    by_cases hji : j = i
    · subst hji; exact hy.wpOp hi hS (by rw [if_neg hid]; exact ⟨hS, H⟩)
    · have := ready_mono hj hji
      rw [H.1] at this
      cases this
  | succ fuel ih =>
    intro listed a w hfree hcl hz hlt hr hy hS H
    refine ⟨fun h => (by rw [h] at hr; cases hr), fun j hj => ?_⟩
    by_cases hji : j = i
    · subst hji; exact hy.wpOp hi hS (by rw [if_neg hid]; exact ⟨hS, H⟩)
    · have hjd : j ≠ d := by
        rintro rfl
        have h0 := (mem_ready.1 hr).1
        rw [last_all hL hcl hz hj (j - i) i (by omega) hlt] at h0
        cases h0
      have h1 := H.2 j (ready_mono hj hji)
      simp only [if_neg hjd] at h1
      obtain ⟨hjun, oj, hoj, hall⟩ := mem_ready.1 hj
      have hnot : ∀ e ∈ oj.after, Region.binds .any e = true → e.on ≠ i := fun e he hb heq => by
        have h1 := hall e he hb
        have h0 := (mem_ready.1 hr).1
        rw [heq] at h1
        rcases Nat.lt_or_ge i listed.size with h' | h'
        · simp [h'] at h0 h1; rw [h0] at h1; cases h1
        · simp [Array.getElem?_eq_none h'] at h1
      have h2 := wpOp_putIf hoj (hfree j oj hoj hji hjun hnot) (fun cs b => hsel i oi cs b hi) (fun cs b => hsel j oj cs b hoj) hQ hy h1
      have hfree' : ∀ k ok, ops[k]? = some ok → k ≠ i → (listed.setIfInBounds j true).getD k true = false →
          (∀ e ∈ ok.after, Region.binds .any e = true → e.on ≠ i) → oi.apart ops ok = true := fun k ok hk hki hun hno => by
        refine hfree k ok hk hki ?_ hno
        by_cases hjk : j = k
        · subst hjk; exact hjun
        · rw [getD_set_ne true hjk] at hun; exact hun
      refine wpOp_mono (fun a' w' h3 => ?_) h2
      rw [if_neg hjd]
      refine ⟨h3.2.1, ih (listed.setIfInBounds j true) a' w' hfree' (closed_set hcl hj) (by simpa using hz) hlt (ready_mono hr (Ne.symm hji)) h3.1 h3.2.1 ?_⟩
      rw [Array.setIfInBounds_comm _ _ hji]
      exact h3.2.2
theorem wpAnyD_take {i : Nat} {oi : Oper} {v : Value} {fuel : Nat} {listed : Array Bool} {a : Act} {w : World} (hi : ops[i]? = some oi)
    (hs : Region.noSelect ops = true) (hf : Region.free .any ops listed i = true) (hr : (Region.ready .any ops listed).contains i = true)
    (hQ : ∀ c a w, Q (.panic c) (a.put oi.dst v) w → Q (.panic c) a w) (hy : YieldsIf P ops S oi v a) (hS : S w) (hb : (closedB ops listed && decide (ops.size ≤ listed.size) && decide (i < d) && lastB ops d) = true)
    (h : wpAnyD P ops Q S d fuel (listed.setIfInBounds i true) (a.put oi.dst v) w) : wpAnyD P ops Q S d (fuel + 1) listed a w := by
  simp only [Bool.and_eq_true, decide_eq_true_eq] at hb
  obtain ⟨⟨⟨h1, h2⟩, h3⟩, h4⟩ := hb
  exact wpAnyD_first (by omega) h4 hi (Region.noSelect_spec hs) hQ fuel listed a w (Region.free_spec hi hf) h1 h2 h3 (by simpa using hr) hy hS h
theorem tkD (i : Nat) (oi : Oper) {v : Value} {fuel : Nat} {listed listed' : Array Bool} {a a' : Act} {w : World} (hi : ops[i]? = some oi) (h : wpAnyD P ops Q S d fuel listed' a' w)
    (hs : Region.noSelect ops = true := by kernel_rfl) (hf : Region.free .any ops listed i = true := by kernel_rfl) (hr : (Region.ready .any ops listed).contains i = true := by kernel_rfl)
    (hg : Region.wanted oi (yielded ops a.tmps) = true := by rfl)
    (hy : ∀ w, S w → (execOp a.eval oi).run P w = .ok (.value v) w := by (intro w hSw; (try dsimp only at hSw); go_simp; first | (with_reducible rfl) | (rw [if_neg (by omega)]) | skip))
    (hQ : ∀ c a w, Q (.panic c) (a.put oi.dst v) w → Q (.panic c) a w := by exact fun _ _ _ h => h) (hS : S w := by assumption)
    (hb : (closedB ops listed && decide (ops.size ≤ listed.size) && decide (i < d) && lastB ops d) = true := by kernel_rfl)
    (hl : listed.setIfInBounds i true = listed' := by first | (simp only [List.setIfInBounds_toArray, List.set_cons_zero, List.set_cons_succ]; rfl) | rfl)
    (hp : a.put oi.dst v = a' := by first | (simp only [Act.put, List.setIfInBounds_toArray, List.set_cons_zero, List.set_cons_succ]; rfl) | rfl) : wpAnyD P ops Q S d (fuel + 1) listed a w := by
  subst hl hp
  exact wpAnyD_take hi hs hf hr hQ (.inl ⟨hg, hy⟩) hS hb h
theorem tkDn (i : Nat) (oi : Oper) {fuel : Nat} {listed listed' : Array Bool} {a a' : Act} {w : World} (hi : ops[i]? = some oi) (h : wpAnyD P ops Q S d fuel listed' a' w)
    (hs : Region.noSelect ops = true := by kernel_rfl) (hf : Region.free .any ops listed i = true := by kernel_rfl) (hr : (Region.ready .any ops listed).contains i = true := by kernel_rfl)
    (hg : Region.wanted oi (yielded ops a.tmps) = false := by rfl)
    (hQ : ∀ c a w, Q (.panic c) (a.put oi.dst undef) w → Q (.panic c) a w := by exact fun _ _ _ h => h) (hS : S w := by assumption)
    (hb : (closedB ops listed && decide (ops.size ≤ listed.size) && decide (i < d) && lastB ops d) = true := by kernel_rfl)
    (hl : listed.setIfInBounds i true = listed' := by first | (simp only [List.setIfInBounds_toArray, List.set_cons_zero, List.set_cons_succ]; rfl) | rfl)
    (hp : a.put oi.dst undef = a' := by first | (simp only [Act.put, List.setIfInBounds_toArray, List.set_cons_zero, List.set_cons_succ]; rfl) | rfl) : wpAnyD P ops Q S d (fuel + 1) listed a w := by
  subst hl hp
  exact wpAnyD_take hi hs hf hr hQ (.inr ⟨hg, rfl⟩) hS hb h
def AllReadyD (P : Program) (ops : Array Oper) (Q : Exit → Act → World → Prop) (S : World → Prop) (d fuel : Nat) (listed : Array Bool) (a : Act) (w : World) (rs : List Nat) : Prop :=
  ∀ i ∈ rs, wpOp P ops Q i (fun a' w' => if i = d then wpAny P .any ops Q fuel (listed.setIfInBounds i true) a' w' else S w' ∧ wpAnyD P ops Q S d fuel (listed.setIfInBounds i true) a' w') a w
theorem AllReadyD.nil {fuel : Nat} {listed : Array Bool} {a : Act} {w : World} : AllReadyD P ops Q S d fuel listed a w [] := fun _ h => by cases h
theorem AllReadyD.cons {fuel : Nat} {listed : Array Bool} {a : Act} {w : World} {i : Nat} {o : Oper} {rs : List Nat} (ho : ops[i]? = some o)
    (h : ∀ K' : Act → World → Prop, Shut (∀ a w, S w → (S w → wpAnyD P ops Q S d fuel (listed.setIfInBounds i true) a w) → K' a w) → if Region.wanted o (yielded ops a.tmps) = true then Oper.wp P o a w K' Q else K' (a.put o.dst undef) w)
    (hne : (i == d) = false) (hs : AllReadyD P ops Q S d fuel listed a w rs) : AllReadyD P ops Q S d fuel listed a w (i :: rs) := fun j hj => by
  rcases List.mem_cons.1 hj with rfl | hj
  · have hne' : j ≠ d := by simpa using hne
    simp only [if_neg hne']
    exact wpOp_step ho (fun K' hK => h K' (fun a w hS hW => hK a w ⟨hS, hW hS⟩))
  · exact hs j hj
theorem AllReadyD.last {fuel : Nat} {listed : Array Bool} {a : Act} {w : World} {o : Oper} (ho : ops[d]? = some o) (hr : Region.ready .any ops (listed.setIfInBounds d true) = [])
    (h : ∀ K' : Act → World → Prop, Shut (∀ a w, Q .normal a w → K' a w) → if Region.wanted o (yielded ops a.tmps) = true then Oper.wp P o a w K' Q else K' (a.put o.dst undef) w) : AllReadyD P ops Q S d fuel listed a w [d] := fun j hj => by
  rw [List.mem_singleton] at hj
  subst hj
  simp only [if_true]
  refine wpOp_step ho (fun K' hK => h K' (fun a w hq => hK a w ?_))
  cases fuel with
  | zero => exact ⟨hr, hq⟩
  | succ n => exact ⟨fun _ => hq, by rw [hr]; simp⟩
theorem wpAnyD_ready {rs : List Nat} {fuel : Nat} {listed : Array Bool} {a : Act} {w : World} (hr : Region.ready .any ops listed = rs) (hne : rs ≠ [])
    (h : AllReadyD P ops Q S d fuel listed a w rs) : wpAnyD P ops Q S d (fuel + 1) listed a w := ⟨fun h0 => absurd (hr ▸ h0) hne, hr ▸ h⟩
theorem wp_region_heldD {id : Nat} {a : Act} {w : World} (d : Nat) (hm : P.follows .mixedOrders = true) (hS : S w.drew)
    (h : S w.drew → wpAnyD P ops Q S d ops.size (Array.replicate ops.size false) a w.drew) : (Code.region id ops true).wp P Q a w :=
  wp_region_any hm (wpAny_of_heldD _ _ _ _ (h hS))
end
end Go.Proofs.YtiohiiekaofkbaaGreatDoor
