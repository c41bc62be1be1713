/- asked. -/
import Derived.Test.YtiohiiekaofkbaaDoorE3
namespace Go.Proofs.YtiohiiekaofkbaaDoor
set_option linter.unusedVariables false
set_option linter.unusedSimpArgs false
open Go.RowKit Go.Proofs.YtiohiiekaofkbaaDoor.PCursorPlaces Go.Proofs.YtiohiiekaofkbaaDoorW.PrintWords

theorem stepM_0 {y : S154} {lim q : Int} {l : List Int} (h : y.f0 % 6 = 0) : stepM (askV y) lim q l = byteU y.f2 y.f3 lim q l := by rw [stepM, if_pos (show (askV y).d = 0 from h)]; rfl
theorem stepM_1 {y : S154} {lim q : Int} {l : List Int} (h : y.f0 % 6 = 1) : stepM (askV y) lim q l = uintU (rgQ y.f4) lim q l := by rw [stepM, if_neg (show ¬ (askV y).d = 0 by show ¬ y.f0 % 6 = 0; omega), if_pos (show (askV y).d = 1 from h)]; rfl
theorem stepM_2 {y : S154} {lim q : Int} {l : List Int} (h : y.f0 % 6 = 2) : stepM (askV y) lim q l = sintU y.f1 y.f4.f5.f0 y.f4.f5.f1 lim q l := by rw [stepM, if_neg (show ¬ (askV y).d = 0 by show ¬ y.f0 % 6 = 0; omega), if_neg (show ¬ (askV y).d = 1 by show ¬ y.f0 % 6 = 1; omega), if_pos (show (askV y).d = 2 from h)]; rfl
theorem stepM_3 {y : S154} {lim q : Int} {l : List Int} (h : y.f0 % 6 = 3) : stepM (askV y) lim q l = rawU l q lim y.f1 := by rw [stepM, if_neg (show ¬ (askV y).d = 0 by show ¬ y.f0 % 6 = 0; omega), if_neg (show ¬ (askV y).d = 1 by show ¬ y.f0 % 6 = 1; omega), if_neg (show ¬ (askV y).d = 2 by show ¬ y.f0 % 6 = 2; omega), if_pos (show (askV y).d = 3 from h)]; rfl
theorem stepM_4 {y : S154} {lim q : Int} {l : List Int} (h : y.f0 % 6 = 4) : stepM (askV y) lim q l = nameU y.f4.f5.f0 y.f4.f5.f1 l q lim := by rw [stepM, if_neg (show ¬ (askV y).d = 0 by show ¬ y.f0 % 6 = 0; omega), if_neg (show ¬ (askV y).d = 1 by show ¬ y.f0 % 6 = 1; omega), if_neg (show ¬ (askV y).d = 2 by show ¬ y.f0 % 6 = 2; omega), if_neg (show ¬ (askV y).d = 3 by show ¬ y.f0 % 6 = 3; omega)]; rfl
theorem uintU_ok {rg : Int → List (Int × Int)} {lim p : Int} {l : List Int} : (∃ v p', uM rg l lim 5 0 p = .ok (v, p') ∧ uintU rg lim p l = .ok ((), p')) ∨ (∃ s, uM rg l lim 5 0 p = .error s ∧ uintU rg lim p l = .error s) := by
  unfold uintU andThen
  rcases h : uM rg l lim 5 0 p with s | ⟨v, p'⟩
  · exact .inr ⟨s, rfl, by simp only [h]⟩
  · exact .inl ⟨v, p', rfl, by simp only [h]⟩
theorem sintU_ok {n a b lim p : Int} {l : List Int} : (∃ p', sM n a b ((n - 1) / 7).toNat l lim (((n - 1) / 7).toNat + 1) p = .ok p' ∧ sintU n a b lim p l = .ok ((), p')) ∨ (∃ s, sM n a b ((n - 1) / 7).toNat l lim (((n - 1) / 7).toNat + 1) p = .error s ∧ sintU n a b lim p l = .error s) := by
  unfold sintU
  rcases sM n a b ((n - 1) / 7).toNat l lim (((n - 1) / 7).toNat + 1) p with s | p'
  · exact .inr ⟨s, rfl, rfl⟩
  · exact .inl ⟨p', rfl, rfl⟩
theorem rawU_ok {n lim p : Int} {l : List Int} : (∃ v p', rawM l p lim n = .ok (v, p') ∧ rawU l p lim n = .ok ((), p')) ∨ (∃ s, rawM l p lim n = .error s ∧ rawU l p lim n = .error s) := by
  unfold rawU
  rcases rawM l p lim n with s | ⟨v, p'⟩
  · exact .inr ⟨s, rfl, rfl⟩
  · exact .inl ⟨v, p', rfl, rfl⟩
theorem nameU_ok {a b lim p : Int} {l : List Int} : (∃ v p', nameM a b l p lim = .ok (v, p') ∧ nameU a b l p lim = .ok ((), p')) ∨ (∃ s, nameM a b l p lim = .error s ∧ nameU a b l p lim = .error s) := by
  unfold nameU
  rcases nameM a b l p lim with s | ⟨v, p'⟩
  · exact .inr ⟨s, rfl, rfl⟩
  · exact .inl ⟨v, p', rfl, rfl⟩
theorem ask_5 {y : AskV} {r : List AskV} {lim q : Int} {l : List Int} (h5 : y.d = 5) : askM (y :: r) lim q l = (match askM r (inLim q lim y.n) q l with | .error s => .error s | .ok (_, p') => if p' = inLim q lim y.n then .ok ((), p') else .error (p', 2)) := by
  rw [askM, if_pos h5]
  rcases askM r (inLim q lim y.n) q l with s | ⟨u, p'⟩ <;> rfl
def DnA (w1 : World) (g og N : Nat) (A : Option Addr) (c : Nat) (l : List Int) (lim : Int) (w : World) (r : Except (Int × Int) (Unit × Int)) (p' : Int) (w' : World) : Prop :=
  (∃ n, n ≤ N ∧ Ast w1 g og n A c l p' lim w') ∧ Fo g og w w' ∧ r = .ok ((), p')
def StA (g og : Nat) (w : World) (r : Except (Int × Int) (Unit × Int)) (s er : Int) (w' : World) : Prop := r = .error (s, er) ∧ Fo g og w w'
set_option maxRecDepth 100000 in
set_option maxHeartbeats 8000000 in
theorem asked_walk (w1 : World) (g og : Nat) (A : Option Addr) (c : Nat) (l : List Int) (hcap : l.length ≤ c) (hG : Glob w1) : ∀ (k : Nat) (xs : List S154) (A1 : Option Addr) (c1 n : Nat) (p lim : Int) (w : World), xs.length ≤ k → xs.length ≤ c1 → AsksAt w1 A1 xs → (∀ x ∈ xs, FineA x) → n + 3 * xs.length ≤ 1000 → Ast w1 g og n A c l p lim w →
    Calls Tryd.prog 56 #[.pointer (some ⟨g, 0, none⟩), .slice A1 xs.length c1, .pointer (some ⟨og, 0, none⟩)] w (PostA w1 g og (n + 3 * xs.length) A c l lim w (askM (xs.map askV) lim p l)) := by
  intro k
  induction k using Nat.strongRecOn with
  | _ k ih =>
  intro xs A1 c1 n p lim w hk hc1 hA hF hn hS
  have HA := hid hA
  obtain ⟨i0, hi0, hz0, hz1, hz2⟩ := info_of infoS
  have HF := hid hF
  have HS := hid hS
  have hgz := hS.cb.cu.lt
  have hoz := hS.olt
  have hlx : xs.length ≤ 1000 := by omega
  clear hA hF hS
  go_enter Tryd.func56, Tryd.ntmps56
  go_wp2
  go_loopw [6] (fun v6 wr => ∃ (I i m : Nat) (q : Int), v6 = .pointer (some ⟨I, 0, none⟩) ∧ i ≤ xs.length ∧ m ≤ n + 3 * i ∧ wr.cell? ⟨I, 0, none⟩ = some (.int .i64 i) ∧ wr.frozen? ⟨I, 0, none⟩ = false ∧ w.heap.size + 2 < I ∧ I < wr.heap.size ∧ Hid (askM (xs.map askV) lim p l = askM ((xs.drop i).map askV) lim q l) ∧ Hid (Beside g og I wr) ∧ Hid (Ast w1 g og m A c l q lim wr) ∧ Hid (Fo g og w wr) ∧ Hid (∀ b, w.heap.size ≤ b → b < w.heap.size + 3 → Beside g og b wr) ∧
    wr.cell? ⟨w.heap.size, 0, none⟩ = some (.pointer (some ⟨g, 0, none⟩)) ∧ wr.cell? ⟨w.heap.size + 1, 0, none⟩ = some (.slice A1 xs.length c1) ∧ wr.cell? ⟨w.heap.size + 2, 0, none⟩ = some (.pointer (some ⟨og, 0, none⟩))) (fun v6 wr => xs.length - (match v6 with | .pointer (some a) => (match wr.cell? a with | some v => (intOf v).toNat | none => 0) | _ => 0))
  case atStart =>
    exact ⟨w.heap.size + 1 + 1 + 1, 0, n, p, rfl, by omega, by omega, by go_simp, by go_simp, by omega, by simp, hid rfl, hid (Beside.new HS.out (grown_of_below (by repeat (first | exact Below.refl _ _ | assumption | refine Below.alloc ?_ (by first | exact Nat.le_refl _ | (simp; done) | (simp; omega) | omega) _ | refine Below.drew ?_ | refine Below.setCell ?_ (by first | exact Nat.le_refl _ | (simp; done) | (simp; omega) | omega) _ | refine below_call ?_ (by assumption) (by first | exact Nat.le_refl _ | (simp; done) | (simp; omega) | omega))) _) (by omega) (by simp)), hid (HS.out.rd (grown_of_below (by repeat (first | exact Below.refl _ _ | assumption | refine Below.alloc ?_ (by first | exact Nat.le_refl _ | (simp; done) | (simp; omega) | omega) _ | refine Below.drew ?_ | refine Below.setCell ?_ (by first | exact Nat.le_refl _ | (simp; done) | (simp; omega) | omega) _ | refine below_call ?_ (by assumption) (by first | exact Nat.le_refl _ | (simp; done) | (simp; omega) | omega))) _) (HS.out.cb.below (by repeat (first | exact Below.refl _ _ | assumption | refine Below.alloc ?_ (by first | exact Nat.le_refl _ | (simp; done) | (simp; omega) | omega) _ | refine Below.drew ?_ | refine Below.setCell ?_ (by first | exact Nat.le_refl _ | (simp; done) | (simp; omega) | omega) _ | refine below_call ?_ (by assumption) (by first | exact Nat.le_refl _ | (simp; done) | (simp; omega) | omega)))) HS.out.lm), hid (HS.out.fo (grown_of_below (by repeat (first | exact Below.refl _ _ | assumption | refine Below.alloc ?_ (by first | exact Nat.le_refl _ | (simp; done) | (simp; omega) | omega) _ | refine Below.drew ?_ | refine Below.setCell ?_ (by first | exact Nat.le_refl _ | (simp; done) | (simp; omega) | omega) _ | refine below_call ?_ (by assumption) (by first | exact Nat.le_refl _ | (simp; done) | (simp; omega) | omega))) _)), hid (fun b h1 h2 => Beside.new HS.out (grown_of_below (by repeat (first | exact Below.refl _ _ | assumption | refine Below.alloc ?_ (by first | exact Nat.le_refl _ | (simp; done) | (simp; omega) | omega) _ | refine Below.drew ?_ | refine Below.setCell ?_ (by first | exact Nat.le_refl _ | (simp; done) | (simp; omega) | omega) _ | refine below_call ?_ (by assumption) (by first | exact Nat.le_refl _ | (simp; done) | (simp; omega) | omega))) _) h1 (by simp; omega)), by go_simp, by go_simp, by go_simp⟩
  case round =>
    obtain ⟨I, i, m, q, rfl, hi, hm, cI, fI, I0, I1, HU, HI, HW, HO, HBX, b3, b4, b5⟩ := hrel
    have cI0 := cI
    by_cases hlt : i < xs.length
    · obtain ⟨ad, rfl, A13, c13, e0, e1, e2, e3, e4, e5, e6, e7, e8, e9, e10, e11, e12, e13, hpk⟩ := HA.out i hlt
      obtain ⟨y, hy⟩ : ∃ y, y = xs[i] := ⟨_, rfl⟩
      rw [← hy] at e0 e1 e2 e3 e4 e5 e6 e7 e8 e9 e10 e11 e12 e13 hpk
      have HFy := hid (HF.out y (by rw [hy]; exact List.getElem_mem hlt))
      have HUy := hid (HU.out.trans (show askM ((xs.drop i).map askV) lim q l = askM (askV y :: (xs.drop (i + 1)).map askV) lim q l by rw [List.drop_eq_getElem_cons hlt, List.map_cons, hy]))
      have HPK := hid hpk
      have e0 := pw_cell_below HW.out.hb e0
      have e1 := pw_cell_below HW.out.hb e1
      have e2 := pw_cell_below HW.out.hb e2
      have e3 := pw_cell_below HW.out.hb e3
      have e4 := pw_cell_below HW.out.hb e4
      have e5 := pw_cell_below HW.out.hb e5
      have e6 := pw_cell_below HW.out.hb e6
      have e7 := pw_cell_below HW.out.hb e7
      have e8 := pw_cell_below HW.out.hb e8
      have e9 := pw_cell_below HW.out.hb e9
      have e10 := pw_cell_below HW.out.hb e10
      have e11 := pw_cell_below HW.out.hb e11
      have e12 := pw_cell_below HW.out.hb e12
      have e13 := pw_cell_below HW.out.hb e13
      have hi3 : (i : Int) < (xs.length : Int) := by omega
      obtain ⟨d, hd0⟩ : ∃ d, d = y.f0 % 6 := ⟨_, rfl⟩
      have hd : y.f0.tmod 6 = d := by rw [Int.tmod_eq_emod_of_nonneg HFy.out.u8.1, hd0]
      have HD := hid hd0
      have hd1 : 0 ≤ d := by omega
      have hd2 : d < 6 := by omega
      clear HU hpk hy hd0
      go_upto_block 2 with (fail)
      obtain ⟨W0, hW0⟩ : ∃ W0, W0 = wr.alloc (.cells #[.int .u8 y.f0, .int .i64 y.f1, .int .u8 y.f2, .int .u8 y.f3, .int .i64 y.f4.f0, .int .u64 y.f4.f1, .int .u64 y.f4.f2, .int .i64 y.f4.f3.f0, .int .i64 y.f4.f3.f1, .int .i64 y.f4.f4.f0, .int .i64 y.f4.f4.f1, .int .i64 y.f4.f5.f0, .int .i64 y.f4.f5.f1, .slice A13 y.f4.f6.length c13] 154) := ⟨_, rfl⟩
      have hbW : Below wr.heap.size wr W0 := by rw [hW0]; exact (by repeat (first | exact Below.refl _ _ | assumption | refine Below.alloc ?_ (by first | exact Nat.le_refl _ | (simp; done) | (simp; omega) | omega) _ | refine Below.drew ?_ | refine Below.setCell ?_ (by first | exact Nat.le_refl _ | (simp; done) | (simp; omega) | omega) _ | refine below_call ?_ (by assumption) (by first | exact Nat.le_refl _ | (simp; done) | (simp; omega) | omega)))
      have x1 : W0.cell? ⟨wr.heap.size, 1, none⟩ = some (.int .i64 y.f1) := by rw [hW0]; go_simp
      have x2 : W0.cell? ⟨wr.heap.size, 2, none⟩ = some (.int .u8 y.f2) := by rw [hW0]; go_simp
      have x3 : W0.cell? ⟨wr.heap.size, 3, none⟩ = some (.int .u8 y.f3) := by rw [hW0]; go_simp
      have x4 : W0.cell? ⟨wr.heap.size, 4, none⟩ = some (.int .i64 y.f4.f0) := by rw [hW0]; go_simp
      have x5 : W0.cell? ⟨wr.heap.size, 5, none⟩ = some (.int .u64 y.f4.f1) := by rw [hW0]; go_simp
      have x6 : W0.cell? ⟨wr.heap.size, 6, none⟩ = some (.int .u64 y.f4.f2) := by rw [hW0]; go_simp
      have x7 : W0.cell? ⟨wr.heap.size, 7, none⟩ = some (.int .i64 y.f4.f3.f0) := by rw [hW0]; go_simp
      have x8 : W0.cell? ⟨wr.heap.size, 8, none⟩ = some (.int .i64 y.f4.f3.f1) := by rw [hW0]; go_simp
      have x9 : W0.cell? ⟨wr.heap.size, 9, none⟩ = some (.int .i64 y.f4.f4.f0) := by rw [hW0]; go_simp
      have x10 : W0.cell? ⟨wr.heap.size, 10, none⟩ = some (.int .i64 y.f4.f4.f1) := by rw [hW0]; go_simp
      have x11 : W0.cell? ⟨wr.heap.size, 11, none⟩ = some (.int .i64 y.f4.f5.f0) := by rw [hW0]; go_simp
      have x12 : W0.cell? ⟨wr.heap.size, 12, none⟩ = some (.int .i64 y.f4.f5.f1) := by rw [hW0]; go_simp
      have x13 : W0.cell? ⟨wr.heap.size, 13, none⟩ = some (.slice A13 y.f4.f6.length c13) := by rw [hW0]; go_simp
      have hsz0 : W0.heap.size = wr.heap.size + 1 := by rw [hW0]; simp
      rw [← hW0]
      clear hW0
      have HX := hid (Beside.new HW.out (grown_of_below hbW _) (Nat.le_refl _) (by omega))
      have HW0 := hid (HW.out.rd (grown_of_below hbW _) (HW.out.cb.below hbW) HW.out.lm)
      have HO0 := hid (HO.out.trans (HW.out.fo (grown_of_below hbW _)))
      have HI0 := hid (Beside.rd HW.out HI.out (grown_of_below hbW _))
      have HF0 := hid (HW.out.fo (grown_of_below hbW _))
      have cI := still hbW cI
      have b3 := still hbW b3
      have b4 := still hbW b4
      have b5 := still hbW b5
      clear e0 e1 e2 e3 e4 e5 e6 e7 e8 e9 e10 e11 e12 e13
      have HBX0 := hid (fun b h1 h2 => Beside.rd HW.out (HBX.out b h1 h2) (grown_of_below hbW _))
      go_cut [20] (fun s20 wx => ∃ q1, d ≠ 5 ∧ Hid (stepM (askV y) lim q l = .ok ((), q1)) ∧ Hid (Ast w1 g og (m + 1) A c l q1 lim wx) ∧ Hid (Fo g og W0 wx))
      case first =>
        obtain ⟨v, vs, hv, hown⟩ := HW0.out.ex
        have HOW := hid (fun W (h : Rd g W0 W) => World.ownsRow.kept hown h (.inr (fun z => HW0.out.ng ⟨v, hv, z⟩)))
        have HSZ := hid (fun W (h : Rd g W0 W) => show w1.heap.size ≤ W.heap.size from Nat.le_trans HW0.out.hb.size h.size)
        have n5 : v.ownBlock ≠ some (w.heap.size + 1 + 1) := fun z => (HBX0.out _ (by omega) (by omega)).nr ⟨v, hv, z⟩
        have n3 : v.ownBlock ≠ some w.heap.size := fun z => (HBX0.out _ (by omega) (by omega)).nr ⟨v, hv, z⟩
        have nx : v.ownBlock ≠ some wr.heap.size := fun z => HX.out.nr ⟨v, hv, z⟩
        have no : v.ownBlock ≠ some og := fun z => HW0.out.no ⟨v, hv, z⟩
        have HFZ := hid (fun W wa (h : Rd g W0 W) (h2 : W.grownBy wa v.ownBlock) => show wa.frozen? ⟨og, 0, none⟩ = false by
          rw [World.frozen?_of_block (a := ⟨og, 0, none⟩) (h2.block og (Nat.lt_of_lt_of_le HW0.out.olt h.size) (fun z => no z.symm)), World.frozen?_of_block (a := ⟨og, 0, none⟩) (h.block og HW0.out.olt (fun z => HW0.out.go (Option.some.inj z)))]
          exact HW0.out.fz)
        have hmf : ∀ (fn : Fn) (first cap : Array Value) (w : World), (Instr.makeFunc fn first cap).run Tryd.prog w = .ok (.func fn first cap) w := fun _ _ _ _ => rfl
        by_cases h0 : d = 0
        ·
          have HK := hid (fun W (h : Rd g W0 W) => show W.cell? ⟨w.heap.size + 1 + 1, 0, none⟩ = some (.pointer (some ⟨og, 0, none⟩)) ∧ W.cell? ⟨og, 0, none⟩ = some v ∧ W.cell? ⟨w.heap.size, 0, none⟩ = some (.pointer (some ⟨g, 0, none⟩)) ∧ W.cell? ⟨wr.heap.size, 2, none⟩ = some (.int .u8 y.f2) ∧ W.cell? ⟨wr.heap.size, 3, none⟩ = some (.int .u8 y.f3) from ⟨h.cell (by omega) b5, h.cell HW0.out.go hv, h.cell (by omega) b3, h.cell (by omega) x2, h.cell (by omega) x3⟩)
          have HKA := hid (fun W wa (h : Rd g W0 W) (h2 : W.grownBy wa v.ownBlock) => show wa.cell? ⟨w.heap.size + 1 + 1, 0, none⟩ = some (.pointer (some ⟨og, 0, none⟩)) ∧ wa.cell? ⟨og, 0, none⟩ = some v ∧ wa.cell? ⟨w.heap.size, 0, none⟩ = some (.pointer (some ⟨g, 0, none⟩)) ∧ wa.cell? ⟨wr.heap.size, 2, none⟩ = some (.int .u8 y.f2) ∧ wa.cell? ⟨wr.heap.size, 3, none⟩ = some (.int .u8 y.f3) from ⟨cellG h2 n5 (h.cell (by omega) b5), cellG h2 no (h.cell HW0.out.go hv), cellG h2 n3 (h.cell (by omega) b3), cellG h2 nx (h.cell (by omega) x2), cellG h2 nx (h.cell (by omega) x3)⟩)
          have HBY := hid (fun W (hR : Rd g W0 W) (hC : CB g A c l q lim W) => abyte_walk g wr.heap.size w.heap.size A c l q lim y.f2 y.f3 W hC (by omega) (by omega) (hR.cell (by omega) x2) (hR.cell (by omega) x3) (hR.cell (by omega) b3))
          have hcv := fun (W : World) (x : Int) => conv_one W x
          rcases byteU_ok (lo := y.f2) (hi := y.f3) (lim := lim) (p := q) (l := l) with ⟨b, eb, eu⟩ | ⟨s, eb, eu⟩ <;> rw [eb] at HBY <;> have hst := hid ((stepM_0 (lim := lim) (q := q) (l := l) (HD.out.symm.trans h0)).trans eu) <;> clear eb eu
          · have hlm := step_lm HW0.out.cb.p0 HW0.out.cb.p1 HW0.out.lm hst.out
            have hst := hid hst
            go_upto_region 7 with (fail)
            refine wp_region_noPanic ?_
            refine wp_region_heldD 12 (S := (fun W => W.cell? ⟨w.heap.size + 1 + 1, 0, none⟩ = some (.pointer (some ⟨og, 0, none⟩)) ∧ W.cell? ⟨og, 0, none⟩ = some v ∧ W.cell? ⟨w.heap.size, 0, none⟩ = some (.pointer (some ⟨g, 0, none⟩)) ∧ W.cell? ⟨wr.heap.size, 2, none⟩ = some (.int .u8 y.f2) ∧ W.cell? ⟨wr.heap.size, 3, none⟩ = some (.int .u8 y.f3))) (by kernel_rfl) ?hSo01 (fun hHeld => ?goo01)
            case hSo01 => first | exact HK.out _ (grown_of_below (Below.drew (Below.refl _ _)) _ : Rd g W0 W0.drew) | exact HK.out _ HR2.out | exact HK.out _ HR3.out | exact HK.out _ HR4.out | exact HK.out _ HR5.out | exact HK.out _ HR6.out | exact HK.out _ (HRN.out.trans (grown_of_below ((Below.refl _ _).alloc (Nat.le_refl _) _) _)) | exact HK.out _ ((HRN.out.trans (grown_of_below ((Below.refl _ _).alloc (Nat.le_refl _) _) _)).trans (grown_of_below ((Below.refl _ _).alloc (Nat.le_refl _) _) _)) | exact HKA.out _ _ HRA.out HGA.out
            refine wpAnyD_take (i := 0) (oi := { dst := some 23, op := Go.Op.load 97 (Go.Operand.tmp 5), type := 97, pos := "law.go:70", after := #[], guard := none }) (v := ?_) rfl (by kernel_rfl) (by kernel_rfl) (by kernel_rfl) (fun _ _ _ h => h) (Or.inl ⟨by rfl, ?hyo02⟩) (by assumption) (by kernel_rfl) ?resto02
            case hyo02 => (intro w hSw; (try dsimp only at hSw); go_simp; first | (with_reducible rfl) | (rw [if_neg (by omega)]) | skip)
            simp only [Act.put, List.setIfInBounds_toArray, List.set_cons_zero, List.set_cons_succ]
            refine wpAnyD_take (i := 1) (oi := { dst := some 24, op := Go.Op.load 97 (Go.Operand.tmp 5), type := 97, pos := "law.go:70", after := #[], guard := none }) (v := ?_) rfl (by kernel_rfl) (by kernel_rfl) (by kernel_rfl) (fun _ _ _ h => h) (Or.inl ⟨by rfl, ?hyo03⟩) (by assumption) (by kernel_rfl) ?resto03
            case hyo03 => (intro w hSw; (try dsimp only at hSw); go_simp; first | (with_reducible rfl) | (rw [if_neg (by omega)]) | skip)
            simp only [Act.put, List.setIfInBounds_toArray, List.set_cons_zero, List.set_cons_succ]
            refine wpAnyD_take (i := 2) (oi := { dst := some 25, op := Go.Op.nilCheck (Go.Operand.tmp 24), type := 0, pos := "law.go:70", after := #[{ on := 1, ground := Go.Ground.data }], guard := none }) (v := ?_) rfl (by kernel_rfl) (by kernel_rfl) (by kernel_rfl) (fun _ _ _ h => h) (Or.inl ⟨by rfl, ?hyo04⟩) (by assumption) (by kernel_rfl) ?resto04
            case hyo04 => (intro w hSw; (try dsimp only at hSw); go_simp; first | (with_reducible rfl) | (rw [if_neg (by omega)]) | skip)
            simp only [Act.put, List.setIfInBounds_toArray, List.set_cons_zero, List.set_cons_succ]
            refine wpAnyD_take (i := 3) (oi := { dst := some 26, op := Go.Op.load 95 (Go.Operand.tmp 25), type := 95, pos := "law.go:70", after := #[{ on := 2, ground := Go.Ground.data }], guard := none }) (v := ?_) rfl (by kernel_rfl) (by kernel_rfl) (by kernel_rfl) (fun _ _ _ h => h) (Or.inl ⟨by rfl, ?hyo05⟩) (by assumption) (by kernel_rfl) ?resto05
            case hyo05 => (intro w hSw; (try dsimp only at hSw); go_simp; first | (with_reducible rfl) | (rw [if_neg (by omega)]) | skip)
            simp only [Act.put, List.setIfInBounds_toArray, List.set_cons_zero, List.set_cons_succ]
            refine wpAnyD_take (i := 4) (oi := { dst := some 27, op := Go.Op.load 81 (Go.Operand.tmp 3), type := 81, pos := "law.go:70", after := #[], guard := none }) (v := ?_) rfl (by kernel_rfl) (by kernel_rfl) (by kernel_rfl) (fun _ _ _ h => h) (Or.inl ⟨by rfl, ?hyo06⟩) (by assumption) (by kernel_rfl) ?resto06
            case hyo06 => (intro w hSw; (try dsimp only at hSw); go_simp; first | (with_reducible rfl) | (rw [if_neg (by omega)]) | skip)
            simp only [Act.put, List.setIfInBounds_toArray, List.set_cons_zero, List.set_cons_succ]
            refine wpAnyD_take (i := 5) (oi := { dst := some 28, op := Go.Op.makeFunc (Go.Fn.func 105) #[] #[Go.Operand.tmp 7, Go.Operand.tmp 3], type := 144, pos := "law.go:70", after := #[], guard := none }) (v := ?_) rfl (by kernel_rfl) (by kernel_rfl) (by kernel_rfl) (fun _ _ _ h => h) (Or.inl ⟨by rfl, ?hyo07⟩) (by assumption) (by kernel_rfl) ?resto07
            case hyo07 => (intro w hSw; (try dsimp only at hSw); go_simp; first | (with_reducible rfl) | (rw [if_neg (by omega)]) | skip)
            simp only [Act.put, List.setIfInBounds_toArray, List.set_cons_zero, List.set_cons_succ]
            refine wpAnyD_ready (rs := [6]) (by kernel_rfl) (by simp) ?_
            refine AllReadyD.cons (o := { dst := some 29, op := Go.Op.call { callee := Go.Callee.value (Go.Operand.func 94), args := #[Go.Operand.tmp 27, Go.Operand.tmp 28], argTypes := #[81, 144] }, type := 5, pos := "law.go:70", after := #[{ on := 4, ground := Go.Ground.data }, { on := 5, ground := Go.Ground.data }], guard := none }) rfl (fun K hK => ?_) rfl AllReadyD.nil
            go_simp
            go_at_call 94; (with_reducible refine (HBY.out _ (grown_of_below (Below.drew (Below.refl _ _)) _ : Rd g W0 W0.drew) (HW0.out.cb.below (Below.drew (Below.refl _ _)))).mono ?_); rintro e w2 ⟨rfl, HC2, HG2⟩; have HC2 := hid HC2; have HR2 := hid (Rd.trans (grown_of_below (Below.drew (Below.refl _ _)) _ : Rd g W0 W0.drew) HG2); have HRN := HR2
            refine hK.out _ _ ?_ (fun hHeld => ?_)
            · (try dsimp only); first | exact HK.out _ (grown_of_below (Below.drew (Below.refl _ _)) _ : Rd g W0 W0.drew) | exact HK.out _ HR2.out | exact HK.out _ HR3.out | exact HK.out _ HR4.out | exact HK.out _ HR5.out | exact HK.out _ HR6.out | exact HK.out _ (HRN.out.trans (grown_of_below ((Below.refl _ _).alloc (Nat.le_refl _) _) _)) | exact HK.out _ ((HRN.out.trans (grown_of_below ((Below.refl _ _).alloc (Nat.le_refl _) _) _)).trans (grown_of_below ((Below.refl _ _).alloc (Nat.le_refl _) _) _)) | exact HKA.out _ _ HRA.out HGA.out
            clear hK K
            try simp only [Act.put, List.setIfInBounds_toArray, List.set_cons_zero, List.set_cons_succ]
            refine wpAnyD_ready (rs := [7]) (by kernel_rfl) (by simp) ?_
            refine AllReadyD.cons (o := { dst := some 30, op := Go.Op.buildSlice 70 1 #[(0, Go.Operand.tmp 29)], type := 70, pos := "law.go:70", after := #[{ on := 6, ground := Go.Ground.data }], guard := none }) rfl (fun K hK => ?_) rfl AllReadyD.nil
            go_simp
            refine hK.out _ _ ?_ (fun hHeld => ?_)
            · (try dsimp only); first | exact HK.out _ (grown_of_below (Below.drew (Below.refl _ _)) _ : Rd g W0 W0.drew) | exact HK.out _ HR2.out | exact HK.out _ HR3.out | exact HK.out _ HR4.out | exact HK.out _ HR5.out | exact HK.out _ HR6.out | exact HK.out _ (HRN.out.trans (grown_of_below ((Below.refl _ _).alloc (Nat.le_refl _) _) _)) | exact HK.out _ ((HRN.out.trans (grown_of_below ((Below.refl _ _).alloc (Nat.le_refl _) _) _)).trans (grown_of_below ((Below.refl _ _).alloc (Nat.le_refl _) _) _)) | exact HKA.out _ _ HRA.out HGA.out
            clear hK K
            try simp only [Act.put, List.setIfInBounds_toArray, List.set_cons_zero, List.set_cons_succ]
            refine wpAnyD_ready (rs := [8]) (by kernel_rfl) (by simp) ?_
            refine AllReadyD.cons (o := { dst := some 31, op := Go.Op.convert 70 9 (Go.Operand.tmp 30), type := 9, pos := "law.go:70", after := #[{ on := 7, ground := Go.Ground.data }], guard := none }) rfl (fun K hK => ?_) rfl AllReadyD.nil
            go_simp
            refine hK.out _ _ ?_ (fun hHeld => ?_)
            · (try dsimp only); first | exact HK.out _ (grown_of_below (Below.drew (Below.refl _ _)) _ : Rd g W0 W0.drew) | exact HK.out _ HR2.out | exact HK.out _ HR3.out | exact HK.out _ HR4.out | exact HK.out _ HR5.out | exact HK.out _ HR6.out | exact HK.out _ (HRN.out.trans (grown_of_below ((Below.refl _ _).alloc (Nat.le_refl _) _) _)) | exact HK.out _ ((HRN.out.trans (grown_of_below ((Below.refl _ _).alloc (Nat.le_refl _) _) _)).trans (grown_of_below ((Below.refl _ _).alloc (Nat.le_refl _) _) _)) | exact HKA.out _ _ HRA.out HGA.out
            clear hK K
            try simp only [Act.put, List.setIfInBounds_toArray, List.set_cons_zero, List.set_cons_succ]
            refine wpAnyD_ready (rs := [9]) (by kernel_rfl) (by simp) ?_
            refine AllReadyD.cons (o := { dst := some 32, op := Go.Op.buildSlice 95 1 #[(0, Go.Operand.tmp 31)], type := 95, pos := "law.go:70", after := #[{ on := 8, ground := Go.Ground.data }], guard := none }) rfl (fun K hK => ?_) rfl AllReadyD.nil
            go_simp
            refine hK.out _ _ ?_ (fun hHeld => ?_)
            · (try dsimp only); first | exact HK.out _ (grown_of_below (Below.drew (Below.refl _ _)) _ : Rd g W0 W0.drew) | exact HK.out _ HR2.out | exact HK.out _ HR3.out | exact HK.out _ HR4.out | exact HK.out _ HR5.out | exact HK.out _ HR6.out | exact HK.out _ (HRN.out.trans (grown_of_below ((Below.refl _ _).alloc (Nat.le_refl _) _) _)) | exact HK.out _ ((HRN.out.trans (grown_of_below ((Below.refl _ _).alloc (Nat.le_refl _) _) _)).trans (grown_of_below ((Below.refl _ _).alloc (Nat.le_refl _) _) _)) | exact HKA.out _ _ HRA.out HGA.out
            clear hK K
            try simp only [Act.put, List.setIfInBounds_toArray, List.set_cons_zero, List.set_cons_succ]
            refine wpAnyD_ready (rs := [10]) (by kernel_rfl) (by simp) ?_
            refine AllReadyD.cons (o := { dst := some 33, op := Go.Op.call { callee := Go.Callee.builtin Go.Builtin.append, args := #[Go.Operand.tmp 26, Go.Operand.tmp 32], argTypes := #[95, 95] }, type := 95, pos := "law.go:70", after := #[{ on := 3, ground := Go.Ground.data }, { on := 9, ground := Go.Ground.data }, { on := 6, ground := Go.Ground.chain }], guard := none }) rfl (fun K hK => ?_) rfl AllReadyD.nil
            have HRA := hid ((HR2.out.trans (grown_of_below ((Below.refl _ _).alloc (Nat.le_refl _) (.cells #[.int .u8 b] 5)) _)).trans (grown_of_below ((Below.refl _ _).alloc (Nat.le_refl _) (.cells #[.string (strOfNums [b])] 9)) _)); have HCA := hid ((HC2.out.below ((Below.refl _ _).alloc (Nat.le_refl _) (.cells #[.int .u8 b] 5))).below ((Below.refl _ _).alloc (Nat.le_refl _) (.cells #[.string (strOfNums [b])] 9))); refine step_append_lies _ rfl (.tmp 26) (.tmp 32) 95 (by rfl) w1.heap.size 9 i0 (.string ⟨#[]⟩) 1 16 Tryd.underlying95 hi0 hz0 hz1 hz2 rfl (by decide) v (m) vs (by rfl) (HOW.out _ HRA.out) ⟨_, 0, none⟩ 1 1 [.string (strOfNums [b])] (by rfl) rfl (by intro j u hj; rcases j with _ | _ | _ | j <;> simp at hj <;> subst hj <;> go_simp) (by intro u hu; simp at hu; (first | (subst hu; rfl) | (rcases hu with rfl | rfl <;> rfl))) (by decide) (by unfold maxLen; omega) (by omega) (HSZ.out _ HRA.out) _ rfl ?_; intro ga capa wa howna hgrowa hata hlta; have HGA := hid hgrowa; have hfa := HFZ.out _ _ HRA.out hgrowa; have hca := (HKA.out _ _ HRA.out hgrowa).2.1
            refine hK.out _ _ ?_ (fun hHeld => ?_)
            · (try dsimp only); first | exact HK.out _ (grown_of_below (Below.drew (Below.refl _ _)) _ : Rd g W0 W0.drew) | exact HK.out _ HR2.out | exact HK.out _ HR3.out | exact HK.out _ HR4.out | exact HK.out _ HR5.out | exact HK.out _ HR6.out | exact HK.out _ (HRN.out.trans (grown_of_below ((Below.refl _ _).alloc (Nat.le_refl _) _) _)) | exact HK.out _ ((HRN.out.trans (grown_of_below ((Below.refl _ _).alloc (Nat.le_refl _) _) _)).trans (grown_of_below ((Below.refl _ _).alloc (Nat.le_refl _) _) _)) | exact HKA.out _ _ HRA.out HGA.out
            clear hK K
            try simp only [Act.put, List.setIfInBounds_toArray, List.set_cons_zero, List.set_cons_succ]
            refine wpAnyD_take (i := 11) (oi := { dst := some 34, op := Go.Op.nilCheck (Go.Operand.tmp 23), type := 0, pos := "law.go:70", after := #[{ on := 0, ground := Go.Ground.data }, { on := 0, ground := Go.Ground.phase }, { on := 1, ground := Go.Ground.phase }, { on := 2, ground := Go.Ground.phase }, { on := 3, ground := Go.Ground.phase }, { on := 4, ground := Go.Ground.phase }, { on := 5, ground := Go.Ground.phase }, { on := 6, ground := Go.Ground.phase }, { on := 7, ground := Go.Ground.phase }, { on := 8, ground := Go.Ground.phase }, { on := 9, ground := Go.Ground.phase }, { on := 10, ground := Go.Ground.phase }], guard := none }) (v := ?_) rfl (by kernel_rfl) (by kernel_rfl) (by kernel_rfl) (fun _ _ _ h => h) (Or.inl ⟨by rfl, ?hyo08⟩) (by assumption) (by kernel_rfl) ?resto08
            case hyo08 => (intro w hSw; (try dsimp only at hSw); go_simp; first | (with_reducible rfl) | (rw [if_neg (by omega)]) | skip)
            simp only [Act.put, List.setIfInBounds_toArray, List.set_cons_zero, List.set_cons_succ]
            refine wpAnyD_ready (rs := [12]) (by kernel_rfl) (by simp) ?_
            refine AllReadyD.last (o := { dst := none, op := Go.Op.store 95 (Go.Operand.tmp 34) (Go.Operand.tmp 33), type := 0, pos := "law.go:70", after := #[{ on := 11, ground := Go.Ground.data }, { on := 10, ground := Go.Ground.data }, { on := 10, ground := Go.Ground.chain }, { on := 0, ground := Go.Ground.phase }, { on := 1, ground := Go.Ground.phase }, { on := 2, ground := Go.Ground.phase }, { on := 3, ground := Go.Ground.phase }, { on := 4, ground := Go.Ground.phase }, { on := 5, ground := Go.Ground.phase }, { on := 6, ground := Go.Ground.phase }, { on := 7, ground := Go.Ground.phase }, { on := 8, ground := Go.Ground.phase }, { on := 9, ground := Go.Ground.phase }, { on := 10, ground := Go.Ground.phase }], guard := none }) rfl (by kernel_rfl) (fun K hK => ?_)
            go_simp
            refine hK.out _ _ ?_
            clear hK K
            try simp only [Act.put, List.setIfInBounds_toArray, List.set_cons_zero, List.set_cons_succ]
            refine NoPanic.normal ?_
            go_wp2_with fail
            go_meet
            exact ⟨_, by omega, hst, hid (HW0.out.out hv HRA.out HCA.out hlm howna hgrowa hata hlta).1, hid (HW0.out.out hv HRA.out HCA.out hlm howna hgrowa hata hlta).2⟩
          · have HP := hid (HUy.out.trans (ask_err (y := askV y) (by show y.f0 % 6 ≠ 5; have := HD.out; omega) hst.out))
            go_upto_region 7 with (fail)
            refine wp_region_held_drew (S := (fun W => W.cell? ⟨w.heap.size + 1 + 1, 0, none⟩ = some (.pointer (some ⟨og, 0, none⟩)) ∧ W.cell? ⟨og, 0, none⟩ = some v ∧ W.cell? ⟨w.heap.size, 0, none⟩ = some (.pointer (some ⟨g, 0, none⟩)) ∧ W.cell? ⟨wr.heap.size, 2, none⟩ = some (.int .u8 y.f2) ∧ W.cell? ⟨wr.heap.size, 3, none⟩ = some (.int .u8 y.f3))) (by kernel_rfl) ?hSe01 (fun hHeld => ?goe01)
            case hSe01 => first | exact HK.out _ (grown_of_below (Below.drew (Below.refl _ _)) _ : Rd g W0 W0.drew) | exact HK.out _ HR2.out | exact HK.out _ HR3.out | exact HK.out _ HR4.out | exact HK.out _ HR5.out | exact HK.out _ HR6.out | exact HK.out _ (HRN.out.trans (grown_of_below ((Below.refl _ _).alloc (Nat.le_refl _) _) _)) | exact HK.out _ ((HRN.out.trans (grown_of_below ((Below.refl _ _).alloc (Nat.le_refl _) _) _)).trans (grown_of_below ((Below.refl _ _).alloc (Nat.le_refl _) _) _)) | exact HKA.out _ _ HRA.out HGA.out
            refine wpAnyH_take (i := 0) (oi := { dst := some 23, op := Go.Op.load 97 (Go.Operand.tmp 5), type := 97, pos := "law.go:70", after := #[], guard := none }) (v := ?_) rfl (by kernel_rfl) (by kernel_rfl) (by kernel_rfl) (fun _ _ _ h => h) (Or.inl ⟨by rfl, ?hye02⟩) (by assumption) ?reste02
            case hye02 => (intro w hSw; (try dsimp only at hSw); go_simp; first | (with_reducible rfl) | (rw [if_neg (by omega)]) | skip)
            simp only [Act.put, List.setIfInBounds_toArray, List.set_cons_zero, List.set_cons_succ]
            refine wpAnyH_take (i := 1) (oi := { dst := some 24, op := Go.Op.load 97 (Go.Operand.tmp 5), type := 97, pos := "law.go:70", after := #[], guard := none }) (v := ?_) rfl (by kernel_rfl) (by kernel_rfl) (by kernel_rfl) (fun _ _ _ h => h) (Or.inl ⟨by rfl, ?hye03⟩) (by assumption) ?reste03
            case hye03 => (intro w hSw; (try dsimp only at hSw); go_simp; first | (with_reducible rfl) | (rw [if_neg (by omega)]) | skip)
            simp only [Act.put, List.setIfInBounds_toArray, List.set_cons_zero, List.set_cons_succ]
            refine wpAnyH_take (i := 2) (oi := { dst := some 25, op := Go.Op.nilCheck (Go.Operand.tmp 24), type := 0, pos := "law.go:70", after := #[{ on := 1, ground := Go.Ground.data }], guard := none }) (v := ?_) rfl (by kernel_rfl) (by kernel_rfl) (by kernel_rfl) (fun _ _ _ h => h) (Or.inl ⟨by rfl, ?hye04⟩) (by assumption) ?reste04
            case hye04 => (intro w hSw; (try dsimp only at hSw); go_simp; first | (with_reducible rfl) | (rw [if_neg (by omega)]) | skip)
            simp only [Act.put, List.setIfInBounds_toArray, List.set_cons_zero, List.set_cons_succ]
            refine wpAnyH_take (i := 3) (oi := { dst := some 26, op := Go.Op.load 95 (Go.Operand.tmp 25), type := 95, pos := "law.go:70", after := #[{ on := 2, ground := Go.Ground.data }], guard := none }) (v := ?_) rfl (by kernel_rfl) (by kernel_rfl) (by kernel_rfl) (fun _ _ _ h => h) (Or.inl ⟨by rfl, ?hye05⟩) (by assumption) ?reste05
            case hye05 => (intro w hSw; (try dsimp only at hSw); go_simp; first | (with_reducible rfl) | (rw [if_neg (by omega)]) | skip)
            simp only [Act.put, List.setIfInBounds_toArray, List.set_cons_zero, List.set_cons_succ]
            refine wpAnyH_take (i := 4) (oi := { dst := some 27, op := Go.Op.load 81 (Go.Operand.tmp 3), type := 81, pos := "law.go:70", after := #[], guard := none }) (v := ?_) rfl (by kernel_rfl) (by kernel_rfl) (by kernel_rfl) (fun _ _ _ h => h) (Or.inl ⟨by rfl, ?hye06⟩) (by assumption) ?reste06
            case hye06 => (intro w hSw; (try dsimp only at hSw); go_simp; first | (with_reducible rfl) | (rw [if_neg (by omega)]) | skip)
            simp only [Act.put, List.setIfInBounds_toArray, List.set_cons_zero, List.set_cons_succ]
            refine wpAnyH_take (i := 5) (oi := { dst := some 28, op := Go.Op.makeFunc (Go.Fn.func 105) #[] #[Go.Operand.tmp 7, Go.Operand.tmp 3], type := 144, pos := "law.go:70", after := #[], guard := none }) (v := ?_) rfl (by kernel_rfl) (by kernel_rfl) (by kernel_rfl) (fun _ _ _ h => h) (Or.inl ⟨by rfl, ?hye07⟩) (by assumption) ?reste07
            case hye07 => (intro w hSw; (try dsimp only at hSw); go_simp; first | (with_reducible rfl) | (rw [if_neg (by omega)]) | skip)
            simp only [Act.put, List.setIfInBounds_toArray, List.set_cons_zero, List.set_cons_succ]
            refine wpAnyH_ready (rs := [6]) (by kernel_rfl) (by simp) ?_
            refine AllReadyH.cons (o := { dst := some 29, op := Go.Op.call { callee := Go.Callee.value (Go.Operand.func 94), args := #[Go.Operand.tmp 27, Go.Operand.tmp 28], argTypes := #[81, 144] }, type := 5, pos := "law.go:70", after := #[{ on := 4, ground := Go.Ground.data }, { on := 5, ground := Go.Ground.data }], guard := none }) rfl (fun K hK => ?_) AllReadyH.nil
            go_simp
            go_at_call 94; (with_reducible refine (HBY.out _ (grown_of_below (Below.drew (Below.refl _ _)) _ : Rd g W0 W0.drew) (HW0.out.cb.below (Below.drew (Below.refl _ _)))).mono ?_); rintro e w2 ⟨rfl, HG2⟩; refine ⟨rfl, ?_⟩; show PostA w1 g og _ A c l lim w (askM (xs.map askV) lim p l) _ _; rw [HP.out]; exact ⟨rfl, HO0.out.trans (HW0.out.fo (Rd.trans (grown_of_below (Below.drew (Below.refl _ _)) _ : Rd g W0 W0.drew) HG2))⟩
        by_cases h1 : d = 1
        ·
          have HK := hid (fun W (h : Rd g W0 W) => show W.cell? ⟨w.heap.size + 1 + 1, 0, none⟩ = some (.pointer (some ⟨og, 0, none⟩)) ∧ W.cell? ⟨og, 0, none⟩ = some v ∧ W.cell? ⟨w.heap.size, 0, none⟩ = some (.pointer (some ⟨g, 0, none⟩)) ∧ W.cell? ⟨wr.heap.size, 4, none⟩ = some (.int .i64 y.f4.f0) ∧ W.cell? ⟨wr.heap.size, 5, none⟩ = some (.int .u64 y.f4.f1) ∧ W.cell? ⟨wr.heap.size, 6, none⟩ = some (.int .u64 y.f4.f2) ∧ W.cell? ⟨wr.heap.size, 7, none⟩ = some (.int .i64 y.f4.f3.f0) ∧ W.cell? ⟨wr.heap.size, 8, none⟩ = some (.int .i64 y.f4.f3.f1) ∧ W.cell? ⟨wr.heap.size, 9, none⟩ = some (.int .i64 y.f4.f4.f0) ∧ W.cell? ⟨wr.heap.size, 10, none⟩ = some (.int .i64 y.f4.f4.f1) ∧ W.cell? ⟨wr.heap.size, 11, none⟩ = some (.int .i64 y.f4.f5.f0) ∧ W.cell? ⟨wr.heap.size, 12, none⟩ = some (.int .i64 y.f4.f5.f1) ∧ W.cell? ⟨wr.heap.size, 13, none⟩ = some (.slice A13 y.f4.f6.length c13) from ⟨h.cell (by omega) b5, h.cell HW0.out.go hv, h.cell (by omega) b3, h.cell (by omega) x4, h.cell (by omega) x5, h.cell (by omega) x6, h.cell (by omega) x7, h.cell (by omega) x8, h.cell (by omega) x9, h.cell (by omega) x10, h.cell (by omega) x11, h.cell (by omega) x12, h.cell (by omega) x13⟩)
          have HKA := hid (fun W wa (h : Rd g W0 W) (h2 : W.grownBy wa v.ownBlock) => show wa.cell? ⟨w.heap.size + 1 + 1, 0, none⟩ = some (.pointer (some ⟨og, 0, none⟩)) ∧ wa.cell? ⟨og, 0, none⟩ = some v ∧ wa.cell? ⟨w.heap.size, 0, none⟩ = some (.pointer (some ⟨g, 0, none⟩)) ∧ wa.cell? ⟨wr.heap.size, 4, none⟩ = some (.int .i64 y.f4.f0) ∧ wa.cell? ⟨wr.heap.size, 5, none⟩ = some (.int .u64 y.f4.f1) ∧ wa.cell? ⟨wr.heap.size, 6, none⟩ = some (.int .u64 y.f4.f2) ∧ wa.cell? ⟨wr.heap.size, 7, none⟩ = some (.int .i64 y.f4.f3.f0) ∧ wa.cell? ⟨wr.heap.size, 8, none⟩ = some (.int .i64 y.f4.f3.f1) ∧ wa.cell? ⟨wr.heap.size, 9, none⟩ = some (.int .i64 y.f4.f4.f0) ∧ wa.cell? ⟨wr.heap.size, 10, none⟩ = some (.int .i64 y.f4.f4.f1) ∧ wa.cell? ⟨wr.heap.size, 11, none⟩ = some (.int .i64 y.f4.f5.f0) ∧ wa.cell? ⟨wr.heap.size, 12, none⟩ = some (.int .i64 y.f4.f5.f1) ∧ wa.cell? ⟨wr.heap.size, 13, none⟩ = some (.slice A13 y.f4.f6.length c13) from ⟨cellG h2 n5 (h.cell (by omega) b5), cellG h2 no (h.cell HW0.out.go hv), cellG h2 n3 (h.cell (by omega) b3), cellG h2 nx (h.cell (by omega) x4), cellG h2 nx (h.cell (by omega) x5), cellG h2 nx (h.cell (by omega) x6), cellG h2 nx (h.cell (by omega) x7), cellG h2 nx (h.cell (by omega) x8), cellG h2 nx (h.cell (by omega) x9), cellG h2 nx (h.cell (by omega) x10), cellG h2 nx (h.cell (by omega) x11), cellG h2 nx (h.cell (by omega) x12), cellG h2 nx (h.cell (by omega) x13)⟩)
          have HUI := hid (fun W B (hC : CB g A c l q lim W) (hR : Rd g W0 W) (hB : W0.heap.size ≤ B) (hbox : BoxQ B y.f4 A13 c13 W) => uint_walk g A c l q lim W 147 #[.pointer (some ⟨B, 0, none⟩)] (rgQ y.f4) hC (want_wants (below_rd HW0.out.hb HW0.out.g0 hR) HW0.out.g0 (by omega) hbox HPK.out (HFy.out.q (HD.out.symm.trans h1)) hG))
          rcases uintU_ok (rg := rgQ y.f4) (lim := lim) (p := q) (l := l) with ⟨b, p', eb, eu⟩ | ⟨s, eb, eu⟩ <;> rw [eb] at HUI <;> have hst := hid ((stepM_1 (lim := lim) (q := q) (l := l) (HD.out.symm.trans h1)).trans eu) <;> clear eb eu
          · have hlm := step_lm HW0.out.cb.p0 HW0.out.cb.p1 HW0.out.lm hst.out
            have hst := hid hst
            go_upto_region 9 with (fail)
            refine wp_region_noPanic ?_
            refine wp_region_heldD 14 (S := (fun W => W.cell? ⟨w.heap.size + 1 + 1, 0, none⟩ = some (.pointer (some ⟨og, 0, none⟩)) ∧ W.cell? ⟨og, 0, none⟩ = some v ∧ W.cell? ⟨w.heap.size, 0, none⟩ = some (.pointer (some ⟨g, 0, none⟩)) ∧ W.cell? ⟨wr.heap.size, 4, none⟩ = some (.int .i64 y.f4.f0) ∧ W.cell? ⟨wr.heap.size, 5, none⟩ = some (.int .u64 y.f4.f1) ∧ W.cell? ⟨wr.heap.size, 6, none⟩ = some (.int .u64 y.f4.f2) ∧ W.cell? ⟨wr.heap.size, 7, none⟩ = some (.int .i64 y.f4.f3.f0) ∧ W.cell? ⟨wr.heap.size, 8, none⟩ = some (.int .i64 y.f4.f3.f1) ∧ W.cell? ⟨wr.heap.size, 9, none⟩ = some (.int .i64 y.f4.f4.f0) ∧ W.cell? ⟨wr.heap.size, 10, none⟩ = some (.int .i64 y.f4.f4.f1) ∧ W.cell? ⟨wr.heap.size, 11, none⟩ = some (.int .i64 y.f4.f5.f0) ∧ W.cell? ⟨wr.heap.size, 12, none⟩ = some (.int .i64 y.f4.f5.f1) ∧ W.cell? ⟨wr.heap.size, 13, none⟩ = some (.slice A13 y.f4.f6.length c13))) (by kernel_rfl) ?hSo11 (fun hHeld => ?goo11)
            case hSo11 => first | exact HK.out _ (grown_of_below (Below.drew (Below.refl _ _)) _ : Rd g W0 W0.drew) | exact HK.out _ HR2.out | exact HK.out _ HR3.out | exact HK.out _ HR4.out | exact HK.out _ HR5.out | exact HK.out _ HR6.out | exact HK.out _ (HRN.out.trans (grown_of_below ((Below.refl _ _).alloc (Nat.le_refl _) _) _)) | exact HK.out _ ((HRN.out.trans (grown_of_below ((Below.refl _ _).alloc (Nat.le_refl _) _) _)).trans (grown_of_below ((Below.refl _ _).alloc (Nat.le_refl _) _) _)) | exact HKA.out _ _ HRA.out HGA.out
            refine wpAnyD_take (i := 0) (oi := { dst := some 37, op := Go.Op.load 97 (Go.Operand.tmp 5), type := 97, pos := "law.go:72", after := #[], guard := none }) (v := ?_) rfl (by kernel_rfl) (by kernel_rfl) (by kernel_rfl) (fun _ _ _ h => h) (Or.inl ⟨by rfl, ?hyo12⟩) (by assumption) (by kernel_rfl) ?resto12
            case hyo12 => (intro w hSw; (try dsimp only at hSw); go_simp; first | (with_reducible rfl) | (rw [if_neg (by omega)]) | skip)
            simp only [Act.put, List.setIfInBounds_toArray, List.set_cons_zero, List.set_cons_succ]
            refine wpAnyD_take (i := 1) (oi := { dst := some 38, op := Go.Op.load 97 (Go.Operand.tmp 5), type := 97, pos := "law.go:72", after := #[], guard := none }) (v := ?_) rfl (by kernel_rfl) (by kernel_rfl) (by kernel_rfl) (fun _ _ _ h => h) (Or.inl ⟨by rfl, ?hyo13⟩) (by assumption) (by kernel_rfl) ?resto13
            case hyo13 => (intro w hSw; (try dsimp only at hSw); go_simp; first | (with_reducible rfl) | (rw [if_neg (by omega)]) | skip)
            simp only [Act.put, List.setIfInBounds_toArray, List.set_cons_zero, List.set_cons_succ]
            refine wpAnyD_take (i := 2) (oi := { dst := some 39, op := Go.Op.nilCheck (Go.Operand.tmp 38), type := 0, pos := "law.go:72", after := #[{ on := 1, ground := Go.Ground.data }], guard := none }) (v := ?_) rfl (by kernel_rfl) (by kernel_rfl) (by kernel_rfl) (fun _ _ _ h => h) (Or.inl ⟨by rfl, ?hyo14⟩) (by assumption) (by kernel_rfl) ?resto14
            case hyo14 => (intro w hSw; (try dsimp only at hSw); go_simp; first | (with_reducible rfl) | (rw [if_neg (by omega)]) | skip)
            simp only [Act.put, List.setIfInBounds_toArray, List.set_cons_zero, List.set_cons_succ]
            refine wpAnyD_take (i := 3) (oi := { dst := some 40, op := Go.Op.load 95 (Go.Operand.tmp 39), type := 95, pos := "law.go:72", after := #[{ on := 2, ground := Go.Ground.data }], guard := none }) (v := ?_) rfl (by kernel_rfl) (by kernel_rfl) (by kernel_rfl) (fun _ _ _ h => h) (Or.inl ⟨by rfl, ?hyo15⟩) (by assumption) (by kernel_rfl) ?resto15
            case hyo15 => (intro w hSw; (try dsimp only at hSw); go_simp; first | (with_reducible rfl) | (rw [if_neg (by omega)]) | skip)
            simp only [Act.put, List.setIfInBounds_toArray, List.set_cons_zero, List.set_cons_succ]
            refine wpAnyD_take (i := 4) (oi := { dst := some 41, op := Go.Op.load 81 (Go.Operand.tmp 3), type := 81, pos := "law.go:72", after := #[], guard := none }) (v := ?_) rfl (by kernel_rfl) (by kernel_rfl) (by kernel_rfl) (fun _ _ _ h => h) (Or.inl ⟨by rfl, ?hyo16⟩) (by assumption) (by kernel_rfl) ?resto16
            case hyo16 => (intro w hSw; (try dsimp only at hSw); go_simp; first | (with_reducible rfl) | (rw [if_neg (by omega)]) | skip)
            simp only [Act.put, List.setIfInBounds_toArray, List.set_cons_zero, List.set_cons_succ]
            refine wpAnyD_take (i := 5) (oi := { dst := some 42, op := Go.Op.fieldAddr 154 (Go.Operand.tmp 7) 4, type := 0, pos := "law.go:72", after := #[], guard := none }) (v := ?_) rfl (by kernel_rfl) (by kernel_rfl) (by kernel_rfl) (fun _ _ _ h => h) (Or.inl ⟨by rfl, ?hyo17⟩) (by assumption) (by kernel_rfl) ?resto17
            case hyo17 => (intro w hSw; (try dsimp only at hSw); go_simp; first | (with_reducible rfl) | (rw [if_neg (by omega)]) | skip)
            simp only [Act.put, List.setIfInBounds_toArray, List.set_cons_zero, List.set_cons_succ]
            refine wpAnyD_take (i := 6) (oi := { dst := some 43, op := Go.Op.load 152 (Go.Operand.tmp 42), type := 152, pos := "law.go:72", after := #[{ on := 5, ground := Go.Ground.data }], guard := none }) (v := ?_) rfl (by kernel_rfl) (by kernel_rfl) (by kernel_rfl) (fun _ _ _ h => h) (Or.inl ⟨by rfl, ?hyo18⟩) (by assumption) (by kernel_rfl) ?resto18
            case hyo18 => (intro w hSw; (try dsimp only at hSw); go_simp; first | (with_reducible rfl) | (rw [if_neg (by omega)]) | skip)
            simp only [Act.put, List.setIfInBounds_toArray, List.set_cons_zero, List.set_cons_succ]
            refine wpAnyD_ready (rs := [7]) (by kernel_rfl) (by simp) ?_
            refine AllReadyD.cons (o := { dst := some 44, op := Go.Op.call { callee := Go.Callee.value (Go.Operand.func 108), args := #[Go.Operand.tmp 43], argTypes := #[152] }, type := 161, pos := "law.go:72", after := #[{ on := 6, ground := Go.Ground.data }], guard := none }) rfl (fun K hK => ?_) rfl AllReadyD.nil
            go_simp
            go_at_call 108; (with_reducible refine (want_any y.f4 A13 c13 _).mono ?_); rintro e w2 ⟨B, rfl, hB1, hbox, hb2⟩; have HBOX := hid hbox; have HR2 := hid (Rd.trans (grown_of_below (Below.drew (Below.refl _ _)) _ : Rd g W0 W0.drew) (grown_of_below hb2 _)); have HCB := hid ((HW0.out.cb.below (Below.drew (Below.refl _ _))).below hb2); have HBN := hid (show W0.heap.size ≤ B from hB1)
            refine hK.out _ _ ?_ (fun hHeld => ?_)
            · (try dsimp only); first | exact HK.out _ (grown_of_below (Below.drew (Below.refl _ _)) _ : Rd g W0 W0.drew) | exact HK.out _ HR2.out | exact HK.out _ HR3.out | exact HK.out _ HR4.out | exact HK.out _ HR5.out | exact HK.out _ HR6.out | exact HK.out _ (HRN.out.trans (grown_of_below ((Below.refl _ _).alloc (Nat.le_refl _) _) _)) | exact HK.out _ ((HRN.out.trans (grown_of_below ((Below.refl _ _).alloc (Nat.le_refl _) _) _)).trans (grown_of_below ((Below.refl _ _).alloc (Nat.le_refl _) _) _)) | exact HKA.out _ _ HRA.out HGA.out
            clear hK K
            try simp only [Act.put, List.setIfInBounds_toArray, List.set_cons_zero, List.set_cons_succ]
            refine wpAnyD_ready (rs := [8]) (by kernel_rfl) (by simp) ?_
            refine AllReadyD.cons (o := { dst := some 45, op := Go.Op.call { callee := Go.Callee.value (Go.Operand.func 107), args := #[Go.Operand.tmp 41, Go.Operand.tmp 44], argTypes := #[81, 161] }, type := 45, pos := "law.go:72", after := #[{ on := 4, ground := Go.Ground.data }, { on := 7, ground := Go.Ground.data }, { on := 7, ground := Go.Ground.chain }], guard := none }) rfl (fun K hK => ?_) rfl AllReadyD.nil
            go_simp
            go_at_call 107; (with_reducible refine (HUI.out _ B HCB.out HR2.out HBN.out HBOX.out).mono ?_); rintro e w3 ⟨rfl, HC3, HG3⟩; have HC3 := hid HC3; have HR3 := hid (HR2.out.trans HG3)
            refine hK.out _ _ ?_ (fun hHeld => ?_)
            · (try dsimp only); first | exact HK.out _ (grown_of_below (Below.drew (Below.refl _ _)) _ : Rd g W0 W0.drew) | exact HK.out _ HR2.out | exact HK.out _ HR3.out | exact HK.out _ HR4.out | exact HK.out _ HR5.out | exact HK.out _ HR6.out | exact HK.out _ (HRN.out.trans (grown_of_below ((Below.refl _ _).alloc (Nat.le_refl _) _) _)) | exact HK.out _ ((HRN.out.trans (grown_of_below ((Below.refl _ _).alloc (Nat.le_refl _) _) _)).trans (grown_of_below ((Below.refl _ _).alloc (Nat.le_refl _) _) _)) | exact HKA.out _ _ HRA.out HGA.out
            clear hK K
            try simp only [Act.put, List.setIfInBounds_toArray, List.set_cons_zero, List.set_cons_succ]
            refine wpAnyD_take (i := 9) (oi := { dst := some 46, op := Go.Op.convert 45 111 (Go.Operand.tmp 45), type := 111, pos := "law.go:72", after := #[{ on := 8, ground := Go.Ground.data }], guard := none }) (v := ?_) rfl (by kernel_rfl) (by kernel_rfl) (by kernel_rfl) (fun _ _ _ h => h) (Or.inl ⟨by rfl, ?hyo19⟩) (by assumption) (by kernel_rfl) ?resto19
            case hyo19 => (intro w hSw; (try dsimp only at hSw); go_simp; first | (with_reducible rfl) | (rw [if_neg (by omega)]) | skip)
            simp only [Act.put, List.setIfInBounds_toArray, List.set_cons_zero, List.set_cons_succ]
            refine wpAnyD_ready (rs := [10]) (by kernel_rfl) (by simp) ?_
            refine AllReadyD.cons (o := { dst := some 47, op := Go.Op.call { callee := Go.Callee.value (Go.Operand.func 106), args := #[Go.Operand.tmp 46], argTypes := #[111] }, type := 9, pos := "law.go:72", after := #[{ on := 9, ground := Go.Ground.data }, { on := 8, ground := Go.Ground.chain }], guard := none }) rfl (fun K hK => ?_) rfl AllReadyD.nil
            go_simp
            go_at_call 106; (with_reducible refine (number_any _ _).mono ?_); rintro e w4 ⟨⟨s4, rfl⟩, hb4⟩; have HR4 := hid (HR3.out.trans (grown_of_below hb4 _)); have HRN := HR4
            refine hK.out _ _ ?_ (fun hHeld => ?_)
            · (try dsimp only); first | exact HK.out _ (grown_of_below (Below.drew (Below.refl _ _)) _ : Rd g W0 W0.drew) | exact HK.out _ HR2.out | exact HK.out _ HR3.out | exact HK.out _ HR4.out | exact HK.out _ HR5.out | exact HK.out _ HR6.out | exact HK.out _ (HRN.out.trans (grown_of_below ((Below.refl _ _).alloc (Nat.le_refl _) _) _)) | exact HK.out _ ((HRN.out.trans (grown_of_below ((Below.refl _ _).alloc (Nat.le_refl _) _) _)).trans (grown_of_below ((Below.refl _ _).alloc (Nat.le_refl _) _) _)) | exact HKA.out _ _ HRA.out HGA.out
            clear hK K
            try simp only [Act.put, List.setIfInBounds_toArray, List.set_cons_zero, List.set_cons_succ]
            refine wpAnyD_ready (rs := [11]) (by kernel_rfl) (by simp) ?_
            refine AllReadyD.cons (o := { dst := some 48, op := Go.Op.buildSlice 95 1 #[(0, Go.Operand.tmp 47)], type := 95, pos := "law.go:72", after := #[{ on := 10, ground := Go.Ground.data }], guard := none }) rfl (fun K hK => ?_) rfl AllReadyD.nil
            go_simp
            refine hK.out _ _ ?_ (fun hHeld => ?_)
            · (try dsimp only); first | exact HK.out _ (grown_of_below (Below.drew (Below.refl _ _)) _ : Rd g W0 W0.drew) | exact HK.out _ HR2.out | exact HK.out _ HR3.out | exact HK.out _ HR4.out | exact HK.out _ HR5.out | exact HK.out _ HR6.out | exact HK.out _ (HRN.out.trans (grown_of_below ((Below.refl _ _).alloc (Nat.le_refl _) _) _)) | exact HK.out _ ((HRN.out.trans (grown_of_below ((Below.refl _ _).alloc (Nat.le_refl _) _) _)).trans (grown_of_below ((Below.refl _ _).alloc (Nat.le_refl _) _) _)) | exact HKA.out _ _ HRA.out HGA.out
            clear hK K
            try simp only [Act.put, List.setIfInBounds_toArray, List.set_cons_zero, List.set_cons_succ]
            refine wpAnyD_ready (rs := [12]) (by kernel_rfl) (by simp) ?_
            refine AllReadyD.cons (o := { dst := some 49, op := Go.Op.call { callee := Go.Callee.builtin Go.Builtin.append, args := #[Go.Operand.tmp 40, Go.Operand.tmp 48], argTypes := #[95, 95] }, type := 95, pos := "law.go:72", after := #[{ on := 3, ground := Go.Ground.data }, { on := 11, ground := Go.Ground.data }, { on := 10, ground := Go.Ground.chain }], guard := none }) rfl (fun K hK => ?_) rfl AllReadyD.nil
            have HRA := hid (HR4.out.trans (grown_of_below ((Below.refl _ _).alloc (Nat.le_refl _) (.cells #[.string s4] 9)) _)); have HCA := hid ((HC3.out.below hb4).below ((Below.refl _ _).alloc (Nat.le_refl _) (.cells #[.string s4] 9))); refine step_append_lies _ rfl (.tmp 40) (.tmp 48) 95 (by rfl) w1.heap.size 9 i0 (.string ⟨#[]⟩) 1 16 Tryd.underlying95 hi0 hz0 hz1 hz2 rfl (by decide) v (m) vs (by rfl) (HOW.out _ HRA.out) ⟨_, 0, none⟩ 1 1 [.string s4] (by rfl) rfl (by intro j u hj; rcases j with _ | _ | _ | j <;> simp at hj <;> subst hj <;> go_simp) (by intro u hu; simp at hu; (first | (subst hu; rfl) | (rcases hu with rfl | rfl <;> rfl))) (by decide) (by unfold maxLen; omega) (by omega) (HSZ.out _ HRA.out) _ rfl ?_; intro ga capa wa howna hgrowa hata hlta; have HGA := hid hgrowa; have hfa := HFZ.out _ _ HRA.out hgrowa; have hca := (HKA.out _ _ HRA.out hgrowa).2.1
            refine hK.out _ _ ?_ (fun hHeld => ?_)
            · (try dsimp only); first | exact HK.out _ (grown_of_below (Below.drew (Below.refl _ _)) _ : Rd g W0 W0.drew) | exact HK.out _ HR2.out | exact HK.out _ HR3.out | exact HK.out _ HR4.out | exact HK.out _ HR5.out | exact HK.out _ HR6.out | exact HK.out _ (HRN.out.trans (grown_of_below ((Below.refl _ _).alloc (Nat.le_refl _) _) _)) | exact HK.out _ ((HRN.out.trans (grown_of_below ((Below.refl _ _).alloc (Nat.le_refl _) _) _)).trans (grown_of_below ((Below.refl _ _).alloc (Nat.le_refl _) _) _)) | exact HKA.out _ _ HRA.out HGA.out
            clear hK K
            try simp only [Act.put, List.setIfInBounds_toArray, List.set_cons_zero, List.set_cons_succ]
            refine wpAnyD_take (i := 13) (oi := { dst := some 50, op := Go.Op.nilCheck (Go.Operand.tmp 37), type := 0, pos := "law.go:72", after := #[{ on := 0, ground := Go.Ground.data }, { on := 0, ground := Go.Ground.phase }, { on := 1, ground := Go.Ground.phase }, { on := 2, ground := Go.Ground.phase }, { on := 3, ground := Go.Ground.phase }, { on := 4, ground := Go.Ground.phase }, { on := 5, ground := Go.Ground.phase }, { on := 6, ground := Go.Ground.phase }, { on := 7, ground := Go.Ground.phase }, { on := 8, ground := Go.Ground.phase }, { on := 9, ground := Go.Ground.phase }, { on := 10, ground := Go.Ground.phase }, { on := 11, ground := Go.Ground.phase }, { on := 12, ground := Go.Ground.phase }], guard := none }) (v := ?_) rfl (by kernel_rfl) (by kernel_rfl) (by kernel_rfl) (fun _ _ _ h => h) (Or.inl ⟨by rfl, ?hyo110⟩) (by assumption) (by kernel_rfl) ?resto110
            case hyo110 => (intro w hSw; (try dsimp only at hSw); go_simp; first | (with_reducible rfl) | (rw [if_neg (by omega)]) | skip)
            simp only [Act.put, List.setIfInBounds_toArray, List.set_cons_zero, List.set_cons_succ]
            refine wpAnyD_ready (rs := [14]) (by kernel_rfl) (by simp) ?_
            refine AllReadyD.last (o := { dst := none, op := Go.Op.store 95 (Go.Operand.tmp 50) (Go.Operand.tmp 49), type := 0, pos := "law.go:72", after := #[{ on := 13, ground := Go.Ground.data }, { on := 12, ground := Go.Ground.data }, { on := 12, ground := Go.Ground.chain }, { on := 0, ground := Go.Ground.phase }, { on := 1, ground := Go.Ground.phase }, { on := 2, ground := Go.Ground.phase }, { on := 3, ground := Go.Ground.phase }, { on := 4, ground := Go.Ground.phase }, { on := 5, ground := Go.Ground.phase }, { on := 6, ground := Go.Ground.phase }, { on := 7, ground := Go.Ground.phase }, { on := 8, ground := Go.Ground.phase }, { on := 9, ground := Go.Ground.phase }, { on := 10, ground := Go.Ground.phase }, { on := 11, ground := Go.Ground.phase }, { on := 12, ground := Go.Ground.phase }], guard := none }) rfl (by kernel_rfl) (fun K hK => ?_)
            go_simp
            refine hK.out _ _ ?_
            clear hK K
            try simp only [Act.put, List.setIfInBounds_toArray, List.set_cons_zero, List.set_cons_succ]
            refine NoPanic.normal ?_
            go_wp2_with fail
            go_meet
            exact ⟨_, by omega, hst, hid (HW0.out.out hv HRA.out HCA.out hlm howna hgrowa hata hlta).1, hid (HW0.out.out hv HRA.out HCA.out hlm howna hgrowa hata hlta).2⟩
          · have HP := hid (HUy.out.trans (ask_err (y := askV y) (by show y.f0 % 6 ≠ 5; have := HD.out; omega) hst.out))
            go_upto_region 9 with (fail)
            refine wp_region_held_drew (S := (fun W => W.cell? ⟨w.heap.size + 1 + 1, 0, none⟩ = some (.pointer (some ⟨og, 0, none⟩)) ∧ W.cell? ⟨og, 0, none⟩ = some v ∧ W.cell? ⟨w.heap.size, 0, none⟩ = some (.pointer (some ⟨g, 0, none⟩)) ∧ W.cell? ⟨wr.heap.size, 4, none⟩ = some (.int .i64 y.f4.f0) ∧ W.cell? ⟨wr.heap.size, 5, none⟩ = some (.int .u64 y.f4.f1) ∧ W.cell? ⟨wr.heap.size, 6, none⟩ = some (.int .u64 y.f4.f2) ∧ W.cell? ⟨wr.heap.size, 7, none⟩ = some (.int .i64 y.f4.f3.f0) ∧ W.cell? ⟨wr.heap.size, 8, none⟩ = some (.int .i64 y.f4.f3.f1) ∧ W.cell? ⟨wr.heap.size, 9, none⟩ = some (.int .i64 y.f4.f4.f0) ∧ W.cell? ⟨wr.heap.size, 10, none⟩ = some (.int .i64 y.f4.f4.f1) ∧ W.cell? ⟨wr.heap.size, 11, none⟩ = some (.int .i64 y.f4.f5.f0) ∧ W.cell? ⟨wr.heap.size, 12, none⟩ = some (.int .i64 y.f4.f5.f1) ∧ W.cell? ⟨wr.heap.size, 13, none⟩ = some (.slice A13 y.f4.f6.length c13))) (by kernel_rfl) ?hSe11 (fun hHeld => ?goe11)
            case hSe11 => first | exact HK.out _ (grown_of_below (Below.drew (Below.refl _ _)) _ : Rd g W0 W0.drew) | exact HK.out _ HR2.out | exact HK.out _ HR3.out | exact HK.out _ HR4.out | exact HK.out _ HR5.out | exact HK.out _ HR6.out | exact HK.out _ (HRN.out.trans (grown_of_below ((Below.refl _ _).alloc (Nat.le_refl _) _) _)) | exact HK.out _ ((HRN.out.trans (grown_of_below ((Below.refl _ _).alloc (Nat.le_refl _) _) _)).trans (grown_of_below ((Below.refl _ _).alloc (Nat.le_refl _) _) _)) | exact HKA.out _ _ HRA.out HGA.out
            refine wpAnyH_take (i := 0) (oi := { dst := some 37, op := Go.Op.load 97 (Go.Operand.tmp 5), type := 97, pos := "law.go:72", after := #[], guard := none }) (v := ?_) rfl (by kernel_rfl) (by kernel_rfl) (by kernel_rfl) (fun _ _ _ h => h) (Or.inl ⟨by rfl, ?hye12⟩) (by assumption) ?reste12
            case hye12 => (intro w hSw; (try dsimp only at hSw); go_simp; first | (with_reducible rfl) | (rw [if_neg (by omega)]) | skip)
            simp only [Act.put, List.setIfInBounds_toArray, List.set_cons_zero, List.set_cons_succ]
            refine wpAnyH_take (i := 1) (oi := { dst := some 38, op := Go.Op.load 97 (Go.Operand.tmp 5), type := 97, pos := "law.go:72", after := #[], guard := none }) (v := ?_) rfl (by kernel_rfl) (by kernel_rfl) (by kernel_rfl) (fun _ _ _ h => h) (Or.inl ⟨by rfl, ?hye13⟩) (by assumption) ?reste13
            case hye13 => (intro w hSw; (try dsimp only at hSw); go_simp; first | (with_reducible rfl) | (rw [if_neg (by omega)]) | skip)
            simp only [Act.put, List.setIfInBounds_toArray, List.set_cons_zero, List.set_cons_succ]
            refine wpAnyH_take (i := 2) (oi := { dst := some 39, op := Go.Op.nilCheck (Go.Operand.tmp 38), type := 0, pos := "law.go:72", after := #[{ on := 1, ground := Go.Ground.data }], guard := none }) (v := ?_) rfl (by kernel_rfl) (by kernel_rfl) (by kernel_rfl) (fun _ _ _ h => h) (Or.inl ⟨by rfl, ?hye14⟩) (by assumption) ?reste14
            case hye14 => (intro w hSw; (try dsimp only at hSw); go_simp; first | (with_reducible rfl) | (rw [if_neg (by omega)]) | skip)
            simp only [Act.put, List.setIfInBounds_toArray, List.set_cons_zero, List.set_cons_succ]
            refine wpAnyH_take (i := 3) (oi := { dst := some 40, op := Go.Op.load 95 (Go.Operand.tmp 39), type := 95, pos := "law.go:72", after := #[{ on := 2, ground := Go.Ground.data }], guard := none }) (v := ?_) rfl (by kernel_rfl) (by kernel_rfl) (by kernel_rfl) (fun _ _ _ h => h) (Or.inl ⟨by rfl, ?hye15⟩) (by assumption) ?reste15
            case hye15 => (intro w hSw; (try dsimp only at hSw); go_simp; first | (with_reducible rfl) | (rw [if_neg (by omega)]) | skip)
            simp only [Act.put, List.setIfInBounds_toArray, List.set_cons_zero, List.set_cons_succ]
            refine wpAnyH_take (i := 4) (oi := { dst := some 41, op := Go.Op.load 81 (Go.Operand.tmp 3), type := 81, pos := "law.go:72", after := #[], guard := none }) (v := ?_) rfl (by kernel_rfl) (by kernel_rfl) (by kernel_rfl) (fun _ _ _ h => h) (Or.inl ⟨by rfl, ?hye16⟩) (by assumption) ?reste16
            case hye16 => (intro w hSw; (try dsimp only at hSw); go_simp; first | (with_reducible rfl) | (rw [if_neg (by omega)]) | skip)
            simp only [Act.put, List.setIfInBounds_toArray, List.set_cons_zero, List.set_cons_succ]
            refine wpAnyH_take (i := 5) (oi := { dst := some 42, op := Go.Op.fieldAddr 154 (Go.Operand.tmp 7) 4, type := 0, pos := "law.go:72", after := #[], guard := none }) (v := ?_) rfl (by kernel_rfl) (by kernel_rfl) (by kernel_rfl) (fun _ _ _ h => h) (Or.inl ⟨by rfl, ?hye17⟩) (by assumption) ?reste17
            case hye17 => (intro w hSw; (try dsimp only at hSw); go_simp; first | (with_reducible rfl) | (rw [if_neg (by omega)]) | skip)
            simp only [Act.put, List.setIfInBounds_toArray, List.set_cons_zero, List.set_cons_succ]
            refine wpAnyH_take (i := 6) (oi := { dst := some 43, op := Go.Op.load 152 (Go.Operand.tmp 42), type := 152, pos := "law.go:72", after := #[{ on := 5, ground := Go.Ground.data }], guard := none }) (v := ?_) rfl (by kernel_rfl) (by kernel_rfl) (by kernel_rfl) (fun _ _ _ h => h) (Or.inl ⟨by rfl, ?hye18⟩) (by assumption) ?reste18
            case hye18 => (intro w hSw; (try dsimp only at hSw); go_simp; first | (with_reducible rfl) | (rw [if_neg (by omega)]) | skip)
            simp only [Act.put, List.setIfInBounds_toArray, List.set_cons_zero, List.set_cons_succ]
            refine wpAnyH_ready (rs := [7]) (by kernel_rfl) (by simp) ?_
            refine AllReadyH.cons (o := { dst := some 44, op := Go.Op.call { callee := Go.Callee.value (Go.Operand.func 108), args := #[Go.Operand.tmp 43], argTypes := #[152] }, type := 161, pos := "law.go:72", after := #[{ on := 6, ground := Go.Ground.data }], guard := none }) rfl (fun K hK => ?_) AllReadyH.nil
            go_simp
            go_at_call 108; (with_reducible refine (want_any y.f4 A13 c13 _).mono ?_); rintro e w2 ⟨B, rfl, hB1, hbox, hb2⟩; have HBOX := hid hbox; have HR2 := hid (Rd.trans (grown_of_below (Below.drew (Below.refl _ _)) _ : Rd g W0 W0.drew) (grown_of_below hb2 _)); have HCB := hid ((HW0.out.cb.below (Below.drew (Below.refl _ _))).below hb2); have HBN := hid (show W0.heap.size ≤ B from hB1)
            refine hK.out _ _ ?_ (fun hHeld => ?_)
            · (try dsimp only); first | exact HK.out _ (grown_of_below (Below.drew (Below.refl _ _)) _ : Rd g W0 W0.drew) | exact HK.out _ HR2.out | exact HK.out _ HR3.out | exact HK.out _ HR4.out | exact HK.out _ HR5.out | exact HK.out _ HR6.out | exact HK.out _ (HRN.out.trans (grown_of_below ((Below.refl _ _).alloc (Nat.le_refl _) _) _)) | exact HK.out _ ((HRN.out.trans (grown_of_below ((Below.refl _ _).alloc (Nat.le_refl _) _) _)).trans (grown_of_below ((Below.refl _ _).alloc (Nat.le_refl _) _) _)) | exact HKA.out _ _ HRA.out HGA.out
            clear hK K
            try simp only [Act.put, List.setIfInBounds_toArray, List.set_cons_zero, List.set_cons_succ]
            refine wpAnyH_ready (rs := [8]) (by kernel_rfl) (by simp) ?_
            refine AllReadyH.cons (o := { dst := some 45, op := Go.Op.call { callee := Go.Callee.value (Go.Operand.func 107), args := #[Go.Operand.tmp 41, Go.Operand.tmp 44], argTypes := #[81, 161] }, type := 45, pos := "law.go:72", after := #[{ on := 4, ground := Go.Ground.data }, { on := 7, ground := Go.Ground.data }, { on := 7, ground := Go.Ground.chain }], guard := none }) rfl (fun K hK => ?_) AllReadyH.nil
            go_simp
            go_at_call 107; (with_reducible refine (HUI.out _ B HCB.out HR2.out HBN.out HBOX.out).mono ?_); rintro e w3 ⟨rfl, HG3⟩; refine ⟨rfl, ?_⟩; show PostA w1 g og _ A c l lim w (askM (xs.map askV) lim p l) _ _; rw [HP.out]; exact ⟨rfl, HO0.out.trans (HW0.out.fo (HR2.out.trans HG3))⟩
        by_cases h2 : d = 2
        ·
          have HK := hid (fun W (h : Rd g W0 W) => show W.cell? ⟨w.heap.size + 1 + 1, 0, none⟩ = some (.pointer (some ⟨og, 0, none⟩)) ∧ W.cell? ⟨og, 0, none⟩ = some v ∧ W.cell? ⟨w.heap.size, 0, none⟩ = some (.pointer (some ⟨g, 0, none⟩)) ∧ W.cell? ⟨wr.heap.size, 1, none⟩ = some (.int .i64 y.f1) ∧ W.cell? ⟨wr.heap.size, 11, none⟩ = some (.int .i64 y.f4.f5.f0) ∧ W.cell? ⟨wr.heap.size, 12, none⟩ = some (.int .i64 y.f4.f5.f1) from ⟨h.cell (by omega) b5, h.cell HW0.out.go hv, h.cell (by omega) b3, h.cell (by omega) x1, h.cell (by omega) x11, h.cell (by omega) x12⟩)
          have HKA := hid (fun W wa (h : Rd g W0 W) (h2 : W.grownBy wa v.ownBlock) => show wa.cell? ⟨w.heap.size + 1 + 1, 0, none⟩ = some (.pointer (some ⟨og, 0, none⟩)) ∧ wa.cell? ⟨og, 0, none⟩ = some v ∧ wa.cell? ⟨w.heap.size, 0, none⟩ = some (.pointer (some ⟨g, 0, none⟩)) ∧ wa.cell? ⟨wr.heap.size, 1, none⟩ = some (.int .i64 y.f1) ∧ wa.cell? ⟨wr.heap.size, 11, none⟩ = some (.int .i64 y.f4.f5.f0) ∧ wa.cell? ⟨wr.heap.size, 12, none⟩ = some (.int .i64 y.f4.f5.f1) from ⟨cellG h2 n5 (h.cell (by omega) b5), cellG h2 no (h.cell HW0.out.go hv), cellG h2 n3 (h.cell (by omega) b3), cellG h2 nx (h.cell (by omega) x1), cellG h2 nx (h.cell (by omega) x11), cellG h2 nx (h.cell (by omega) x12)⟩)
          have HSI := hid (fun W (hC : CB g A c l q lim W) => sint_walk g A c l q lim W y.f1 y.f4.f5.f0 y.f4.f5.f1 ((y.f1 - 1) / 7).toNat hC (HFy.out.s (HD.out.symm.trans h2)).1 (HFy.out.s (HD.out.symm.trans h2)).2 (by have := HFy.out.s (HD.out.symm.trans h2); omega))
          rcases sintU_ok (n := y.f1) (a := y.f4.f5.f0) (b := y.f4.f5.f1) (lim := lim) (p := q) (l := l) with ⟨p', eb, eu⟩ | ⟨s, eb, eu⟩ <;> rw [eb] at HSI <;> have hst := hid ((stepM_2 (lim := lim) (q := q) (l := l) (HD.out.symm.trans h2)).trans eu) <;> clear eb eu
          · have hlm := step_lm HW0.out.cb.p0 HW0.out.cb.p1 HW0.out.lm hst.out
            have hst := hid hst
            go_upto_region 11 with (fail)
            refine wp_region_noPanic ?_
            refine wp_region_heldD 17 (S := (fun W => W.cell? ⟨w.heap.size + 1 + 1, 0, none⟩ = some (.pointer (some ⟨og, 0, none⟩)) ∧ W.cell? ⟨og, 0, none⟩ = some v ∧ W.cell? ⟨w.heap.size, 0, none⟩ = some (.pointer (some ⟨g, 0, none⟩)) ∧ W.cell? ⟨wr.heap.size, 1, none⟩ = some (.int .i64 y.f1) ∧ W.cell? ⟨wr.heap.size, 11, none⟩ = some (.int .i64 y.f4.f5.f0) ∧ W.cell? ⟨wr.heap.size, 12, none⟩ = some (.int .i64 y.f4.f5.f1))) (by kernel_rfl) ?hSo21 (fun hHeld => ?goo21)
            case hSo21 => first | exact HK.out _ (grown_of_below (Below.drew (Below.refl _ _)) _ : Rd g W0 W0.drew) | exact HK.out _ HR2.out | exact HK.out _ HR3.out | exact HK.out _ HR4.out | exact HK.out _ HR5.out | exact HK.out _ HR6.out | exact HK.out _ (HRN.out.trans (grown_of_below ((Below.refl _ _).alloc (Nat.le_refl _) _) _)) | exact HK.out _ ((HRN.out.trans (grown_of_below ((Below.refl _ _).alloc (Nat.le_refl _) _) _)).trans (grown_of_below ((Below.refl _ _).alloc (Nat.le_refl _) _) _)) | exact HKA.out _ _ HRA.out HGA.out
            refine wpAnyD_take (i := 0) (oi := { dst := some 53, op := Go.Op.load 97 (Go.Operand.tmp 5), type := 97, pos := "law.go:74", after := #[], guard := none }) (v := ?_) rfl (by kernel_rfl) (by kernel_rfl) (by kernel_rfl) (fun _ _ _ h => h) (Or.inl ⟨by rfl, ?hyo22⟩) (by assumption) (by kernel_rfl) ?resto22
            case hyo22 => (intro w hSw; (try dsimp only at hSw); go_simp; first | (with_reducible rfl) | (rw [if_neg (by omega)]) | skip)
            simp only [Act.put, List.setIfInBounds_toArray, List.set_cons_zero, List.set_cons_succ]
            refine wpAnyD_take (i := 1) (oi := { dst := some 54, op := Go.Op.load 97 (Go.Operand.tmp 5), type := 97, pos := "law.go:74", after := #[], guard := none }) (v := ?_) rfl (by kernel_rfl) (by kernel_rfl) (by kernel_rfl) (fun _ _ _ h => h) (Or.inl ⟨by rfl, ?hyo23⟩) (by assumption) (by kernel_rfl) ?resto23
            case hyo23 => (intro w hSw; (try dsimp only at hSw); go_simp; first | (with_reducible rfl) | (rw [if_neg (by omega)]) | skip)
            simp only [Act.put, List.setIfInBounds_toArray, List.set_cons_zero, List.set_cons_succ]
            refine wpAnyD_take (i := 2) (oi := { dst := some 55, op := Go.Op.nilCheck (Go.Operand.tmp 54), type := 0, pos := "law.go:74", after := #[{ on := 1, ground := Go.Ground.data }], guard := none }) (v := ?_) rfl (by kernel_rfl) (by kernel_rfl) (by kernel_rfl) (fun _ _ _ h => h) (Or.inl ⟨by rfl, ?hyo24⟩) (by assumption) (by kernel_rfl) ?resto24
            case hyo24 => (intro w hSw; (try dsimp only at hSw); go_simp; first | (with_reducible rfl) | (rw [if_neg (by omega)]) | skip)
            simp only [Act.put, List.setIfInBounds_toArray, List.set_cons_zero, List.set_cons_succ]
            refine wpAnyD_take (i := 3) (oi := { dst := some 56, op := Go.Op.load 95 (Go.Operand.tmp 55), type := 95, pos := "law.go:74", after := #[{ on := 2, ground := Go.Ground.data }], guard := none }) (v := ?_) rfl (by kernel_rfl) (by kernel_rfl) (by kernel_rfl) (fun _ _ _ h => h) (Or.inl ⟨by rfl, ?hyo25⟩) (by assumption) (by kernel_rfl) ?resto25
            case hyo25 => (intro w hSw; (try dsimp only at hSw); go_simp; first | (with_reducible rfl) | (rw [if_neg (by omega)]) | skip)
            simp only [Act.put, List.setIfInBounds_toArray, List.set_cons_zero, List.set_cons_succ]
            refine wpAnyD_take (i := 4) (oi := { dst := some 57, op := Go.Op.load 81 (Go.Operand.tmp 3), type := 81, pos := "law.go:74", after := #[], guard := none }) (v := ?_) rfl (by kernel_rfl) (by kernel_rfl) (by kernel_rfl) (fun _ _ _ h => h) (Or.inl ⟨by rfl, ?hyo26⟩) (by assumption) (by kernel_rfl) ?resto26
            case hyo26 => (intro w hSw; (try dsimp only at hSw); go_simp; first | (with_reducible rfl) | (rw [if_neg (by omega)]) | skip)
            simp only [Act.put, List.setIfInBounds_toArray, List.set_cons_zero, List.set_cons_succ]
            refine wpAnyD_take (i := 5) (oi := { dst := some 58, op := Go.Op.fieldAddr 154 (Go.Operand.tmp 7) 1, type := 0, pos := "law.go:74", after := #[], guard := none }) (v := ?_) rfl (by kernel_rfl) (by kernel_rfl) (by kernel_rfl) (fun _ _ _ h => h) (Or.inl ⟨by rfl, ?hyo27⟩) (by assumption) (by kernel_rfl) ?resto27
            case hyo27 => (intro w hSw; (try dsimp only at hSw); go_simp; first | (with_reducible rfl) | (rw [if_neg (by omega)]) | skip)
            simp only [Act.put, List.setIfInBounds_toArray, List.set_cons_zero, List.set_cons_succ]
            refine wpAnyD_take (i := 6) (oi := { dst := some 59, op := Go.Op.load 3 (Go.Operand.tmp 58), type := 3, pos := "law.go:74", after := #[{ on := 5, ground := Go.Ground.data }], guard := none }) (v := ?_) rfl (by kernel_rfl) (by kernel_rfl) (by kernel_rfl) (fun _ _ _ h => h) (Or.inl ⟨by rfl, ?hyo28⟩) (by assumption) (by kernel_rfl) ?resto28
            case hyo28 => (intro w hSw; (try dsimp only at hSw); go_simp; first | (with_reducible rfl) | (rw [if_neg (by omega)]) | skip)
            simp only [Act.put, List.setIfInBounds_toArray, List.set_cons_zero, List.set_cons_succ]
            refine wpAnyD_take (i := 7) (oi := { dst := some 60, op := Go.Op.fieldAddr 154 (Go.Operand.tmp 7) 4, type := 0, pos := "law.go:74", after := #[], guard := none }) (v := ?_) rfl (by kernel_rfl) (by kernel_rfl) (by kernel_rfl) (fun _ _ _ h => h) (Or.inl ⟨by rfl, ?hyo29⟩) (by assumption) (by kernel_rfl) ?resto29
            case hyo29 => (intro w hSw; (try dsimp only at hSw); go_simp; first | (with_reducible rfl) | (rw [if_neg (by omega)]) | skip)
            simp only [Act.put, List.setIfInBounds_toArray, List.set_cons_zero, List.set_cons_succ]
            refine wpAnyD_take (i := 8) (oi := { dst := some 61, op := Go.Op.fieldAddr 152 (Go.Operand.tmp 60) 5, type := 0, pos := "law.go:74", after := #[{ on := 7, ground := Go.Ground.data }], guard := none }) (v := ?_) rfl (by kernel_rfl) (by kernel_rfl) (by kernel_rfl) (fun _ _ _ h => h) (Or.inl ⟨by rfl, ?hyo210⟩) (by assumption) (by kernel_rfl) ?resto210
            case hyo210 => (intro w hSw; (try dsimp only at hSw); go_simp; first | (with_reducible rfl) | (rw [if_neg (by omega)]) | skip)
            simp only [Act.put, List.setIfInBounds_toArray, List.set_cons_zero, List.set_cons_succ]
            refine wpAnyD_take (i := 9) (oi := { dst := some 62, op := Go.Op.load 149 (Go.Operand.tmp 61), type := 149, pos := "law.go:74", after := #[{ on := 8, ground := Go.Ground.data }], guard := none }) (v := ?_) rfl (by kernel_rfl) (by kernel_rfl) (by kernel_rfl) (fun _ _ _ h => h) (Or.inl ⟨by rfl, ?hyo211⟩) (by assumption) (by kernel_rfl) ?resto211
            case hyo211 => (intro w hSw; (try dsimp only at hSw); go_simp; first | (with_reducible rfl) | (rw [if_neg (by omega)]) | skip)
            simp only [Act.put, List.setIfInBounds_toArray, List.set_cons_zero, List.set_cons_succ]
            refine wpAnyD_ready (rs := [10]) (by kernel_rfl) (by simp) ?_
            refine AllReadyD.cons (o := { dst := some 63, op := Go.Op.call { callee := Go.Callee.value (Go.Operand.func 110), args := #[Go.Operand.tmp 62], argTypes := #[149] }, type := 85, pos := "law.go:74", after := #[{ on := 9, ground := Go.Ground.data }], guard := none }) rfl (fun K hK => ?_) rfl AllReadyD.nil
            go_simp
            go_at_call 110; (with_reducible refine (own02_any y.f4.f5.f0 y.f4.f5.f1 _).mono ?_); rintro e w2 ⟨rfl, hb2⟩; have HR2 := hid (Rd.trans (grown_of_below (Below.drew (Below.refl _ _)) _ : Rd g W0 W0.drew) (grown_of_below hb2 _)); have HCB := hid ((HW0.out.cb.below (Below.drew (Below.refl _ _))).below hb2)
            refine hK.out _ _ ?_ (fun hHeld => ?_)
            · (try dsimp only); first | exact HK.out _ (grown_of_below (Below.drew (Below.refl _ _)) _ : Rd g W0 W0.drew) | exact HK.out _ HR2.out | exact HK.out _ HR3.out | exact HK.out _ HR4.out | exact HK.out _ HR5.out | exact HK.out _ HR6.out | exact HK.out _ (HRN.out.trans (grown_of_below ((Below.refl _ _).alloc (Nat.le_refl _) _) _)) | exact HK.out _ ((HRN.out.trans (grown_of_below ((Below.refl _ _).alloc (Nat.le_refl _) _) _)).trans (grown_of_below ((Below.refl _ _).alloc (Nat.le_refl _) _) _)) | exact HKA.out _ _ HRA.out HGA.out
            clear hK K
            try simp only [Act.put, List.setIfInBounds_toArray, List.set_cons_zero, List.set_cons_succ]
            refine wpAnyD_ready (rs := [11]) (by kernel_rfl) (by simp) ?_
            refine AllReadyD.cons (o := { dst := some 64, op := Go.Op.call { callee := Go.Callee.value (Go.Operand.func 109), args := #[Go.Operand.tmp 57, Go.Operand.tmp 59, Go.Operand.tmp 63], argTypes := #[81, 3, 85] }, type := 2, pos := "law.go:74", after := #[{ on := 4, ground := Go.Ground.data }, { on := 6, ground := Go.Ground.data }, { on := 10, ground := Go.Ground.data }, { on := 10, ground := Go.Ground.chain }], guard := none }) rfl (fun K hK => ?_) rfl AllReadyD.nil
            go_simp
            go_at_call 109; (with_reducible refine (HSI.out _ HCB.out).mono ?_); rintro e w3 ⟨⟨v3, rfl⟩, HC3, HG3⟩; have HC3 := hid HC3; have HR3 := hid (HR2.out.trans HG3)
            refine hK.out _ _ ?_ (fun hHeld => ?_)
            · (try dsimp only); first | exact HK.out _ (grown_of_below (Below.drew (Below.refl _ _)) _ : Rd g W0 W0.drew) | exact HK.out _ HR2.out | exact HK.out _ HR3.out | exact HK.out _ HR4.out | exact HK.out _ HR5.out | exact HK.out _ HR6.out | exact HK.out _ (HRN.out.trans (grown_of_below ((Below.refl _ _).alloc (Nat.le_refl _) _) _)) | exact HK.out _ ((HRN.out.trans (grown_of_below ((Below.refl _ _).alloc (Nat.le_refl _) _) _)).trans (grown_of_below ((Below.refl _ _).alloc (Nat.le_refl _) _) _)) | exact HKA.out _ _ HRA.out HGA.out
            clear hK K
            try simp only [Act.put, List.setIfInBounds_toArray, List.set_cons_zero, List.set_cons_succ]
            refine wpAnyD_take (i := 12) (oi := { dst := some 65, op := Go.Op.convert 2 111 (Go.Operand.tmp 64), type := 111, pos := "law.go:74", after := #[{ on := 11, ground := Go.Ground.data }], guard := none }) (v := ?_) rfl (by kernel_rfl) (by kernel_rfl) (by kernel_rfl) (fun _ _ _ h => h) (Or.inl ⟨by rfl, ?hyo212⟩) (by assumption) (by kernel_rfl) ?resto212
            case hyo212 => (intro w hSw; (try dsimp only at hSw); go_simp; first | (with_reducible rfl) | (rw [if_neg (by omega)]) | skip)
            simp only [Act.put, List.setIfInBounds_toArray, List.set_cons_zero, List.set_cons_succ]
            refine wpAnyD_ready (rs := [13]) (by kernel_rfl) (by simp) ?_
            refine AllReadyD.cons (o := { dst := some 66, op := Go.Op.call { callee := Go.Callee.value (Go.Operand.func 106), args := #[Go.Operand.tmp 65], argTypes := #[111] }, type := 9, pos := "law.go:74", after := #[{ on := 12, ground := Go.Ground.data }, { on := 11, ground := Go.Ground.chain }], guard := none }) rfl (fun K hK => ?_) rfl AllReadyD.nil
            go_simp
            go_at_call 106; (with_reducible refine (number_any _ _).mono ?_); rintro e w4 ⟨⟨s4, rfl⟩, hb4⟩; have HR4 := hid (HR3.out.trans (grown_of_below hb4 _)); have HRN := HR4
            refine hK.out _ _ ?_ (fun hHeld => ?_)
            · (try dsimp only); first | exact HK.out _ (grown_of_below (Below.drew (Below.refl _ _)) _ : Rd g W0 W0.drew) | exact HK.out _ HR2.out | exact HK.out _ HR3.out | exact HK.out _ HR4.out | exact HK.out _ HR5.out | exact HK.out _ HR6.out | exact HK.out _ (HRN.out.trans (grown_of_below ((Below.refl _ _).alloc (Nat.le_refl _) _) _)) | exact HK.out _ ((HRN.out.trans (grown_of_below ((Below.refl _ _).alloc (Nat.le_refl _) _) _)).trans (grown_of_below ((Below.refl _ _).alloc (Nat.le_refl _) _) _)) | exact HKA.out _ _ HRA.out HGA.out
            clear hK K
            try simp only [Act.put, List.setIfInBounds_toArray, List.set_cons_zero, List.set_cons_succ]
            refine wpAnyD_ready (rs := [14]) (by kernel_rfl) (by simp) ?_
            refine AllReadyD.cons (o := { dst := some 67, op := Go.Op.buildSlice 95 1 #[(0, Go.Operand.tmp 66)], type := 95, pos := "law.go:74", after := #[{ on := 13, ground := Go.Ground.data }], guard := none }) rfl (fun K hK => ?_) rfl AllReadyD.nil
            go_simp
            refine hK.out _ _ ?_ (fun hHeld => ?_)
            · (try dsimp only); first | exact HK.out _ (grown_of_below (Below.drew (Below.refl _ _)) _ : Rd g W0 W0.drew) | exact HK.out _ HR2.out | exact HK.out _ HR3.out | exact HK.out _ HR4.out | exact HK.out _ HR5.out | exact HK.out _ HR6.out | exact HK.out _ (HRN.out.trans (grown_of_below ((Below.refl _ _).alloc (Nat.le_refl _) _) _)) | exact HK.out _ ((HRN.out.trans (grown_of_below ((Below.refl _ _).alloc (Nat.le_refl _) _) _)).trans (grown_of_below ((Below.refl _ _).alloc (Nat.le_refl _) _) _)) | exact HKA.out _ _ HRA.out HGA.out
            clear hK K
            try simp only [Act.put, List.setIfInBounds_toArray, List.set_cons_zero, List.set_cons_succ]
            refine wpAnyD_ready (rs := [15]) (by kernel_rfl) (by simp) ?_
            refine AllReadyD.cons (o := { dst := some 68, op := Go.Op.call { callee := Go.Callee.builtin Go.Builtin.append, args := #[Go.Operand.tmp 56, Go.Operand.tmp 67], argTypes := #[95, 95] }, type := 95, pos := "law.go:74", after := #[{ on := 3, ground := Go.Ground.data }, { on := 14, ground := Go.Ground.data }, { on := 13, ground := Go.Ground.chain }], guard := none }) rfl (fun K hK => ?_) rfl AllReadyD.nil
            have HRA := hid (HR4.out.trans (grown_of_below ((Below.refl _ _).alloc (Nat.le_refl _) (.cells #[.string s4] 9)) _)); have HCA := hid ((HC3.out.below hb4).below ((Below.refl _ _).alloc (Nat.le_refl _) (.cells #[.string s4] 9))); refine step_append_lies _ rfl (.tmp 56) (.tmp 67) 95 (by rfl) w1.heap.size 9 i0 (.string ⟨#[]⟩) 1 16 Tryd.underlying95 hi0 hz0 hz1 hz2 rfl (by decide) v (m) vs (by rfl) (HOW.out _ HRA.out) ⟨_, 0, none⟩ 1 1 [.string s4] (by rfl) rfl (by intro j u hj; rcases j with _ | _ | _ | j <;> simp at hj <;> subst hj <;> go_simp) (by intro u hu; simp at hu; (first | (subst hu; rfl) | (rcases hu with rfl | rfl <;> rfl))) (by decide) (by unfold maxLen; omega) (by omega) (HSZ.out _ HRA.out) _ rfl ?_; intro ga capa wa howna hgrowa hata hlta; have HGA := hid hgrowa; have hfa := HFZ.out _ _ HRA.out hgrowa; have hca := (HKA.out _ _ HRA.out hgrowa).2.1
            refine hK.out _ _ ?_ (fun hHeld => ?_)
            · (try dsimp only); first | exact HK.out _ (grown_of_below (Below.drew (Below.refl _ _)) _ : Rd g W0 W0.drew) | exact HK.out _ HR2.out | exact HK.out _ HR3.out | exact HK.out _ HR4.out | exact HK.out _ HR5.out | exact HK.out _ HR6.out | exact HK.out _ (HRN.out.trans (grown_of_below ((Below.refl _ _).alloc (Nat.le_refl _) _) _)) | exact HK.out _ ((HRN.out.trans (grown_of_below ((Below.refl _ _).alloc (Nat.le_refl _) _) _)).trans (grown_of_below ((Below.refl _ _).alloc (Nat.le_refl _) _) _)) | exact HKA.out _ _ HRA.out HGA.out
            clear hK K
            try simp only [Act.put, List.setIfInBounds_toArray, List.set_cons_zero, List.set_cons_succ]
            refine wpAnyD_take (i := 16) (oi := { dst := some 69, op := Go.Op.nilCheck (Go.Operand.tmp 53), type := 0, pos := "law.go:74", after := #[{ on := 0, ground := Go.Ground.data }, { on := 0, ground := Go.Ground.phase }, { on := 1, ground := Go.Ground.phase }, { on := 2, ground := Go.Ground.phase }, { on := 3, ground := Go.Ground.phase }, { on := 4, ground := Go.Ground.phase }, { on := 5, ground := Go.Ground.phase }, { on := 6, ground := Go.Ground.phase }, { on := 7, ground := Go.Ground.phase }, { on := 8, ground := Go.Ground.phase }, { on := 9, ground := Go.Ground.phase }, { on := 10, ground := Go.Ground.phase }, { on := 11, ground := Go.Ground.phase }, { on := 12, ground := Go.Ground.phase }, { on := 13, ground := Go.Ground.phase }, { on := 14, ground := Go.Ground.phase }, { on := 15, ground := Go.Ground.phase }], guard := none }) (v := ?_) rfl (by kernel_rfl) (by kernel_rfl) (by kernel_rfl) (fun _ _ _ h => h) (Or.inl ⟨by rfl, ?hyo213⟩) (by assumption) (by kernel_rfl) ?resto213
            case hyo213 => (intro w hSw; (try dsimp only at hSw); go_simp; first | (with_reducible rfl) | (rw [if_neg (by omega)]) | skip)
            simp only [Act.put, List.setIfInBounds_toArray, List.set_cons_zero, List.set_cons_succ]
            refine wpAnyD_ready (rs := [17]) (by kernel_rfl) (by simp) ?_
            refine AllReadyD.last (o := { dst := none, op := Go.Op.store 95 (Go.Operand.tmp 69) (Go.Operand.tmp 68), type := 0, pos := "law.go:74", after := #[{ on := 16, ground := Go.Ground.data }, { on := 15, ground := Go.Ground.data }, { on := 15, ground := Go.Ground.chain }, { on := 0, ground := Go.Ground.phase }, { on := 1, ground := Go.Ground.phase }, { on := 2, ground := Go.Ground.phase }, { on := 3, ground := Go.Ground.phase }, { on := 4, ground := Go.Ground.phase }, { on := 5, ground := Go.Ground.phase }, { on := 6, ground := Go.Ground.phase }, { on := 7, ground := Go.Ground.phase }, { on := 8, ground := Go.Ground.phase }, { on := 9, ground := Go.Ground.phase }, { on := 10, ground := Go.Ground.phase }, { on := 11, ground := Go.Ground.phase }, { on := 12, ground := Go.Ground.phase }, { on := 13, ground := Go.Ground.phase }, { on := 14, ground := Go.Ground.phase }, { on := 15, ground := Go.Ground.phase }], guard := none }) rfl (by kernel_rfl) (fun K hK => ?_)
            go_simp
            refine hK.out _ _ ?_
            clear hK K
            try simp only [Act.put, List.setIfInBounds_toArray, List.set_cons_zero, List.set_cons_succ]
            refine NoPanic.normal ?_
            go_wp2_with fail
            go_meet
            exact ⟨_, by omega, hst, hid (HW0.out.out hv HRA.out HCA.out hlm howna hgrowa hata hlta).1, hid (HW0.out.out hv HRA.out HCA.out hlm howna hgrowa hata hlta).2⟩
          · have HP := hid (HUy.out.trans (ask_err (y := askV y) (by show y.f0 % 6 ≠ 5; have := HD.out; omega) hst.out))
            go_upto_region 11 with (fail)
            refine wp_region_held_drew (S := (fun W => W.cell? ⟨w.heap.size + 1 + 1, 0, none⟩ = some (.pointer (some ⟨og, 0, none⟩)) ∧ W.cell? ⟨og, 0, none⟩ = some v ∧ W.cell? ⟨w.heap.size, 0, none⟩ = some (.pointer (some ⟨g, 0, none⟩)) ∧ W.cell? ⟨wr.heap.size, 1, none⟩ = some (.int .i64 y.f1) ∧ W.cell? ⟨wr.heap.size, 11, none⟩ = some (.int .i64 y.f4.f5.f0) ∧ W.cell? ⟨wr.heap.size, 12, none⟩ = some (.int .i64 y.f4.f5.f1))) (by kernel_rfl) ?hSe21 (fun hHeld => ?goe21)
            case hSe21 => first | exact HK.out _ (grown_of_below (Below.drew (Below.refl _ _)) _ : Rd g W0 W0.drew) | exact HK.out _ HR2.out | exact HK.out _ HR3.out | exact HK.out _ HR4.out | exact HK.out _ HR5.out | exact HK.out _ HR6.out | exact HK.out _ (HRN.out.trans (grown_of_below ((Below.refl _ _).alloc (Nat.le_refl _) _) _)) | exact HK.out _ ((HRN.out.trans (grown_of_below ((Below.refl _ _).alloc (Nat.le_refl _) _) _)).trans (grown_of_below ((Below.refl _ _).alloc (Nat.le_refl _) _) _)) | exact HKA.out _ _ HRA.out HGA.out
            refine wpAnyH_take (i := 0) (oi := { dst := some 53, op := Go.Op.load 97 (Go.Operand.tmp 5), type := 97, pos := "law.go:74", after := #[], guard := none }) (v := ?_) rfl (by kernel_rfl) (by kernel_rfl) (by kernel_rfl) (fun _ _ _ h => h) (Or.inl ⟨by rfl, ?hye22⟩) (by assumption) ?reste22
            case hye22 => (intro w hSw; (try dsimp only at hSw); go_simp; first | (with_reducible rfl) | (rw [if_neg (by omega)]) | skip)
            simp only [Act.put, List.setIfInBounds_toArray, List.set_cons_zero, List.set_cons_succ]
            refine wpAnyH_take (i := 1) (oi := { dst := some 54, op := Go.Op.load 97 (Go.Operand.tmp 5), type := 97, pos := "law.go:74", after := #[], guard := none }) (v := ?_) rfl (by kernel_rfl) (by kernel_rfl) (by kernel_rfl) (fun _ _ _ h => h) (Or.inl ⟨by rfl, ?hye23⟩) (by assumption) ?reste23
            case hye23 => (intro w hSw; (try dsimp only at hSw); go_simp; first | (with_reducible rfl) | (rw [if_neg (by omega)]) | skip)
            simp only [Act.put, List.setIfInBounds_toArray, List.set_cons_zero, List.set_cons_succ]
            refine wpAnyH_take (i := 2) (oi := { dst := some 55, op := Go.Op.nilCheck (Go.Operand.tmp 54), type := 0, pos := "law.go:74", after := #[{ on := 1, ground := Go.Ground.data }], guard := none }) (v := ?_) rfl (by kernel_rfl) (by kernel_rfl) (by kernel_rfl) (fun _ _ _ h => h) (Or.inl ⟨by rfl, ?hye24⟩) (by assumption) ?reste24
            case hye24 => (intro w hSw; (try dsimp only at hSw); go_simp; first | (with_reducible rfl) | (rw [if_neg (by omega)]) | skip)
            simp only [Act.put, List.setIfInBounds_toArray, List.set_cons_zero, List.set_cons_succ]
            refine wpAnyH_take (i := 3) (oi := { dst := some 56, op := Go.Op.load 95 (Go.Operand.tmp 55), type := 95, pos := "law.go:74", after := #[{ on := 2, ground := Go.Ground.data }], guard := none }) (v := ?_) rfl (by kernel_rfl) (by kernel_rfl) (by kernel_rfl) (fun _ _ _ h => h) (Or.inl ⟨by rfl, ?hye25⟩) (by assumption) ?reste25
            case hye25 => (intro w hSw; (try dsimp only at hSw); go_simp; first | (with_reducible rfl) | (rw [if_neg (by omega)]) | skip)
            simp only [Act.put, List.setIfInBounds_toArray, List.set_cons_zero, List.set_cons_succ]
            refine wpAnyH_take (i := 4) (oi := { dst := some 57, op := Go.Op.load 81 (Go.Operand.tmp 3), type := 81, pos := "law.go:74", after := #[], guard := none }) (v := ?_) rfl (by kernel_rfl) (by kernel_rfl) (by kernel_rfl) (fun _ _ _ h => h) (Or.inl ⟨by rfl, ?hye26⟩) (by assumption) ?reste26
            case hye26 => (intro w hSw; (try dsimp only at hSw); go_simp; first | (with_reducible rfl) | (rw [if_neg (by omega)]) | skip)
            simp only [Act.put, List.setIfInBounds_toArray, List.set_cons_zero, List.set_cons_succ]
            refine wpAnyH_take (i := 5) (oi := { dst := some 58, op := Go.Op.fieldAddr 154 (Go.Operand.tmp 7) 1, type := 0, pos := "law.go:74", after := #[], guard := none }) (v := ?_) rfl (by kernel_rfl) (by kernel_rfl) (by kernel_rfl) (fun _ _ _ h => h) (Or.inl ⟨by rfl, ?hye27⟩) (by assumption) ?reste27
            case hye27 => (intro w hSw; (try dsimp only at hSw); go_simp; first | (with_reducible rfl) | (rw [if_neg (by omega)]) | skip)
            simp only [Act.put, List.setIfInBounds_toArray, List.set_cons_zero, List.set_cons_succ]
            refine wpAnyH_take (i := 6) (oi := { dst := some 59, op := Go.Op.load 3 (Go.Operand.tmp 58), type := 3, pos := "law.go:74", after := #[{ on := 5, ground := Go.Ground.data }], guard := none }) (v := ?_) rfl (by kernel_rfl) (by kernel_rfl) (by kernel_rfl) (fun _ _ _ h => h) (Or.inl ⟨by rfl, ?hye28⟩) (by assumption) ?reste28
            case hye28 => (intro w hSw; (try dsimp only at hSw); go_simp; first | (with_reducible rfl) | (rw [if_neg (by omega)]) | skip)
            simp only [Act.put, List.setIfInBounds_toArray, List.set_cons_zero, List.set_cons_succ]
            refine wpAnyH_take (i := 7) (oi := { dst := some 60, op := Go.Op.fieldAddr 154 (Go.Operand.tmp 7) 4, type := 0, pos := "law.go:74", after := #[], guard := none }) (v := ?_) rfl (by kernel_rfl) (by kernel_rfl) (by kernel_rfl) (fun _ _ _ h => h) (Or.inl ⟨by rfl, ?hye29⟩) (by assumption) ?reste29
            case hye29 => (intro w hSw; (try dsimp only at hSw); go_simp; first | (with_reducible rfl) | (rw [if_neg (by omega)]) | skip)
            simp only [Act.put, List.setIfInBounds_toArray, List.set_cons_zero, List.set_cons_succ]
            refine wpAnyH_take (i := 8) (oi := { dst := some 61, op := Go.Op.fieldAddr 152 (Go.Operand.tmp 60) 5, type := 0, pos := "law.go:74", after := #[{ on := 7, ground := Go.Ground.data }], guard := none }) (v := ?_) rfl (by kernel_rfl) (by kernel_rfl) (by kernel_rfl) (fun _ _ _ h => h) (Or.inl ⟨by rfl, ?hye210⟩) (by assumption) ?reste210
            case hye210 => (intro w hSw; (try dsimp only at hSw); go_simp; first | (with_reducible rfl) | (rw [if_neg (by omega)]) | skip)
            simp only [Act.put, List.setIfInBounds_toArray, List.set_cons_zero, List.set_cons_succ]
            refine wpAnyH_take (i := 9) (oi := { dst := some 62, op := Go.Op.load 149 (Go.Operand.tmp 61), type := 149, pos := "law.go:74", after := #[{ on := 8, ground := Go.Ground.data }], guard := none }) (v := ?_) rfl (by kernel_rfl) (by kernel_rfl) (by kernel_rfl) (fun _ _ _ h => h) (Or.inl ⟨by rfl, ?hye211⟩) (by assumption) ?reste211
            case hye211 => (intro w hSw; (try dsimp only at hSw); go_simp; first | (with_reducible rfl) | (rw [if_neg (by omega)]) | skip)
            simp only [Act.put, List.setIfInBounds_toArray, List.set_cons_zero, List.set_cons_succ]
            refine wpAnyH_ready (rs := [10]) (by kernel_rfl) (by simp) ?_
            refine AllReadyH.cons (o := { dst := some 63, op := Go.Op.call { callee := Go.Callee.value (Go.Operand.func 110), args := #[Go.Operand.tmp 62], argTypes := #[149] }, type := 85, pos := "law.go:74", after := #[{ on := 9, ground := Go.Ground.data }], guard := none }) rfl (fun K hK => ?_) AllReadyH.nil
            go_simp
            go_at_call 110; (with_reducible refine (own02_any y.f4.f5.f0 y.f4.f5.f1 _).mono ?_); rintro e w2 ⟨rfl, hb2⟩; have HR2 := hid (Rd.trans (grown_of_below (Below.drew (Below.refl _ _)) _ : Rd g W0 W0.drew) (grown_of_below hb2 _)); have HCB := hid ((HW0.out.cb.below (Below.drew (Below.refl _ _))).below hb2)
            refine hK.out _ _ ?_ (fun hHeld => ?_)
            · (try dsimp only); first | exact HK.out _ (grown_of_below (Below.drew (Below.refl _ _)) _ : Rd g W0 W0.drew) | exact HK.out _ HR2.out | exact HK.out _ HR3.out | exact HK.out _ HR4.out | exact HK.out _ HR5.out | exact HK.out _ HR6.out | exact HK.out _ (HRN.out.trans (grown_of_below ((Below.refl _ _).alloc (Nat.le_refl _) _) _)) | exact HK.out _ ((HRN.out.trans (grown_of_below ((Below.refl _ _).alloc (Nat.le_refl _) _) _)).trans (grown_of_below ((Below.refl _ _).alloc (Nat.le_refl _) _) _)) | exact HKA.out _ _ HRA.out HGA.out
            clear hK K
            try simp only [Act.put, List.setIfInBounds_toArray, List.set_cons_zero, List.set_cons_succ]
            refine wpAnyH_ready (rs := [11]) (by kernel_rfl) (by simp) ?_
            refine AllReadyH.cons (o := { dst := some 64, op := Go.Op.call { callee := Go.Callee.value (Go.Operand.func 109), args := #[Go.Operand.tmp 57, Go.Operand.tmp 59, Go.Operand.tmp 63], argTypes := #[81, 3, 85] }, type := 2, pos := "law.go:74", after := #[{ on := 4, ground := Go.Ground.data }, { on := 6, ground := Go.Ground.data }, { on := 10, ground := Go.Ground.data }, { on := 10, ground := Go.Ground.chain }], guard := none }) rfl (fun K hK => ?_) AllReadyH.nil
            go_simp
            go_at_call 109; (with_reducible refine (HSI.out _ HCB.out).mono ?_); rintro e w3 ⟨rfl, HG3⟩; refine ⟨rfl, ?_⟩; show PostA w1 g og _ A c l lim w (askM (xs.map askV) lim p l) _ _; rw [HP.out]; exact ⟨rfl, HO0.out.trans (HW0.out.fo (HR2.out.trans HG3))⟩
        by_cases h3 : d = 3
        ·
          have HK := hid (fun W (h : Rd g W0 W) => show W.cell? ⟨w.heap.size + 1 + 1, 0, none⟩ = some (.pointer (some ⟨og, 0, none⟩)) ∧ W.cell? ⟨og, 0, none⟩ = some v ∧ W.cell? ⟨w.heap.size, 0, none⟩ = some (.pointer (some ⟨g, 0, none⟩)) ∧ W.cell? ⟨wr.heap.size, 1, none⟩ = some (.int .i64 y.f1) from ⟨h.cell (by omega) b5, h.cell HW0.out.go hv, h.cell (by omega) b3, h.cell (by omega) x1⟩)
          have HKA := hid (fun W wa (h : Rd g W0 W) (h2 : W.grownBy wa v.ownBlock) => show wa.cell? ⟨w.heap.size + 1 + 1, 0, none⟩ = some (.pointer (some ⟨og, 0, none⟩)) ∧ wa.cell? ⟨og, 0, none⟩ = some v ∧ wa.cell? ⟨w.heap.size, 0, none⟩ = some (.pointer (some ⟨g, 0, none⟩)) ∧ wa.cell? ⟨wr.heap.size, 1, none⟩ = some (.int .i64 y.f1) from ⟨cellG h2 n5 (h.cell (by omega) b5), cellG h2 no (h.cell HW0.out.go hv), cellG h2 n3 (h.cell (by omega) b3), cellG h2 nx (h.cell (by omega) x1)⟩)
          have HRW := hid (fun W (hC : CB g A c l q lim W) => raw_walk g A c l q lim y.f1 W hC hcap HFy.out.n.1 HFy.out.n.2)
          rcases rawU_ok (n := y.f1) (lim := lim) (p := q) (l := l) with ⟨b, p', eb, eu⟩ | ⟨s, eb, eu⟩ <;> rw [eb] at HRW <;> have hst := hid ((stepM_3 (lim := lim) (q := q) (l := l) (HD.out.symm.trans h3)).trans eu) <;> clear eb eu
          · have hlm := step_lm HW0.out.cb.p0 HW0.out.cb.p1 HW0.out.lm hst.out
            have hst := hid hst
            go_upto_region 13 with (fail)
            refine wp_region_noPanic ?_
            refine wp_region_heldD 11 (S := (fun W => W.cell? ⟨w.heap.size + 1 + 1, 0, none⟩ = some (.pointer (some ⟨og, 0, none⟩)) ∧ W.cell? ⟨og, 0, none⟩ = some v ∧ W.cell? ⟨w.heap.size, 0, none⟩ = some (.pointer (some ⟨g, 0, none⟩)) ∧ W.cell? ⟨wr.heap.size, 1, none⟩ = some (.int .i64 y.f1))) (by kernel_rfl) ?hSo31 (fun hHeld => ?goo31)
            case hSo31 => first | exact HK.out _ (grown_of_below (Below.drew (Below.refl _ _)) _ : Rd g W0 W0.drew) | exact HK.out _ HR2.out | exact HK.out _ HR3.out | exact HK.out _ HR4.out | exact HK.out _ HR5.out | exact HK.out _ HR6.out | exact HK.out _ (HRN.out.trans (grown_of_below ((Below.refl _ _).alloc (Nat.le_refl _) _) _)) | exact HK.out _ ((HRN.out.trans (grown_of_below ((Below.refl _ _).alloc (Nat.le_refl _) _) _)).trans (grown_of_below ((Below.refl _ _).alloc (Nat.le_refl _) _) _)) | exact HKA.out _ _ HRA.out HGA.out
            refine wpAnyD_take (i := 0) (oi := { dst := some 72, op := Go.Op.load 97 (Go.Operand.tmp 5), type := 97, pos := "law.go:76", after := #[], guard := none }) (v := ?_) rfl (by kernel_rfl) (by kernel_rfl) (by kernel_rfl) (fun _ _ _ h => h) (Or.inl ⟨by rfl, ?hyo32⟩) (by assumption) (by kernel_rfl) ?resto32
            case hyo32 => (intro w hSw; (try dsimp only at hSw); go_simp; first | (with_reducible rfl) | (rw [if_neg (by omega)]) | skip)
            simp only [Act.put, List.setIfInBounds_toArray, List.set_cons_zero, List.set_cons_succ]
            refine wpAnyD_take (i := 1) (oi := { dst := some 73, op := Go.Op.load 97 (Go.Operand.tmp 5), type := 97, pos := "law.go:76", after := #[], guard := none }) (v := ?_) rfl (by kernel_rfl) (by kernel_rfl) (by kernel_rfl) (fun _ _ _ h => h) (Or.inl ⟨by rfl, ?hyo33⟩) (by assumption) (by kernel_rfl) ?resto33
            case hyo33 => (intro w hSw; (try dsimp only at hSw); go_simp; first | (with_reducible rfl) | (rw [if_neg (by omega)]) | skip)
            simp only [Act.put, List.setIfInBounds_toArray, List.set_cons_zero, List.set_cons_succ]
            refine wpAnyD_take (i := 2) (oi := { dst := some 74, op := Go.Op.nilCheck (Go.Operand.tmp 73), type := 0, pos := "law.go:76", after := #[{ on := 1, ground := Go.Ground.data }], guard := none }) (v := ?_) rfl (by kernel_rfl) (by kernel_rfl) (by kernel_rfl) (fun _ _ _ h => h) (Or.inl ⟨by rfl, ?hyo34⟩) (by assumption) (by kernel_rfl) ?resto34
            case hyo34 => (intro w hSw; (try dsimp only at hSw); go_simp; first | (with_reducible rfl) | (rw [if_neg (by omega)]) | skip)
            simp only [Act.put, List.setIfInBounds_toArray, List.set_cons_zero, List.set_cons_succ]
            refine wpAnyD_take (i := 3) (oi := { dst := some 75, op := Go.Op.load 95 (Go.Operand.tmp 74), type := 95, pos := "law.go:76", after := #[{ on := 2, ground := Go.Ground.data }], guard := none }) (v := ?_) rfl (by kernel_rfl) (by kernel_rfl) (by kernel_rfl) (fun _ _ _ h => h) (Or.inl ⟨by rfl, ?hyo35⟩) (by assumption) (by kernel_rfl) ?resto35
            case hyo35 => (intro w hSw; (try dsimp only at hSw); go_simp; first | (with_reducible rfl) | (rw [if_neg (by omega)]) | skip)
            simp only [Act.put, List.setIfInBounds_toArray, List.set_cons_zero, List.set_cons_succ]
            refine wpAnyD_take (i := 4) (oi := { dst := some 76, op := Go.Op.load 81 (Go.Operand.tmp 3), type := 81, pos := "law.go:76", after := #[], guard := none }) (v := ?_) rfl (by kernel_rfl) (by kernel_rfl) (by kernel_rfl) (fun _ _ _ h => h) (Or.inl ⟨by rfl, ?hyo36⟩) (by assumption) (by kernel_rfl) ?resto36
            case hyo36 => (intro w hSw; (try dsimp only at hSw); go_simp; first | (with_reducible rfl) | (rw [if_neg (by omega)]) | skip)
            simp only [Act.put, List.setIfInBounds_toArray, List.set_cons_zero, List.set_cons_succ]
            refine wpAnyD_take (i := 5) (oi := { dst := some 77, op := Go.Op.fieldAddr 154 (Go.Operand.tmp 7) 1, type := 0, pos := "law.go:76", after := #[], guard := none }) (v := ?_) rfl (by kernel_rfl) (by kernel_rfl) (by kernel_rfl) (fun _ _ _ h => h) (Or.inl ⟨by rfl, ?hyo37⟩) (by assumption) (by kernel_rfl) ?resto37
            case hyo37 => (intro w hSw; (try dsimp only at hSw); go_simp; first | (with_reducible rfl) | (rw [if_neg (by omega)]) | skip)
            simp only [Act.put, List.setIfInBounds_toArray, List.set_cons_zero, List.set_cons_succ]
            refine wpAnyD_take (i := 6) (oi := { dst := some 78, op := Go.Op.load 3 (Go.Operand.tmp 77), type := 3, pos := "law.go:76", after := #[{ on := 5, ground := Go.Ground.data }], guard := none }) (v := ?_) rfl (by kernel_rfl) (by kernel_rfl) (by kernel_rfl) (fun _ _ _ h => h) (Or.inl ⟨by rfl, ?hyo38⟩) (by assumption) (by kernel_rfl) ?resto38
            case hyo38 => (intro w hSw; (try dsimp only at hSw); go_simp; first | (with_reducible rfl) | (rw [if_neg (by omega)]) | skip)
            simp only [Act.put, List.setIfInBounds_toArray, List.set_cons_zero, List.set_cons_succ]
            refine wpAnyD_ready (rs := [7]) (by kernel_rfl) (by simp) ?_
            refine AllReadyD.cons (o := { dst := some 79, op := Go.Op.call { callee := Go.Callee.value (Go.Operand.func 111), args := #[Go.Operand.tmp 76, Go.Operand.tmp 78], argTypes := #[81, 3] }, type := 9, pos := "law.go:76", after := #[{ on := 4, ground := Go.Ground.data }, { on := 6, ground := Go.Ground.data }], guard := none }) rfl (fun K hK => ?_) rfl AllReadyD.nil
            go_simp
            go_at_call 111; (with_reducible refine (HRW.out _ (HW0.out.cb.below (Below.drew (Below.refl _ _)))).mono ?_); rintro e w2 ⟨rfl, HC2, HG2⟩; have HC2 := hid HC2; have HR2 := hid (Rd.trans (grown_of_below (Below.drew (Below.refl _ _)) _ : Rd g W0 W0.drew) HG2); have HRN := HR2
            refine hK.out _ _ ?_ (fun hHeld => ?_)
            · (try dsimp only); first | exact HK.out _ (grown_of_below (Below.drew (Below.refl _ _)) _ : Rd g W0 W0.drew) | exact HK.out _ HR2.out | exact HK.out _ HR3.out | exact HK.out _ HR4.out | exact HK.out _ HR5.out | exact HK.out _ HR6.out | exact HK.out _ (HRN.out.trans (grown_of_below ((Below.refl _ _).alloc (Nat.le_refl _) _) _)) | exact HK.out _ ((HRN.out.trans (grown_of_below ((Below.refl _ _).alloc (Nat.le_refl _) _) _)).trans (grown_of_below ((Below.refl _ _).alloc (Nat.le_refl _) _) _)) | exact HKA.out _ _ HRA.out HGA.out
            clear hK K
            try simp only [Act.put, List.setIfInBounds_toArray, List.set_cons_zero, List.set_cons_succ]
            refine wpAnyD_ready (rs := [8]) (by kernel_rfl) (by simp) ?_
            refine AllReadyD.cons (o := { dst := some 80, op := Go.Op.buildSlice 95 1 #[(0, Go.Operand.tmp 79)], type := 95, pos := "law.go:76", after := #[{ on := 7, ground := Go.Ground.data }], guard := none }) rfl (fun K hK => ?_) rfl AllReadyD.nil
            go_simp
            refine hK.out _ _ ?_ (fun hHeld => ?_)
            · (try dsimp only); first | exact HK.out _ (grown_of_below (Below.drew (Below.refl _ _)) _ : Rd g W0 W0.drew) | exact HK.out _ HR2.out | exact HK.out _ HR3.out | exact HK.out _ HR4.out | exact HK.out _ HR5.out | exact HK.out _ HR6.out | exact HK.out _ (HRN.out.trans (grown_of_below ((Below.refl _ _).alloc (Nat.le_refl _) _) _)) | exact HK.out _ ((HRN.out.trans (grown_of_below ((Below.refl _ _).alloc (Nat.le_refl _) _) _)).trans (grown_of_below ((Below.refl _ _).alloc (Nat.le_refl _) _) _)) | exact HKA.out _ _ HRA.out HGA.out
            clear hK K
            try simp only [Act.put, List.setIfInBounds_toArray, List.set_cons_zero, List.set_cons_succ]
            refine wpAnyD_ready (rs := [9]) (by kernel_rfl) (by simp) ?_
            refine AllReadyD.cons (o := { dst := some 81, op := Go.Op.call { callee := Go.Callee.builtin Go.Builtin.append, args := #[Go.Operand.tmp 75, Go.Operand.tmp 80], argTypes := #[95, 95] }, type := 95, pos := "law.go:76", after := #[{ on := 3, ground := Go.Ground.data }, { on := 8, ground := Go.Ground.data }, { on := 7, ground := Go.Ground.chain }], guard := none }) rfl (fun K hK => ?_) rfl AllReadyD.nil
            have HRA := hid (HR2.out.trans (grown_of_below ((Below.refl _ _).alloc (Nat.le_refl _) (.cells #[.string (strOfNums b)] 9)) _)); have HCA := hid (HC2.out.below ((Below.refl _ _).alloc (Nat.le_refl _) (.cells #[.string (strOfNums b)] 9))); refine step_append_lies _ rfl (.tmp 75) (.tmp 80) 95 (by rfl) w1.heap.size 9 i0 (.string ⟨#[]⟩) 1 16 Tryd.underlying95 hi0 hz0 hz1 hz2 rfl (by decide) v (m) vs (by rfl) (HOW.out _ HRA.out) ⟨_, 0, none⟩ 1 1 [.string (strOfNums b)] (by rfl) rfl (by intro j u hj; rcases j with _ | _ | _ | j <;> simp at hj <;> subst hj <;> go_simp) (by intro u hu; simp at hu; (first | (subst hu; rfl) | (rcases hu with rfl | rfl <;> rfl))) (by decide) (by unfold maxLen; omega) (by omega) (HSZ.out _ HRA.out) _ rfl ?_; intro ga capa wa howna hgrowa hata hlta; have HGA := hid hgrowa; have hfa := HFZ.out _ _ HRA.out hgrowa; have hca := (HKA.out _ _ HRA.out hgrowa).2.1
            refine hK.out _ _ ?_ (fun hHeld => ?_)
            · (try dsimp only); first | exact HK.out _ (grown_of_below (Below.drew (Below.refl _ _)) _ : Rd g W0 W0.drew) | exact HK.out _ HR2.out | exact HK.out _ HR3.out | exact HK.out _ HR4.out | exact HK.out _ HR5.out | exact HK.out _ HR6.out | exact HK.out _ (HRN.out.trans (grown_of_below ((Below.refl _ _).alloc (Nat.le_refl _) _) _)) | exact HK.out _ ((HRN.out.trans (grown_of_below ((Below.refl _ _).alloc (Nat.le_refl _) _) _)).trans (grown_of_below ((Below.refl _ _).alloc (Nat.le_refl _) _) _)) | exact HKA.out _ _ HRA.out HGA.out
            clear hK K
            try simp only [Act.put, List.setIfInBounds_toArray, List.set_cons_zero, List.set_cons_succ]
            refine wpAnyD_take (i := 10) (oi := { dst := some 82, op := Go.Op.nilCheck (Go.Operand.tmp 72), type := 0, pos := "law.go:76", after := #[{ on := 0, ground := Go.Ground.data }, { on := 0, ground := Go.Ground.phase }, { on := 1, ground := Go.Ground.phase }, { on := 2, ground := Go.Ground.phase }, { on := 3, ground := Go.Ground.phase }, { on := 4, ground := Go.Ground.phase }, { on := 5, ground := Go.Ground.phase }, { on := 6, ground := Go.Ground.phase }, { on := 7, ground := Go.Ground.phase }, { on := 8, ground := Go.Ground.phase }, { on := 9, ground := Go.Ground.phase }], guard := none }) (v := ?_) rfl (by kernel_rfl) (by kernel_rfl) (by kernel_rfl) (fun _ _ _ h => h) (Or.inl ⟨by rfl, ?hyo39⟩) (by assumption) (by kernel_rfl) ?resto39
            case hyo39 => (intro w hSw; (try dsimp only at hSw); go_simp; first | (with_reducible rfl) | (rw [if_neg (by omega)]) | skip)
            simp only [Act.put, List.setIfInBounds_toArray, List.set_cons_zero, List.set_cons_succ]
            refine wpAnyD_ready (rs := [11]) (by kernel_rfl) (by simp) ?_
            refine AllReadyD.last (o := { dst := none, op := Go.Op.store 95 (Go.Operand.tmp 82) (Go.Operand.tmp 81), type := 0, pos := "law.go:76", after := #[{ on := 10, ground := Go.Ground.data }, { on := 9, ground := Go.Ground.data }, { on := 9, ground := Go.Ground.chain }, { on := 0, ground := Go.Ground.phase }, { on := 1, ground := Go.Ground.phase }, { on := 2, ground := Go.Ground.phase }, { on := 3, ground := Go.Ground.phase }, { on := 4, ground := Go.Ground.phase }, { on := 5, ground := Go.Ground.phase }, { on := 6, ground := Go.Ground.phase }, { on := 7, ground := Go.Ground.phase }, { on := 8, ground := Go.Ground.phase }, { on := 9, ground := Go.Ground.phase }], guard := none }) rfl (by kernel_rfl) (fun K hK => ?_)
            go_simp
            refine hK.out _ _ ?_
            clear hK K
            try simp only [Act.put, List.setIfInBounds_toArray, List.set_cons_zero, List.set_cons_succ]
            refine NoPanic.normal ?_
            go_wp2_with fail
            go_meet
            exact ⟨_, by omega, hst, hid (HW0.out.out hv HRA.out HCA.out hlm howna hgrowa hata hlta).1, hid (HW0.out.out hv HRA.out HCA.out hlm howna hgrowa hata hlta).2⟩
          · have HP := hid (HUy.out.trans (ask_err (y := askV y) (by show y.f0 % 6 ≠ 5; have := HD.out; omega) hst.out))
            go_upto_region 13 with (fail)
            refine wp_region_held_drew (S := (fun W => W.cell? ⟨w.heap.size + 1 + 1, 0, none⟩ = some (.pointer (some ⟨og, 0, none⟩)) ∧ W.cell? ⟨og, 0, none⟩ = some v ∧ W.cell? ⟨w.heap.size, 0, none⟩ = some (.pointer (some ⟨g, 0, none⟩)) ∧ W.cell? ⟨wr.heap.size, 1, none⟩ = some (.int .i64 y.f1))) (by kernel_rfl) ?hSe31 (fun hHeld => ?goe31)
            case hSe31 => first | exact HK.out _ (grown_of_below (Below.drew (Below.refl _ _)) _ : Rd g W0 W0.drew) | exact HK.out _ HR2.out | exact HK.out _ HR3.out | exact HK.out _ HR4.out | exact HK.out _ HR5.out | exact HK.out _ HR6.out | exact HK.out _ (HRN.out.trans (grown_of_below ((Below.refl _ _).alloc (Nat.le_refl _) _) _)) | exact HK.out _ ((HRN.out.trans (grown_of_below ((Below.refl _ _).alloc (Nat.le_refl _) _) _)).trans (grown_of_below ((Below.refl _ _).alloc (Nat.le_refl _) _) _)) | exact HKA.out _ _ HRA.out HGA.out
            refine wpAnyH_take (i := 0) (oi := { dst := some 72, op := Go.Op.load 97 (Go.Operand.tmp 5), type := 97, pos := "law.go:76", after := #[], guard := none }) (v := ?_) rfl (by kernel_rfl) (by kernel_rfl) (by kernel_rfl) (fun _ _ _ h => h) (Or.inl ⟨by rfl, ?hye32⟩) (by assumption) ?reste32
            case hye32 => (intro w hSw; (try dsimp only at hSw); go_simp; first | (with_reducible rfl) | (rw [if_neg (by omega)]) | skip)
            simp only [Act.put, List.setIfInBounds_toArray, List.set_cons_zero, List.set_cons_succ]
            refine wpAnyH_take (i := 1) (oi := { dst := some 73, op := Go.Op.load 97 (Go.Operand.tmp 5), type := 97, pos := "law.go:76", after := #[], guard := none }) (v := ?_) rfl (by kernel_rfl) (by kernel_rfl) (by kernel_rfl) (fun _ _ _ h => h) (Or.inl ⟨by rfl, ?hye33⟩) (by assumption) ?reste33
            case hye33 => (intro w hSw; (try dsimp only at hSw); go_simp; first | (with_reducible rfl) | (rw [if_neg (by omega)]) | skip)
            simp only [Act.put, List.setIfInBounds_toArray, List.set_cons_zero, List.set_cons_succ]
            refine wpAnyH_take (i := 2) (oi := { dst := some 74, op := Go.Op.nilCheck (Go.Operand.tmp 73), type := 0, pos := "law.go:76", after := #[{ on := 1, ground := Go.Ground.data }], guard := none }) (v := ?_) rfl (by kernel_rfl) (by kernel_rfl) (by kernel_rfl) (fun _ _ _ h => h) (Or.inl ⟨by rfl, ?hye34⟩) (by assumption) ?reste34
            case hye34 => (intro w hSw; (try dsimp only at hSw); go_simp; first | (with_reducible rfl) | (rw [if_neg (by omega)]) | skip)
            simp only [Act.put, List.setIfInBounds_toArray, List.set_cons_zero, List.set_cons_succ]
            refine wpAnyH_take (i := 3) (oi := { dst := some 75, op := Go.Op.load 95 (Go.Operand.tmp 74), type := 95, pos := "law.go:76", after := #[{ on := 2, ground := Go.Ground.data }], guard := none }) (v := ?_) rfl (by kernel_rfl) (by kernel_rfl) (by kernel_rfl) (fun _ _ _ h => h) (Or.inl ⟨by rfl, ?hye35⟩) (by assumption) ?reste35
            case hye35 => (intro w hSw; (try dsimp only at hSw); go_simp; first | (with_reducible rfl) | (rw [if_neg (by omega)]) | skip)
            simp only [Act.put, List.setIfInBounds_toArray, List.set_cons_zero, List.set_cons_succ]
            refine wpAnyH_take (i := 4) (oi := { dst := some 76, op := Go.Op.load 81 (Go.Operand.tmp 3), type := 81, pos := "law.go:76", after := #[], guard := none }) (v := ?_) rfl (by kernel_rfl) (by kernel_rfl) (by kernel_rfl) (fun _ _ _ h => h) (Or.inl ⟨by rfl, ?hye36⟩) (by assumption) ?reste36
            case hye36 => (intro w hSw; (try dsimp only at hSw); go_simp; first | (with_reducible rfl) | (rw [if_neg (by omega)]) | skip)
            simp only [Act.put, List.setIfInBounds_toArray, List.set_cons_zero, List.set_cons_succ]
            refine wpAnyH_take (i := 5) (oi := { dst := some 77, op := Go.Op.fieldAddr 154 (Go.Operand.tmp 7) 1, type := 0, pos := "law.go:76", after := #[], guard := none }) (v := ?_) rfl (by kernel_rfl) (by kernel_rfl) (by kernel_rfl) (fun _ _ _ h => h) (Or.inl ⟨by rfl, ?hye37⟩) (by assumption) ?reste37
            case hye37 => (intro w hSw; (try dsimp only at hSw); go_simp; first | (with_reducible rfl) | (rw [if_neg (by omega)]) | skip)
            simp only [Act.put, List.setIfInBounds_toArray, List.set_cons_zero, List.set_cons_succ]
            refine wpAnyH_take (i := 6) (oi := { dst := some 78, op := Go.Op.load 3 (Go.Operand.tmp 77), type := 3, pos := "law.go:76", after := #[{ on := 5, ground := Go.Ground.data }], guard := none }) (v := ?_) rfl (by kernel_rfl) (by kernel_rfl) (by kernel_rfl) (fun _ _ _ h => h) (Or.inl ⟨by rfl, ?hye38⟩) (by assumption) ?reste38
            case hye38 => (intro w hSw; (try dsimp only at hSw); go_simp; first | (with_reducible rfl) | (rw [if_neg (by omega)]) | skip)
            simp only [Act.put, List.setIfInBounds_toArray, List.set_cons_zero, List.set_cons_succ]
            refine wpAnyH_ready (rs := [7]) (by kernel_rfl) (by simp) ?_
            refine AllReadyH.cons (o := { dst := some 79, op := Go.Op.call { callee := Go.Callee.value (Go.Operand.func 111), args := #[Go.Operand.tmp 76, Go.Operand.tmp 78], argTypes := #[81, 3] }, type := 9, pos := "law.go:76", after := #[{ on := 4, ground := Go.Ground.data }, { on := 6, ground := Go.Ground.data }], guard := none }) rfl (fun K hK => ?_) AllReadyH.nil
            go_simp
            go_at_call 111; (with_reducible refine (HRW.out _ (HW0.out.cb.below (Below.drew (Below.refl _ _)))).mono ?_); rintro e w2 ⟨rfl, HG2⟩; refine ⟨rfl, ?_⟩; show PostA w1 g og _ A c l lim w (askM (xs.map askV) lim p l) _ _; rw [HP.out]; exact ⟨rfl, HO0.out.trans (HW0.out.fo (Rd.trans (grown_of_below (Below.drew (Below.refl _ _)) _ : Rd g W0 W0.drew) HG2))⟩
        by_cases h4 : d = 4
        ·
          have HK := hid (fun W (h : Rd g W0 W) => show W.cell? ⟨w.heap.size + 1 + 1, 0, none⟩ = some (.pointer (some ⟨og, 0, none⟩)) ∧ W.cell? ⟨og, 0, none⟩ = some v ∧ W.cell? ⟨w.heap.size, 0, none⟩ = some (.pointer (some ⟨g, 0, none⟩)) ∧ W.cell? ⟨wr.heap.size, 11, none⟩ = some (.int .i64 y.f4.f5.f0) ∧ W.cell? ⟨wr.heap.size, 12, none⟩ = some (.int .i64 y.f4.f5.f1) from ⟨h.cell (by omega) b5, h.cell HW0.out.go hv, h.cell (by omega) b3, h.cell (by omega) x11, h.cell (by omega) x12⟩)
          have HKA := hid (fun W wa (h : Rd g W0 W) (h2 : W.grownBy wa v.ownBlock) => show wa.cell? ⟨w.heap.size + 1 + 1, 0, none⟩ = some (.pointer (some ⟨og, 0, none⟩)) ∧ wa.cell? ⟨og, 0, none⟩ = some v ∧ wa.cell? ⟨w.heap.size, 0, none⟩ = some (.pointer (some ⟨g, 0, none⟩)) ∧ wa.cell? ⟨wr.heap.size, 11, none⟩ = some (.int .i64 y.f4.f5.f0) ∧ wa.cell? ⟨wr.heap.size, 12, none⟩ = some (.int .i64 y.f4.f5.f1) from ⟨cellG h2 n5 (h.cell (by omega) b5), cellG h2 no (h.cell HW0.out.go hv), cellG h2 n3 (h.cell (by omega) b3), cellG h2 nx (h.cell (by omega) x11), cellG h2 nx (h.cell (by omega) x12)⟩)
          have HNM := hid (fun W (hC : CB g A c l q lim W) (hR : Rd g W0 W) => have hr := right_iff HFy.out.b; name_walk g A c l q lim W y.f4.f5.f0 y.f4.f5.f1 hC hcap (hG.of (below_rd HW0.out.hb HW0.out.g0 hR)) (by have := HW0.out.g0; have := hG.size; omega) hr.1 (by omega) (by omega) HFy.out.bm)
          rcases nameU_ok (a := y.f4.f5.f0) (b := y.f4.f5.f1) (lim := lim) (p := q) (l := l) with ⟨b, p', eb, eu⟩ | ⟨s, eb, eu⟩ <;> rw [eb] at HNM <;> have hst := hid ((stepM_4 (lim := lim) (q := q) (l := l) (HD.out.symm.trans h4)).trans eu) <;> clear eb eu
          · have hlm := step_lm HW0.out.cb.p0 HW0.out.cb.p1 HW0.out.lm hst.out
            have hst := hid hst
            go_upto_region 15 with (fail)
            refine wp_region_noPanic ?_
            refine wp_region_heldD 13 (S := (fun W => W.cell? ⟨w.heap.size + 1 + 1, 0, none⟩ = some (.pointer (some ⟨og, 0, none⟩)) ∧ W.cell? ⟨og, 0, none⟩ = some v ∧ W.cell? ⟨w.heap.size, 0, none⟩ = some (.pointer (some ⟨g, 0, none⟩)) ∧ W.cell? ⟨wr.heap.size, 11, none⟩ = some (.int .i64 y.f4.f5.f0) ∧ W.cell? ⟨wr.heap.size, 12, none⟩ = some (.int .i64 y.f4.f5.f1))) (by kernel_rfl) ?hSo41 (fun hHeld => ?goo41)
            case hSo41 => first | exact HK.out _ (grown_of_below (Below.drew (Below.refl _ _)) _ : Rd g W0 W0.drew) | exact HK.out _ HR2.out | exact HK.out _ HR3.out | exact HK.out _ HR4.out | exact HK.out _ HR5.out | exact HK.out _ HR6.out | exact HK.out _ (HRN.out.trans (grown_of_below ((Below.refl _ _).alloc (Nat.le_refl _) _) _)) | exact HK.out _ ((HRN.out.trans (grown_of_below ((Below.refl _ _).alloc (Nat.le_refl _) _) _)).trans (grown_of_below ((Below.refl _ _).alloc (Nat.le_refl _) _) _)) | exact HKA.out _ _ HRA.out HGA.out
            refine wpAnyD_take (i := 0) (oi := { dst := some 85, op := Go.Op.load 97 (Go.Operand.tmp 5), type := 97, pos := "law.go:78", after := #[], guard := none }) (v := ?_) rfl (by kernel_rfl) (by kernel_rfl) (by kernel_rfl) (fun _ _ _ h => h) (Or.inl ⟨by rfl, ?hyo42⟩) (by assumption) (by kernel_rfl) ?resto42
            case hyo42 => (intro w hSw; (try dsimp only at hSw); go_simp; first | (with_reducible rfl) | (rw [if_neg (by omega)]) | skip)
            simp only [Act.put, List.setIfInBounds_toArray, List.set_cons_zero, List.set_cons_succ]
            refine wpAnyD_take (i := 1) (oi := { dst := some 86, op := Go.Op.load 97 (Go.Operand.tmp 5), type := 97, pos := "law.go:78", after := #[], guard := none }) (v := ?_) rfl (by kernel_rfl) (by kernel_rfl) (by kernel_rfl) (fun _ _ _ h => h) (Or.inl ⟨by rfl, ?hyo43⟩) (by assumption) (by kernel_rfl) ?resto43
            case hyo43 => (intro w hSw; (try dsimp only at hSw); go_simp; first | (with_reducible rfl) | (rw [if_neg (by omega)]) | skip)
            simp only [Act.put, List.setIfInBounds_toArray, List.set_cons_zero, List.set_cons_succ]
            refine wpAnyD_take (i := 2) (oi := { dst := some 87, op := Go.Op.nilCheck (Go.Operand.tmp 86), type := 0, pos := "law.go:78", after := #[{ on := 1, ground := Go.Ground.data }], guard := none }) (v := ?_) rfl (by kernel_rfl) (by kernel_rfl) (by kernel_rfl) (fun _ _ _ h => h) (Or.inl ⟨by rfl, ?hyo44⟩) (by assumption) (by kernel_rfl) ?resto44
            case hyo44 => (intro w hSw; (try dsimp only at hSw); go_simp; first | (with_reducible rfl) | (rw [if_neg (by omega)]) | skip)
            simp only [Act.put, List.setIfInBounds_toArray, List.set_cons_zero, List.set_cons_succ]
            refine wpAnyD_take (i := 3) (oi := { dst := some 88, op := Go.Op.load 95 (Go.Operand.tmp 87), type := 95, pos := "law.go:78", after := #[{ on := 2, ground := Go.Ground.data }], guard := none }) (v := ?_) rfl (by kernel_rfl) (by kernel_rfl) (by kernel_rfl) (fun _ _ _ h => h) (Or.inl ⟨by rfl, ?hyo45⟩) (by assumption) (by kernel_rfl) ?resto45
            case hyo45 => (intro w hSw; (try dsimp only at hSw); go_simp; first | (with_reducible rfl) | (rw [if_neg (by omega)]) | skip)
            simp only [Act.put, List.setIfInBounds_toArray, List.set_cons_zero, List.set_cons_succ]
            refine wpAnyD_take (i := 4) (oi := { dst := some 89, op := Go.Op.load 81 (Go.Operand.tmp 3), type := 81, pos := "law.go:78", after := #[], guard := none }) (v := ?_) rfl (by kernel_rfl) (by kernel_rfl) (by kernel_rfl) (fun _ _ _ h => h) (Or.inl ⟨by rfl, ?hyo46⟩) (by assumption) (by kernel_rfl) ?resto46
            case hyo46 => (intro w hSw; (try dsimp only at hSw); go_simp; first | (with_reducible rfl) | (rw [if_neg (by omega)]) | skip)
            simp only [Act.put, List.setIfInBounds_toArray, List.set_cons_zero, List.set_cons_succ]
            refine wpAnyD_take (i := 5) (oi := { dst := some 90, op := Go.Op.fieldAddr 154 (Go.Operand.tmp 7) 4, type := 0, pos := "law.go:78", after := #[], guard := none }) (v := ?_) rfl (by kernel_rfl) (by kernel_rfl) (by kernel_rfl) (fun _ _ _ h => h) (Or.inl ⟨by rfl, ?hyo47⟩) (by assumption) (by kernel_rfl) ?resto47
            case hyo47 => (intro w hSw; (try dsimp only at hSw); go_simp; first | (with_reducible rfl) | (rw [if_neg (by omega)]) | skip)
            simp only [Act.put, List.setIfInBounds_toArray, List.set_cons_zero, List.set_cons_succ]
            refine wpAnyD_take (i := 6) (oi := { dst := some 91, op := Go.Op.fieldAddr 152 (Go.Operand.tmp 90) 5, type := 0, pos := "law.go:78", after := #[{ on := 5, ground := Go.Ground.data }], guard := none }) (v := ?_) rfl (by kernel_rfl) (by kernel_rfl) (by kernel_rfl) (fun _ _ _ h => h) (Or.inl ⟨by rfl, ?hyo48⟩) (by assumption) (by kernel_rfl) ?resto48
            case hyo48 => (intro w hSw; (try dsimp only at hSw); go_simp; first | (with_reducible rfl) | (rw [if_neg (by omega)]) | skip)
            simp only [Act.put, List.setIfInBounds_toArray, List.set_cons_zero, List.set_cons_succ]
            refine wpAnyD_take (i := 7) (oi := { dst := some 92, op := Go.Op.load 149 (Go.Operand.tmp 91), type := 149, pos := "law.go:78", after := #[{ on := 6, ground := Go.Ground.data }], guard := none }) (v := ?_) rfl (by kernel_rfl) (by kernel_rfl) (by kernel_rfl) (fun _ _ _ h => h) (Or.inl ⟨by rfl, ?hyo49⟩) (by assumption) (by kernel_rfl) ?resto49
            case hyo49 => (intro w hSw; (try dsimp only at hSw); go_simp; first | (with_reducible rfl) | (rw [if_neg (by omega)]) | skip)
            simp only [Act.put, List.setIfInBounds_toArray, List.set_cons_zero, List.set_cons_succ]
            refine wpAnyD_ready (rs := [8]) (by kernel_rfl) (by simp) ?_
            refine AllReadyD.cons (o := { dst := some 93, op := Go.Op.call { callee := Go.Callee.value (Go.Operand.func 110), args := #[Go.Operand.tmp 92], argTypes := #[149] }, type := 85, pos := "law.go:78", after := #[{ on := 7, ground := Go.Ground.data }], guard := none }) rfl (fun K hK => ?_) rfl AllReadyD.nil
            go_simp
            go_at_call 110; (with_reducible refine (own02_any y.f4.f5.f0 y.f4.f5.f1 _).mono ?_); rintro e w2 ⟨rfl, hb2⟩; have HR2 := hid (Rd.trans (grown_of_below (Below.drew (Below.refl _ _)) _ : Rd g W0 W0.drew) (grown_of_below hb2 _)); have HCB := hid ((HW0.out.cb.below (Below.drew (Below.refl _ _))).below hb2)
            refine hK.out _ _ ?_ (fun hHeld => ?_)
            · (try dsimp only); first | exact HK.out _ (grown_of_below (Below.drew (Below.refl _ _)) _ : Rd g W0 W0.drew) | exact HK.out _ HR2.out | exact HK.out _ HR3.out | exact HK.out _ HR4.out | exact HK.out _ HR5.out | exact HK.out _ HR6.out | exact HK.out _ (HRN.out.trans (grown_of_below ((Below.refl _ _).alloc (Nat.le_refl _) _) _)) | exact HK.out _ ((HRN.out.trans (grown_of_below ((Below.refl _ _).alloc (Nat.le_refl _) _) _)).trans (grown_of_below ((Below.refl _ _).alloc (Nat.le_refl _) _) _)) | exact HKA.out _ _ HRA.out HGA.out
            clear hK K
            try simp only [Act.put, List.setIfInBounds_toArray, List.set_cons_zero, List.set_cons_succ]
            refine wpAnyD_ready (rs := [9]) (by kernel_rfl) (by simp) ?_
            refine AllReadyD.cons (o := { dst := some 94, op := Go.Op.call { callee := Go.Callee.value (Go.Operand.func 112), args := #[Go.Operand.tmp 89, Go.Operand.tmp 93], argTypes := #[81, 85] }, type := 9, pos := "law.go:78", after := #[{ on := 4, ground := Go.Ground.data }, { on := 8, ground := Go.Ground.data }, { on := 8, ground := Go.Ground.chain }], guard := none }) rfl (fun K hK => ?_) rfl AllReadyD.nil
            go_simp
            go_at_call 112; (with_reducible refine (HNM.out _ HCB.out HR2.out).mono ?_); rintro e w3 ⟨rfl, HC3, HG3⟩; have HC3 := hid HC3; have HR3 := hid (HR2.out.trans HG3); have HRN := HR3
            refine hK.out _ _ ?_ (fun hHeld => ?_)
            · (try dsimp only); first | exact HK.out _ (grown_of_below (Below.drew (Below.refl _ _)) _ : Rd g W0 W0.drew) | exact HK.out _ HR2.out | exact HK.out _ HR3.out | exact HK.out _ HR4.out | exact HK.out _ HR5.out | exact HK.out _ HR6.out | exact HK.out _ (HRN.out.trans (grown_of_below ((Below.refl _ _).alloc (Nat.le_refl _) _) _)) | exact HK.out _ ((HRN.out.trans (grown_of_below ((Below.refl _ _).alloc (Nat.le_refl _) _) _)).trans (grown_of_below ((Below.refl _ _).alloc (Nat.le_refl _) _) _)) | exact HKA.out _ _ HRA.out HGA.out
            clear hK K
            try simp only [Act.put, List.setIfInBounds_toArray, List.set_cons_zero, List.set_cons_succ]
            refine wpAnyD_ready (rs := [10]) (by kernel_rfl) (by simp) ?_
            refine AllReadyD.cons (o := { dst := some 95, op := Go.Op.buildSlice 95 1 #[(0, Go.Operand.tmp 94)], type := 95, pos := "law.go:78", after := #[{ on := 9, ground := Go.Ground.data }], guard := none }) rfl (fun K hK => ?_) rfl AllReadyD.nil
            go_simp
            refine hK.out _ _ ?_ (fun hHeld => ?_)
            · (try dsimp only); first | exact HK.out _ (grown_of_below (Below.drew (Below.refl _ _)) _ : Rd g W0 W0.drew) | exact HK.out _ HR2.out | exact HK.out _ HR3.out | exact HK.out _ HR4.out | exact HK.out _ HR5.out | exact HK.out _ HR6.out | exact HK.out _ (HRN.out.trans (grown_of_below ((Below.refl _ _).alloc (Nat.le_refl _) _) _)) | exact HK.out _ ((HRN.out.trans (grown_of_below ((Below.refl _ _).alloc (Nat.le_refl _) _) _)).trans (grown_of_below ((Below.refl _ _).alloc (Nat.le_refl _) _) _)) | exact HKA.out _ _ HRA.out HGA.out
            clear hK K
            try simp only [Act.put, List.setIfInBounds_toArray, List.set_cons_zero, List.set_cons_succ]
            refine wpAnyD_ready (rs := [11]) (by kernel_rfl) (by simp) ?_
            refine AllReadyD.cons (o := { dst := some 96, op := Go.Op.call { callee := Go.Callee.builtin Go.Builtin.append, args := #[Go.Operand.tmp 88, Go.Operand.tmp 95], argTypes := #[95, 95] }, type := 95, pos := "law.go:78", after := #[{ on := 3, ground := Go.Ground.data }, { on := 10, ground := Go.Ground.data }, { on := 9, ground := Go.Ground.chain }], guard := none }) rfl (fun K hK => ?_) rfl AllReadyD.nil
            have HRA := hid (HR3.out.trans (grown_of_below ((Below.refl _ _).alloc (Nat.le_refl _) (.cells #[.string (strOfNums b)] 9)) _)); have HCA := hid (HC3.out.below ((Below.refl _ _).alloc (Nat.le_refl _) (.cells #[.string (strOfNums b)] 9))); refine step_append_lies _ rfl (.tmp 88) (.tmp 95) 95 (by rfl) w1.heap.size 9 i0 (.string ⟨#[]⟩) 1 16 Tryd.underlying95 hi0 hz0 hz1 hz2 rfl (by decide) v (m) vs (by rfl) (HOW.out _ HRA.out) ⟨_, 0, none⟩ 1 1 [.string (strOfNums b)] (by rfl) rfl (by intro j u hj; rcases j with _ | _ | _ | j <;> simp at hj <;> subst hj <;> go_simp) (by intro u hu; simp at hu; (first | (subst hu; rfl) | (rcases hu with rfl | rfl <;> rfl))) (by decide) (by unfold maxLen; omega) (by omega) (HSZ.out _ HRA.out) _ rfl ?_; intro ga capa wa howna hgrowa hata hlta; have HGA := hid hgrowa; have hfa := HFZ.out _ _ HRA.out hgrowa; have hca := (HKA.out _ _ HRA.out hgrowa).2.1
            refine hK.out _ _ ?_ (fun hHeld => ?_)
            · (try dsimp only); first | exact HK.out _ (grown_of_below (Below.drew (Below.refl _ _)) _ : Rd g W0 W0.drew) | exact HK.out _ HR2.out | exact HK.out _ HR3.out | exact HK.out _ HR4.out | exact HK.out _ HR5.out | exact HK.out _ HR6.out | exact HK.out _ (HRN.out.trans (grown_of_below ((Below.refl _ _).alloc (Nat.le_refl _) _) _)) | exact HK.out _ ((HRN.out.trans (grown_of_below ((Below.refl _ _).alloc (Nat.le_refl _) _) _)).trans (grown_of_below ((Below.refl _ _).alloc (Nat.le_refl _) _) _)) | exact HKA.out _ _ HRA.out HGA.out
            clear hK K
            try simp only [Act.put, List.setIfInBounds_toArray, List.set_cons_zero, List.set_cons_succ]
            refine wpAnyD_take (i := 12) (oi := { dst := some 97, op := Go.Op.nilCheck (Go.Operand.tmp 85), type := 0, pos := "law.go:78", after := #[{ on := 0, ground := Go.Ground.data }, { on := 0, ground := Go.Ground.phase }, { on := 1, ground := Go.Ground.phase }, { on := 2, ground := Go.Ground.phase }, { on := 3, ground := Go.Ground.phase }, { on := 4, ground := Go.Ground.phase }, { on := 5, ground := Go.Ground.phase }, { on := 6, ground := Go.Ground.phase }, { on := 7, ground := Go.Ground.phase }, { on := 8, ground := Go.Ground.phase }, { on := 9, ground := Go.Ground.phase }, { on := 10, ground := Go.Ground.phase }, { on := 11, ground := Go.Ground.phase }], guard := none }) (v := ?_) rfl (by kernel_rfl) (by kernel_rfl) (by kernel_rfl) (fun _ _ _ h => h) (Or.inl ⟨by rfl, ?hyo410⟩) (by assumption) (by kernel_rfl) ?resto410
            case hyo410 => (intro w hSw; (try dsimp only at hSw); go_simp; first | (with_reducible rfl) | (rw [if_neg (by omega)]) | skip)
            simp only [Act.put, List.setIfInBounds_toArray, List.set_cons_zero, List.set_cons_succ]
            refine wpAnyD_ready (rs := [13]) (by kernel_rfl) (by simp) ?_
            refine AllReadyD.last (o := { dst := none, op := Go.Op.store 95 (Go.Operand.tmp 97) (Go.Operand.tmp 96), type := 0, pos := "law.go:78", after := #[{ on := 12, ground := Go.Ground.data }, { on := 11, ground := Go.Ground.data }, { on := 11, ground := Go.Ground.chain }, { on := 0, ground := Go.Ground.phase }, { on := 1, ground := Go.Ground.phase }, { on := 2, ground := Go.Ground.phase }, { on := 3, ground := Go.Ground.phase }, { on := 4, ground := Go.Ground.phase }, { on := 5, ground := Go.Ground.phase }, { on := 6, ground := Go.Ground.phase }, { on := 7, ground := Go.Ground.phase }, { on := 8, ground := Go.Ground.phase }, { on := 9, ground := Go.Ground.phase }, { on := 10, ground := Go.Ground.phase }, { on := 11, ground := Go.Ground.phase }], guard := none }) rfl (by kernel_rfl) (fun K hK => ?_)
            go_simp
            refine hK.out _ _ ?_
            clear hK K
            try simp only [Act.put, List.setIfInBounds_toArray, List.set_cons_zero, List.set_cons_succ]
            refine NoPanic.normal ?_
            go_wp2_with fail
            go_meet
            exact ⟨_, by omega, hst, hid (HW0.out.out hv HRA.out HCA.out hlm howna hgrowa hata hlta).1, hid (HW0.out.out hv HRA.out HCA.out hlm howna hgrowa hata hlta).2⟩
          · have HP := hid (HUy.out.trans (ask_err (y := askV y) (by show y.f0 % 6 ≠ 5; have := HD.out; omega) hst.out))
            go_upto_region 15 with (fail)
            refine wp_region_held_drew (S := (fun W => W.cell? ⟨w.heap.size + 1 + 1, 0, none⟩ = some (.pointer (some ⟨og, 0, none⟩)) ∧ W.cell? ⟨og, 0, none⟩ = some v ∧ W.cell? ⟨w.heap.size, 0, none⟩ = some (.pointer (some ⟨g, 0, none⟩)) ∧ W.cell? ⟨wr.heap.size, 11, none⟩ = some (.int .i64 y.f4.f5.f0) ∧ W.cell? ⟨wr.heap.size, 12, none⟩ = some (.int .i64 y.f4.f5.f1))) (by kernel_rfl) ?hSe41 (fun hHeld => ?goe41)
            case hSe41 => first | exact HK.out _ (grown_of_below (Below.drew (Below.refl _ _)) _ : Rd g W0 W0.drew) | exact HK.out _ HR2.out | exact HK.out _ HR3.out | exact HK.out _ HR4.out | exact HK.out _ HR5.out | exact HK.out _ HR6.out | exact HK.out _ (HRN.out.trans (grown_of_below ((Below.refl _ _).alloc (Nat.le_refl _) _) _)) | exact HK.out _ ((HRN.out.trans (grown_of_below ((Below.refl _ _).alloc (Nat.le_refl _) _) _)).trans (grown_of_below ((Below.refl _ _).alloc (Nat.le_refl _) _) _)) | exact HKA.out _ _ HRA.out HGA.out
            refine wpAnyH_take (i := 0) (oi := { dst := some 85, op := Go.Op.load 97 (Go.Operand.tmp 5), type := 97, pos := "law.go:78", after := #[], guard := none }) (v := ?_) rfl (by kernel_rfl) (by kernel_rfl) (by kernel_rfl) (fun _ _ _ h => h) (Or.inl ⟨by rfl, ?hye42⟩) (by assumption) ?reste42
            case hye42 => (intro w hSw; (try dsimp only at hSw); go_simp; first | (with_reducible rfl) | (rw [if_neg (by omega)]) | skip)
            simp only [Act.put, List.setIfInBounds_toArray, List.set_cons_zero, List.set_cons_succ]
            refine wpAnyH_take (i := 1) (oi := { dst := some 86, op := Go.Op.load 97 (Go.Operand.tmp 5), type := 97, pos := "law.go:78", after := #[], guard := none }) (v := ?_) rfl (by kernel_rfl) (by kernel_rfl) (by kernel_rfl) (fun _ _ _ h => h) (Or.inl ⟨by rfl, ?hye43⟩) (by assumption) ?reste43
            case hye43 => (intro w hSw; (try dsimp only at hSw); go_simp; first | (with_reducible rfl) | (rw [if_neg (by omega)]) | skip)
            simp only [Act.put, List.setIfInBounds_toArray, List.set_cons_zero, List.set_cons_succ]
            refine wpAnyH_take (i := 2) (oi := { dst := some 87, op := Go.Op.nilCheck (Go.Operand.tmp 86), type := 0, pos := "law.go:78", after := #[{ on := 1, ground := Go.Ground.data }], guard := none }) (v := ?_) rfl (by kernel_rfl) (by kernel_rfl) (by kernel_rfl) (fun _ _ _ h => h) (Or.inl ⟨by rfl, ?hye44⟩) (by assumption) ?reste44
            case hye44 => (intro w hSw; (try dsimp only at hSw); go_simp; first | (with_reducible rfl) | (rw [if_neg (by omega)]) | skip)
            simp only [Act.put, List.setIfInBounds_toArray, List.set_cons_zero, List.set_cons_succ]
            refine wpAnyH_take (i := 3) (oi := { dst := some 88, op := Go.Op.load 95 (Go.Operand.tmp 87), type := 95, pos := "law.go:78", after := #[{ on := 2, ground := Go.Ground.data }], guard := none }) (v := ?_) rfl (by kernel_rfl) (by kernel_rfl) (by kernel_rfl) (fun _ _ _ h => h) (Or.inl ⟨by rfl, ?hye45⟩) (by assumption) ?reste45
            case hye45 => (intro w hSw; (try dsimp only at hSw); go_simp; first | (with_reducible rfl) | (rw [if_neg (by omega)]) | skip)
            simp only [Act.put, List.setIfInBounds_toArray, List.set_cons_zero, List.set_cons_succ]
            refine wpAnyH_take (i := 4) (oi := { dst := some 89, op := Go.Op.load 81 (Go.Operand.tmp 3), type := 81, pos := "law.go:78", after := #[], guard := none }) (v := ?_) rfl (by kernel_rfl) (by kernel_rfl) (by kernel_rfl) (fun _ _ _ h => h) (Or.inl ⟨by rfl, ?hye46⟩) (by assumption) ?reste46
            case hye46 => (intro w hSw; (try dsimp only at hSw); go_simp; first | (with_reducible rfl) | (rw [if_neg (by omega)]) | skip)
            simp only [Act.put, List.setIfInBounds_toArray, List.set_cons_zero, List.set_cons_succ]
            refine wpAnyH_take (i := 5) (oi := { dst := some 90, op := Go.Op.fieldAddr 154 (Go.Operand.tmp 7) 4, type := 0, pos := "law.go:78", after := #[], guard := none }) (v := ?_) rfl (by kernel_rfl) (by kernel_rfl) (by kernel_rfl) (fun _ _ _ h => h) (Or.inl ⟨by rfl, ?hye47⟩) (by assumption) ?reste47
            case hye47 => (intro w hSw; (try dsimp only at hSw); go_simp; first | (with_reducible rfl) | (rw [if_neg (by omega)]) | skip)
            simp only [Act.put, List.setIfInBounds_toArray, List.set_cons_zero, List.set_cons_succ]
            refine wpAnyH_take (i := 6) (oi := { dst := some 91, op := Go.Op.fieldAddr 152 (Go.Operand.tmp 90) 5, type := 0, pos := "law.go:78", after := #[{ on := 5, ground := Go.Ground.data }], guard := none }) (v := ?_) rfl (by kernel_rfl) (by kernel_rfl) (by kernel_rfl) (fun _ _ _ h => h) (Or.inl ⟨by rfl, ?hye48⟩) (by assumption) ?reste48
            case hye48 => (intro w hSw; (try dsimp only at hSw); go_simp; first | (with_reducible rfl) | (rw [if_neg (by omega)]) | skip)
            simp only [Act.put, List.setIfInBounds_toArray, List.set_cons_zero, List.set_cons_succ]
            refine wpAnyH_take (i := 7) (oi := { dst := some 92, op := Go.Op.load 149 (Go.Operand.tmp 91), type := 149, pos := "law.go:78", after := #[{ on := 6, ground := Go.Ground.data }], guard := none }) (v := ?_) rfl (by kernel_rfl) (by kernel_rfl) (by kernel_rfl) (fun _ _ _ h => h) (Or.inl ⟨by rfl, ?hye49⟩) (by assumption) ?reste49
            case hye49 => (intro w hSw; (try dsimp only at hSw); go_simp; first | (with_reducible rfl) | (rw [if_neg (by omega)]) | skip)
            simp only [Act.put, List.setIfInBounds_toArray, List.set_cons_zero, List.set_cons_succ]
            refine wpAnyH_ready (rs := [8]) (by kernel_rfl) (by simp) ?_
            refine AllReadyH.cons (o := { dst := some 93, op := Go.Op.call { callee := Go.Callee.value (Go.Operand.func 110), args := #[Go.Operand.tmp 92], argTypes := #[149] }, type := 85, pos := "law.go:78", after := #[{ on := 7, ground := Go.Ground.data }], guard := none }) rfl (fun K hK => ?_) AllReadyH.nil
            go_simp
            go_at_call 110; (with_reducible refine (own02_any y.f4.f5.f0 y.f4.f5.f1 _).mono ?_); rintro e w2 ⟨rfl, hb2⟩; have HR2 := hid (Rd.trans (grown_of_below (Below.drew (Below.refl _ _)) _ : Rd g W0 W0.drew) (grown_of_below hb2 _)); have HCB := hid ((HW0.out.cb.below (Below.drew (Below.refl _ _))).below hb2)
            refine hK.out _ _ ?_ (fun hHeld => ?_)
            · (try dsimp only); first | exact HK.out _ (grown_of_below (Below.drew (Below.refl _ _)) _ : Rd g W0 W0.drew) | exact HK.out _ HR2.out | exact HK.out _ HR3.out | exact HK.out _ HR4.out | exact HK.out _ HR5.out | exact HK.out _ HR6.out | exact HK.out _ (HRN.out.trans (grown_of_below ((Below.refl _ _).alloc (Nat.le_refl _) _) _)) | exact HK.out _ ((HRN.out.trans (grown_of_below ((Below.refl _ _).alloc (Nat.le_refl _) _) _)).trans (grown_of_below ((Below.refl _ _).alloc (Nat.le_refl _) _) _)) | exact HKA.out _ _ HRA.out HGA.out
            clear hK K
            try simp only [Act.put, List.setIfInBounds_toArray, List.set_cons_zero, List.set_cons_succ]
            refine wpAnyH_ready (rs := [9]) (by kernel_rfl) (by simp) ?_
            refine AllReadyH.cons (o := { dst := some 94, op := Go.Op.call { callee := Go.Callee.value (Go.Operand.func 112), args := #[Go.Operand.tmp 89, Go.Operand.tmp 93], argTypes := #[81, 85] }, type := 9, pos := "law.go:78", after := #[{ on := 4, ground := Go.Ground.data }, { on := 8, ground := Go.Ground.data }, { on := 8, ground := Go.Ground.chain }], guard := none }) rfl (fun K hK => ?_) AllReadyH.nil
            go_simp
            go_at_call 112; (with_reducible refine (HNM.out _ HCB.out HR2.out).mono ?_); rintro e w3 ⟨rfl, HG3⟩; refine ⟨rfl, ?_⟩; show PostA w1 g og _ A c l lim w (askM (xs.map askV) lim p l) _ _; rw [HP.out]; exact ⟨rfl, HO0.out.trans (HW0.out.fo (HR2.out.trans HG3))⟩
        have h5 : d = 5 := by omega
        have HL := hid (inLim_ge (p := q) (lim := lim) (n := y.f1) (lm_iff.2 HW0.out.lm))
        have HDR := hid ((HA.out.drop (k := i + 1) (by omega) hc1))
        have HIH := hid (fun (W : World) (n' : Nat) (hn' : n' + 3 * (xs.drop (i + 1)).length ≤ 1000) (hW : Ast w1 g og n' A c l q (inLim q lim y.f1) W) => ih (xs.length - (i + 1)) (by omega) (xs.drop (i + 1)) (if c1 = i + 1 then some ad else some (ad.add ((i + 1) * 14))) (c1 - (i + 1)) n' q (inLim q lim y.f1) W (by rw [List.length_drop]; exact Nat.le_refl _) (by rw [List.length_drop]; omega) HDR.out (fun x hx => HF.out x (List.mem_of_mem_drop hx)) hn' hW)
        have HAS := hid (fun (W : World) (hR : Rd g W0 W) (hC : CB g A c l q (inLim q lim y.f1) W) => show Calls Tryd.prog 113 #[.pointer (some ⟨w.heap.size, 0, none⟩), .pointer (some ⟨w.heap.size + 1, 0, none⟩), .pointer (some ⟨I, 0, none⟩), .pointer (some ⟨w.heap.size + 1 + 1, 0, none⟩)] W (fun e w' => (e = .returned (.tuple #[]) ∧ ∃ p', CB g A c l p' (inLim q lim y.f1) w' ∧ DnA w1 g og (n + 3 * xs.length) A c l (inLim q lim y.f1) W0 (askM ((xs.drop (i + 1)).map askV) (inLim q lim y.f1) q l) p' w') ∨ (∃ s er, Stops s er e ∧ StA g og W0 (askM ((xs.drop (i + 1)).map askV) (inLim q lim y.f1) q l) s er w')) from by
          refine asked2_any w.heap.size (w.heap.size + 1) I (w.heap.size + 1 + 1) g og ad xs.length c1 i W _ (hR.cell (by omega) b3) (hR.cell (by omega) b4) (hR.cell HI0.out.ng cI) (hR.cell (by omega) b5) hlt hc1 hlx (fun W' hW' => ?_)
          have hAW := HW0.out.rd hR hC (.inr HL.out.1)
          have hAW' := hAW.rd (grown_of_below hW' _) (hC.below hW') (.inr HL.out.1)
          have := HIH.out W' m (by rw [List.length_drop]; omega) hAW'
          rw [List.length_drop] at this
          refine this.mono (fun e w' hq => ?_)
          have hF0 := (HW0.out.fo hR).trans (hAW.fo (grown_of_below hW' _))
          unfold PostA at hq
          rcases hr : askM ((xs.drop (i + 1)).map askV) (inLim q lim y.f1) q l with ⟨s, er⟩ | ⟨u, p'⟩
          · rw [hr] at hq
            exact ⟨.inr ⟨_, _, hq.1⟩, .inr ⟨s, er, hq.1, rfl, hF0.trans hq.2⟩⟩
          · rw [hr] at hq
            obtain ⟨q1, ⟨n', q2, q3⟩, q4⟩ := hq
            exact ⟨.inl q1, .inl ⟨q1, p', q3.cb, ⟨n', by omega, q3⟩, hF0.trans q4, rfl⟩⟩)
        have hmf2 := hmf
        go_wp2_with (first | (go_at_call 45; (with_reducible refine (within_walk g A c l q lim y.f1 W0 113 #[.pointer (some ⟨w.heap.size, 0, none⟩), .pointer (some ⟨w.heap.size + 1, 0, none⟩), .pointer (some ⟨I, 0, none⟩), .pointer (some ⟨w.heap.size + 1 + 1, 0, none⟩)] _ _ HW0.out.cb HW0.out.lm HFy.out.n.1 HFy.out.n.2 (enters Tryd.func113 (by kernel_rfl) rfl) HAS.out).mono ?_); rintro e w2 (⟨rfl, p', w', hp, hdn, hcb, hrd⟩ | ⟨p', w', hp, hdn, rfl, hrd⟩ | ⟨q', er, rfl, hst⟩)))
        · go_end0
          show PostA w1 g og _ A c l lim w (askM (xs.map askV) lim p l) _ _
          obtain ⟨⟨n', q2, q3⟩, q4, q5⟩ := hdn
          rw [HUy.out, ask_5 (y := askV y) (show y.f0 % 6 = 5 from HD.out.symm.trans h5), show (askV y).n = y.f1 from rfl, q5]
          simp only [if_pos hp]
          exact ⟨rfl, ⟨n', q2, q3.rd hrd hcb (by have := HL.out.2; rw [hp]; exact this)⟩, HO0.out.trans (q4.trans (q3.fo hrd))⟩
        · refine ⟨rfl, ?_⟩
          show PostA w1 g og _ A c l lim w (askM (xs.map askV) lim p l) _ _
          obtain ⟨⟨n', q2, q3⟩, q4, q5⟩ := hdn
          rw [HUy.out, ask_5 (y := askV y) (show y.f0 % 6 = 5 from HD.out.symm.trans h5), show (askV y).n = y.f1 from rfl, q5]
          simp only [if_neg hp]
          exact ⟨rfl, HO0.out.trans (q4.trans (q3.fo hrd))⟩
        · refine ⟨rfl, ?_⟩
          show PostA w1 g og _ A c l lim w (askM (xs.map askV) lim p l) _ _
          rw [HUy.out, ask_5 (y := askV y) (show y.f0 % 6 = 5 from HD.out.symm.trans h5), show (askV y).n = y.f1 from rfl, hst.1]
          exact ⟨rfl, HO0.out.trans hst.2⟩
      case rest =>
        obtain ⟨q1, nd5, HST, HWc, HFc⟩ := hcut
        have HUz := hid (HUy.out.trans (ask_ok (y := askV y) (by show y.f0 % 6 ≠ 5; have := HD.out; omega) HST.out))
        have hlm := step_lm HW0.out.cb.p0 HW0.out.cb.p1 HW0.out.lm HST.out
        have b3 := (HBX0.out _ (by omega) (by omega)).cell HFc.out b3
        have b4 := (HBX0.out _ (by omega) (by omega)).cell HFc.out b4
        have b5 := (HBX0.out _ (by omega) (by omega)).cell HFc.out b5
        have cI := HI0.out.cell HFc.out cI
        have HBXc := hid (fun b h1 h2 => (HBX0.out b h1 h2).fo HFc.out)
        have HIc := hid (HI0.out.fo HFc.out)
        have hszc := HFc.out.size
        have HOc := hid (HO0.out.trans HFc.out)
        clear x1 x2 x3 x4 x5 x6 x7 x8 x9 x10 x11 x12 x13
        obtain ⟨v, vs, hv, hown⟩ := HWc.out.ex
        have HOW := hid (fun W (h : Rd g wc W) => World.ownsRow.kept hown h (.inr (fun z => HWc.out.ng ⟨v, hv, z⟩)))
        have HSZ := hid (fun W (h : Rd g wc W) => show w1.heap.size ≤ W.heap.size from Nat.le_trans HWc.out.hb.size h.size)
        have n5 : v.ownBlock ≠ some (w.heap.size + 1 + 1) := fun z => (HBXc.out _ (by omega) (by omega)).nr ⟨v, hv, z⟩
        have n3 : v.ownBlock ≠ some w.heap.size := fun z => (HBXc.out _ (by omega) (by omega)).nr ⟨v, hv, z⟩
        have no : v.ownBlock ≠ some og := fun z => HWc.out.no ⟨v, hv, z⟩
        have HFZ := hid (fun W wa (h : Rd g wc W) (h2 : W.grownBy wa v.ownBlock) => show wa.frozen? ⟨og, 0, none⟩ = false by
          rw [World.frozen?_of_block (a := ⟨og, 0, none⟩) (h2.block og (Nat.lt_of_lt_of_le HWc.out.olt h.size) (fun z => no z.symm)), World.frozen?_of_block (a := ⟨og, 0, none⟩) (h.block og HWc.out.olt (fun z => HWc.out.go (Option.some.inj z)))]
          exact HWc.out.fz)
        have HK := hid (fun W (h : Rd g wc W) => show W.cell? ⟨w.heap.size + 1 + 1, 0, none⟩ = some (.pointer (some ⟨og, 0, none⟩)) ∧ W.cell? ⟨og, 0, none⟩ = some v ∧ W.cell? ⟨w.heap.size, 0, none⟩ = some (.pointer (some ⟨g, 0, none⟩)) from ⟨h.cell (by omega) b5, h.cell HWc.out.go hv, h.cell (by omega) b3⟩)
        have HKA := hid (fun W wa (h : Rd g wc W) (h2 : W.grownBy wa v.ownBlock) => show wa.cell? ⟨w.heap.size + 1 + 1, 0, none⟩ = some (.pointer (some ⟨og, 0, none⟩)) ∧ wa.cell? ⟨og, 0, none⟩ = some v ∧ wa.cell? ⟨w.heap.size, 0, none⟩ = some (.pointer (some ⟨g, 0, none⟩)) from ⟨cellG h2 n5 (h.cell (by omega) b5), cellG h2 no (h.cell HWc.out.go hv), cellG h2 n3 (h.cell (by omega) b3)⟩)
        have HAT := hid (fun W (hC : CB g A c l q1 lim W) => at_walk g _ q1 lim W hC.cu)
        have HRE := hid (fun W (hC : CB g A c l q1 lim W) => rest_b hC W (Below.refl _ _))
        go_upto_region 18 with (fail)
        refine wp_region_noPanic ?_
        refine wp_region_heldD 15 (S := (fun W => W.cell? ⟨w.heap.size + 1 + 1, 0, none⟩ = some (.pointer (some ⟨og, 0, none⟩)) ∧ W.cell? ⟨og, 0, none⟩ = some v ∧ W.cell? ⟨w.heap.size, 0, none⟩ = some (.pointer (some ⟨g, 0, none⟩)))) (by kernel_rfl) ?hSt1 (fun hHeld => ?got1)
        case hSt1 => first | exact HK.out _ (grown_of_below (Below.drew (Below.refl _ _)) _ : Rd g wc wc.drew) | exact HK.out _ HR2.out | exact HK.out _ HR3.out | exact HK.out _ HR4.out | exact HK.out _ HR5.out | exact HK.out _ HR6.out | exact HK.out _ (HRN.out.trans (grown_of_below ((Below.refl _ _).alloc (Nat.le_refl _) _) _)) | exact HK.out _ ((HRN.out.trans (grown_of_below ((Below.refl _ _).alloc (Nat.le_refl _) _) _)).trans (grown_of_below ((Below.refl _ _).alloc (Nat.le_refl _) _) _)) | exact HKA.out _ _ HRA.out HGA.out
        refine wpAnyD_take (i := 0) (oi := { dst := some 105, op := Go.Op.load 97 (Go.Operand.tmp 5), type := 97, pos := "law.go:83", after := #[], guard := none }) (v := ?_) rfl (by kernel_rfl) (by kernel_rfl) (by kernel_rfl) (fun _ _ _ h => h) (Or.inl ⟨by rfl, ?hyt2⟩) (by assumption) (by kernel_rfl) ?restt2
        case hyt2 => (intro w hSw; (try dsimp only at hSw); go_simp; first | (with_reducible rfl) | (rw [if_neg (by omega)]) | skip)
        simp only [Act.put, List.setIfInBounds_toArray, List.set_cons_zero, List.set_cons_succ]
        refine wpAnyD_take (i := 1) (oi := { dst := some 106, op := Go.Op.load 97 (Go.Operand.tmp 5), type := 97, pos := "law.go:83", after := #[], guard := none }) (v := ?_) rfl (by kernel_rfl) (by kernel_rfl) (by kernel_rfl) (fun _ _ _ h => h) (Or.inl ⟨by rfl, ?hyt3⟩) (by assumption) (by kernel_rfl) ?restt3
        case hyt3 => (intro w hSw; (try dsimp only at hSw); go_simp; first | (with_reducible rfl) | (rw [if_neg (by omega)]) | skip)
        simp only [Act.put, List.setIfInBounds_toArray, List.set_cons_zero, List.set_cons_succ]
        refine wpAnyD_take (i := 2) (oi := { dst := some 107, op := Go.Op.nilCheck (Go.Operand.tmp 106), type := 0, pos := "law.go:83", after := #[{ on := 1, ground := Go.Ground.data }], guard := none }) (v := ?_) rfl (by kernel_rfl) (by kernel_rfl) (by kernel_rfl) (fun _ _ _ h => h) (Or.inl ⟨by rfl, ?hyt4⟩) (by assumption) (by kernel_rfl) ?restt4
        case hyt4 => (intro w hSw; (try dsimp only at hSw); go_simp; first | (with_reducible rfl) | (rw [if_neg (by omega)]) | skip)
        simp only [Act.put, List.setIfInBounds_toArray, List.set_cons_zero, List.set_cons_succ]
        refine wpAnyD_take (i := 3) (oi := { dst := some 108, op := Go.Op.load 95 (Go.Operand.tmp 107), type := 95, pos := "law.go:83", after := #[{ on := 2, ground := Go.Ground.data }], guard := none }) (v := ?_) rfl (by kernel_rfl) (by kernel_rfl) (by kernel_rfl) (fun _ _ _ h => h) (Or.inl ⟨by rfl, ?hyt5⟩) (by assumption) (by kernel_rfl) ?restt5
        case hyt5 => (intro w hSw; (try dsimp only at hSw); go_simp; first | (with_reducible rfl) | (rw [if_neg (by omega)]) | skip)
        simp only [Act.put, List.setIfInBounds_toArray, List.set_cons_zero, List.set_cons_succ]
        refine wpAnyD_take (i := 4) (oi := { dst := some 109, op := Go.Op.load 81 (Go.Operand.tmp 3), type := 81, pos := "law.go:83", after := #[], guard := none }) (v := ?_) rfl (by kernel_rfl) (by kernel_rfl) (by kernel_rfl) (fun _ _ _ h => h) (Or.inl ⟨by rfl, ?hyt6⟩) (by assumption) (by kernel_rfl) ?restt6
        case hyt6 => (intro w hSw; (try dsimp only at hSw); go_simp; first | (with_reducible rfl) | (rw [if_neg (by omega)]) | skip)
        simp only [Act.put, List.setIfInBounds_toArray, List.set_cons_zero, List.set_cons_succ]
        refine wpAnyD_take (i := 8) (oi := { dst := some 113, op := Go.Op.load 81 (Go.Operand.tmp 3), type := 81, pos := "law.go:83", after := #[], guard := none }) (v := ?_) rfl (by kernel_rfl) (by kernel_rfl) (by kernel_rfl) (fun _ _ _ h => h) (Or.inl ⟨by rfl, ?hyt7⟩) (by assumption) (by kernel_rfl) ?restt7
        case hyt7 => (intro w hSw; (try dsimp only at hSw); go_simp; first | (with_reducible rfl) | (rw [if_neg (by omega)]) | skip)
        simp only [Act.put, List.setIfInBounds_toArray, List.set_cons_zero, List.set_cons_succ]
        refine wpAnyD_ready (rs := [5]) (by kernel_rfl) (by simp) ?_
        refine AllReadyD.cons (o := { dst := some 110, op := Go.Op.call { callee := Go.Callee.value (Go.Operand.func 114), args := #[Go.Operand.tmp 109], argTypes := #[81] }, type := 3, pos := "law.go:83", after := #[{ on := 4, ground := Go.Ground.data }], guard := none }) rfl (fun K hK => ?_) rfl AllReadyD.nil
        go_simp
        go_at_call 114; (with_reducible refine (HAT.out _ (HWc.out.cb.below (Below.drew (Below.refl _ _)))).mono ?_); rintro e w2 ⟨rfl, hb2⟩; have HR2 := hid (Rd.trans (grown_of_below (Below.drew (Below.refl _ _)) _ : Rd g wc wc.drew) (grown_of_below hb2 _)); have HC2 := hid ((HWc.out.cb.below (Below.drew (Below.refl _ _))).below hb2)
        refine hK.out _ _ ?_ (fun hHeld => ?_)
        · (try dsimp only); first | exact HK.out _ (grown_of_below (Below.drew (Below.refl _ _)) _ : Rd g wc wc.drew) | exact HK.out _ HR2.out | exact HK.out _ HR3.out | exact HK.out _ HR4.out | exact HK.out _ HR5.out | exact HK.out _ HR6.out | exact HK.out _ (HRN.out.trans (grown_of_below ((Below.refl _ _).alloc (Nat.le_refl _) _) _)) | exact HK.out _ ((HRN.out.trans (grown_of_below ((Below.refl _ _).alloc (Nat.le_refl _) _) _)).trans (grown_of_below ((Below.refl _ _).alloc (Nat.le_refl _) _) _)) | exact HKA.out _ _ HRA.out HGA.out
        clear hK K
        try simp only [Act.put, List.setIfInBounds_toArray, List.set_cons_zero, List.set_cons_succ]
        refine wpAnyD_take (i := 6) (oi := { dst := some 111, op := Go.Op.convert 3 111 (Go.Operand.tmp 110), type := 111, pos := "law.go:83", after := #[{ on := 5, ground := Go.Ground.data }], guard := none }) (v := ?_) rfl (by kernel_rfl) (by kernel_rfl) (by kernel_rfl) (fun _ _ _ h => h) (Or.inl ⟨by rfl, ?hyt8⟩) (by assumption) (by kernel_rfl) ?restt8
        case hyt8 => (intro w hSw; (try dsimp only at hSw); go_simp; first | (with_reducible rfl) | (rw [if_neg (by omega)]) | skip)
        simp only [Act.put, List.setIfInBounds_toArray, List.set_cons_zero, List.set_cons_succ]
        refine wpAnyD_ready (rs := [7]) (by kernel_rfl) (by simp) ?_
        refine AllReadyD.cons (o := { dst := some 112, op := Go.Op.call { callee := Go.Callee.value (Go.Operand.func 106), args := #[Go.Operand.tmp 111], argTypes := #[111] }, type := 9, pos := "law.go:83", after := #[{ on := 6, ground := Go.Ground.data }, { on := 5, ground := Go.Ground.chain }], guard := none }) rfl (fun K hK => ?_) rfl AllReadyD.nil
        go_simp
        go_at_call 106; (with_reducible refine (number_any _ _).mono ?_); rintro e w3 ⟨⟨s3, rfl⟩, hb3⟩; have HR3 := hid (HR2.out.trans (grown_of_below hb3 _)); have HC3 := hid (HC2.out.below hb3)
        refine hK.out _ _ ?_ (fun hHeld => ?_)
        · (try dsimp only); first | exact HK.out _ (grown_of_below (Below.drew (Below.refl _ _)) _ : Rd g wc wc.drew) | exact HK.out _ HR2.out | exact HK.out _ HR3.out | exact HK.out _ HR4.out | exact HK.out _ HR5.out | exact HK.out _ HR6.out | exact HK.out _ (HRN.out.trans (grown_of_below ((Below.refl _ _).alloc (Nat.le_refl _) _) _)) | exact HK.out _ ((HRN.out.trans (grown_of_below ((Below.refl _ _).alloc (Nat.le_refl _) _) _)).trans (grown_of_below ((Below.refl _ _).alloc (Nat.le_refl _) _) _)) | exact HKA.out _ _ HRA.out HGA.out
        clear hK K
        try simp only [Act.put, List.setIfInBounds_toArray, List.set_cons_zero, List.set_cons_succ]
        refine wpAnyD_ready (rs := [9]) (by kernel_rfl) (by simp) ?_
        refine AllReadyD.cons (o := { dst := some 114, op := Go.Op.call { callee := Go.Callee.value (Go.Operand.func 68), args := #[Go.Operand.tmp 113], argTypes := #[81] }, type := 3, pos := "law.go:83", after := #[{ on := 8, ground := Go.Ground.data }, { on := 7, ground := Go.Ground.chain }], guard := none }) rfl (fun K hK => ?_) rfl AllReadyD.nil
        go_simp
        go_at_call 68; (with_reducible refine (HRE.out _ HC3.out).mono ?_); rintro e w4 ⟨rfl, hb4⟩; have HR4 := hid (HR3.out.trans (grown_of_below hb4 _)); have HC4 := hid (HC3.out.below hb4)
        refine hK.out _ _ ?_ (fun hHeld => ?_)
        · (try dsimp only); first | exact HK.out _ (grown_of_below (Below.drew (Below.refl _ _)) _ : Rd g wc wc.drew) | exact HK.out _ HR2.out | exact HK.out _ HR3.out | exact HK.out _ HR4.out | exact HK.out _ HR5.out | exact HK.out _ HR6.out | exact HK.out _ (HRN.out.trans (grown_of_below ((Below.refl _ _).alloc (Nat.le_refl _) _) _)) | exact HK.out _ ((HRN.out.trans (grown_of_below ((Below.refl _ _).alloc (Nat.le_refl _) _) _)).trans (grown_of_below ((Below.refl _ _).alloc (Nat.le_refl _) _) _)) | exact HKA.out _ _ HRA.out HGA.out
        clear hK K
        try simp only [Act.put, List.setIfInBounds_toArray, List.set_cons_zero, List.set_cons_succ]
        refine wpAnyD_take (i := 10) (oi := { dst := some 115, op := Go.Op.convert 3 111 (Go.Operand.tmp 114), type := 111, pos := "law.go:83", after := #[{ on := 9, ground := Go.Ground.data }], guard := none }) (v := ?_) rfl (by kernel_rfl) (by kernel_rfl) (by kernel_rfl) (fun _ _ _ h => h) (Or.inl ⟨by rfl, ?hyt9⟩) (by assumption) (by kernel_rfl) ?restt9
        case hyt9 => (intro w hSw; (try dsimp only at hSw); go_simp; first | (with_reducible rfl) | (rw [if_neg (by omega)]) | skip)
        simp only [Act.put, List.setIfInBounds_toArray, List.set_cons_zero, List.set_cons_succ]
        refine wpAnyD_ready (rs := [11]) (by kernel_rfl) (by simp) ?_
        refine AllReadyD.cons (o := { dst := some 116, op := Go.Op.call { callee := Go.Callee.value (Go.Operand.func 106), args := #[Go.Operand.tmp 115], argTypes := #[111] }, type := 9, pos := "law.go:83", after := #[{ on := 10, ground := Go.Ground.data }, { on := 9, ground := Go.Ground.chain }], guard := none }) rfl (fun K hK => ?_) rfl AllReadyD.nil
        go_simp
        go_at_call 106; (with_reducible refine (number_any _ _).mono ?_); rintro e w5 ⟨⟨s5, rfl⟩, hb5⟩; have HR5 := hid (HR4.out.trans (grown_of_below hb5 _)); have HC5 := hid (HC4.out.below hb5); have HRN := HR5
        refine hK.out _ _ ?_ (fun hHeld => ?_)
        · (try dsimp only); first | exact HK.out _ (grown_of_below (Below.drew (Below.refl _ _)) _ : Rd g wc wc.drew) | exact HK.out _ HR2.out | exact HK.out _ HR3.out | exact HK.out _ HR4.out | exact HK.out _ HR5.out | exact HK.out _ HR6.out | exact HK.out _ (HRN.out.trans (grown_of_below ((Below.refl _ _).alloc (Nat.le_refl _) _) _)) | exact HK.out _ ((HRN.out.trans (grown_of_below ((Below.refl _ _).alloc (Nat.le_refl _) _) _)).trans (grown_of_below ((Below.refl _ _).alloc (Nat.le_refl _) _) _)) | exact HKA.out _ _ HRA.out HGA.out
        clear hK K
        try simp only [Act.put, List.setIfInBounds_toArray, List.set_cons_zero, List.set_cons_succ]
        refine wpAnyD_ready (rs := [12]) (by kernel_rfl) (by simp) ?_
        refine AllReadyD.cons (o := { dst := some 117, op := Go.Op.buildSlice 95 2 #[(0, Go.Operand.tmp 112), (1, Go.Operand.tmp 116)], type := 95, pos := "law.go:83", after := #[{ on := 7, ground := Go.Ground.data }, { on := 11, ground := Go.Ground.data }], guard := none }) rfl (fun K hK => ?_) rfl AllReadyD.nil
        go_simp
        refine hK.out _ _ ?_ (fun hHeld => ?_)
        · (try dsimp only); first | exact HK.out _ (grown_of_below (Below.drew (Below.refl _ _)) _ : Rd g wc wc.drew) | exact HK.out _ HR2.out | exact HK.out _ HR3.out | exact HK.out _ HR4.out | exact HK.out _ HR5.out | exact HK.out _ HR6.out | exact HK.out _ (HRN.out.trans (grown_of_below ((Below.refl _ _).alloc (Nat.le_refl _) _) _)) | exact HK.out _ ((HRN.out.trans (grown_of_below ((Below.refl _ _).alloc (Nat.le_refl _) _) _)).trans (grown_of_below ((Below.refl _ _).alloc (Nat.le_refl _) _) _)) | exact HKA.out _ _ HRA.out HGA.out
        clear hK K
        try simp only [Act.put, List.setIfInBounds_toArray, List.set_cons_zero, List.set_cons_succ]
        refine wpAnyD_ready (rs := [13]) (by kernel_rfl) (by simp) ?_
        refine AllReadyD.cons (o := { dst := some 118, op := Go.Op.call { callee := Go.Callee.builtin Go.Builtin.append, args := #[Go.Operand.tmp 108, Go.Operand.tmp 117], argTypes := #[95, 95] }, type := 95, pos := "law.go:83", after := #[{ on := 3, ground := Go.Ground.data }, { on := 12, ground := Go.Ground.data }, { on := 11, ground := Go.Ground.chain }], guard := none }) rfl (fun K hK => ?_) rfl AllReadyD.nil
        have HRA := hid (HR5.out.trans (grown_of_below ((Below.refl _ _).alloc (Nat.le_refl _) (.cells #[.string s3, .string s5] 9)) _)); have HCA := hid (HC5.out.below ((Below.refl _ _).alloc (Nat.le_refl _) (.cells #[.string s3, .string s5] 9))); refine step_append_lies _ rfl (.tmp 108) (.tmp 117) 95 (by rfl) w1.heap.size 9 i0 (.string ⟨#[]⟩) 1 16 Tryd.underlying95 hi0 hz0 hz1 hz2 rfl (by decide) v (m + 1) vs (by rfl) (HOW.out _ HRA.out) ⟨_, 0, none⟩ 2 2 [.string s3, .string s5] (by rfl) rfl (by intro j u hj; rcases j with _ | _ | _ | j <;> simp at hj <;> subst hj <;> go_simp) (by intro u hu; simp at hu; (first | (subst hu; rfl) | (rcases hu with rfl | rfl <;> rfl))) (by decide) (by unfold maxLen; omega) (by omega) (HSZ.out _ HRA.out) _ rfl ?_; intro ga capa wa howna hgrowa hata hlta; have HGA := hid hgrowa; have hfa := HFZ.out _ _ HRA.out hgrowa; have hca := (HKA.out _ _ HRA.out hgrowa).2.1
        refine hK.out _ _ ?_ (fun hHeld => ?_)
        · (try dsimp only); first | exact HK.out _ (grown_of_below (Below.drew (Below.refl _ _)) _ : Rd g wc wc.drew) | exact HK.out _ HR2.out | exact HK.out _ HR3.out | exact HK.out _ HR4.out | exact HK.out _ HR5.out | exact HK.out _ HR6.out | exact HK.out _ (HRN.out.trans (grown_of_below ((Below.refl _ _).alloc (Nat.le_refl _) _) _)) | exact HK.out _ ((HRN.out.trans (grown_of_below ((Below.refl _ _).alloc (Nat.le_refl _) _) _)).trans (grown_of_below ((Below.refl _ _).alloc (Nat.le_refl _) _) _)) | exact HKA.out _ _ HRA.out HGA.out
        clear hK K
        try simp only [Act.put, List.setIfInBounds_toArray, List.set_cons_zero, List.set_cons_succ]
        refine wpAnyD_take (i := 14) (oi := { dst := some 119, op := Go.Op.nilCheck (Go.Operand.tmp 105), type := 0, pos := "law.go:83", after := #[{ on := 0, ground := Go.Ground.data }, { on := 0, ground := Go.Ground.phase }, { on := 1, ground := Go.Ground.phase }, { on := 2, ground := Go.Ground.phase }, { on := 3, ground := Go.Ground.phase }, { on := 4, ground := Go.Ground.phase }, { on := 5, ground := Go.Ground.phase }, { on := 6, ground := Go.Ground.phase }, { on := 7, ground := Go.Ground.phase }, { on := 8, ground := Go.Ground.phase }, { on := 9, ground := Go.Ground.phase }, { on := 10, ground := Go.Ground.phase }, { on := 11, ground := Go.Ground.phase }, { on := 12, ground := Go.Ground.phase }, { on := 13, ground := Go.Ground.phase }], guard := none }) (v := ?_) rfl (by kernel_rfl) (by kernel_rfl) (by kernel_rfl) (fun _ _ _ h => h) (Or.inl ⟨by rfl, ?hyt10⟩) (by assumption) (by kernel_rfl) ?restt10
        case hyt10 => (intro w hSw; (try dsimp only at hSw); go_simp; first | (with_reducible rfl) | (rw [if_neg (by omega)]) | skip)
        simp only [Act.put, List.setIfInBounds_toArray, List.set_cons_zero, List.set_cons_succ]
        refine wpAnyD_ready (rs := [15]) (by kernel_rfl) (by simp) ?_
        refine AllReadyD.last (o := { dst := none, op := Go.Op.store 95 (Go.Operand.tmp 119) (Go.Operand.tmp 118), type := 0, pos := "law.go:83", after := #[{ on := 14, ground := Go.Ground.data }, { on := 13, ground := Go.Ground.data }, { on := 13, ground := Go.Ground.chain }, { on := 0, ground := Go.Ground.phase }, { on := 1, ground := Go.Ground.phase }, { on := 2, ground := Go.Ground.phase }, { on := 3, ground := Go.Ground.phase }, { on := 4, ground := Go.Ground.phase }, { on := 5, ground := Go.Ground.phase }, { on := 6, ground := Go.Ground.phase }, { on := 7, ground := Go.Ground.phase }, { on := 8, ground := Go.Ground.phase }, { on := 9, ground := Go.Ground.phase }, { on := 10, ground := Go.Ground.phase }, { on := 11, ground := Go.Ground.phase }, { on := 12, ground := Go.Ground.phase }, { on := 13, ground := Go.Ground.phase }], guard := none }) rfl (by kernel_rfl) (fun K hK => ?_)
        go_simp
        refine hK.out _ _ ?_
        clear hK K
        try simp only [Act.put, List.setIfInBounds_toArray, List.set_cons_zero, List.set_cons_succ]
        refine NoPanic.normal ?_
        obtain ⟨Wf, hWf⟩ : ∃ Wf, Wf = wa.setCell ⟨og, 0, none⟩ (.slice (some ⟨ga, 0, none⟩) (m + 1 + 2) capa) := ⟨_, rfl⟩
        have HAf := hid (HWc.out.out hv HRA.out HCA.out hlm howna hgrowa hata hlta)
        rw [← hWf] at HAf ⊢
        clear hWf
        have b3 := (HBXc.out _ (by omega) (by omega)).cell HAf.out.2 b3
        have b4 := (HBXc.out _ (by omega) (by omega)).cell HAf.out.2 b4
        have b5 := (HBXc.out _ (by omega) (by omega)).cell HAf.out.2 b5
        have cI := HIc.out.cell HAf.out.2 cI
        have hszf := HAf.out.2.size
        have HBXf := hid (fun b h1 h2 => (HBXc.out b h1 h2).fo HAf.out.2)
        have HOf := hid (HOc.out.trans HAf.out.2)
        clear hown hgrowa hfa hca hv
        go_wp2_with fail
        have hBf : Below Wf.heap.size Wf (Wf.alloc (.cells #[.int .i64 ((i : Int) + 1)] 3)) := (Below.refl _ _).alloc (Nat.le_refl _) _
        have hRf : Rd g Wf (Wf.alloc (.cells #[.int .i64 ((i : Int) + 1)] 3)) := grown_of_below hBf _
        have hcf : (Wf.alloc (.cells #[.int .i64 ((i : Int) + 1)] 3)).cell? ⟨Wf.heap.size, 0, none⟩ = some (.int .i64 ((i + 1 : Nat) : Int)) := by rw [show ((i + 1 : Nat) : Int) = (i : Int) + 1 by omega]; go_simp
        go_roundw
        case rel => exact ⟨Wf.heap.size, i + 1, m + 1 + 2, q1, rfl, by omega, by omega, hcf, by go_simp, by omega, by simp, HUz, hid (Beside.new HAf.out.1 hRf (Nat.le_refl _) (by simp)), hid (HAf.out.1.rd hRf (HAf.out.1.cb.below hBf) HAf.out.1.lm), hid (HOf.out.trans (HAf.out.1.fo hRf)), hid (fun b h1 h2 => Beside.rd HAf.out.1 (HBXf.out b h1 h2) hRf), still hBf b3, still hBf b4, still hBf b5⟩
        case measure => simp only [hcf, cI0, intOf]; omega
    · have hie : i = xs.length := by omega
      have hi3 : ¬ (i : Int) < (xs.length : Int) := by omega
      go_wp2
      go_end0
      show PostA w1 g og _ A c l lim w (askM (xs.map askV) lim p l) _ _
      rw [HU.out, hie, List.drop_length, List.map_nil]
      exact ⟨rfl, ⟨m, by omega, HW.out⟩, HO.out⟩
end Go.Proofs.YtiohiiekaofkbaaDoor
