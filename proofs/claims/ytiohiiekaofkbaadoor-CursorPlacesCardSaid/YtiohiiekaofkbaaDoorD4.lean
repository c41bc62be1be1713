/- The cursor: the next text. -/
import Derived.Test.YtiohiiekaofkbaaDoorC5
import Derived.Test.YtiohiiekaofkbaaDoorD1
import Derived.Test.YtiohiiekaofkbaaDoorU2
namespace Go.Proofs.YtiohiiekaofkbaaDoor
set_option linter.unusedVariables false
set_option linter.unusedSimpArgs false
open Go.RowKit

set_option maxHeartbeats 1000000 in
theorem name1_call (C : Nat) (c d r : Int) (W : World) (hc : 0 ≤ c) (hc2 : c ≤ 1099511627776) (hd : 0 ≤ d) (hd2 : d ≤ 9223372036854775807) (hr : 0 ≤ r) (hr2 : r ≤ 1099511627776) (hG : Glob W)
    (k0 : W.cell? ⟨C, 0, none⟩ = some (.int .i64 c)) (k1 : W.cell? ⟨C, 1, none⟩ = some (.int .i64 d)) :
    Calls Tryd.prog 153 #[.int .i64 r, .pointer (some ⟨C, 0, none⟩)] W (fun e w' => ∃ A k, e = .returned (.slice A (rgL 1 1 c d r).length k) ∧ RowR w' A (rgL 1 1 c d r) ∧ Below W.heap.size W w') := by
  have HK := hid (fun w' => counts_glob 1 1 c d r w' (by decide) (by decide) (by decide) (by decide) hc hc2 hd hd2 hr hr2)
  have HG := hid hG
  have HB := hid (cn_bd 1 1 c d r)
  clear hG
  go_enter Tryd.func153, Tryd.ntmps153
  go_wp2_with (first | (go_at_call 149; refine (HK.out _ HG.out).mono ?_; rintro e w1 ⟨rfl, hb1⟩; (first | have hq1 := hz1 | have hq1 := True.intro); (first | have hq0 := hz0 | have hq0 := True.intro); obtain ⟨hcc, hff⟩ := bcell hb1; have hz1 := hb1.size; (try simp at hz1); (try have hy1 := Nat.lt_of_lt_of_le hq1 hz1); (try have hy0 := Nat.lt_of_lt_of_le hq0 hz1); (try replace hz1 := Nat.lt_of_succ_le hz1); (try have hz0 := Nat.lt_of_succ_lt hz1)))
  go_ret
  refine ⟨some ⟨w1.heap.size, 0, none⟩, 1, rfl, .inr ⟨_, rfl, ?_, ?_⟩, ?_⟩
  · simp
  · intro i hi
    have : i = 0 := by simp [rgL] at hi; omega
    subst this
    exact ⟨by simp only [rgL]; go_simp, by simp only [rgL]; go_simp, HB.out⟩
  · exact (by repeat (first | exact Below.refl _ _ | assumption | refine Below.alloc ?_ (by first | exact Nat.le_refl _ | (simp; done) | (simp; omega) | omega) _ | refine Below.drew ?_ | refine Below.setCell ?_ (by first | exact Nat.le_refl _ | (simp; done) | (simp; omega) | omega) _ | refine below_call ?_ (by assumption) (by first | exact Nat.le_refl _ | (simp; done) | (simp; omega) | omega)))
theorem name1_wants {g C : Nat} {c d : Int} {w : World} (hgl : 5 ≠ g) (hne2 : C ≠ g) (hc : 0 ≤ c) (hc2 : c ≤ 1099511627776) (hd : 0 ≤ d) (hd2 : d ≤ 9223372036854775807) (hG : Glob w)
    (k0 : w.cell? ⟨C, 0, none⟩ = some (.int .i64 c)) (k1 : w.cell? ⟨C, 1, none⟩ = some (.int .i64 d)) :
    Wants g 153 #[.pointer (some ⟨C, 0, none⟩)] w (rgL 1 1 c d) :=
  ⟨enters Tryd.func153 (by kernel_rfl) rfl, fun r => by simp [rgL], fun r r0 r1 W hW => name1_call C c d r W hc hc2 hd hd2 r0 r1 (hG.rd hgl hW) (hW.cell hne2 k0) (hW.cell hne2 k1)⟩

/-- k more bytes of a text; the sign at which it is began at b -/
def nmM (l : List Int) (lim : Int) : Nat → Int → Int → Except (Int × Int) Int
  | 0, _, q => .ok q
  | k + 1, b, q => match nextR l q lim with
    | .error s => .error s
    | .ok _ =>
      if (need ((l.drop b.toNat).take (q + 1 - b).toNat)).2 = true ∧ (need ((l.drop b.toNat).take (q + 1 - b).toNat)).1 ≤ (k : Int) then nmM l lim k (if (need ((l.drop b.toNat).take (q + 1 - b).toNat)).1 = 0 then q + 1 else b) (q + 1)
      else .error (q, 2)
def nameM (a b : Int) (l : List Int) (p lim : Int) : Except (Int × Int) (List Int × Int) :=
  match uM (rgL 1 1 a b) l lim 5 0 p with
  | .error s => .error s
  | .ok (n, p1) => match nmM l lim n.toNat p1 p1 with
    | .error s => .error s
    | .ok q => .ok ((l.drop p1.toNat).take (q - p1).toNat, q)
theorem uM_ge {rg : Int → List (Int × Int)} {l : List Int} {lim : Int} : ∀ (k : Nat) (v p v' p' : Int), 0 ≤ v → (∀ x ∈ l, 0 ≤ x) → uM rg l lim k v p = .ok (v', p') → p ≤ p' ∧ 0 ≤ v' ∧ (k ≠ 0 → ∃ x, nextR l p lim = .ok x) := by
  intro k
  induction k with
  | zero => intro v p v' p' hv hl h
            simp only [uM, Except.ok.injEq, Prod.mk.injEq] at h
            exact ⟨by omega, by omega, fun h => absurd rfl h⟩
  | succ k ih =>
    intro v p v' p' hv hl h
    rw [uM] at h
    rcases hx : nextR l p lim with s | x
    · rw [hx] at h; cases h
    · rw [hx] at h
      have hxm := (next_mem hx).1
      have hd : 0 ≤ v + x % 128 * 128 ^ (4 - k) := by
        have := hl x hxm
        have h1 : 0 ≤ x % 128 * 128 ^ (4 - k) := Int.mul_nonneg (by omega) (Int.le_of_lt (Int.pow_pos (by decide)))
        omega
      simp only at h
      refine ⟨?_, ?_, fun _ => ⟨x, rfl⟩⟩
      · split at h
        · split at h
          · have := (ih _ _ _ _ hd hl h).1; omega
          · cases h
        · split at h
          · simp only [Except.ok.injEq, Prod.mk.injEq] at h; omega
          · cases h
      · split at h
        · split at h
          · exact (ih _ _ _ _ hd hl h).2.1
          · cases h
        · split at h
          · simp only [Except.ok.injEq, Prod.mk.injEq] at h; omega
          · cases h
theorem nmM_step {l : List Int} {lim b q x : Int} {k : Nat} (hx : nextR l q lim = .ok x) (dv : Int) (db : Bool) (hd : need ((l.drop b.toNat).take (q + 1 - b).toNat) = (dv, db)) :
    nmM l lim (k + 1) b q = if db = true ∧ dv ≤ (k : Int) then nmM l lim k (if dv = 0 then q + 1 else b) (q + 1) else .error (q, 2) := by
  rw [nmM, hx]; simp only [hd]
theorem nmM_stop {l : List Int} {lim b q : Int} {k : Nat} {s : Int × Int} (hx : nextR l q lim = .error s) : nmM l lim (k + 1) b q = .error s := by rw [nmM, hx]
theorem uM_lt {rg : Int → List (Int × Int)} {l : List Int} {lim : Int} : ∀ (k : Nat) (v p v' p' : Int), k ≤ 4 → 0 ≤ v → v < 128 ^ (4 - k) → (∀ x ∈ l, 0 ≤ x) → uM rg l lim (k + 1) v p = .ok (v', p') → v' < 4294967296 := by
  intro k
  induction k with
  | zero =>
    intro v p v' p' hk hv hv2 hl h
    rw [uM] at h
    rcases hx : nextR l p lim with s | x
    · rw [hx] at h; cases h
    · rw [hx] at h
      have hx0 := hl x (next_mem hx).1
      simp only at h
      split at h
      · split at h
        · rename_i q; exact absurd rfl q.1
        · cases h
      · split at h
        · rename_i q
          simp only [Except.ok.injEq, Prod.mk.injEq] at h
          rw [← h.1]
          exact digit_32 (by omega) hv hv2 hx0 (.inr (q.1.resolve_left (fun z => z rfl)))
        · cases h
  | succ k ih =>
    intro v p v' p' hk hv hv2 hl h
    rw [uM] at h
    rcases hx : nextR l p lim with s | x
    · rw [hx] at h; cases h
    · rw [hx] at h
      have hx0 := hl x (next_mem hx).1
      have hd := digit_bd hk hv hv2 hx0
      simp only at h
      split at h
      · split at h
        · exact ih _ _ _ _ (by omega) hd.1 (by rw [show 4 - k = 5 - (k + 1) by omega]; exact hd.2.1) hl h
        · cases h
      · split at h
        · simp only [Except.ok.injEq, Prod.mk.injEq] at h
          rw [← h.1]
          exact digit_32 hk hv hv2 hx0 (.inl (by omega))
        · cases h

theorem ns_str {l : List Int} (h : ∀ x ∈ l, 0 ≤ x ∧ x < 256) : ns (strOfNums l) = l := by
  simp only [ns, strOfNums, List.map_map]
  conv => rhs; rw [← List.map_id l]
  apply List.map_congr_left
  intro x hx
  have := h x hx
  simp only [Function.comp_apply, id]
  rw [UInt8.toNat_ofNat']
  omega
theorem str_len (l : List Int) : (strOfNums l).size = l.length := by simp [strOfNums, ByteArray.size]
theorem CB.cells {g c : Nat} {ad : Addr} {l : List Int} {p lim : Int} {w : World} (h : CB g (some ad) c l p lim w) : ∀ (j : Nat) (x : Int), l[j]? = some x → w.cell? (ad.add j) = some (.int .u8 x) := by
  rcases h.at_ with q | ⟨ad', e, q⟩
  · intro j x hj; rw [q] at hj; simp at hj
  · cases e; exact q
theorem need_str {l : List Int} (h : ∀ x ∈ l, 0 ≤ x ∧ x < 256) (hl : l.length ≤ 1000000000) (b n : Nat) (w : World) :
    Calls Tryd.prog 134 #[.string (strOfNums ((l.drop b).take n))] w (fun e w' => e = .returned (.tuple #[.int .i64 (need ((l.drop b).take n)).1, .bool (need ((l.drop b).take n)).2]) ∧ w = w') := by
  have := need_walk (strOfNums ((l.drop b).take n)) w (by rw [str_len]; simp only [List.length_take, List.length_drop]; omega)
  rwa [ns_str (fun x hx => h x (List.mem_of_mem_drop (List.mem_of_mem_take hx)))] at this

set_option maxRecDepth 100000 in
set_option maxHeartbeats 8000000 in
theorem name_walk (g : Nat) (A : Option Addr) (c : Nat) (l : List Int) (p lim : Int) (w : World) (a b : Int) (h : CB g A c l p lim w) (hcap : l.length ≤ c) (hG : Glob w) (hgl : 5 ≠ g) (a0 : 0 ≤ a) (a1 : a ≤ 1099511627776) (b0 : 0 ≤ b) (b1 : b ≤ 9223372036854775807) :
    Calls Tryd.prog 112 #[.pointer (some ⟨g, 0, none⟩), .agg #[.int .i64 a, .int .i64 b]] w (Post g A c l lim w (sRes (nameM a b l p lim))) := by
  have HU := hid (fun W (hC : CB g A c l p lim W) (hW : Rd g w W) C (hne : C ≠ g) (k0 : W.cell? ⟨C, 0, none⟩ = some (.int .i64 a)) (k1 : W.cell? ⟨C, 1, none⟩ = some (.int .i64 b)) => uint_walk g A c l p lim W 153 #[.pointer (some ⟨C, 0, none⟩)] _ hC (name1_wants hgl hne a0 a1 b0 b1 (hG.rd hgl hW) k0 k1))
  have HC := hid h
  have hlt := h.cu.lt
  have hmf : ∀ (fn : Fn) (first cap : Array Value) (w : World), (Instr.makeFunc fn first cap).run Tryd.prog w = .ok (.func fn first cap) w := fun _ _ _ _ => rfl
  have hb8 := hid h.b8
  have hl := h.hl
  rcases hu : uM (rgL 1 1 a b) l lim 5 0 p with s | ⟨n, p1⟩
  · have HE := hid (show nameM a b l p lim = .error s by rw [nameM, hu])
    rw [hu] at HU
    clear hu h hG
    go_enter Tryd.func112, Tryd.ntmps112
    go_wp2_with (first | (go_at_call 107; go_loud ((with_reducible refine (HU.out _ (HC.out.below (by repeat (first | exact Below.refl _ _ | assumption | refine Below.alloc ?_ (by first | exact Nat.le_refl _ | (simp; done) | (simp; omega) | omega) _ | refine Below.drew ?_ | refine Below.setCell ?_ (by first | exact Nat.le_refl _ | (simp; done) | (simp; omega) | omega) _ | refine below_call ?_ (by assumption) (by first | exact Nat.le_refl _ | (simp; done) | (simp; omega) | omega)))) (grown_of_below (by repeat (first | exact Below.refl _ _ | assumption | refine Below.alloc ?_ (by first | exact Nat.le_refl _ | (simp; done) | (simp; omega) | omega) _ | refine Below.drew ?_ | refine Below.setCell ?_ (by first | exact Nat.le_refl _ | (simp; done) | (simp; omega) | omega) _ | refine below_call ?_ (by assumption) (by first | exact Nat.le_refl _ | (simp; done) | (simp; omega) | omega))) _) _ (by omega) (by go_simp) (by go_simp)).mono ?_); rintro e w2 ⟨rfl, HG2⟩)))
    refine ⟨rfl, ?_⟩
    show Post g A c l lim w (sRes (nameM a b l p lim)) _ _
    rw [HE.out]
    exact ⟨rfl, (grown_of_below (by repeat (first | exact Below.refl _ _ | assumption | refine Below.alloc ?_ (by first | exact Nat.le_refl _ | (simp; done) | (simp; omega) | omega) _ | refine Below.drew ?_ | refine Below.setCell ?_ (by first | exact Nat.le_refl _ | (simp; done) | (simp; omega) | omega) _ | refine below_call ?_ (by assumption) (by first | exact Nat.le_refl _ | (simp; done) | (simp; omega) | omega))) _).trans HG2⟩
  · have hl0 : ∀ x ∈ l, 0 ≤ x := fun x hx => (hb8.out x hx).1
    obtain ⟨g1, n0, hx⟩ := uM_ge 5 0 p n p1 (by decide) hl0 hu
    have n1 := uM_lt 4 0 p n p1 (by decide) (by decide) (by decide) hl0 hu
    obtain ⟨ad, rfl, hat⟩ : ∃ ad, A = some ad ∧ ∀ (j : Nat) (x : Int), l[j]? = some x → w.cell? (ad.add j) = some (.int .u8 x) := by
      rcases h.at_ with q | q
      · obtain ⟨x, hx⟩ := hx (by decide)
        rw [q] at hx; exact absurd (next_mem hx).1 (by simp)
      · exact q
    have HE := hid (show nameM a b l p lim = match nmM l lim n.toNat p1 p1 with | .error s => .error s | .ok q => .ok ((l.drop p1.toNat).take (q - p1).toNat, q) by rw [nameM, hu])
    rw [hu] at HU
    have hwn : IntKind.i64.wrap n = n := by rw [IntKind.wrap_i64]; omega
    clear hu h hG hx hl0
    have p0 := HC.out.p0
    go_enter Tryd.func112, Tryd.ntmps112
    go_wp2_with (first | (go_at_call 107; go_loud ((with_reducible refine (HU.out _ (HC.out.below (by repeat (first | exact Below.refl _ _ | assumption | refine Below.alloc ?_ (by first | exact Nat.le_refl _ | (simp; done) | (simp; omega) | omega) _ | refine Below.drew ?_ | refine Below.setCell ?_ (by first | exact Nat.le_refl _ | (simp; done) | (simp; omega) | omega) _ | refine below_call ?_ (by assumption) (by first | exact Nat.le_refl _ | (simp; done) | (simp; omega) | omega)))) (grown_of_below (by repeat (first | exact Below.refl _ _ | assumption | refine Below.alloc ?_ (by first | exact Nat.le_refl _ | (simp; done) | (simp; omega) | omega) _ | refine Below.drew ?_ | refine Below.setCell ?_ (by first | exact Nat.le_refl _ | (simp; done) | (simp; omega) | omega) _ | refine below_call ?_ (by assumption) (by first | exact Nat.le_refl _ | (simp; done) | (simp; omega) | omega))) _) _ (by omega) (by go_simp) (by go_simp)).mono ?_); rintro e w2 ⟨rfl, HC2, HG2⟩; have HC2 := hid HC2; obtain ⟨c0, c1, c2, f1, f2⟩ := HC2.out.cu)))
    have HR2 := hid ((grown_of_below (by repeat (first | exact Below.refl _ _ | assumption | refine Below.alloc ?_ (by first | exact Nat.le_refl _ | (simp; done) | (simp; omega) | omega) _ | refine Below.drew ?_ | refine Below.setCell ?_ (by first | exact Nat.le_refl _ | (simp; done) | (simp; omega) | omega) _ | refine below_call ?_ (by assumption) (by first | exact Nat.le_refl _ | (simp; done) | (simp; omega) | omega))) _).trans HG2 : Rd g w w2)
    have q1 := HC2.out.p1
    have q0 := HC2.out.p0
    clear HU c0 c1 c2 f1 f2 HG2
    go_loopw [7, 8] (fun v7 v8 wr => ∃ (k : Nat) (bg q : Int), v8 = .int .i64 ((k : Int) - 1) ∧ v7 = .int .i64 bg ∧ (k : Int) ≤ n ∧ p1 ≤ bg ∧ bg ≤ q ∧ Hid (q = p1 + (n - k)) ∧ Hid (nmM l lim n.toNat p1 p1 = nmM l lim k bg q) ∧ Hid (CB g (some ad) c l q lim wr) ∧ Hid (Rd g w wr)) (fun _ v8 _ => (intOf v8 + 1).toNat)
    case atStart => exact ⟨n.toNat, p1, p1, by rw [Int.toNat_of_nonneg n0], rfl, by omega, by omega, by omega, hid (by omega), hid rfl, HC2, HR2⟩
    case round =>
      obtain ⟨k, bg, q, rfl, rfl, hk, hb1, hb2, hq, HN, HCr, HR⟩ := hrel
      have hqp := HCr.out.p1
      rcases k with _ | k
      · have hqe : q = p1 + n := by have := hq.out; omega
        have e0 : (((0 : Nat) : Int) - 1) = -1 := rfl
        rw [e0]
        have HF := hid (HN.out.trans (show nmM l lim 0 bg q = .ok q from rfl))
        have c0 := HCr.out.cu.c0
        have c1 := HCr.out.cu.c1
        have HQ := hid hqe
        have HCV := hid (fun (d : Nat) => show (convert 70 9 (.slice (if c = p1.toNat then some ad else some (ad.add p1.toNat)) (q - p1).toNat (c - p1.toNat))).run Tryd.prog (wr.drewN d) = .ok (.string (strOfNums ((l.drop p1.toNat).take (q - p1).toNat))) (wr.drewN d) from by
          by_cases e : c = p1.toNat
          · rw [if_pos e, show (q - p1).toNat = 0 by omega, List.take_zero]
            exact conv_cells (l := []) (fun j x h => by simp at h) _
          · rw [if_neg e]
            exact conv_sub (HCr.out.below (below_drewN _ _)).cells p1.toNat (q - p1).toNat (c - p1.toNat) (by omega))
        have HAX : ∃ AX, AX = (if c = p1.toNat then some ad else some (ad.add p1.toNat)) := ⟨_, rfl⟩
        obtain ⟨AX, hAX⟩ := HAX
        rw [← hAX] at HCV
        have HAX := hid hAX
        clear hqe hAX
        go_upto_region 12 with (fail)
        refine wp_region_quiet_lit (by kernel_rfl) (by kernel_rfl) ?_
        iterate 9 (quiet_step (fail))
        refine wpQuiet_step (fun K hK => ?_)
        go_simp
        refine ⟨.slice AX (q - p1).toNat (c - p1.toNat), fun a => ?_, hK _ ?_⟩
        · rw [if_pos (show 0 ≤ q ∧ q ≤ c by omega), if_pos (show p1 ≤ max q 0 by omega), show q.toNat - p1.toNat = (q - p1).toNat by omega, HAX.out]
          exact ⟨rfl, rfl⟩
        clear hK K
        refine wpQuiet_step (fun K hK => ?_)
        go_simp
        refine ⟨.string (strOfNums ((l.drop p1.toNat).take (q - p1).toNat)), fun a => ?_, hK _ ?_⟩
        · rw [HCV.out a]
          exact ⟨rfl, rfl⟩
        clear hK K
        quiet_step (fail)
        refine wpQuiet_nil ?_
        intro _ hw'
        obtain ⟨nq2, hw''⟩ := hw'
        subst hw''
        go_wp2_with fail
        go_ret
        show Post g (some ad) c l lim w (sRes (nameM a b l p lim)) _ _
        rw [HE.out, HF.out]
        exact ⟨rfl, HCr.out.below (below_drewN _ _), HR.out.trans (grown_of_below (below_drewN _ _) _)⟩
      have e8 : ((k + 1 : Nat) : Int) - 1 = (k : Int) := by omega
      rw [e8]
      have HX := hid (next_walk g (some ad) c l q lim wr HCr.out)
      rcases hx : nextR l q lim with s | x
      · have HF := hid (HN.out.trans (nmM_stop hx))
        rw [show nextV l q lim = .error s by rw [nextV, hx]] at HX
        clear hx
        go_wp2_with (first | (go_at_call 141; refine HX.out.mono ?_; rintro e w1 ⟨rfl, HG⟩))
        refine ⟨rfl, ?_⟩
        show Post g (some ad) c l lim w (sRes (nameM a b l p lim)) _ _
        rw [HE.out, HF.out]
        exact ⟨rfl, HR.out.trans HG⟩
      · rw [show nextV l q lim = .ok (.int .u8 x, q + 1) by rw [nextV, hx]] at HX
        rcases hd : need ((l.drop bg.toNat).take (q + 1 - bg).toNat) with ⟨dv, db⟩
        have HF := hid (HN.out.trans (nmM_step hx dv db hd))
        have HD := hid hd
        clear hx hd
        go_upto_region 8 with (first | (go_at_call 141; refine HX.out.mono ?_; rintro e w1 ⟨rfl, HC1, HG⟩; have HC1 := hid HC1))
        have HC1c := hid HC1.out.cells
        have HCV := hid (fun (W : World) (hb : Below w1.heap.size w1 W) => conv_sub (w := W) (HC1.out.below hb).cells bg.toNat (q + 1 - bg).toNat (c - bg.toNat) (by have := HC1.out.p1; omega))
        have hq1 := HC1.out.p1
        obtain ⟨c0, c1, c2, f1, f2⟩ := HC1.out.cu
        have S0 : w1.cell? ⟨g, 0, none⟩ = some (.slice (some ad) l.length c) ∧ w1.cell? ⟨g, 1, none⟩ = some (.int .i64 (q + 1)) ∧ w1.cell? ⟨g, 2, none⟩ = some (.int .i64 lim) ∧ Below w1.heap.size w1 w1 ∧ w1.heap.size ≤ w1.heap.size := ⟨c0, c1, c2, Below.refl _ _, Nat.le_refl _⟩
        clear c0 c1 c2
        refine wp_region_noPanic ?_
        refine wp_region_held_drew (S := (fun W => W.cell? ⟨g, 0, none⟩ = some (.slice (some ad) l.length c) ∧ W.cell? ⟨g, 1, none⟩ = some (.int .i64 (q + 1)) ∧ W.cell? ⟨g, 2, none⟩ = some (.int .i64 lim) ∧ Below w1.heap.size w1 W ∧ w1.heap.size ≤ W.heap.size)) (by kernel_rfl) ?hSa1 (fun hHeld => ?goa1)
        case hSa1 => first | exact hHeld | exact keepN hHeld (by assumption) | exact keepN hHeld (below_drewN _ _) | exact keepN S0 (below_drewN w1 _) | exact keepN S0 (Below.drew (Below.refl _ _))
        refine wpAnyH_take (i := 0) (oi := { dst := some 29, op := Go.Op.move (Go.Operand.tmp 0), type := 81, pos := "cursor.go:190", after := #[], guard := none }) (v := ?_) rfl (by kernel_rfl) (by kernel_rfl) (by kernel_rfl) (fun _ _ _ h => h) (Or.inl ⟨by rfl, ?hya2⟩) (by assumption) ?resta2
        case hya2 => (intro w hSw; (try dsimp only at hSw); go_simp; first | (with_reducible rfl) | (rw [if_neg (by omega)]) | skip)
        simp only [Act.put, List.setIfInBounds_toArray, List.set_cons_zero, List.set_cons_succ]
        refine wpAnyH_take (i := 1) (oi := { dst := some 30, op := Go.Op.nilCheck (Go.Operand.tmp 29), type := 0, pos := "cursor.go:190", after := #[{ on := 0, ground := Go.Ground.data }], guard := none }) (v := ?_) rfl (by kernel_rfl) (by kernel_rfl) (by kernel_rfl) (fun _ _ _ h => h) (Or.inl ⟨by rfl, ?hya3⟩) (by assumption) ?resta3
        case hya3 => (intro w hSw; (try dsimp only at hSw); go_simp; first | (with_reducible rfl) | (rw [if_neg (by omega)]) | skip)
        simp only [Act.put, List.setIfInBounds_toArray, List.set_cons_zero, List.set_cons_succ]
        refine wpAnyH_take (i := 2) (oi := { dst := some 31, op := Go.Op.fieldAddr 136 (Go.Operand.tmp 30) 0, type := 0, pos := "cursor.go:190", after := #[{ on := 1, ground := Go.Ground.data }], guard := none }) (v := ?_) rfl (by kernel_rfl) (by kernel_rfl) (by kernel_rfl) (fun _ _ _ h => h) (Or.inl ⟨by rfl, ?hya4⟩) (by assumption) ?resta4
        case hya4 => (intro w hSw; (try dsimp only at hSw); go_simp; first | (with_reducible rfl) | (rw [if_neg (by omega)]) | skip)
        simp only [Act.put, List.setIfInBounds_toArray, List.set_cons_zero, List.set_cons_succ]
        refine wpAnyH_take (i := 3) (oi := { dst := some 32, op := Go.Op.load 70 (Go.Operand.tmp 31), type := 70, pos := "cursor.go:190", after := #[{ on := 2, ground := Go.Ground.data }], guard := none }) (v := ?_) rfl (by kernel_rfl) (by kernel_rfl) (by kernel_rfl) (fun _ _ _ h => h) (Or.inl ⟨by rfl, ?hya5⟩) (by assumption) ?resta5
        case hya5 => (intro w hSw; (try dsimp only at hSw); go_simp; first | (with_reducible rfl) | (rw [if_neg (by omega)]) | skip)
        simp only [Act.put, List.setIfInBounds_toArray, List.set_cons_zero, List.set_cons_succ]
        refine wpAnyH_take (i := 4) (oi := { dst := some 33, op := Go.Op.move (Go.Operand.tmp 7), type := 3, pos := "cursor.go:190", after := #[], guard := none }) (v := ?_) rfl (by kernel_rfl) (by kernel_rfl) (by kernel_rfl) (fun _ _ _ h => h) (Or.inl ⟨by rfl, ?hya6⟩) (by assumption) ?resta6
        case hya6 => (intro w hSw; (try dsimp only at hSw); go_simp; first | (with_reducible rfl) | (rw [if_neg (by omega)]) | skip)
        simp only [Act.put, List.setIfInBounds_toArray, List.set_cons_zero, List.set_cons_succ]
        refine wpAnyH_take (i := 5) (oi := { dst := some 34, op := Go.Op.move (Go.Operand.tmp 0), type := 81, pos := "cursor.go:190", after := #[], guard := none }) (v := ?_) rfl (by kernel_rfl) (by kernel_rfl) (by kernel_rfl) (fun _ _ _ h => h) (Or.inl ⟨by rfl, ?hya7⟩) (by assumption) ?resta7
        case hya7 => (intro w hSw; (try dsimp only at hSw); go_simp; first | (with_reducible rfl) | (rw [if_neg (by omega)]) | skip)
        simp only [Act.put, List.setIfInBounds_toArray, List.set_cons_zero, List.set_cons_succ]
        refine wpAnyH_take (i := 6) (oi := { dst := some 35, op := Go.Op.nilCheck (Go.Operand.tmp 34), type := 0, pos := "cursor.go:190", after := #[{ on := 5, ground := Go.Ground.data }], guard := none }) (v := ?_) rfl (by kernel_rfl) (by kernel_rfl) (by kernel_rfl) (fun _ _ _ h => h) (Or.inl ⟨by rfl, ?hya8⟩) (by assumption) ?resta8
        case hya8 => (intro w hSw; (try dsimp only at hSw); go_simp; first | (with_reducible rfl) | (rw [if_neg (by omega)]) | skip)
        simp only [Act.put, List.setIfInBounds_toArray, List.set_cons_zero, List.set_cons_succ]
        refine wpAnyH_take (i := 7) (oi := { dst := some 36, op := Go.Op.fieldAddr 136 (Go.Operand.tmp 35) 1, type := 0, pos := "cursor.go:190", after := #[{ on := 6, ground := Go.Ground.data }], guard := none }) (v := ?_) rfl (by kernel_rfl) (by kernel_rfl) (by kernel_rfl) (fun _ _ _ h => h) (Or.inl ⟨by rfl, ?hya9⟩) (by assumption) ?resta9
        case hya9 => (intro w hSw; (try dsimp only at hSw); go_simp; first | (with_reducible rfl) | (rw [if_neg (by omega)]) | skip)
        simp only [Act.put, List.setIfInBounds_toArray, List.set_cons_zero, List.set_cons_succ]
        refine wpAnyH_take (i := 8) (oi := { dst := some 37, op := Go.Op.load 3 (Go.Operand.tmp 36), type := 3, pos := "cursor.go:190", after := #[{ on := 7, ground := Go.Ground.data }], guard := none }) (v := ?_) rfl (by kernel_rfl) (by kernel_rfl) (by kernel_rfl) (fun _ _ _ h => h) (Or.inl ⟨by rfl, ?hya10⟩) (by assumption) ?resta10
        case hya10 => (intro w hSw; (try dsimp only at hSw); go_simp; first | (with_reducible rfl) | (rw [if_neg (by omega)]) | skip)
        simp only [Act.put, List.setIfInBounds_toArray, List.set_cons_zero, List.set_cons_succ]
        refine wpAnyH_take (i := 9) (oi := { dst := some 38, op := Go.Op.slice 70 (Go.Operand.tmp 32) (some (Go.Operand.tmp 33)) (some (Go.Operand.tmp 37)) none, type := 70, pos := "cursor.go:190", after := #[{ on := 3, ground := Go.Ground.data }, { on := 4, ground := Go.Ground.data }, { on := 8, ground := Go.Ground.data }], guard := none }) (v := .slice (some (ad.add bg.toNat)) (q + 1 - bg).toNat (c - bg.toNat)) rfl (by kernel_rfl) (by kernel_rfl) (by kernel_rfl) (fun _ _ _ h => h) (Or.inl ⟨by rfl, ?hya11⟩) (by assumption) ?resta11
        case hya11 => (intro w hSw; (try dsimp only at hSw); go_simp; rw [if_pos (show 0 ≤ q + 1 ∧ q + 1 ≤ c by omega), if_pos (show 0 ≤ bg ∧ bg ≤ max (q + 1) 0 by omega), if_neg (show ¬ c = bg.toNat by omega), show (q + 1).toNat - bg.toNat = (q + 1 - bg).toNat by omega])
        simp only [Act.put, List.setIfInBounds_toArray, List.set_cons_zero, List.set_cons_succ]
        refine wpAnyH_take (i := 10) (oi := { dst := some 39, op := Go.Op.convert 70 9 (Go.Operand.tmp 38), type := 9, pos := "cursor.go:190", after := #[{ on := 9, ground := Go.Ground.data }], guard := none }) (v := .string (strOfNums ((l.drop bg.toNat).take (q + 1 - bg).toNat))) rfl (by kernel_rfl) (by kernel_rfl) (by kernel_rfl) (fun _ _ _ h => h) (Or.inl ⟨by rfl, ?hya12⟩) (by assumption) ?resta12
        case hya12 => (intro w hSw; (try dsimp only at hSw); go_simp; rw [HCV.out _ hSw.2.2.2.1]; rfl)
        simp only [Act.put, List.setIfInBounds_toArray, List.set_cons_zero, List.set_cons_succ]
        refine wpAnyH_ready (rs := [11]) (by kernel_rfl) (by simp) ?_
        refine AllReadyH.cons (o := { dst := some 40, op := Go.Op.call { callee := Go.Callee.value (Go.Operand.func 134), args := #[Go.Operand.tmp 39], argTypes := #[9] }, type := 167, pos := "cursor.go:190", after := #[{ on := 10, ground := Go.Ground.data }], guard := none }) rfl (fun K hK => ?_) AllReadyH.nil
        go_simp
        go_at_call 134; (with_reducible refine (need_str hb8.out hl _ _ _).mono ?_); rintro e wx ⟨rfl, rfl⟩; rw [HD.out]
        refine hK.out _ _ ?_ (fun hHeld => ?_)
        · (try dsimp only); first | exact hHeld | exact keepN hHeld (by assumption) | exact keepN hHeld (below_drewN _ _) | exact keepN S0 (below_drewN w1 _) | exact keepN S0 (Below.drew (Below.refl _ _))
        clear hK K
        try simp only [Act.put, List.setIfInBounds_toArray, List.set_cons_zero, List.set_cons_succ]
        refine wpAnyH_take (i := 12) (oi := { dst := some 28, op := Go.Op.move (Go.Operand.tmp 40), type := 167, pos := "cursor.go:190", after := #[{ on := 11, ground := Go.Ground.data }], guard := none }) (v := ?_) rfl (by kernel_rfl) (by kernel_rfl) (by kernel_rfl) (fun _ _ _ h => h) (Or.inl ⟨by rfl, ?hya13⟩) (by assumption) ?resta13
        case hya13 => (intro w hSw; (try dsimp only at hSw); go_simp; first | (with_reducible rfl) | (rw [if_neg (by omega)]) | skip)
        simp only [Act.put, List.setIfInBounds_toArray, List.set_cons_zero, List.set_cons_succ]
        refine wpAnyH_take (i := 13) (oi := { dst := some 41, op := Go.Op.extract (Go.Operand.tmp 28) 0, type := 3, pos := "cursor.go:190", after := #[{ on := 12, ground := Go.Ground.data }], guard := none }) (v := ?_) rfl (by kernel_rfl) (by kernel_rfl) (by kernel_rfl) (fun _ _ _ h => h) (Or.inl ⟨by rfl, ?hya14⟩) (by assumption) ?resta14
        case hya14 => (intro w hSw; (try dsimp only at hSw); go_simp; first | (with_reducible rfl) | (rw [if_neg (by omega)]) | skip)
        simp only [Act.put, List.setIfInBounds_toArray, List.set_cons_zero, List.set_cons_succ]
        refine wpAnyH_take (i := 14) (oi := { dst := some 42, op := Go.Op.extract (Go.Operand.tmp 28) 1, type := 4, pos := "cursor.go:190", after := #[{ on := 12, ground := Go.Ground.data }, { on := 15, ground := Go.Ground.gcOnly Go.Departure.lateStores }], guard := none }) (v := ?_) rfl (by kernel_rfl) (by kernel_rfl) (by kernel_rfl) (fun _ _ _ h => h) (Or.inl ⟨by rfl, ?hya15⟩) (by assumption) ?resta15
        case hya15 => (intro w hSw; (try dsimp only at hSw); go_simp; first | (with_reducible rfl) | (rw [if_neg (by omega)]) | skip)
        simp only [Act.put, List.setIfInBounds_toArray, List.set_cons_zero, List.set_cons_succ]
        refine wpAnyH_take (i := 15) (oi := { dst := some 9, op := Go.Op.assign (Go.Operand.tmp 41), type := 3, pos := "cursor.go:190", after := #[{ on := 13, ground := Go.Ground.data }, { on := 11, ground := Go.Ground.chain }, { on := 0, ground := Go.Ground.phase }, { on := 1, ground := Go.Ground.phase }, { on := 2, ground := Go.Ground.phase }, { on := 3, ground := Go.Ground.phase }, { on := 4, ground := Go.Ground.phase }, { on := 5, ground := Go.Ground.phase }, { on := 6, ground := Go.Ground.phase }, { on := 7, ground := Go.Ground.phase }, { on := 8, ground := Go.Ground.phase }, { on := 9, ground := Go.Ground.phase }, { on := 10, ground := Go.Ground.phase }, { on := 11, ground := Go.Ground.phase }, { on := 12, ground := Go.Ground.phase }, { on := 13, ground := Go.Ground.phase }, { on := 14, ground := Go.Ground.textOnly Go.Departure.lateStores }], guard := none }) (v := ?_) rfl (by kernel_rfl) (by kernel_rfl) (by kernel_rfl) (fun _ _ _ h => h) (Or.inl ⟨by rfl, ?hya16⟩) (by assumption) ?resta16
        case hya16 => (intro w hSw; (try dsimp only at hSw); go_simp; first | (with_reducible rfl) | (rw [if_neg (by omega)]) | skip)
        simp only [Act.put, List.setIfInBounds_toArray, List.set_cons_zero, List.set_cons_succ]
        refine wpAnyH_take (i := 16) (oi := { dst := some 10, op := Go.Op.assign (Go.Operand.tmp 42), type := 4, pos := "cursor.go:190", after := #[{ on := 14, ground := Go.Ground.data }, { on := 15, ground := Go.Ground.chain }, { on := 0, ground := Go.Ground.phase }, { on := 1, ground := Go.Ground.phase }, { on := 2, ground := Go.Ground.phase }, { on := 3, ground := Go.Ground.phase }, { on := 4, ground := Go.Ground.phase }, { on := 5, ground := Go.Ground.phase }, { on := 6, ground := Go.Ground.phase }, { on := 7, ground := Go.Ground.phase }, { on := 8, ground := Go.Ground.phase }, { on := 9, ground := Go.Ground.phase }, { on := 10, ground := Go.Ground.phase }, { on := 11, ground := Go.Ground.phase }, { on := 12, ground := Go.Ground.phase }, { on := 13, ground := Go.Ground.phase }, { on := 14, ground := Go.Ground.phase }, { on := 15, ground := Go.Ground.phase }], guard := none }) (v := ?_) rfl (by kernel_rfl) (by kernel_rfl) (by kernel_rfl) (fun _ _ _ h => h) (Or.inl ⟨by rfl, ?hya17⟩) (by assumption) ?resta17
        case hya17 => (intro w hSw; (try dsimp only at hSw); go_simp; first | (with_reducible rfl) | (rw [if_neg (by omega)]) | skip)
        simp only [Act.put, List.setIfInBounds_toArray, List.set_cons_zero, List.set_cons_succ]
        refine wpAnyH_done (by kernel_rfl) ?_ _
        refine NoPanic.normal ?_
        skip
        obtain ⟨c0, c1, c2, hb3, hz3⟩ := hHeld
        have hwq : IntKind.i64.wrap q = q := by rw [IntKind.wrap_i64]; omega
        have HCn := hid (HC1.out.below hb3)
        have HRn := hid (HR.out.trans (HG.trans (grown_of_below hb3 _)))
        rcases db with _ | _
        · have HF2 := hid (HF.out.trans (by rw [if_neg (by simp)]))
          clear HF HD
          go_wp2_with (first | ((try rw [hwq]); go_at_call 92; refine (need_no q _).mono ?_; rintro e w3 ⟨rfl, rfl⟩))
          refine ⟨rfl, ?_⟩
          show Post g (some ad) c l lim w (sRes (nameM a b l p lim)) _ _
          rw [HE.out, HF2.out]
          exact ⟨rfl, HRn.out⟩
        · by_cases hle : dv ≤ (k : Int)
          · have HF2 := hid (HF.out.trans (by rw [if_pos ⟨rfl, hle⟩]))
            clear HF HD
            by_cases h0 : dv = 0
            · have HF3 := hid (HF2.out.trans (by rw [if_pos h0]))
              clear HF2
              go_wp2_with (first | ((try rw [hwq]); go_at_call 92; refine (need_yes q _).mono ?_; rintro e w3 ⟨rfl, rfl⟩))
              go_roundw
              case rel => exact ⟨k, q + 1, q + 1, by go_num, rfl, by omega, by omega, by omega, hid (by have := hq.out; omega), HF3, HCn, HRn⟩
              case measure => simp [intOf]
            · have HF3 := hid (HF2.out.trans (by rw [if_neg h0]))
              clear HF2
              go_wp2_with (first | ((try rw [hwq]); go_at_call 92; refine (need_yes q _).mono ?_; rintro e w3 ⟨rfl, rfl⟩))
              go_roundw
              case rel => exact ⟨k, bg, q + 1, by go_num, rfl, by omega, by omega, by omega, hid (by have := hq.out; omega), HF3, HCn, HRn⟩
              case measure => simp [intOf]
          · have HF2 := hid (HF.out.trans (by rw [if_neg (fun z => hle z.2)]))
            clear HF HD
            go_wp2_with (first | ((try rw [hwq]); go_at_call 92; refine (need_no q _).mono ?_; rintro e w3 ⟨rfl, rfl⟩))
            refine ⟨rfl, ?_⟩
            show Post g (some ad) c l lim w (sRes (nameM a b l p lim)) _ _
            rw [HE.out, HF2.out]
            exact ⟨rfl, HRn.out⟩
end Go.Proofs.YtiohiiekaofkbaaDoor
