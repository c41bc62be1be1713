/- Texts of this claim, as far as they are used here: J2, J3, J4, J5, J6, J7. -/
import Derived.Test.YtiohiiekaofkbaaGreatDoorZ07
import Derived.Laws.IdiomStrings
/- The readers of a name, of a function's locals; which rows, which sizes may come. -/
namespace Go.Proofs.YtiohiiekaofkbaaGreatDoor
set_option linter.unusedVariables false
set_option linter.unusedSimpArgs false
open Go.RowKit Go.Proofs.YtiohiiekaofkbaaGreatDoor.PNamesReads Go.Proofs.YtiohiiekaofkbaaGreatDoorW.PrintWords
def rdN (l : List Int) (lim ix a b p : Int) : Except (Int × Int) (S149 × Int) := match nameM a b l p lim with | .error s => .error s | .ok (s, p') => .ok (⟨ix, strOfNums s⟩, p')
def rdL (l : List Int) (lim ix a b p : Int) : Except (Int × Int) (S90 × Int) := match liM (rdN l lim) a b l p lim with | .error s => .error s | .ok (ns, p') => .ok (⟨ix, ns⟩, p')
theorem rd_frozen {g B i : Nat} {w W : World} (h : Rd g w W) (hne : B ≠ g) (hlt : B < w.heap.size) (hf : w.frozen? ⟨B, i, none⟩ = false) : W.frozen? ⟨B, i, none⟩ = false := by
  rw [World.frozen?_of_block (a := ⟨B, i, none⟩) (h.block B hlt (fun e => hne (Option.some.inj e)))]; exact hf
theorem nname_any (g : Nat) (w : World) : Calls Tryz.prog 47 #[.pointer (some ⟨g, 0, none⟩)] w (fun e w' => e = .returned (.func (.func 72) #[] #[.pointer (some ⟨w.heap.size, 0, none⟩)]) ∧ w'.cell? ⟨w.heap.size, 0, none⟩ = some (.pointer (some ⟨g, 0, none⟩)) ∧ Below w.heap.size w w') := by
  have hmf : ∀ (fn : Fn) (first cap : Array Value) (w : World), (Instr.makeFunc fn first cap).run Tryz.prog w = .ok (.func fn first cap) w := fun _ _ _ _ => rfl
  go_enter Tryz.func47, Tryz.ntmps47
  go_wp2
  go_ret
  exact ⟨rfl, by go_simp, bel⟩
set_option maxHeartbeats 2000000 in
theorem nname1_call (g C : Nat) (A : Option Addr) (c : Nat) (l : List Int) (lim ix a b p : Int) (W : World) (h : CB g A c l p lim W) (hcap : l.length ≤ c) (hG : GlobH g W) (hC : C ≠ g) (cC : W.cell? ⟨C, 0, none⟩ = some (.pointer (some ⟨g, 0, none⟩))) (a0 : 0 ≤ a) (a1 : a ≤ 1099511627776) (b0 : 0 ≤ b) (b1 : b ≤ 9223372036854775807) :
    Calls Tryz.prog 72 #[.int .u32 ix, .agg #[.int .i64 a, .int .i64 b], .pointer (some ⟨C, 0, none⟩)] W (PostIt k149 (fun x : S149 => x.f0) g A c l lim W (rdN l lim ix a b p)) := by
  have HNM := hid (fun V (hV : Below W.heap.size W V) => name_walk g A c l p lim V a b (h.below hV) hcap (hG.gl.of hV) hG.h0 a0 a1 b0 b1)
  have hlt := h.cu.lt
  have hCl := cell_lt cC
  have HC := hid h
  clear h hG
  rcases hn : nameM a b l p lim with s | ⟨s, p'⟩
  · have HE := hid (show rdN l lim ix a b p = .error s by rw [rdN, hn])
    rw [hn] at HNM
    clear hn
    go_enter Tryz.func72, Tryz.ntmps72
    go_wp2_with (first | (go_at_call 45; (with_reducible refine (HNM.out _ bel).mono ?_); rintro e w1 ⟨rfl, HG1⟩))
    refine ⟨rfl, ?_⟩
    show PostIt k149 (fun x : S149 => x.f0) g A c l lim W (rdN l lim ix a b p) _ _
    rw [HE.out]
    exact ⟨rfl, (Rd.of_below bel).trans HG1⟩
  · have HE := hid (show rdN l lim ix a b p = .ok (⟨ix, strOfNums s⟩, p') by rw [rdN, hn])
    rw [hn] at HNM
    clear hn
    go_enter Tryz.func72, Tryz.ntmps72
    go_wp2_with (first | (go_at_call 45; (with_reducible refine (HNM.out _ bel).mono ?_); rintro e w1 ⟨rfl, HC1, HG1⟩; have HC1 := hid HC1; have d0 := HG1.cell (B := W.heap.size + 1) (i := 0) (v := .int .u32 0) (by omega) (by go_simp); have d1 := HG1.cell (B := W.heap.size + 1) (i := 1) (v := .string ⟨#[]⟩) (by omega) (by go_simp); have z0 := rd_frozen (B := W.heap.size + 1) (i := 0) HG1 (by omega) (by simp) (by go_simp); have z1 := rd_frozen (B := W.heap.size + 1) (i := 1) HG1 (by omega) (by simp) (by go_simp)))
    have hR : Rd g W w1 := (Rd.of_below bel).trans HG1
    have hb : Below W.heap.size w1 ((w1.setCell ⟨W.heap.size + 1, 0, none⟩ (.int .u32 ix)).setCell ⟨W.heap.size + 1, 1, none⟩ (.string (strOfNums s))) := ((Below.refl _ _).setCell (p := ⟨W.heap.size + 1, 0, none⟩) (by simp) _).setCell (p := ⟨W.heap.size + 1, 1, none⟩) (by simp) _
    have t0 : ((w1.setCell ⟨W.heap.size + 1, 0, none⟩ (.int .u32 ix)).setCell ⟨W.heap.size + 1, 1, none⟩ (.string (strOfNums s))).cell? ⟨W.heap.size + 1, 0, none⟩ = some (.int .u32 ix) := by go_simp
    have t1 : ((w1.setCell ⟨W.heap.size + 1, 0, none⟩ (.int .u32 ix)).setCell ⟨W.heap.size + 1, 1, none⟩ (.string (strOfNums s))).cell? ⟨W.heap.size + 1, 1, none⟩ = some (.string (strOfNums s)) := by go_simp
    refine bodyPost_ret (v := .agg #[.int .u32 ix, .string (strOfNums s)]) ?_ rfl ?_
    · simp [results, Tryz.results72, go_sem, t0, t1]
    · rw [HE.out]
      exact ⟨⟨.string (strOfNums s), rfl, k149_mkM _ _ _ (⟨ix, strOfNums s⟩ : S149)⟩, cb_base HC.out HC1.out hR hb, rd_base hR hb⟩
theorem nname1_rd {g C : Nat} {A : Option Addr} {c : Nat} {l : List Int} {lim : Int} {w : World} (hcap : l.length ≤ c) (hG : GlobH g w) (hC : C ≠ g) (cC : w.cell? ⟨C, 0, none⟩ = some (.pointer (some ⟨g, 0, none⟩))) : RdI k149 (fun x : S149 => x.f0) g A c l lim 1099511627776 (rdN l lim) 72 #[.pointer (some ⟨C, 0, none⟩)] w :=
  ⟨enters Tryz.func72 (by kernel_rfl) rfl, fun W hW ix a b p _ _ a0 a1 b0 b1 hB => nname1_call g C A c l lim ix a b p W hB hcap (hG.rd hW) hC (hW.cell hC cC) a0 a1 b0 (by omega)⟩
theorem names_walk (g C : Nat) (A : Option Addr) (c : Nat) (l : List Int) (p lim a b : Int) (w : World) (h : CB g A c l p lim w) (hcap : l.length ≤ c) (hG : GlobH g w) (hC : C ≠ g) (cC : w.cell? ⟨C, 0, none⟩ = some (.pointer (some ⟨g, 0, none⟩))) (a0 : 0 ≤ a) (a1 : a ≤ 100000000000) (b0 : 0 ≤ b) (b1 : b ≤ 1099511627776) :
    Calls Tryz.prog 46 #[.pointer (some ⟨g, 0, none⟩), .agg #[.int .i64 a, .int .i64 b], .func (.func 72) #[] #[.pointer (some ⟨C, 0, none⟩)]] w (PostLi k149 149 g A c l lim w (liM (rdN l lim) a b l p lim)) :=
  ris_N g A c l p lim w a b 1099511627776 72 _ (rdN l lim) h hG a0 (by omega) b0 b1 (by omega) (nname1_rd hcap hG hC cC)
set_option maxRecDepth 100000 in
set_option maxHeartbeats 4000000 in
theorem row31_call (g C : Nat) (A : Option Addr) (c : Nat) (l : List Int) (lim ix a b p : Int) (W : World) (h : CB g A c l p lim W) (hcap : l.length ≤ c) (hG : GlobH g W) (hC : C ≠ g) (cC : W.cell? ⟨C, 0, none⟩ = some (.pointer (some ⟨g, 0, none⟩))) (a0 : 0 ≤ a) (a1 : a ≤ 100000000000) (b0 : 0 ≤ b) (b1 : b ≤ 1099511627776) :
    Calls Tryz.prog 49 #[.int .u32 ix, .agg #[.int .i64 a, .int .i64 b], .pointer (some ⟨C, 0, none⟩)] W (PostIt k90 (fun x : S90 => x.f0) g A c l lim W (rdL l lim ix a b p)) := by
  have HNA := hid (fun V (hV : Rd g W V) (hB : CB g A c l p lim V) C' (hne : C' ≠ g) (cC' : V.cell? ⟨C', 0, none⟩ = some (.pointer (some ⟨g, 0, none⟩))) => names_walk g C' A c l p lim a b V hB hcap (hG.rd hV) hne cC' a0 a1 b0 b1)
  have hlt := h.cu.lt
  have hCl := cell_lt cC
  have HC := hid h
  clear h hG
  rcases hn : liM (rdN l lim) a b l p lim with s | ⟨ns, p'⟩
  · have HE := hid (show rdL l lim ix a b p = .error s by rw [rdL, hn])
    rw [hn] at HNA
    clear hn
    go_enter Tryz.func49, Tryz.ntmps49
    go_upto_region 1 with (fail)
    obtain ⟨W1, hW1⟩ : ∃ W1, W1 = (W.alloc (.cells #[.int .i64 a, .int .i64 b] 171)).alloc (.cells #[.int .u32 0, .slice none 0 0] 90) := ⟨_, rfl⟩
    have HBW := hid (show Below W.heap.size W W1 by rw [hW1]; exact bel)
    have HZ1 := hid (show W1.heap.size = W.heap.size + 2 by rw [hW1]; simp)
    have S0 : W1.cell? ⟨C, 0, none⟩ = some (.pointer (some ⟨g, 0, none⟩)) ∧ W1.cell? ⟨W.heap.size, 0, none⟩ = some (.int .i64 a) ∧ W1.cell? ⟨W.heap.size, 1, none⟩ = some (.int .i64 b) := by rw [hW1]; exact ⟨by go_simp, by go_simp, by go_simp⟩
    have HD := hid (show W1.cell? ⟨W.heap.size + 1, 0, none⟩ = some (.int .u32 0) ∧ W1.cell? ⟨W.heap.size + 1, 1, none⟩ = some (.slice none 0 0) ∧ W.heap.size + 1 < W1.heap.size ∧ W1.frozen? ⟨W.heap.size + 1, 0, none⟩ = false ∧ W1.frozen? ⟨W.heap.size + 1, 1, none⟩ = false by rw [hW1]; exact ⟨by go_simp, by go_simp, by simp, by go_simp, by go_simp⟩)
    rw [← hW1]
    clear hW1
    have HK := hid (fun V (hV : Rd g W1 V) => show V.cell? ⟨C, 0, none⟩ = some (.pointer (some ⟨g, 0, none⟩)) ∧ V.cell? ⟨W.heap.size, 0, none⟩ = some (.int .i64 a) ∧ V.cell? ⟨W.heap.size, 1, none⟩ = some (.int .i64 b) from ⟨hV.cell hC S0.1, hV.cell (by omega) S0.2.1, hV.cell (by omega) S0.2.2⟩)
    refine wp_region_held_drew (S := (fun V => V.cell? ⟨C, 0, none⟩ = some (.pointer (some ⟨g, 0, none⟩)) ∧ V.cell? ⟨W.heap.size, 0, none⟩ = some (.int .i64 a) ∧ V.cell? ⟨W.heap.size, 1, none⟩ = some (.int .i64 b))) (by kernel_rfl) ?hSa1 (fun hHeld => ?goa1)
    case hSa1 => first | exact HK.out _ (grown_of_below (Below.drew (Below.refl _ _)) _) | exact HK.out _ HRa.out | exact HK.out _ HR3.out
    refine tk 0 ⟨some 6, .move (.tmp 0), 47, "names.go:155", #[], none⟩ rfl ?_
    refine tk 1 ⟨some 7, .load 73 (.tmp 2), 73, "names.go:155", #[], none⟩ rfl ?_
    refine tk 2 ⟨some 8, .load 171 (.tmp 4), 171, "names.go:155", #[], none⟩ rfl ?_
    refine tk 3 ⟨some 9, .load 73 (.tmp 2), 73, "names.go:155", #[], none⟩ rfl ?_
    refine wpAnyH_ready (rs := [4]) (by kernel_rfl) (by simp) ?_
    refine AllReadyH.cons (o := ⟨some 10, .call { callee := .value (.func 47), args := #[.tmp 9], argTypes := #[73] }, 175, "names.go:155", #[⟨3, .data⟩], none⟩) rfl (fun K hK => ?_) AllReadyH.nil
    go_simp
    go_at_call 47; (with_reducible refine (nname_any g _).mono ?_); rintro e w2 ⟨rfl, hc2, hb2⟩; have hc2 : w2.cell? ⟨W1.heap.size, 0, none⟩ = some (.pointer (some ⟨g, 0, none⟩)) := hc2; have HRa := hid (show Rd g W1 w2 from grown_of_below (Below.trans (Below.drew (Below.refl W1.heap.size W1)) hb2) _); have HR2 := hid ((Rd.of_below HBW.out).trans HRa.out); have HC2 := hid ((HC.out.below HBW.out).below (Below.trans (Below.drew (Below.refl W1.heap.size W1)) hb2))
    refine hK.out _ _ ?_ (fun hHeld => ?_)
    · (try dsimp only); first | exact HK.out _ (grown_of_below (Below.drew (Below.refl _ _)) _) | exact HK.out _ HRa.out | exact HK.out _ HR3.out
    clear hK K
    try simp only [Act.put, List.setIfInBounds_toArray, List.set_cons_zero, List.set_cons_succ]
    refine wpAnyH_ready (rs := [5]) (by kernel_rfl) (by simp) ?_
    refine AllReadyH.cons (o := ⟨some 11, .call { callee := .value (.func 46), args := #[.tmp 7, .tmp 8, .tmp 10], argTypes := #[73, 171, 175] }, 23, "names.go:155", #[⟨1, .data⟩, ⟨2, .data⟩, ⟨4, .data⟩, ⟨4, .chain⟩], none⟩) rfl (fun K hK => ?_) AllReadyH.nil
    go_simp
    go_at_call 46; (with_reducible refine (HNA.out _ HR2.out HC2.out _ (by have := HZ1.out; omega) hc2).mono ?_); rintro e w3 ⟨rfl, HG3⟩; refine ⟨rfl, ?_⟩; show PostIt k90 (fun x : S90 => x.f0) g A c l lim W (rdL l lim ix a b p) _ _; rw [HE.out]; exact ⟨rfl, HR2.out.trans HG3⟩
  · have HE := hid (show rdL l lim ix a b p = .ok (⟨ix, ns⟩, p') by rw [rdL, hn])
    rw [hn] at HNA
    clear hn
    go_enter Tryz.func49, Tryz.ntmps49
    go_upto_region 1 with (fail)
    obtain ⟨W1, hW1⟩ : ∃ W1, W1 = (W.alloc (.cells #[.int .i64 a, .int .i64 b] 171)).alloc (.cells #[.int .u32 0, .slice none 0 0] 90) := ⟨_, rfl⟩
    have HBW := hid (show Below W.heap.size W W1 by rw [hW1]; exact bel)
    have HZ1 := hid (show W1.heap.size = W.heap.size + 2 by rw [hW1]; simp)
    have S0 : W1.cell? ⟨C, 0, none⟩ = some (.pointer (some ⟨g, 0, none⟩)) ∧ W1.cell? ⟨W.heap.size, 0, none⟩ = some (.int .i64 a) ∧ W1.cell? ⟨W.heap.size, 1, none⟩ = some (.int .i64 b) := by rw [hW1]; exact ⟨by go_simp, by go_simp, by go_simp⟩
    have HD := hid (show W1.cell? ⟨W.heap.size + 1, 0, none⟩ = some (.int .u32 0) ∧ W1.cell? ⟨W.heap.size + 1, 1, none⟩ = some (.slice none 0 0) ∧ W.heap.size + 1 < W1.heap.size ∧ W1.frozen? ⟨W.heap.size + 1, 0, none⟩ = false ∧ W1.frozen? ⟨W.heap.size + 1, 1, none⟩ = false by rw [hW1]; exact ⟨by go_simp, by go_simp, by simp, by go_simp, by go_simp⟩)
    rw [← hW1]
    clear hW1
    have HK := hid (fun V (hV : Rd g W1 V) => show V.cell? ⟨C, 0, none⟩ = some (.pointer (some ⟨g, 0, none⟩)) ∧ V.cell? ⟨W.heap.size, 0, none⟩ = some (.int .i64 a) ∧ V.cell? ⟨W.heap.size, 1, none⟩ = some (.int .i64 b) from ⟨hV.cell hC S0.1, hV.cell (by omega) S0.2.1, hV.cell (by omega) S0.2.2⟩)
    refine wp_region_noPanic ?_
    refine wp_region_heldD 7 (S := (fun V => V.cell? ⟨C, 0, none⟩ = some (.pointer (some ⟨g, 0, none⟩)) ∧ V.cell? ⟨W.heap.size, 0, none⟩ = some (.int .i64 a) ∧ V.cell? ⟨W.heap.size, 1, none⟩ = some (.int .i64 b))) (by kernel_rfl) ?hSb1 (fun hHeld => ?gob1)
    case hSb1 => first | exact HK.out _ (grown_of_below (Below.drew (Below.refl _ _)) _) | exact HK.out _ HRa.out | exact HK.out _ HR3.out
    refine tkD 0 ⟨some 6, .move (.tmp 0), 47, "names.go:155", #[], none⟩ rfl ?_
    refine tkD 1 ⟨some 7, .load 73 (.tmp 2), 73, "names.go:155", #[], none⟩ rfl ?_
    refine tkD 2 ⟨some 8, .load 171 (.tmp 4), 171, "names.go:155", #[], none⟩ rfl ?_
    refine tkD 3 ⟨some 9, .load 73 (.tmp 2), 73, "names.go:155", #[], none⟩ rfl ?_
    refine wpAnyD_ready (rs := [4]) (by kernel_rfl) (by simp) ?_
    refine AllReadyD.cons (o := ⟨some 10, .call { callee := .value (.func 47), args := #[.tmp 9], argTypes := #[73] }, 175, "names.go:155", #[⟨3, .data⟩], none⟩) rfl (fun K hK => ?_) rfl AllReadyD.nil
    go_simp
    go_at_call 47; (with_reducible refine (nname_any g _).mono ?_); rintro e w2 ⟨rfl, hc2, hb2⟩; have hc2 : w2.cell? ⟨W1.heap.size, 0, none⟩ = some (.pointer (some ⟨g, 0, none⟩)) := hc2; have HRa := hid (show Rd g W1 w2 from grown_of_below (Below.trans (Below.drew (Below.refl W1.heap.size W1)) hb2) _); have HR2 := hid ((Rd.of_below HBW.out).trans HRa.out); have HC2 := hid ((HC.out.below HBW.out).below (Below.trans (Below.drew (Below.refl W1.heap.size W1)) hb2))
    refine hK.out _ _ ?_ (fun hHeld => ?_)
    · (try dsimp only); first | exact HK.out _ (grown_of_below (Below.drew (Below.refl _ _)) _) | exact HK.out _ HRa.out | exact HK.out _ HR3.out
    clear hK K
    try simp only [Act.put, List.setIfInBounds_toArray, List.set_cons_zero, List.set_cons_succ]
    refine wpAnyD_ready (rs := [5]) (by kernel_rfl) (by simp) ?_
    refine AllReadyD.cons (o := ⟨some 11, .call { callee := .value (.func 46), args := #[.tmp 7, .tmp 8, .tmp 10], argTypes := #[73, 171, 175] }, 23, "names.go:155", #[⟨1, .data⟩, ⟨2, .data⟩, ⟨4, .data⟩, ⟨4, .chain⟩], none⟩) rfl (fun K hK => ?_) rfl AllReadyD.nil
    go_simp
    go_at_call 46; (with_reducible refine (HNA.out _ HR2.out HC2.out _ (by have := HZ1.out; omega) hc2).mono ?_); rintro e w3 ⟨⟨v, rfl, hRv⟩, HC3, HG3⟩; obtain ⟨Av, cv, rfl⟩ := Kd.R_slice hRv; have HRV := hid hRv; have HC3 := hid HC3; have HR3 := hid (HRa.out.trans HG3); have d0 := HR3.out.cell (by omega) HD.out.1; have d1 := HR3.out.cell (by omega) HD.out.2.1; have z0 := rd_frozen HR3.out (by omega) HD.out.2.2.1 HD.out.2.2.2.1; have z1 := rd_frozen HR3.out (by omega) HD.out.2.2.1 HD.out.2.2.2.2
    refine hK.out _ _ ?_ (fun hHeld => ?_)
    · (try dsimp only); first | exact HK.out _ (grown_of_below (Below.drew (Below.refl _ _)) _) | exact HK.out _ HRa.out | exact HK.out _ HR3.out
    clear hK K
    try simp only [Act.put, List.setIfInBounds_toArray, List.set_cons_zero, List.set_cons_succ]
    refine tkD 6 ⟨some 12, .build 90 #[(0, .tmp 6), (1, .tmp 11)], 90, "names.go:155", #[⟨0, .data⟩, ⟨5, .data⟩], none⟩ rfl ?_
    refine wpAnyD_ready (rs := [7]) (by kernel_rfl) (by simp) ?_
    refine AllReadyD.last (o := ⟨none, .store 90 (.tmp 5) (.tmp 12), 0, "names.go:155", #[⟨6, .data⟩, ⟨5, .chain⟩, ⟨0, .phase⟩, ⟨1, .phase⟩, ⟨2, .phase⟩, ⟨3, .phase⟩, ⟨4, .phase⟩, ⟨5, .phase⟩, ⟨6, .phase⟩], none⟩) rfl (by kernel_rfl) (fun K hK => ?_)
    go_simp
    refine hK.out _ _ ?_
    clear hK K
    try simp only [Act.put, List.setIfInBounds_toArray, List.set_cons_zero, List.set_cons_succ]
    refine NoPanic.normal ?_
    go_wp2_with fail
    have hb : Below W.heap.size w3 ((w3.setCell ⟨W.heap.size + 1, 0, none⟩ (.int .u32 ix)).setCell ⟨W.heap.size + 1, 1, none⟩ (.slice Av ns.length cv)) := ((Below.refl _ _).setCell (p := ⟨W.heap.size + 1, 0, none⟩) (by simp) _).setCell (p := ⟨W.heap.size + 1, 1, none⟩) (by simp) _
    have t0 : ((w3.setCell ⟨W.heap.size + 1, 0, none⟩ (.int .u32 ix)).setCell ⟨W.heap.size + 1, 1, none⟩ (.slice Av ns.length cv)).cell? ⟨W.heap.size + 1, 0, none⟩ = some (.int .u32 ix) := by go_simp
    have t1 : ((w3.setCell ⟨W.heap.size + 1, 0, none⟩ (.int .u32 ix)).setCell ⟨W.heap.size + 1, 1, none⟩ (.slice Av ns.length cv)).cell? ⟨W.heap.size + 1, 1, none⟩ = some (.slice Av ns.length cv) := by go_simp
    have hz1 := HZ1.out
    have hz2 := HRa.out.size
    have hRn : k149.R 149 ((w3.setCell ⟨W.heap.size + 1, 0, none⟩ (.int .u32 ix)).setCell ⟨W.heap.size + 1, 1, none⟩ (.slice Av ns.length cv)) W.heap.size (fun k => W.heap.size ≤ k) (.slice Av ns.length cv) ns := Kd.R_mono (Kd.R_lower (Kd.R_far (Kd.R_far HRV.out (p := ⟨W.heap.size + 1, 0, none⟩) (fun k hk e => by have : k = W.heap.size + 1 := e; omega) _) (p := ⟨W.heap.size + 1, 1, none⟩) (fun k hk e => by have : k = W.heap.size + 1 := e; omega) _) (by omega)) (fun k hk => by omega)
    refine bodyPost_ret (v := .agg #[.int .u32 ix, .slice Av ns.length cv]) ?_ rfl ?_
    · simp [results, Tryz.results49, go_sem, t0, t1]
    · (rw [HE.out]; exact ⟨⟨.slice Av ns.length cv, rfl, k90_mkM _ _ _ (⟨ix, ns⟩ : S90) hRn⟩, cb_base HC.out HC3.out (HR2.out.trans HG3) hb, rd_base (HR2.out.trans HG3) hb⟩)
theorem row31_rd {g C : Nat} {A : Option Addr} {c : Nat} {l : List Int} {lim : Int} {w : World} (hcap : l.length ≤ c) (hG : GlobH g w) (hC : C ≠ g) (cC : w.cell? ⟨C, 0, none⟩ = some (.pointer (some ⟨g, 0, none⟩))) : RdI k90 (fun x : S90 => x.f0) g A c l lim 100000000000 (rdL l lim) 49 #[.pointer (some ⟨C, 0, none⟩)] w :=
  ⟨enters Tryz.func49 (by kernel_rfl) rfl, fun W hW ix a b p _ _ a0 a1 b0 b1 hB => row31_call g C A c l lim ix a b p W hB hcap (hG.rd hW) hC (hW.cell hC cC) a0 a1 b0 b1⟩
theorem locals_walk (g C : Nat) (A : Option Addr) (c : Nat) (l : List Int) (p lim : Int) (w : World) (h : CB g A c l p lim w) (hcap : l.length ≤ c) (hG : GlobH g w) (hC : C ≠ g) (cC : w.cell? ⟨C, 0, none⟩ = some (.pointer (some ⟨g, 0, none⟩))) :
    Calls Tryz.prog 48 #[.pointer (some ⟨g, 0, none⟩), .agg #[.int .i64 0, .int .i64 0], .func (.func 49) #[] #[.pointer (some ⟨C, 0, none⟩)]] w (PostLi k90 90 g A c l lim w (liM (rdL l lim) 0 0 l p lim)) :=
  ris_L g A c l p lim w 0 0 100000000000 49 _ (rdL l lim) h hG (by decide) (by decide) (by decide) (by decide) (by decide) (row31_rd hcap hG hC cC)
theorem row1_any (L : Nat) (x r last : Int) (W : World) (hL : W.cell? ⟨L, 0, none⟩ = some (.int .i64 last)) (x0 : 0 ≤ x) (x1 : x < 256) :
    Calls Tryz.prog 40 #[.int .u8 x, .int .i64 r, .pointer (some ⟨L, 0, none⟩)] W (fun e w' => e = .returned (.bool (decide (last < x ∧ x < 3))) ∧ Below W.heap.size W w') := by
  by_cases h1 : last < x
  · by_cases h2 : x < 3
    · go_enter Tryz.func40, Tryz.ntmps40
      go_wp2
      go_ret
      exact ⟨ret_bool (by simp [h1, h2]), Below.refl _ _⟩
    · go_enter Tryz.func40, Tryz.ntmps40
      go_wp2
      go_ret
      exact ⟨ret_bool (by simp; omega), Below.refl _ _⟩
  · go_enter Tryz.func40, Tryz.ntmps40
    go_wp2
    go_ret
    exact ⟨ret_bool (by simp; omega), Below.refl _ _⟩
def rgSz (r : Int) : List (Int × Int) := [(szL 1 1099511627776 0 1099511627776 r, szH 1 1099511627776 0 1099511627776 r)]
theorem sz_bd2 (a b c d r : Int) : 0 ≤ szL a b c d r ∧ szL a b c d r ≤ 18446744073709551615 ∧ 0 ≤ szH a b c d r ∧ szH a b c d r ≤ 18446744073709551615 := by
  unfold szL szH
  split
  · decide
  · exact wi_bd _ _
theorem row2_any (r : Int) (W : World) (hG : Glob W) (hM : GlobM W) (r0 : 0 ≤ r) (r1 : r ≤ 1099511627776) :
    Calls Tryz.prog 42 #[.int .i64 r] W (fun e w' => ∃ A k, e = .returned (.slice A (rgSz r).length k) ∧ RowR w' A (rgSz r) ∧ Below W.heap.size W w') := by
  have HS := hid (sizes_any 1 1099511627776 0 1099511627776 r W (by decide) (by decide) (by decide) (by decide) (by decide) (by decide) (by decide) (by decide) r0 r1 hG.size hG.c0 hG.c1)
  have s0 := hM.s0
  have s1 := hM.s1
  have HB := hid (sz_bd2 1 1099511627776 0 1099511627776 r)
  unfold rgSz
  generalize szL 1 1099511627776 0 1099511627776 r = lo at *
  generalize szH 1 1099511627776 0 1099511627776 r = hi at *
  go_enter Tryz.func42, Tryz.ntmps42
  go_wp2_with (first | (go_at_call 43; (with_reducible refine (HS.out).mono ?_); rintro e w1 ⟨rfl, hb1⟩))
  go_ret
  refine ⟨some ⟨w1.heap.size, 0, none⟩, 1, rfl, .inr ⟨_, rfl, by simp, ?_⟩, hb1.alloc hb1.size _⟩
  intro i hi
  have : i = 0 := by simp at hi; omega
  subst this
  exact ⟨by simp only [List.getElem_cons_zero]; go_simp, by simp only [List.getElem_cons_zero]; go_simp, HB.out.1, HB.out.2.1, HB.out.2.2.1, HB.out.2.2.2⟩
theorem row2_wants {g : Nat} {w : World} (hG : GlobH g w) : Wants g 42 #[] w rgSz :=
  ⟨enters Tryz.func42 (by kernel_rfl) rfl, fun r => by simp [rgSz], fun r r0 r1 W hW => row2_any r W (hG.rd hW).gl (hG.rd hW).gm r0 r1⟩
end Go.Proofs.YtiohiiekaofkbaaGreatDoor
/- A row of names, read. -/
namespace Go.Proofs.YtiohiiekaofkbaaGreatDoor
set_option linter.unusedVariables false
set_option linter.unusedSimpArgs false
open Go.RowKit Go.Proofs.YtiohiiekaofkbaaGreatDoor.PNamesReads Go.Proofs.YtiohiiekaofkbaaGreatDoorW.PrintWords
structure NmV where
  hm : Bool
  hf : Bool
  hl : Bool
  md : ByteArray
  fs : List S149
  ls : List S90
structure NmC (NB : Nat) (h0 h1 h2 : Bool) (m : ByteArray) (v4 v5 : Value) (w : World) : Prop where
  c0 : w.cell? ⟨NB, 0, none⟩ = some (.bool h0)
  c1 : w.cell? ⟨NB, 1, none⟩ = some (.bool h1)
  c2 : w.cell? ⟨NB, 2, none⟩ = some (.bool h2)
  c3 : w.cell? ⟨NB, 3, none⟩ = some (.string m)
  c4 : w.cell? ⟨NB, 4, none⟩ = some v4
  c5 : w.cell? ⟨NB, 5, none⟩ = some v5
  z0 : w.frozen? ⟨NB, 0, none⟩ = false
  z1 : w.frozen? ⟨NB, 1, none⟩ = false
  z2 : w.frozen? ⟨NB, 2, none⟩ = false
  z3 : w.frozen? ⟨NB, 3, none⟩ = false
  z4 : w.frozen? ⟨NB, 4, none⟩ = false
  z5 : w.frozen? ⟨NB, 5, none⟩ = false
theorem NmC.lt {NB : Nat} {h0 h1 h2 : Bool} {m : ByteArray} {v4 v5 : Value} {w : World} (h : NmC NB h0 h1 h2 m v4 v5 w) : NB < w.heap.size := cell_lt h.c0
theorem NmC.rd {NB g : Nat} {h0 h1 h2 : Bool} {m : ByteArray} {v4 v5 : Value} {w W : World} (h : NmC NB h0 h1 h2 m v4 v5 w) (hne : NB ≠ g) (hR : Rd g w W) : NmC NB h0 h1 h2 m v4 v5 W :=
  ⟨hR.cell hne h.c0, hR.cell hne h.c1, hR.cell hne h.c2, hR.cell hne h.c3, hR.cell hne h.c4, hR.cell hne h.c5, rd_frozen hR hne h.lt h.z0, rd_frozen hR hne h.lt h.z1, rd_frozen hR hne h.lt h.z2, rd_frozen hR hne h.lt h.z3, rd_frozen hR hne h.lt h.z4, rd_frozen hR hne h.lt h.z5⟩
theorem NmC.set0 {NB : Nat} {h0 h1 h2 : Bool} {m : ByteArray} {v4 v5 : Value} {w : World} (h : NmC NB h0 h1 h2 m v4 v5 w) (u : Bool) : NmC NB u h1 h2 m v4 v5 (w.setCell ⟨NB, 0, none⟩ (.bool u)) := by
  obtain ⟨c0, c1, c2, c3, c4, c5, z0, z1, z2, z3, z4, z5⟩ := h
  exact ⟨by go_simp, by go_simp, by go_simp, by go_simp, by go_simp, by go_simp, by go_simp, by go_simp, by go_simp, by go_simp, by go_simp, by go_simp⟩
theorem NmC.set1 {NB : Nat} {h0 h1 h2 : Bool} {m : ByteArray} {v4 v5 : Value} {w : World} (h : NmC NB h0 h1 h2 m v4 v5 w) (u : Bool) : NmC NB h0 u h2 m v4 v5 (w.setCell ⟨NB, 1, none⟩ (.bool u)) := by
  obtain ⟨c0, c1, c2, c3, c4, c5, z0, z1, z2, z3, z4, z5⟩ := h
  exact ⟨by go_simp, by go_simp, by go_simp, by go_simp, by go_simp, by go_simp, by go_simp, by go_simp, by go_simp, by go_simp, by go_simp, by go_simp⟩
theorem NmC.set2 {NB : Nat} {h0 h1 h2 : Bool} {m : ByteArray} {v4 v5 : Value} {w : World} (h : NmC NB h0 h1 h2 m v4 v5 w) (u : Bool) : NmC NB h0 h1 u m v4 v5 (w.setCell ⟨NB, 2, none⟩ (.bool u)) := by
  obtain ⟨c0, c1, c2, c3, c4, c5, z0, z1, z2, z3, z4, z5⟩ := h
  exact ⟨by go_simp, by go_simp, by go_simp, by go_simp, by go_simp, by go_simp, by go_simp, by go_simp, by go_simp, by go_simp, by go_simp, by go_simp⟩
theorem NmC.set3 {NB : Nat} {h0 h1 h2 : Bool} {m : ByteArray} {v4 v5 : Value} {w : World} (h : NmC NB h0 h1 h2 m v4 v5 w) (u : ByteArray) : NmC NB h0 h1 h2 u v4 v5 (w.setCell ⟨NB, 3, none⟩ (.string u)) := by
  obtain ⟨c0, c1, c2, c3, c4, c5, z0, z1, z2, z3, z4, z5⟩ := h
  exact ⟨by go_simp, by go_simp, by go_simp, by go_simp, by go_simp, by go_simp, by go_simp, by go_simp, by go_simp, by go_simp, by go_simp, by go_simp⟩
theorem NmC.set4 {NB : Nat} {h0 h1 h2 : Bool} {m : ByteArray} {v4 v5 : Value} {w : World} (h : NmC NB h0 h1 h2 m v4 v5 w) (u : Value) : NmC NB h0 h1 h2 m u v5 (w.setCell ⟨NB, 4, none⟩ u) := by
  obtain ⟨c0, c1, c2, c3, c4, c5, z0, z1, z2, z3, z4, z5⟩ := h
  exact ⟨by go_simp, by go_simp, by go_simp, by go_simp, by go_simp, by go_simp, by go_simp, by go_simp, by go_simp, by go_simp, by go_simp, by go_simp⟩
theorem NmC.set5 {NB : Nat} {h0 h1 h2 : Bool} {m : ByteArray} {v4 v5 : Value} {w : World} (h : NmC NB h0 h1 h2 m v4 v5 w) (u : Value) : NmC NB h0 h1 h2 m v4 u (w.setCell ⟨NB, 5, none⟩ u) := by
  obtain ⟨c0, c1, c2, c3, c4, c5, z0, z1, z2, z3, z4, z5⟩ := h
  exact ⟨by go_simp, by go_simp, by go_simp, by go_simp, by go_simp, by go_simp, by go_simp, by go_simp, by go_simp, by go_simp, by go_simp, by go_simp⟩
structure NmS (g NB b0 : Nat) (A : Option Addr) (c : Nat) (l : List Int) (p lim : Int) (h0 h1 h2 : Bool) (m : ByteArray) (fs : List S149) (ls : List S90) (v4 v5 : Value) (w : World) : Prop where
  cb : CB g A c l p lim w
  gh : GlobH g w
  nc : NmC NB h0 h1 h2 m v4 v5 w
  r4 : k149.R 149 w b0 (fun k => g < k) v4 fs
  r5 : k90.R 90 w b0 (fun k => g < k) v5 ls
  ng : NB < g
  ab : ∀ ad, A = some ad → ad.block ≠ NB
  gb : 2 < NB ∧ 3 < NB ∧ 0 < NB ∧ 1 < NB
theorem NmS.rd {g NB b0 : Nat} {A : Option Addr} {c : Nat} {l : List Int} {p lim p' lim' : Int} {h0 h1 h2 : Bool} {m : ByteArray} {fs : List S149} {ls : List S90} {v4 v5 : Value} {w W : World} (h : NmS g NB b0 A c l p lim h0 h1 h2 m fs ls v4 v5 w) (hR : Rd g w W) (hC : CB g A c l p' lim' W) : NmS g NB b0 A c l p' lim' h0 h1 h2 m fs ls v4 v5 W :=
  ⟨hC, h.gh.rd hR, h.nc.rd (by have := h.ng; omega) hR, r_rd h.r4 (Nat.le_refl _) hR, r_rd h.r5 (Nat.le_refl _) hR, h.ng, h.ab, h.gb⟩
theorem NmS.below {g NB b0 : Nat} {A : Option Addr} {c : Nat} {l : List Int} {p lim : Int} {h0 h1 h2 : Bool} {m : ByteArray} {fs : List S149} {ls : List S90} {v4 v5 : Value} {w W : World} (h : NmS g NB b0 A c l p lim h0 h1 h2 m fs ls v4 v5 w) (hb : Below w.heap.size w W) : NmS g NB b0 A c l p lim h0 h1 h2 m fs ls v4 v5 W := h.rd (Rd.of_below hb) (h.cb.below hb)
theorem NmS.put {g NB b0 i : Nat} {A : Option Addr} {c : Nat} {l : List Int} {p lim : Int} {h0 h1 h2 h0' h1' h2' : Bool} {m m' : ByteArray} {fs fs' : List S149} {ls ls' : List S90} {v4 v5 v4' v5' : Value} {w : World} (h : NmS g NB b0 A c l p lim h0 h1 h2 m fs ls v4 v5 w) (u : Value)
    (hn : NmC NB h0' h1' h2' m' v4' v5' (w.setCell ⟨NB, i, none⟩ u)) (h4 : k149.R 149 w b0 (fun k => g < k) v4' fs') (h5 : k90.R 90 w b0 (fun k => g < k) v5' ls') :
    NmS g NB b0 A c l p lim h0' h1' h2' m' fs' ls' v4' v5' (w.setCell ⟨NB, i, none⟩ u) := by
  have hng := h.ng
  have hne : NB ≠ g := by omega
  have hblk : ∀ k, k ≠ NB → (w.setCell ⟨NB, i, none⟩ u).heap[k]? = w.heap[k]? := fun k hk => heap_setCell_other _ _ _ _ hk
  have cc : ∀ k j v, k ≠ NB → w.cell? ⟨k, j, none⟩ = some v → (w.setCell ⟨NB, i, none⟩ u).cell? ⟨k, j, none⟩ = some v := fun k j v hk hv => (World.cell?_of_block (a := ⟨k, j, none⟩) (hblk k hk)).trans hv
  obtain ⟨q0, q1, q2, q3⟩ := h.gb
  have hgl := h.gh.gl.size
  refine ⟨?_, ⟨⟨by simpa using hgl, cc _ _ _ (by omega) h.gh.gl.c0, cc _ _ _ (by omega) h.gh.gl.c1⟩, ⟨cc _ _ _ (by omega) h.gh.gm.a0, cc _ _ _ (by omega) h.gh.gm.a1, cc _ _ _ (by omega) h.gh.gm.s0, cc _ _ _ (by omega) h.gh.gm.s1, cc _ _ _ (by omega) h.gh.gm.n0, cc _ _ _ (by omega) h.gh.gm.n1⟩, h.gh.h0, h.gh.h1, h.gh.h2, h.gh.h3⟩, hn,
    Kd.R_far h4 (p := ⟨NB, i, none⟩) (fun k hk e => by have : k = NB := e; omega) u, Kd.R_far h5 (p := ⟨NB, i, none⟩) (fun k hk e => by have : k = NB := e; omega) u, hng, h.ab, h.gb⟩
  have hb := hblk g (by omega)
  have c1 : ∀ j, (w.setCell ⟨NB, i, none⟩ u).cell? ⟨g, j, none⟩ = w.cell? ⟨g, j, none⟩ := fun j => World.cell?_of_block (a := ⟨g, j, none⟩) hb
  have f1 : ∀ j, (w.setCell ⟨NB, i, none⟩ u).frozen? ⟨g, j, none⟩ = w.frozen? ⟨g, j, none⟩ := fun j => World.frozen?_of_block (a := ⟨g, j, none⟩) hb
  exact ⟨⟨(c1 0).trans h.cb.cu.c0, (c1 1).trans h.cb.cu.c1, (c1 2).trans h.cb.cu.c2, (f1 1).trans h.cb.cu.f1, (f1 2).trans h.cb.cu.f2⟩,
    h.cb.at_.fr (P := fun k => k = NB) (fun ad e => h.ab ad e) (Fr.set (P := fun k => k = NB) (Fr.of_below (Below.refl _ _)) rfl u), h.cb.ne, h.cb.p0, h.cb.p1, h.cb.hl, h.cb.l2, h.cb.b8⟩
def NmW (g NB b0 : Nat) (A : Option Addr) (c : Nat) (l : List Int) (p lim : Int) (V : NmV) (w : World) : Prop := ∃ v4 v5, NmS g NB b0 A c l p lim V.hm V.hf V.hl V.md V.fs V.ls v4 v5 w
def PostRow (g NB b0 : Nat) (A : Option Addr) (c : Nat) (l : List Int) (lim : Int) (W : World) (r : Except (Int × Int) (NmV × Int)) (e : Ending) (w' : World) : Prop :=
  match r with
  | .ok (V, p') => e = .returned (.tuple #[]) ∧ NmW g NB b0 A c l p' lim V w' ∧ Fr (fun i => i = g ∨ i = NB) W w'
  | .error s => Stops s.1 s.2 e ∧ Fr (fun i => i = g ∨ i = NB) W w'
theorem bx_rd {g C X NB : Nat} {W V : World} (hC : C ≠ g) (hX : X ≠ g) (hN : 1 ≠ g) (h : (fun V : World => V.cell? ⟨C, 0, none⟩ = some (.pointer (some ⟨g, 0, none⟩)) ∧ V.cell? ⟨X, 0, none⟩ = some (.pointer (some ⟨NB, 0, none⟩)) ∧ V.cell? ⟨1, 0, none⟩ = some (.int .i64 0) ∧ V.cell? ⟨1, 1, none⟩ = some (.int .i64 0)) W) (hR : Rd g W V) : V.cell? ⟨C, 0, none⟩ = some (.pointer (some ⟨g, 0, none⟩)) ∧ V.cell? ⟨X, 0, none⟩ = some (.pointer (some ⟨NB, 0, none⟩)) ∧ V.cell? ⟨1, 0, none⟩ = some (.int .i64 0) ∧ V.cell? ⟨1, 1, none⟩ = some (.int .i64 0) :=
  ⟨hR.cell hC h.1, hR.cell hX h.2.1, hR.cell hN h.2.2.1, hR.cell hN h.2.2.2⟩
theorem bx_set {g C X NB i : Nat} {V : World} {u : Value} (hC : C ≠ NB) (hX : X ≠ NB) (hN : 1 ≠ NB) (h : V.cell? ⟨C, 0, none⟩ = some (.pointer (some ⟨g, 0, none⟩)) ∧ V.cell? ⟨X, 0, none⟩ = some (.pointer (some ⟨NB, 0, none⟩)) ∧ V.cell? ⟨1, 0, none⟩ = some (.int .i64 0) ∧ V.cell? ⟨1, 1, none⟩ = some (.int .i64 0)) : (fun V : World => V.cell? ⟨C, 0, none⟩ = some (.pointer (some ⟨g, 0, none⟩)) ∧ V.cell? ⟨X, 0, none⟩ = some (.pointer (some ⟨NB, 0, none⟩)) ∧ V.cell? ⟨1, 0, none⟩ = some (.int .i64 0) ∧ V.cell? ⟨1, 1, none⟩ = some (.int .i64 0)) (V.setCell ⟨NB, i, none⟩ u) :=
  ⟨(World.cell?_setCell_far _ _ _ _ (fun e => hC e.symm)).trans h.1, (World.cell?_setCell_far _ _ _ _ (fun e => hX e.symm)).trans h.2.1, (World.cell?_setCell_far _ _ _ _ (fun e => hN e.symm)).trans h.2.2.1, (World.cell?_setCell_far _ _ _ _ (fun e => hN e.symm)).trans h.2.2.2⟩
set_option maxRecDepth 100000 in
set_option maxHeartbeats 4000000 in
theorem row3_0 (g NB b0 I C X : Nat) (A : Option Addr) (c : Nat) (l : List Int) (p lim : Int) (h0 h1 h2 : Bool) (m : ByteArray) (fs : List S149) (ls : List S90) (v4 v5 : Value) (W : World) (h : NmS g NB b0 A c l p lim h0 h1 h2 m fs ls v4 v5 W) (hcap : l.length ≤ c)
    (cI : W.cell? ⟨I, 0, none⟩ = some (.int .i64 0)) (cC : W.cell? ⟨C, 0, none⟩ = some (.pointer (some ⟨g, 0, none⟩))) (cX : W.cell? ⟨X, 0, none⟩ = some (.pointer (some ⟨NB, 0, none⟩))) (hC : C ≠ g) (hC2 : C ≠ NB) (hX : X ≠ g) (hX2 : X ≠ NB) :
    Calls Tryz.prog 44 #[.pointer (some ⟨I, 0, none⟩), .pointer (some ⟨C, 0, none⟩), .pointer (some ⟨X, 0, none⟩)] W (PostRow g NB b0 A c l lim W (match nameM 0 0 l p lim with | .error s => .error s | .ok (s, p') => .ok (⟨true, h1, h2, strOfNums s, fs, ls⟩, p'))) := by
  have HNM := hid (fun V (hB : CB g A c l p lim V) (hG : GlobH g V) => name_walk g A c l p lim V 0 0 hB hcap hG.gl hG.h0 (by decide) (by decide) (by decide) (by decide))
  have S0 : (fun V : World => V.cell? ⟨C, 0, none⟩ = some (.pointer (some ⟨g, 0, none⟩)) ∧ V.cell? ⟨X, 0, none⟩ = some (.pointer (some ⟨NB, 0, none⟩)) ∧ V.cell? ⟨1, 0, none⟩ = some (.int .i64 0) ∧ V.cell? ⟨1, 1, none⟩ = some (.int .i64 0)) W := ⟨cC, cX, h.gh.gm.n0, h.gh.gm.n1⟩
  have HS := hid S0
  have HN := hid h
  have hNg : 1 ≠ g := h.gh.h3
  have hNN : 1 ≠ NB := by have := h.gb; omega
  have HD := hid (Rd.of_below (g := g) (Below.drew (Below.refl W.heap.size W)))
  have HW := hid (h.below (Below.drew (Below.refl W.heap.size W)))
  clear h S0
  rcases hn : nameM 0 0 l p lim with s | ⟨s, p'⟩
  · rw [hn] at HNM
    clear hn
    go_enter Tryz.func44, Tryz.ntmps44
    go_upto_region 2 with (fail)
    refine wp_region_held_drew (S := (fun V => V.cell? ⟨C, 0, none⟩ = some (.pointer (some ⟨g, 0, none⟩)) ∧ V.cell? ⟨X, 0, none⟩ = some (.pointer (some ⟨NB, 0, none⟩)) ∧ V.cell? ⟨1, 0, none⟩ = some (.int .i64 0) ∧ V.cell? ⟨1, 1, none⟩ = some (.int .i64 0))) (by kernel_rfl) ?hSa1 (fun hHeld => ?goa1)
    case hSa1 => exact bx_rd hC hX hNg HS.out HD.out
    refine tk 0 ⟨some 6, .load 161 (.tmp 2), 161, "names.go:150", #[], none⟩ rfl ?_
    refine tk 1 ⟨some 7, .load 161 (.tmp 2), 161, "names.go:150", #[], none⟩ rfl ?_
    refine tk 2 ⟨some 8, .load 73 (.tmp 1), 73, "names.go:150", #[], none⟩ rfl ?_
    refine tk 3 ⟨some 9, .load 171 (.global 1), 171, "names.go:150", #[], none⟩ rfl ?_
    refine wpAnyH_ready (rs := [4]) (by kernel_rfl) (by simp) ?_
    refine AllReadyH.cons (o := ⟨some 10, .call { callee := .value (.func 45), args := #[.tmp 8, .tmp 9], argTypes := #[73, 171] }, 9, "names.go:150", #[⟨2, .data⟩, ⟨3, .data⟩], none⟩) rfl (fun K hK => ?_) AllReadyH.nil
    go_simp
    go_at_call 45; (with_reducible refine (HNM.out _ HW.out.cb HW.out.gh).mono ?_); rintro e w1 ⟨rfl, HG1⟩; exact ⟨rfl, ⟨rfl, Fr.of_rd (HD.out.trans HG1) (.inl rfl)⟩⟩
  · rw [hn] at HNM
    clear hn
    go_enter Tryz.func44, Tryz.ntmps44
    go_upto_region 2 with (fail)
    refine wp_region_noPanic ?_
    refine wp_region_heldD 10 (S := (fun V => V.cell? ⟨C, 0, none⟩ = some (.pointer (some ⟨g, 0, none⟩)) ∧ V.cell? ⟨X, 0, none⟩ = some (.pointer (some ⟨NB, 0, none⟩)) ∧ V.cell? ⟨1, 0, none⟩ = some (.int .i64 0) ∧ V.cell? ⟨1, 1, none⟩ = some (.int .i64 0))) (by kernel_rfl) ?hSb1 (fun hHeld => ?gob1)
    case hSb1 => exact bx_rd hC hX hNg HS.out HD.out
    refine tkD 0 ⟨some 6, .load 161 (.tmp 2), 161, "names.go:150", #[], none⟩ rfl ?_
    refine tkD 1 ⟨some 7, .load 161 (.tmp 2), 161, "names.go:150", #[], none⟩ rfl ?_
    refine tkD 2 ⟨some 8, .load 73 (.tmp 1), 73, "names.go:150", #[], none⟩ rfl ?_
    refine tkD 3 ⟨some 9, .load 171 (.global 1), 171, "names.go:150", #[], none⟩ rfl ?_
    refine wpAnyD_ready (rs := [4]) (by kernel_rfl) (by simp) ?_
    refine AllReadyD.cons (o := ⟨some 10, .call { callee := .value (.func 45), args := #[.tmp 8, .tmp 9], argTypes := #[73, 171] }, 9, "names.go:150", #[⟨2, .data⟩, ⟨3, .data⟩], none⟩) rfl (fun K hK => ?_) rfl AllReadyD.nil
    go_simp
    go_at_call 45; (with_reducible refine (HNM.out _ HW.out.cb HW.out.gh).mono ?_); rintro e w1 ⟨rfl, HC1, HG1⟩; have HW := hid (HW.out.rd HG1 HC1); have HF := hid (Fr.of_rd (P := fun i => i = g ∨ i = NB) (HD.out.trans HG1) (.inl rfl)); have HG1 := hid HG1; have c0 := HW.out.nc.c0; have z0 := HW.out.nc.z0
    refine hK.out _ _ ?_ (fun hHeld => ?_)
    · (try dsimp only); first | exact bx_rd hC hX hNg hHeld HG1.out | exact bx_set hC2 hX2 hNN hHeld
    clear hK K
    try simp only [Act.put, List.setIfInBounds_toArray, List.set_cons_zero, List.set_cons_succ]
    refine tkD 5 ⟨some 11, .nilCheck (.tmp 6), 0, "names.go:150", #[⟨0, .data⟩, ⟨0, .phase⟩, { on := 1, ground := .textOnly Go.Departure.inlinedCapture }, { on := 2, ground := .textOnly Go.Departure.inlinedCapture }, ⟨3, .phase⟩, ⟨4, .phase⟩], none⟩ rfl ?_
    refine tkD 6 ⟨some 12, .fieldAddr 26 (.tmp 11) 0, 0, "names.go:150", #[⟨5, .data⟩, ⟨0, .phase⟩, { on := 1, ground := .textOnly Go.Departure.inlinedCapture }, { on := 2, ground := .textOnly Go.Departure.inlinedCapture }, ⟨3, .phase⟩, ⟨4, .phase⟩], none⟩ rfl ?_
    refine wpAnyD_ready (rs := [7]) (by kernel_rfl) (by simp) ?_
    refine AllReadyD.cons (o := ⟨none, .store 4 (.tmp 12) (.const (.bool true)), 0, "names.go:150", #[⟨6, .data⟩, ⟨4, .chain⟩, ⟨0, .phase⟩, { on := 1, ground := .textOnly Go.Departure.inlinedCapture }, { on := 2, ground := .textOnly Go.Departure.inlinedCapture }, ⟨3, .phase⟩, ⟨4, .phase⟩], none⟩) rfl (fun K hK => ?_) rfl AllReadyD.nil
    go_simp
    have HW := hid (HW.out.put (.bool true) (HW.out.nc.set0 true) HW.out.r4 HW.out.r5); have HF := hid (HF.out.set (B := NB) (i := 0) (.inr rfl) (.bool true)); clear c0 z0; have c3 := HW.out.nc.c3; have z3 := HW.out.nc.z3
    refine hK.out _ _ ?_ (fun hHeld => ?_)
    · (try dsimp only); first | exact bx_rd hC hX hNg hHeld HG1.out | exact bx_set hC2 hX2 hNN hHeld
    clear hK K
    try simp only [Act.put, List.setIfInBounds_toArray, List.set_cons_zero, List.set_cons_succ]
    refine tkD 8 ⟨some 13, .nilCheck (.tmp 7), 0, "names.go:150", #[⟨1, .data⟩, ⟨0, .phase⟩, ⟨1, .phase⟩, ⟨2, .phase⟩, ⟨3, .phase⟩, ⟨4, .phase⟩, ⟨5, .phase⟩, ⟨6, .phase⟩, ⟨7, .phase⟩], none⟩ rfl ?_
    refine tkD 9 ⟨some 14, .fieldAddr 26 (.tmp 13) 3, 0, "names.go:150", #[⟨8, .data⟩, ⟨0, .phase⟩, ⟨1, .phase⟩, ⟨2, .phase⟩, ⟨3, .phase⟩, ⟨4, .phase⟩, ⟨5, .phase⟩, ⟨6, .phase⟩, ⟨7, .phase⟩], none⟩ rfl ?_
    refine wpAnyD_ready (rs := [10]) (by kernel_rfl) (by simp) ?_
    refine AllReadyD.last (o := ⟨none, .store 9 (.tmp 14) (.tmp 10), 0, "names.go:150", #[⟨9, .data⟩, ⟨4, .data⟩, ⟨7, .chain⟩, ⟨0, .phase⟩, ⟨1, .phase⟩, ⟨2, .phase⟩, ⟨3, .phase⟩, ⟨4, .phase⟩, ⟨5, .phase⟩, ⟨6, .phase⟩, ⟨7, .phase⟩], none⟩) rfl (by kernel_rfl) (fun K hK => ?_)
    go_simp
    refine hK.out _ _ ?_
    clear hK K
    try simp only [Act.put, List.setIfInBounds_toArray, List.set_cons_zero, List.set_cons_succ]
    refine NoPanic.normal ?_
    go_wp2_with fail
    go_end0
    exact ⟨rfl, ⟨_, _, HW.out.put (.string (strOfNums s)) (HW.out.nc.set3 (strOfNums s)) HW.out.r4 HW.out.r5⟩, HF.out.set (B := NB) (i := 3) (.inr rfl) (.string (strOfNums s))⟩
set_option maxRecDepth 100000 in
set_option maxHeartbeats 4000000 in
theorem row3_1 (g NB b0 I C X : Nat) (A : Option Addr) (c : Nat) (l : List Int) (p lim : Int) (h0 h1 h2 : Bool) (m : ByteArray) (fs : List S149) (ls : List S90) (v4 v5 : Value) (W : World) (h : NmS g NB b0 A c l p lim h0 h1 h2 m fs ls v4 v5 W) (hcap : l.length ≤ c)
    (cI : W.cell? ⟨I, 0, none⟩ = some (.int .i64 1)) (cC : W.cell? ⟨C, 0, none⟩ = some (.pointer (some ⟨g, 0, none⟩))) (cX : W.cell? ⟨X, 0, none⟩ = some (.pointer (some ⟨NB, 0, none⟩))) (hC : C ≠ g) (hC2 : C ≠ NB) (hX : X ≠ g) (hX2 : X ≠ NB) (hb0 : b0 ≤ NB) :
    Calls Tryz.prog 44 #[.pointer (some ⟨I, 0, none⟩), .pointer (some ⟨C, 0, none⟩), .pointer (some ⟨X, 0, none⟩)] W (PostRow g NB b0 A c l lim W (match liM (rdN l lim) 0 0 l p lim with | .error s => .error s | .ok (xs, p') => .ok (⟨h0, true, h2, m, xs, ls⟩, p'))) := by
  have HNA := hid (fun V (hB : CB g A c l p lim V) (hG : GlobH g V) C' (hne : C' ≠ g) (cC' : V.cell? ⟨C', 0, none⟩ = some (.pointer (some ⟨g, 0, none⟩))) => names_walk g C' A c l p lim 0 0 V hB hcap hG hne cC' (by decide) (by decide) (by decide) (by decide))
  have S0 : (fun V : World => V.cell? ⟨C, 0, none⟩ = some (.pointer (some ⟨g, 0, none⟩)) ∧ V.cell? ⟨X, 0, none⟩ = some (.pointer (some ⟨NB, 0, none⟩)) ∧ V.cell? ⟨1, 0, none⟩ = some (.int .i64 0) ∧ V.cell? ⟨1, 1, none⟩ = some (.int .i64 0)) W := ⟨cC, cX, h.gh.gm.n0, h.gh.gm.n1⟩
  have HS := hid S0
  have hNg : 1 ≠ g := h.gh.h3
  have hNN : 1 ≠ NB := by have := h.gb; omega
  have hng := h.ng
  have HD := hid (Rd.of_below (g := g) (Below.drew (Below.refl W.heap.size W)))
  have HW := hid (h.below (Below.drew (Below.refl W.heap.size W)))
  have HZ := hid (show W.heap.size ≠ g from Nat.ne_of_gt HW.out.cb.cu.lt)
  clear h S0
  rcases hn : liM (rdN l lim) 0 0 l p lim with s | ⟨xs, p'⟩
  · rw [hn] at HNA
    clear hn
    go_enter Tryz.func44, Tryz.ntmps44
    go_upto_region 4 with (fail)
    refine wp_region_held_drew (S := (fun V => V.cell? ⟨C, 0, none⟩ = some (.pointer (some ⟨g, 0, none⟩)) ∧ V.cell? ⟨X, 0, none⟩ = some (.pointer (some ⟨NB, 0, none⟩)) ∧ V.cell? ⟨1, 0, none⟩ = some (.int .i64 0) ∧ V.cell? ⟨1, 1, none⟩ = some (.int .i64 0))) (by kernel_rfl) ?hSa1 (fun hHeld => ?goa1)
    case hSa1 => exact bx_rd hC hX hNg HS.out HD.out
    refine tk 0 ⟨some 17, .load 161 (.tmp 2), 161, "names.go:152", #[], none⟩ rfl ?_
    refine tk 1 ⟨some 18, .load 161 (.tmp 2), 161, "names.go:152", #[], none⟩ rfl ?_
    refine tk 2 ⟨some 19, .load 73 (.tmp 1), 73, "names.go:152", #[], none⟩ rfl ?_
    refine tk 3 ⟨some 20, .load 171 (.global 1), 171, "names.go:152", #[], none⟩ rfl ?_
    refine tk 4 ⟨some 21, .load 73 (.tmp 1), 73, "names.go:152", #[], none⟩ rfl ?_
    refine wpAnyH_ready (rs := [5]) (by kernel_rfl) (by simp) ?_
    refine AllReadyH.cons (o := ⟨some 22, .call { callee := .value (.func 47), args := #[.tmp 21], argTypes := #[73] }, 175, "names.go:152", #[⟨4, .data⟩], none⟩) rfl (fun K hK => ?_) AllReadyH.nil
    go_simp
    go_at_call 47; (with_reducible refine (nname_any g _).mono ?_); rintro e w2 ⟨rfl, hc2, hb2⟩; have hc2 : w2.cell? ⟨W.heap.size, 0, none⟩ = some (.pointer (some ⟨g, 0, none⟩)) := hc2; have HW := hid (HW.out.below hb2); have HD := hid (HD.out.trans (Rd.of_below hb2))
    refine hK.out _ _ ?_ (fun hHeld => ?_)
    · (try dsimp only); exact bx_rd hC hX hNg hHeld (Rd.of_below hb2)
    clear hK K
    try simp only [Act.put, List.setIfInBounds_toArray, List.set_cons_zero, List.set_cons_succ]
    refine wpAnyH_ready (rs := [6]) (by kernel_rfl) (by simp) ?_
    refine AllReadyH.cons (o := ⟨some 23, .call { callee := .value (.func 46), args := #[.tmp 19, .tmp 20, .tmp 22], argTypes := #[73, 171, 175] }, 23, "names.go:152", #[⟨2, .data⟩, ⟨3, .data⟩, ⟨5, .data⟩, ⟨5, .chain⟩], none⟩) rfl (fun K hK => ?_) AllReadyH.nil
    go_simp
    go_at_call 46; (with_reducible refine (HNA.out _ HW.out.cb HW.out.gh _ HZ.out hc2).mono ?_); rintro e w3 ⟨rfl, HG3⟩; exact ⟨rfl, ⟨rfl, Fr.of_rd (HD.out.trans HG3) (.inl rfl)⟩⟩
  · rw [hn] at HNA
    clear hn
    go_enter Tryz.func44, Tryz.ntmps44
    go_upto_region 4 with (fail)
    refine wp_region_noPanic ?_
    refine wp_region_heldD 12 (S := (fun V => V.cell? ⟨C, 0, none⟩ = some (.pointer (some ⟨g, 0, none⟩)) ∧ V.cell? ⟨X, 0, none⟩ = some (.pointer (some ⟨NB, 0, none⟩)) ∧ V.cell? ⟨1, 0, none⟩ = some (.int .i64 0) ∧ V.cell? ⟨1, 1, none⟩ = some (.int .i64 0))) (by kernel_rfl) ?hSb1 (fun hHeld => ?gob1)
    case hSb1 => exact bx_rd hC hX hNg HS.out HD.out
    refine tkD 0 ⟨some 17, .load 161 (.tmp 2), 161, "names.go:152", #[], none⟩ rfl ?_
    refine tkD 1 ⟨some 18, .load 161 (.tmp 2), 161, "names.go:152", #[], none⟩ rfl ?_
    refine tkD 2 ⟨some 19, .load 73 (.tmp 1), 73, "names.go:152", #[], none⟩ rfl ?_
    refine tkD 3 ⟨some 20, .load 171 (.global 1), 171, "names.go:152", #[], none⟩ rfl ?_
    refine tkD 4 ⟨some 21, .load 73 (.tmp 1), 73, "names.go:152", #[], none⟩ rfl ?_
    refine wpAnyD_ready (rs := [5]) (by kernel_rfl) (by simp) ?_
    refine AllReadyD.cons (o := ⟨some 22, .call { callee := .value (.func 47), args := #[.tmp 21], argTypes := #[73] }, 175, "names.go:152", #[⟨4, .data⟩], none⟩) rfl (fun K hK => ?_) rfl AllReadyD.nil
    go_simp
    go_at_call 47; (with_reducible refine (nname_any g _).mono ?_); rintro e w2 ⟨rfl, hc2, hb2⟩; have hc2 : w2.cell? ⟨W.heap.size, 0, none⟩ = some (.pointer (some ⟨g, 0, none⟩)) := hc2; have HW := hid (HW.out.below hb2); have HD := hid (HD.out.trans (Rd.of_below hb2))
    refine hK.out _ _ ?_ (fun hHeld => ?_)
    · (try dsimp only); first | exact bx_set hC2 hX2 hNN hHeld | exact bx_rd hC hX hNg hHeld HG1.out | exact bx_rd hC hX hNg hHeld (Rd.of_below hb2)
    clear hK K
    try simp only [Act.put, List.setIfInBounds_toArray, List.set_cons_zero, List.set_cons_succ]
    refine wpAnyD_ready (rs := [6]) (by kernel_rfl) (by simp) ?_
    refine AllReadyD.cons (o := ⟨some 23, .call { callee := .value (.func 46), args := #[.tmp 19, .tmp 20, .tmp 22], argTypes := #[73, 171, 175] }, 23, "names.go:152", #[⟨2, .data⟩, ⟨3, .data⟩, ⟨5, .data⟩, ⟨5, .chain⟩], none⟩) rfl (fun K hK => ?_) rfl AllReadyD.nil
    go_simp
    go_at_call 46; (with_reducible refine (HNA.out _ HW.out.cb HW.out.gh _ HZ.out hc2).mono ?_); rintro e w3 ⟨⟨v, rfl, hRv⟩, HC3, HG1⟩; obtain ⟨Av, cv, rfl⟩ := Kd.R_slice hRv; have HRV := hid (Kd.R_mono (Kd.R_lower hRv (base' := b0) (by have := HW.out.cb.cu.lt; omega)) (ok' := fun k => g < k) (fun k hk => by have := HW.out.cb.cu.lt; omega)); have HW := hid (HW.out.rd HG1 HC3); have HF := hid (Fr.of_rd (P := fun i => i = g ∨ i = NB) (HD.out.trans HG1) (.inl rfl)); have HG1 := hid HG1; have c1 := HW.out.nc.c1; have z1 := HW.out.nc.z1
    refine hK.out _ _ ?_ (fun hHeld => ?_)
    · (try dsimp only); first | exact bx_set hC2 hX2 hNN hHeld | exact bx_rd hC hX hNg hHeld HG1.out | exact bx_rd hC hX hNg hHeld (Rd.of_below hb2)
    clear hK K
    try simp only [Act.put, List.setIfInBounds_toArray, List.set_cons_zero, List.set_cons_succ]
    refine tkD 7 ⟨some 24, .nilCheck (.tmp 17), 0, "names.go:152", #[⟨0, .data⟩, ⟨0, .phase⟩, { on := 1, ground := .textOnly Go.Departure.inlinedCapture }, { on := 2, ground := .textOnly Go.Departure.inlinedCapture }, ⟨3, .phase⟩, { on := 4, ground := .textOnly Go.Departure.inlinedCapture }, ⟨5, .phase⟩, ⟨6, .phase⟩], none⟩ rfl ?_
    refine tkD 8 ⟨some 25, .fieldAddr 26 (.tmp 24) 1, 0, "names.go:152", #[⟨7, .data⟩, ⟨0, .phase⟩, { on := 1, ground := .textOnly Go.Departure.inlinedCapture }, { on := 2, ground := .textOnly Go.Departure.inlinedCapture }, ⟨3, .phase⟩, { on := 4, ground := .textOnly Go.Departure.inlinedCapture }, ⟨5, .phase⟩, ⟨6, .phase⟩], none⟩ rfl ?_
    refine wpAnyD_ready (rs := [9]) (by kernel_rfl) (by simp) ?_
    refine AllReadyD.cons (o := ⟨none, .store 4 (.tmp 25) (.const (.bool true)), 0, "names.go:152", #[⟨8, .data⟩, ⟨6, .chain⟩, ⟨0, .phase⟩, { on := 1, ground := .textOnly Go.Departure.inlinedCapture }, { on := 2, ground := .textOnly Go.Departure.inlinedCapture }, ⟨3, .phase⟩, { on := 4, ground := .textOnly Go.Departure.inlinedCapture }, ⟨5, .phase⟩, ⟨6, .phase⟩], none⟩) rfl (fun K hK => ?_) rfl AllReadyD.nil
    go_simp
    have HRV := hid (Kd.R_far HRV.out (p := ⟨NB, 1, none⟩) (fun k hk e => by have : k = NB := e; omega) (.bool true)); have HW := hid (HW.out.put (.bool true) (HW.out.nc.set1 true) HW.out.r4 HW.out.r5); have HF := hid (HF.out.set (B := NB) (i := 1) (.inr rfl) (.bool true)); clear c1 z1; have c4 := HW.out.nc.c4; have z4 := HW.out.nc.z4
    refine hK.out _ _ ?_ (fun hHeld => ?_)
    · (try dsimp only); first | exact bx_set hC2 hX2 hNN hHeld | exact bx_rd hC hX hNg hHeld HG1.out | exact bx_rd hC hX hNg hHeld (Rd.of_below hb2)
    clear hK K
    try simp only [Act.put, List.setIfInBounds_toArray, List.set_cons_zero, List.set_cons_succ]
    refine tkD 10 ⟨some 26, .nilCheck (.tmp 18), 0, "names.go:152", #[⟨1, .data⟩, ⟨0, .phase⟩, ⟨1, .phase⟩, ⟨2, .phase⟩, ⟨3, .phase⟩, ⟨4, .phase⟩, ⟨5, .phase⟩, ⟨6, .phase⟩, ⟨7, .phase⟩, ⟨8, .phase⟩, ⟨9, .phase⟩], none⟩ rfl ?_
    refine tkD 11 ⟨some 27, .fieldAddr 26 (.tmp 26) 4, 0, "names.go:152", #[⟨10, .data⟩, ⟨0, .phase⟩, ⟨1, .phase⟩, ⟨2, .phase⟩, ⟨3, .phase⟩, ⟨4, .phase⟩, ⟨5, .phase⟩, ⟨6, .phase⟩, ⟨7, .phase⟩, ⟨8, .phase⟩, ⟨9, .phase⟩], none⟩ rfl ?_
    refine wpAnyD_ready (rs := [12]) (by kernel_rfl) (by simp) ?_
    refine AllReadyD.last (o := ⟨none, .store 23 (.tmp 27) (.tmp 23), 0, "names.go:152", #[⟨11, .data⟩, ⟨6, .data⟩, ⟨9, .chain⟩, ⟨0, .phase⟩, ⟨1, .phase⟩, ⟨2, .phase⟩, ⟨3, .phase⟩, ⟨4, .phase⟩, ⟨5, .phase⟩, ⟨6, .phase⟩, ⟨7, .phase⟩, ⟨8, .phase⟩, ⟨9, .phase⟩], none⟩) rfl (by kernel_rfl) (fun K hK => ?_)
    go_simp
    refine hK.out _ _ ?_
    clear hK K
    try simp only [Act.put, List.setIfInBounds_toArray, List.set_cons_zero, List.set_cons_succ]
    refine NoPanic.normal ?_
    go_wp2_with fail
    go_end0
    exact ⟨rfl, ⟨_, _, HW.out.put (.slice Av xs.length cv) (HW.out.nc.set4 (.slice Av xs.length cv)) HRV.out HW.out.r5⟩, HF.out.set (B := NB) (i := 4) (.inr rfl) (.slice Av xs.length cv)⟩
set_option maxRecDepth 100000 in
set_option maxHeartbeats 4000000 in
theorem row3_2 (g NB b0 I C X : Nat) (A : Option Addr) (c : Nat) (l : List Int) (p lim : Int) (h0 h1 h2 : Bool) (m : ByteArray) (fs : List S149) (ls : List S90) (v4 v5 : Value) (W : World) (h : NmS g NB b0 A c l p lim h0 h1 h2 m fs ls v4 v5 W) (hcap : l.length ≤ c)
    (cI : W.cell? ⟨I, 0, none⟩ = some (.int .i64 2)) (cC : W.cell? ⟨C, 0, none⟩ = some (.pointer (some ⟨g, 0, none⟩))) (cX : W.cell? ⟨X, 0, none⟩ = some (.pointer (some ⟨NB, 0, none⟩))) (hC : C ≠ g) (hC2 : C ≠ NB) (hX : X ≠ g) (hX2 : X ≠ NB) (hb0 : b0 ≤ NB) :
    Calls Tryz.prog 44 #[.pointer (some ⟨I, 0, none⟩), .pointer (some ⟨C, 0, none⟩), .pointer (some ⟨X, 0, none⟩)] W (PostRow g NB b0 A c l lim W (match liM (rdL l lim) 0 0 l p lim with | .error s => .error s | .ok (xs, p') => .ok (⟨h0, h1, true, m, fs, xs⟩, p'))) := by
  have HNA := hid (fun V (hB : CB g A c l p lim V) (hG : GlobH g V) C' (hne : C' ≠ g) (cC' : V.cell? ⟨C', 0, none⟩ = some (.pointer (some ⟨g, 0, none⟩))) => locals_walk g C' A c l p lim V hB hcap hG hne cC')
  have hmf : ∀ (fn : Fn) (first cap : Array Value) (w : World), (Instr.makeFunc fn first cap).run Tryz.prog w = .ok (.func fn first cap) w := fun _ _ _ _ => rfl
  have S0 : (fun V : World => V.cell? ⟨C, 0, none⟩ = some (.pointer (some ⟨g, 0, none⟩)) ∧ V.cell? ⟨X, 0, none⟩ = some (.pointer (some ⟨NB, 0, none⟩)) ∧ V.cell? ⟨1, 0, none⟩ = some (.int .i64 0) ∧ V.cell? ⟨1, 1, none⟩ = some (.int .i64 0)) W := ⟨cC, cX, h.gh.gm.n0, h.gh.gm.n1⟩
  have HS := hid S0
  have hNg : 1 ≠ g := h.gh.h3
  have hNN : 1 ≠ NB := by have := h.gb; omega
  have hng := h.ng
  have c2 := h.nc.c2
  have z2 := h.nc.z2
  have HN := hid (h.put (.bool true) (h.nc.set2 true) h.r4 h.r5)
  clear h S0
  rcases hn : liM (rdL l lim) 0 0 l p lim with s | ⟨xs, p'⟩
  · rw [hn] at HNA
    clear hn
    go_enter Tryz.func44, Tryz.ntmps44
    go_upto_region 7 with (fail)
    obtain ⟨W1, hW1⟩ : ∃ W1, W1 = W.setCell ⟨NB, 2, none⟩ (.bool true) := ⟨_, rfl⟩; have HF := hid (show Fr (fun i => i = g ∨ i = NB) W W1 by rw [hW1]; exact (Fr.of_below (Below.refl _ _)).set (B := NB) (i := 2) (.inr rfl) (.bool true)); have HS := hid (show (fun V : World => V.cell? ⟨C, 0, none⟩ = some (.pointer (some ⟨g, 0, none⟩)) ∧ V.cell? ⟨X, 0, none⟩ = some (.pointer (some ⟨NB, 0, none⟩)) ∧ V.cell? ⟨1, 0, none⟩ = some (.int .i64 0) ∧ V.cell? ⟨1, 1, none⟩ = some (.int .i64 0)) W1 by rw [hW1]; exact bx_set hC2 hX2 hNN HS.out); rw [← hW1] at HN ⊢; have HD := hid (Below.drew (Below.refl W1.heap.size W1)); have HW := hid (HN.out.below HD.out); clear hW1 c2 z2
    refine wp_region_held_drew (S := (fun V => V.cell? ⟨C, 0, none⟩ = some (.pointer (some ⟨g, 0, none⟩)) ∧ V.cell? ⟨X, 0, none⟩ = some (.pointer (some ⟨NB, 0, none⟩)) ∧ V.cell? ⟨1, 0, none⟩ = some (.int .i64 0) ∧ V.cell? ⟨1, 1, none⟩ = some (.int .i64 0))) (by kernel_rfl) ?hSa1 (fun hHeld => ?goa1)
    case hSa1 => exact bx_rd hC hX hNg HS.out (Rd.of_below HD.out)
    refine tk 0 ⟨some 33, .load 161 (.tmp 2), 161, "names.go:155", #[], none⟩ rfl ?_
    refine tk 1 ⟨some 34, .load 73 (.tmp 1), 73, "names.go:155", #[], none⟩ rfl ?_
    refine tk 2 ⟨some 35, .load 171 (.global 1), 171, "names.go:155", #[], none⟩ rfl ?_
    refine wpAnyH_ready (rs := [3]) (by kernel_rfl) (by simp) ?_
    refine AllReadyH.cons (o := ⟨some 36, .makeFunc (Go.Fn.func 49) #[] #[.tmp 1], 178, "names.go:155", #[], none⟩) rfl (fun K hK => ?_) AllReadyH.nil
    go_simp
    skip
    refine hK.out _ _ ?_ (fun hHeld => ?_)
    · (try dsimp only); exact hHeld
    clear hK K
    try simp only [Act.put, List.setIfInBounds_toArray, List.set_cons_zero, List.set_cons_succ]
    refine wpAnyH_ready (rs := [4]) (by kernel_rfl) (by simp) ?_
    refine AllReadyH.cons (o := ⟨some 37, .call { callee := .value (.func 48), args := #[.tmp 34, .tmp 35, .tmp 36], argTypes := #[73, 171, 178] }, 24, "names.go:155", #[⟨1, .data⟩, ⟨2, .data⟩, ⟨3, .data⟩], none⟩) rfl (fun K hK => ?_) AllReadyH.nil
    go_simp
    go_at_call 48; (with_reducible refine (HNA.out _ HW.out.cb HW.out.gh _ hC hHeld.1).mono ?_); rintro e w3 ⟨rfl, HG3⟩; exact ⟨rfl, ⟨rfl, (HF.out.trans (Fr.of_below HD.out)).trans (Fr.of_rd HG3 (.inl rfl))⟩⟩
  · rw [hn] at HNA
    clear hn
    go_enter Tryz.func44, Tryz.ntmps44
    go_upto_region 7 with (fail)
    obtain ⟨W1, hW1⟩ : ∃ W1, W1 = W.setCell ⟨NB, 2, none⟩ (.bool true) := ⟨_, rfl⟩; have HF := hid (show Fr (fun i => i = g ∨ i = NB) W W1 by rw [hW1]; exact (Fr.of_below (Below.refl _ _)).set (B := NB) (i := 2) (.inr rfl) (.bool true)); have HS := hid (show (fun V : World => V.cell? ⟨C, 0, none⟩ = some (.pointer (some ⟨g, 0, none⟩)) ∧ V.cell? ⟨X, 0, none⟩ = some (.pointer (some ⟨NB, 0, none⟩)) ∧ V.cell? ⟨1, 0, none⟩ = some (.int .i64 0) ∧ V.cell? ⟨1, 1, none⟩ = some (.int .i64 0)) W1 by rw [hW1]; exact bx_set hC2 hX2 hNN HS.out); rw [← hW1] at HN ⊢; have HD := hid (Below.drew (Below.refl W1.heap.size W1)); have HW := hid (HN.out.below HD.out); clear hW1 c2 z2
    refine wp_region_noPanic ?_
    refine wp_region_heldD 7 (S := (fun V => V.cell? ⟨C, 0, none⟩ = some (.pointer (some ⟨g, 0, none⟩)) ∧ V.cell? ⟨X, 0, none⟩ = some (.pointer (some ⟨NB, 0, none⟩)) ∧ V.cell? ⟨1, 0, none⟩ = some (.int .i64 0) ∧ V.cell? ⟨1, 1, none⟩ = some (.int .i64 0))) (by kernel_rfl) ?hSb1 (fun hHeld => ?gob1)
    case hSb1 => exact bx_rd hC hX hNg HS.out (Rd.of_below HD.out)
    refine tkD 0 ⟨some 33, .load 161 (.tmp 2), 161, "names.go:155", #[], none⟩ rfl ?_
    refine tkD 1 ⟨some 34, .load 73 (.tmp 1), 73, "names.go:155", #[], none⟩ rfl ?_
    refine tkD 2 ⟨some 35, .load 171 (.global 1), 171, "names.go:155", #[], none⟩ rfl ?_
    refine wpAnyD_ready (rs := [3]) (by kernel_rfl) (by simp) ?_
    refine AllReadyD.cons (o := ⟨some 36, .makeFunc (Go.Fn.func 49) #[] #[.tmp 1], 178, "names.go:155", #[], none⟩) rfl (fun K hK => ?_) rfl AllReadyD.nil
    go_simp
    skip
    refine hK.out _ _ ?_ (fun hHeld => ?_)
    · (try dsimp only); first | exact bx_rd hC hX hNg hHeld HG1.out | exact hHeld
    clear hK K
    try simp only [Act.put, List.setIfInBounds_toArray, List.set_cons_zero, List.set_cons_succ]
    refine wpAnyD_ready (rs := [4]) (by kernel_rfl) (by simp) ?_
    refine AllReadyD.cons (o := ⟨some 37, .call { callee := .value (.func 48), args := #[.tmp 34, .tmp 35, .tmp 36], argTypes := #[73, 171, 178] }, 24, "names.go:155", #[⟨1, .data⟩, ⟨2, .data⟩, ⟨3, .data⟩], none⟩) rfl (fun K hK => ?_) rfl AllReadyD.nil
    go_simp
    go_at_call 48; (with_reducible refine (HNA.out _ HW.out.cb HW.out.gh _ hC hHeld.1).mono ?_); rintro e w3 ⟨⟨v, rfl, hRv⟩, HC3, HG1⟩; obtain ⟨Av, cv, rfl⟩ := Kd.R_slice hRv; have HRV := hid (Kd.R_mono (Kd.R_lower hRv (base' := b0) (by have := HW.out.cb.cu.lt; omega)) (ok' := fun k => g < k) (fun k hk => by have := HW.out.cb.cu.lt; omega)); have HW := hid (HW.out.rd HG1 HC3); have HF := hid ((HF.out.trans (Fr.of_below HD.out)).trans (Fr.of_rd HG1 (.inl rfl))); have HG1 := hid HG1; have c5 := HW.out.nc.c5; have z5 := HW.out.nc.z5
    refine hK.out _ _ ?_ (fun hHeld => ?_)
    · (try dsimp only); first | exact bx_rd hC hX hNg hHeld HG1.out | exact hHeld
    clear hK K
    try simp only [Act.put, List.setIfInBounds_toArray, List.set_cons_zero, List.set_cons_succ]
    refine tkD 5 ⟨some 38, .nilCheck (.tmp 33), 0, "names.go:155", #[⟨0, .data⟩, ⟨0, .phase⟩, ⟨1, .phase⟩, ⟨2, .phase⟩, ⟨3, .phase⟩, ⟨4, .phase⟩], none⟩ rfl ?_
    refine tkD 6 ⟨some 39, .fieldAddr 26 (.tmp 38) 5, 0, "names.go:155", #[⟨5, .data⟩, ⟨0, .phase⟩, ⟨1, .phase⟩, ⟨2, .phase⟩, ⟨3, .phase⟩, ⟨4, .phase⟩], none⟩ rfl ?_
    refine wpAnyD_ready (rs := [7]) (by kernel_rfl) (by simp) ?_
    refine AllReadyD.last (o := ⟨none, .store 24 (.tmp 39) (.tmp 37), 0, "names.go:155", #[⟨6, .data⟩, ⟨4, .data⟩, ⟨4, .chain⟩, ⟨0, .phase⟩, ⟨1, .phase⟩, ⟨2, .phase⟩, ⟨3, .phase⟩, ⟨4, .phase⟩], none⟩) rfl (by kernel_rfl) (fun K hK => ?_)
    go_simp
    refine hK.out _ _ ?_
    clear hK K
    try simp only [Act.put, List.setIfInBounds_toArray, List.set_cons_zero, List.set_cons_succ]
    refine NoPanic.normal ?_
    go_wp2_with fail
    go_end0
    exact ⟨rfl, ⟨_, _, HW.out.put (.slice Av xs.length cv) (HW.out.nc.set5 (.slice Av xs.length cv)) HW.out.r4 HRV.out⟩, HF.out.set (B := NB) (i := 5) (.inr rfl) (.slice Av xs.length cv)⟩
end Go.Proofs.YtiohiiekaofkbaaGreatDoor
/- A row of names, whole; all rows. -/
namespace Go.Proofs.YtiohiiekaofkbaaGreatDoor
set_option linter.unusedVariables false
set_option linter.unusedSimpArgs false
open Go.RowKit Go.Proofs.YtiohiiekaofkbaaGreatDoor.PNamesReads Go.Proofs.YtiohiiekaofkbaaGreatDoorW.PrintWords
def bodyM (l : List Int) (lim x : Int) (V : NmV) (p : Int) : Except (Int × Int) (NmV × Int) :=
  if x = 0 then match nameM 0 0 l p lim with | .error s => .error s | .ok (s, p') => .ok (⟨true, V.hf, V.hl, strOfNums s, V.fs, V.ls⟩, p')
  else if x = 1 then match liM (rdN l lim) 0 0 l p lim with | .error s => .error s | .ok (xs, p') => .ok (⟨V.hm, true, V.hl, V.md, xs, V.ls⟩, p')
  else match liM (rdL l lim) 0 0 l p lim with | .error s => .error s | .ok (xs, p') => .ok (⟨V.hm, V.hf, true, V.md, V.fs, xs⟩, p')
theorem row3_any (g NB b0 I C X : Nat) (A : Option Addr) (c : Nat) (l : List Int) (p lim x : Int) (V : NmV) (W : World) (h : NmW g NB b0 A c l p lim V W) (hcap : l.length ≤ c) (x0 : 0 ≤ x) (x1 : x < 3)
    (cI : W.cell? ⟨I, 0, none⟩ = some (.int .i64 x)) (cC : W.cell? ⟨C, 0, none⟩ = some (.pointer (some ⟨g, 0, none⟩))) (cX : W.cell? ⟨X, 0, none⟩ = some (.pointer (some ⟨NB, 0, none⟩))) (hC : C ≠ g) (hC2 : C ≠ NB) (hX : X ≠ g) (hX2 : X ≠ NB) (hb0 : b0 ≤ NB) :
    Calls Tryz.prog 44 #[.pointer (some ⟨I, 0, none⟩), .pointer (some ⟨C, 0, none⟩), .pointer (some ⟨X, 0, none⟩)] W (PostRow g NB b0 A c l lim W (bodyM l lim x V p)) := by
  obtain ⟨v4, v5, h⟩ := h
  obtain rfl | rfl | rfl : x = 0 ∨ x = 1 ∨ x = 2 := by omega
  · exact row3_0 g NB b0 I C X A c l p lim _ _ _ _ _ _ _ _ W h hcap cI cC cX hC hC2 hX hX2
  · exact row3_1 g NB b0 I C X A c l p lim _ _ _ _ _ _ _ _ W h hcap cI cC cX hC hC2 hX hX2 hb0
  · exact row3_2 g NB b0 I C X A c l p lim _ _ _ _ _ _ _ _ W h hcap cI cC cX hC hC2 hX hX2 hb0
def rowM (l : List Int) (lim last : Int) (V : NmV) (p : Int) : Except (Int × Int) (Int × NmV × Int) :=
  match nextR l p lim with
  | .error s => .error s
  | .ok x => if last < x ∧ x < 3 then (match uM rgSz l lim 5 0 (p + 1) with
    | .error s => .error s
    | .ok (n, p2) => match bodyM l (inLim p2 lim n) x V p2 with
      | .error s => .error s
      | .ok (V', p3) => if p3 = inLim p2 lim n then .ok (x, V', p3) else .error (p3, 2)) else .error (p, 2)
def PostRows (g NB b0 : Nat) (A : Option Addr) (c : Nat) (l : List Int) (lim : Int) (W : World) (r : Except (Int × Int) (Int × NmV × Int)) (e : Ending) (w' : World) : Prop :=
  match r with
  | .ok (x, V, p') => e = .returned (.int .i64 x) ∧ NmW g NB b0 A c l p' lim V w' ∧ Fr (fun i => i = g ∨ i = NB) W w'
  | .error s => Stops s.1 s.2 e ∧ Fr (fun i => i = g ∨ i = NB) W w'
theorem uM_lim {rg : Int → List (Int × Int)} {l : List Int} {lim : Int} : ∀ (k : Nat) (v p v' p' : Int), lim < 0 ∨ p ≤ lim → uM rg l lim k v p = .ok (v', p') → lim < 0 ∨ p' ≤ lim := by
  intro k
  induction k with
  | zero => intro v p v' p' hl h
            simp only [uM, Except.ok.injEq, Prod.mk.injEq] at h
            omega
  | succ k ih =>
    intro v p v' p' hl h
    rw [uM] at h
    rcases hx : nextR l p lim with s | x
    · rw [hx] at h; cases h
    · rw [hx] at h
      have hr := (next_mem hx).2
      have hl2 : lim < 0 ∨ p + 1 ≤ lim := by unfold rest at hr; split at hr <;> omega
      simp only at h
      split at h
      · split at h
        · exact ih _ _ _ _ hl2 h
        · cases h
      · split at h
        · simp only [Except.ok.injEq, Prod.mk.injEq] at h; omega
        · cases h
theorem NmW.cb {g NB b0 : Nat} {A : Option Addr} {c : Nat} {l : List Int} {p lim : Int} {V : NmV} {w : World} (h : NmW g NB b0 A c l p lim V w) : CB g A c l p lim w := by obtain ⟨_, _, h⟩ := h; exact h.cb
theorem NmW.gh {g NB b0 : Nat} {A : Option Addr} {c : Nat} {l : List Int} {p lim : Int} {V : NmV} {w : World} (h : NmW g NB b0 A c l p lim V w) : GlobH g w := by obtain ⟨_, _, h⟩ := h; exact h.gh
theorem NmW.ng {g NB b0 : Nat} {A : Option Addr} {c : Nat} {l : List Int} {p lim : Int} {V : NmV} {w : World} (h : NmW g NB b0 A c l p lim V w) : NB < g := by obtain ⟨_, _, h⟩ := h; exact h.ng
theorem NmW.rd {g NB b0 : Nat} {A : Option Addr} {c : Nat} {l : List Int} {p lim p' lim' : Int} {V : NmV} {w W : World} (h : NmW g NB b0 A c l p lim V w) (hR : Rd g w W) (hC : CB g A c l p' lim' W) : NmW g NB b0 A c l p' lim' V W := by obtain ⟨_, _, h⟩ := h; exact ⟨_, _, h.rd hR hC⟩
set_option maxRecDepth 100000 in
set_option maxHeartbeats 4000000 in
theorem row_walk (g NB b0 : Nat) (A : Option Addr) (c : Nat) (l : List Int) (p lim last : Int) (V : NmV) (W : World) (h : NmW g NB b0 A c l p lim V W) (hcap : l.length ≤ c) (hb0 : b0 ≤ NB) (hlim : lim < 0 ∨ p ≤ lim) (t0 : -1 ≤ last) (t1 : last < 3) :
    Calls Tryz.prog 17 #[.pointer (some ⟨NB, 0, none⟩), .pointer (some ⟨g, 0, none⟩), .int .i64 last] W (PostRows g NB b0 A c l lim W (rowM l lim last V p)) := by
  have HB := hid (fun U (hU : Below W.heap.size W U) L (cL : U.cell? ⟨L, 0, none⟩ = some (.int .i64 last)) (hne : L ≠ g) => byte_walk2 g A c l p lim U 40 #[.pointer (some ⟨L, 0, none⟩)] (fun x _ => decide (last < x ∧ x < 3)) (enters Tryz.func40 (by kernel_rfl) rfl) (h.cb.below hU) (fun x W' x0 x1 hR hC => row1_any L x _ last W' (hR.cell hne cL) x0 x1))
  have hlt := h.cb.cu.lt
  have hng := h.ng
  have hmf : ∀ (fn : Fn) (first cap : Array Value) (w : World), (Instr.makeFunc fn first cap).run Tryz.prog w = .ok (.func fn first cap) w := fun _ _ _ _ => rfl
  rcases hx : nextR l p lim with s | x
  · have HE := hid (show rowM l lim last V p = .error s by rw [rowM, hx])
    rw [show byteM (fun x _ => decide (last < x ∧ x < 3)) l p lim = .error s by rw [byteM, hx]] at HB
    clear hx h
    go_enter Tryz.func17, Tryz.ntmps17
    go_wp2_with (first | (go_at_call 39; (with_reducible refine (HB.out _ bel _ (by go_simp) (by omega)).mono ?_); rintro e w1 ⟨rfl, HG1⟩))
    refine ⟨rfl, ?_⟩
    show PostRows g NB b0 A c l lim W (rowM l lim last V p) _ _
    rw [HE.out]
    exact ⟨rfl, Fr.of_rd ((Rd.of_below (g := g) bel).trans HG1) (.inl rfl)⟩
  · by_cases hd : ¬ (last < x ∧ x < 3)
    · have HE := hid (show rowM l lim last V p = .error (p, 2) by rw [rowM, hx]; simp only; rw [if_neg hd])
      rw [show byteM (fun x _ => decide (last < x ∧ x < 3)) l p lim = .error (p, 2) by rw [byteM, hx]; simp only; rw [if_neg (by simpa using hd)]] at HB
      clear hx h hd
      go_enter Tryz.func17, Tryz.ntmps17
      go_wp2_with (first | (go_at_call 39; (with_reducible refine (HB.out _ bel _ (by go_simp) (by omega)).mono ?_); rintro e w1 ⟨rfl, HG1⟩))
      refine ⟨rfl, ?_⟩
      show PostRows g NB b0 A c l lim W (rowM l lim last V p) _ _
      rw [HE.out]
      exact ⟨rfl, Fr.of_rd ((Rd.of_below (g := g) bel).trans HG1) (.inl rfl)⟩
    · have hd := Decidable.not_not.1 hd
      rw [show byteM (fun x _ => decide (last < x ∧ x < 3)) l p lim = .ok (.int .u8 x, p + 1) by rw [byteM, hx]; simp only; rw [if_pos (by simpa using hd)]] at HB
      have HU := hid (fun U (hR : Rd g W U) (hC : CB g A c l (p + 1) lim U) => uint_walk g A c l (p + 1) lim U 42 #[] rgSz hC (row2_wants (h.gh.rd hR)))
      have hx0 : 0 ≤ x := by omega
      have hx3 : x < 3 := hd.2
      have hwx : IntKind.i64.wrap x = x := by rw [IntKind.wrap_i64]; omega
      have hnx := next_mem hx
      have HXD := hid hd
      rcases hu : uM rgSz l lim 5 0 (p + 1) with s | ⟨n, p2⟩
      · have HE := hid (show rowM l lim last V p = .error s by rw [rowM, hx]; simp only; rw [if_pos hd, hu])
        rw [hu] at HU
        clear hx h hd hu hnx
        go_enter Tryz.func17, Tryz.ntmps17
        go_upto_region 2 with (first | (go_at_call 39; (with_reducible refine (HB.out _ bel _ (by go_simp) (by omega)).mono ?_); rintro e w1 ⟨rfl, HC1, HG1⟩; have HC1 := hid HC1; have HR1 : Hid (Rd g W w1) := hid ((Rd.of_below (g := g) (w := W) bel).trans HG1); have q0 := HG1.cell (B := W.heap.size) (i := 0) (v := .pointer (some ⟨NB, 0, none⟩)) (by omega) (by go_simp); have q1 := HG1.cell (B := W.heap.size + 1) (i := 0) (v := .pointer (some ⟨g, 0, none⟩)) (by omega) (by go_simp)))
        have hzw := cell_lt q1; obtain ⟨W1, hW1⟩ : ∃ W1, W1 = w1.alloc (.cells #[.int .i64 x] 3) := ⟨_, rfl⟩; have hbw : Below w1.heap.size w1 W1 := (by rw [hW1]; exact bel); have HR1 := hid (HR1.out.trans (Rd.of_below hbw)); have HC1 := hid (HC1.out.below hbw); have q0 := still hbw q0; have q1 := still hbw q1; have q2 : W1.cell? ⟨w1.heap.size, 0, none⟩ = some (.int .i64 x) := (by rw [hW1]; go_simp); have hz1 := HR1.out.size; have hz2 := cell_lt q2; rw [← hW1]; clear hW1 hbw
        go_wp2_with (first | (go_at_call 41; go_loud ((with_reducible refine (HU.out _ HR1.out HC1.out).mono ?_); rintro e w2 ⟨rfl, HG2⟩)))
        refine ⟨rfl, ?_⟩
        show PostRows g NB b0 A c l lim W (rowM l lim last V p) _ _
        rw [HE.out]
        exact ⟨rfl, Fr.of_rd (HR1.out.trans HG2) (.inl rfl)⟩
      · have hl0 : ∀ y ∈ l, 0 ≤ y := fun y hy => (h.cb.b8 y hy).1
        obtain ⟨g1, n0, -⟩ := uM_ge 5 0 (p + 1) n p2 (by decide) hl0 hu
        have n1 := uM_lt 4 0 (p + 1) n p2 (by decide) (by decide) (by decide) hl0 hu
        have hwn : IntKind.i64.wrap n = n := by rw [IntKind.wrap_i64]; omega
        have hlim2 : lim < 0 ∨ p + 1 ≤ lim := by have := hnx.2; unfold rest at this; split at this <;> omega
        have hp2 := uM_lim 5 0 (p + 1) n p2 hlim2 hu
        have HRW : rowM l lim last V p = match bodyM l (inLim p2 lim n) x V p2 with | .error s => .error s | .ok (V', p3) => if p3 = inLim p2 lim n then .ok (x, V', p3) else .error (p3, 2) := by rw [rowM, hx]; simp only; rw [if_pos hd, hu]
        have HR3 := hid (fun U I C X (hR : Rd g W U) (hC : CB g A c l p2 lim U) (cI : U.cell? ⟨I, 0, none⟩ = some (.int .i64 x)) (cC : U.cell? ⟨C, 0, none⟩ = some (.pointer (some ⟨g, 0, none⟩))) (cX : U.cell? ⟨X, 0, none⟩ = some (.pointer (some ⟨NB, 0, none⟩))) (hI : g < I) (hC1 : g < C) (hX : g < X) U' (hR' : Rd g U U') (hC' : CB g A c l p2 (inLim p2 lim n) U') => row3_any g NB b0 I C X A c l p2 (inLim p2 lim n) x V U' (h.rd (hR.trans hR') hC') hcap hx0 hx3 (hR'.cell (by omega) cI) (hR'.cell (by omega) cC) (hR'.cell (by omega) cX) (by omega) (by omega) (by omega) (by omega) hb0)
        have HIM := hid (fun U k caps Dn St (hC : CB g A c l p2 lim U) hE hd => within_walk g A c l p2 lim n U k caps Dn St hC hp2 (by omega) (by omega) hE hd)
        have HEN := hid (enters Tryz.func44 (by kernel_rfl) rfl)
        rw [hu] at HU
        rcases hb : bodyM l (inLim p2 lim n) x V p2 with s | ⟨V', p3⟩
        · rw [hb] at HRW HR3
          have HE := hid HRW
          have HI := hid (fun U I C X (hR : Rd g W U) (hC : CB g A c l p2 lim U) cI cC cX hI hC1 hX => HIM.out U 44 #[.pointer (some ⟨I, 0, none⟩), .pointer (some ⟨C, 0, none⟩), .pointer (some ⟨X, 0, none⟩)] (fun _ _ => False) (fun q er w' => q = s.1 ∧ er = s.2 ∧ Fr (fun i => i = g ∨ i = NB) U w') hC HEN.out
            (fun U' hR' hC' => (HR3.out U I C X hR hC cI cC cX hI hC1 hX U' hR' hC').mono (fun e w' q => .inr ⟨s.1, s.2, q.1, rfl, rfl, (Fr.of_rd hR' (.inl rfl)).trans q.2⟩)))
          clear hx h hd hu hnx hb HRW HIM HR3 HEN hl0
          go_enter Tryz.func17, Tryz.ntmps17
          go_upto_region 2 with (first | (go_at_call 39; (with_reducible refine (HB.out _ bel _ (by go_simp) (by omega)).mono ?_); rintro e w1 ⟨rfl, HC1, HG1⟩; have HC1 := hid HC1; have HR1 : Hid (Rd g W w1) := hid ((Rd.of_below (g := g) (w := W) bel).trans HG1); have q0 := HG1.cell (B := W.heap.size) (i := 0) (v := .pointer (some ⟨NB, 0, none⟩)) (by omega) (by go_simp); have q1 := HG1.cell (B := W.heap.size + 1) (i := 0) (v := .pointer (some ⟨g, 0, none⟩)) (by omega) (by go_simp)))
          have hzw := cell_lt q1; obtain ⟨W1, hW1⟩ : ∃ W1, W1 = w1.alloc (.cells #[.int .i64 x] 3) := ⟨_, rfl⟩; have hbw : Below w1.heap.size w1 W1 := (by rw [hW1]; exact bel); have HR1 := hid (HR1.out.trans (Rd.of_below hbw)); have HC1 := hid (HC1.out.below hbw); have q0 := still hbw q0; have q1 := still hbw q1; have q2 : W1.cell? ⟨w1.heap.size, 0, none⟩ = some (.int .i64 x) := (by rw [hW1]; go_simp); have hz1 := HR1.out.size; have hz2 := cell_lt q2; rw [← hW1]; clear hW1 hbw
          go_upto_region 3 with (first | (go_at_call 41; go_loud ((with_reducible refine (HU.out _ HR1.out HC1.out).mono ?_); rintro e w2 ⟨rfl, HC2, HG2⟩; have HC2 := hid HC2; have HR2 := hid (HR1.out.trans HG2); have q0 := HG2.cell (by omega) q0; have q1 := HG2.cell (by omega) q1; have q2 := HG2.cell (by omega) q2)))
          go_wp2_with (first | (go_at_call 14; (with_reducible refine (HI.out _ _ _ _ HR2.out HC2.out q2 q1 q0 (by omega) (by omega) (by omega)).mono ?_); rintro e w3 (⟨rfl, p', w', -, hf, -⟩ | ⟨p', w', -, hf, -⟩ | ⟨q, er, hst, rfl, rfl, HF⟩); exact hf.elim; exact hf.elim; obtain rfl := hst))
          refine ⟨rfl, ?_⟩
          show PostRows g NB b0 A c l lim W (rowM l lim last V p) _ _
          rw [HE.out]
          exact ⟨rfl, (Fr.of_rd HR2.out (.inl rfl)).trans HF⟩
        · rw [hb] at HRW HR3
          have HI := hid (fun U I C X (hR : Rd g W U) (hC : CB g A c l p2 lim U) cI cC cX hI hC1 hX => HIM.out U 44 #[.pointer (some ⟨I, 0, none⟩), .pointer (some ⟨C, 0, none⟩), .pointer (some ⟨X, 0, none⟩)] (fun p' w' => p' = p3 ∧ NmW g NB b0 A c l p3 (inLim p2 lim n) V' w' ∧ Fr (fun i => i = g ∨ i = NB) U w') (fun q er w' => False) hC HEN.out
            (fun U' hR' hC' => (HR3.out U I C X hR hC cI cC cX hI hC1 hX U' hR' hC').mono (fun e w' q => .inl ⟨q.1, p3, q.2.1.cb, rfl, q.2.1, (Fr.of_rd hR' (.inl rfl)).trans q.2.2⟩)))
          by_cases hq : p3 = inLim p2 lim n
          · have HE := hid (HRW.trans (show (if p3 = inLim p2 lim n then Except.ok (x, V', p3) else .error (p3, 2)) = .ok (x, V', p3) from if_pos hq))
            have HQ := hid hq
            clear hx h hd hu hnx hb HRW HIM HR3 HEN hl0 hq
            go_enter Tryz.func17, Tryz.ntmps17
            go_upto_region 2 with (first | (go_at_call 39; (with_reducible refine (HB.out _ bel _ (by go_simp) (by omega)).mono ?_); rintro e w1 ⟨rfl, HC1, HG1⟩; have HC1 := hid HC1; have HR1 : Hid (Rd g W w1) := hid ((Rd.of_below (g := g) (w := W) bel).trans HG1); have q0 := HG1.cell (B := W.heap.size) (i := 0) (v := .pointer (some ⟨NB, 0, none⟩)) (by omega) (by go_simp); have q1 := HG1.cell (B := W.heap.size + 1) (i := 0) (v := .pointer (some ⟨g, 0, none⟩)) (by omega) (by go_simp)))
            have hzw := cell_lt q1; obtain ⟨W1, hW1⟩ : ∃ W1, W1 = w1.alloc (.cells #[.int .i64 x] 3) := ⟨_, rfl⟩; have hbw : Below w1.heap.size w1 W1 := (by rw [hW1]; exact bel); have HR1 := hid (HR1.out.trans (Rd.of_below hbw)); have HC1 := hid (HC1.out.below hbw); have q0 := still hbw q0; have q1 := still hbw q1; have q2 : W1.cell? ⟨w1.heap.size, 0, none⟩ = some (.int .i64 x) := (by rw [hW1]; go_simp); have hz1 := HR1.out.size; have hz2 := cell_lt q2; rw [← hW1]; clear hW1 hbw
            go_upto_region 3 with (first | (go_at_call 41; go_loud ((with_reducible refine (HU.out _ HR1.out HC1.out).mono ?_); rintro e w2 ⟨rfl, HC2, HG2⟩; have HC2 := hid HC2; have HR2 := hid (HR1.out.trans HG2); have q0 := HG2.cell (by omega) q0; have q1 := HG2.cell (by omega) q1; have q2 := HG2.cell (by omega) q2)))
            go_upto_region 4 with (first | (go_at_call 14; (with_reducible refine (HI.out _ _ _ _ HR2.out HC2.out q2 q1 q0 (by omega) (by omega) (by omega)).mono ?_); rintro e w3 (⟨rfl, p', w', hp', ⟨rfl, HN, HF⟩, HC3, HG3⟩ | ⟨p', w', hp', ⟨rfl, -, -⟩, -, -⟩ | ⟨q, er, -, hf⟩); rotate_left; exact absurd HQ.out hp'; exact hf.elim))
            have HC3 := hid HC3
            have q2 := HG3.cell (by omega) (HF.cell (by omega) q2)
            have HN := hid HN
            go_wp2
            go_ret
            show PostRows g NB b0 A c l lim W (rowM l lim last V p) _ _
            rw [HE.out]
            exact ⟨rfl, HN.out.rd HG3 HC3.out, ((Fr.of_rd HR2.out (.inl rfl)).trans HF).trans (Fr.of_rd HG3 (.inl rfl))⟩
          · have HE := hid (HRW.trans (show (if p3 = inLim p2 lim n then Except.ok (x, V', p3) else .error (p3, 2)) = .error (p3, 2) from if_neg hq))
            have HQ := hid hq
            clear hx h hd hu hnx hb HRW HIM HR3 HEN hl0 hq
            go_enter Tryz.func17, Tryz.ntmps17
            go_upto_region 2 with (first | (go_at_call 39; (with_reducible refine (HB.out _ bel _ (by go_simp) (by omega)).mono ?_); rintro e w1 ⟨rfl, HC1, HG1⟩; have HC1 := hid HC1; have HR1 : Hid (Rd g W w1) := hid ((Rd.of_below (g := g) (w := W) bel).trans HG1); have q0 := HG1.cell (B := W.heap.size) (i := 0) (v := .pointer (some ⟨NB, 0, none⟩)) (by omega) (by go_simp); have q1 := HG1.cell (B := W.heap.size + 1) (i := 0) (v := .pointer (some ⟨g, 0, none⟩)) (by omega) (by go_simp)))
            have hzw := cell_lt q1; obtain ⟨W1, hW1⟩ : ∃ W1, W1 = w1.alloc (.cells #[.int .i64 x] 3) := ⟨_, rfl⟩; have hbw : Below w1.heap.size w1 W1 := (by rw [hW1]; exact bel); have HR1 := hid (HR1.out.trans (Rd.of_below hbw)); have HC1 := hid (HC1.out.below hbw); have q0 := still hbw q0; have q1 := still hbw q1; have q2 : W1.cell? ⟨w1.heap.size, 0, none⟩ = some (.int .i64 x) := (by rw [hW1]; go_simp); have hz1 := HR1.out.size; have hz2 := cell_lt q2; rw [← hW1]; clear hW1 hbw
            go_upto_region 3 with (first | (go_at_call 41; go_loud ((with_reducible refine (HU.out _ HR1.out HC1.out).mono ?_); rintro e w2 ⟨rfl, HC2, HG2⟩; have HC2 := hid HC2; have HR2 := hid (HR1.out.trans HG2); have q0 := HG2.cell (by omega) q0; have q1 := HG2.cell (by omega) q1; have q2 := HG2.cell (by omega) q2)))
            go_wp2_with (first | (go_at_call 14; (with_reducible refine (HI.out _ _ _ _ HR2.out HC2.out q2 q1 q0 (by omega) (by omega) (by omega)).mono ?_); rintro e w3 (⟨rfl, p', w', hp', ⟨rfl, -, -⟩, -, -⟩ | ⟨p', w', hp', ⟨rfl, HN, HF⟩, hst, HG3⟩ | ⟨q, er, -, hf⟩); exact absurd hp' HQ.out; rotate_left; exact hf.elim; obtain rfl := hst))
            refine ⟨rfl, ?_⟩
            show PostRows g NB b0 A c l lim W (rowM l lim last V p) _ _
            rw [HE.out]
            exact ⟨rfl, ((Fr.of_rd HR2.out (.inl rfl)).trans HF).trans (Fr.of_rd HG3 (.inl rfl))⟩
end Go.Proofs.YtiohiiekaofkbaaGreatDoor
/- All rows of names. -/
namespace Go.Proofs.YtiohiiekaofkbaaGreatDoor
set_option linter.unusedVariables false
set_option linter.unusedSimpArgs false
open Go.RowKit Go.Proofs.YtiohiiekaofkbaaGreatDoor.PNamesReads Go.Proofs.YtiohiiekaofkbaaGreatDoorW.PrintWords
def rowsM (l : List Int) (lim : Int) : Nat → Int → NmV → Int → Except (Int × Int) (NmV × Int)
  | 0, _, V, p => .ok (V, p)
  | k + 1, last, V, p => if 0 < rest p lim then (match rowM l lim last V p with
    | .error s => .error s
    | .ok (x, V', p') => rowsM l lim k x V' p') else .ok (V, p)
theorem inLim_le {p lim n : Int} (h : lim < 0 ∨ p ≤ lim) : lim < 0 ∨ inLim p lim n ≤ lim := by
  unfold inLim rest; split <;> omega
theorem rowM_lim {l : List Int} {lim last p x p' : Int} {V V' : NmV} (h : rowM l lim last V p = .ok (x, V', p')) (hl : lim < 0 ∨ p ≤ lim) : (lim < 0 ∨ p' ≤ lim) ∧ last < x ∧ x < 3 := by
  rw [rowM] at h
  rcases hx : nextR l p lim with s | y
  · rw [hx] at h; cases h
  · rw [hx] at h
    simp only at h
    have hr := (next_mem hx).2
    have hl2 : lim < 0 ∨ p + 1 ≤ lim := by unfold rest at hr; split at hr <;> omega
    split at h
    · rename_i hd
      rcases hu : uM rgSz l lim 5 0 (p + 1) with s | ⟨n, p2⟩
      · rw [hu] at h; cases h
      · rw [hu] at h
        simp only at h
        have hp2 := uM_lim 5 0 (p + 1) n p2 hl2 hu
        rcases hb : bodyM l (inLim p2 lim n) y V p2 with s | ⟨V2, p3⟩
        · rw [hb] at h; cases h
        · rw [hb] at h
          simp only at h
          split at h
          · rename_i hq
            simp only [Except.ok.injEq, Prod.mk.injEq] at h
            obtain ⟨rfl, rfl, rfl⟩ := h
            rw [hq]
            exact ⟨inLim_le hp2, hd⟩
          · cases h
    · cases h
set_option maxRecDepth 100000 in
set_option maxHeartbeats 4000000 in
theorem loop_walk (g NB b0 C : Nat) (A : Option Addr) (c : Nat) (l : List Int) (p lim : Int) (V : NmV) (w : World) (h : NmW g NB b0 A c l p lim V w) (hcap : l.length ≤ c) (hb0 : b0 ≤ NB) (hlim : lim < 0 ∨ p ≤ lim) (cC : w.cell? ⟨C, 0, none⟩ = some (.pointer (some ⟨g, 0, none⟩))) (hC : C ≠ g) (hC2 : C ≠ NB) :
    Calls Tryz.prog 15 #[.pointer (some ⟨C, 0, none⟩), .pointer (some ⟨NB, 0, none⟩)] w (PostRow g NB b0 A c l lim w (rowsM l lim 4 (-1) V p)) := by
  have HN := hid h
  clear h
  go_enter Tryz.func15, Tryz.ntmps15
  go_wp2
  go_loopw [2] (fun v2 wr => ∃ (last q : Int) (U : NmV) (k : Nat), v2 = .int .i64 last ∧ -1 ≤ last ∧ last < 3 ∧ Hid (lim < 0 ∨ q ≤ lim) ∧ Hid (NmW g NB b0 A c l q lim U wr) ∧ Hid (3 - last ≤ (k : Int)) ∧ Hid (rowsM l lim 4 (-1) V p = rowsM l lim k last U q) ∧ wr.cell? ⟨C, 0, none⟩ = some (.pointer (some ⟨g, 0, none⟩)) ∧ Hid (Fr (fun i => i = g ∨ i = NB) w wr)) (fun v2 _ => (2 - intOf v2).toNat)
  case atStart => exact ⟨-1, p, V, 4, rfl, by omega, by omega, hid hlim, HN, hid (by decide), hid rfl, cC, hid (Fr.of_below (Below.refl _ _))⟩
  case round =>
    obtain ⟨last, q, U, kk, rfl, hl0, hl1, HL, HU, HK, HE, cC, HF⟩ := hrel
    have HRT := hid (rest_b HU.out.cb wr (Below.refl _ _))
    obtain ⟨k, hk⟩ : ∃ k : Nat, kk = k + 1 := ⟨kk - 1, by have := HK.out; omega⟩
    by_cases hr : 0 < rest q lim
    · have HW := hid (fun W (hb : Below wr.heap.size wr W) => row_walk g NB b0 A c l q lim last U W (HU.out.rd (Rd.of_below hb) (HU.out.cb.below hb)) hcap hb0 HL.out hl0 hl1)
      rcases hm : rowM l lim last U q with s | ⟨x, U', q'⟩
      · have HE2 := hid (HE.out.trans (show rowsM l lim kk last U q = .error s by rw [hk, rowsM, if_pos hr, hm]))
        rw [hm] at HW
        clear hm hk
        go_wp2_with (first | (go_at_call 16; (with_reducible refine (HRT.out).mono ?_); rintro e w1 ⟨rfl, hb1⟩; have cC := still hb1 cC) | (go_at_call 17; (with_reducible refine (HW.out _ hb1).mono ?_); rintro e w2 ⟨rfl, HF2⟩))
        refine ⟨rfl, ?_⟩
        show PostRow g NB b0 A c l lim w (rowsM l lim 4 (-1) V p) _ _
        rw [HE2.out]
        exact ⟨rfl, (HF.out.trans (Fr.of_below hb1)).trans HF2⟩
      · obtain ⟨hl', hx0, hx1⟩ := rowM_lim hm HL.out
        have HE2 := hid (HE.out.trans (show rowsM l lim kk last U q = rowsM l lim k x U' q' by rw [hk, rowsM, if_pos hr, hm]))
        rw [hm] at HW
        have HK2 := hid (show 3 - x ≤ (k : Int) by have := HK.out; omega)
        have HL2 := hid hl'
        clear hm hk
        go_wp2_with (first | (go_at_call 16; (with_reducible refine (HRT.out).mono ?_); rintro e w1 ⟨rfl, hb1⟩; have cC := still hb1 cC) | (go_at_call 17; (with_reducible refine (HW.out _ hb1).mono ?_); rintro e w2 ⟨rfl, HU2, HF2⟩; have HU2 := hid HU2; have cC := HF2.cell (by omega) cC))
        clear HW HRT HL HE HU HK hl'
        go_wp2
        go_roundw
        case rel => exact ⟨x, q', U', k, rfl, by omega, by omega, HL2, HU2, HK2, HE2, cC, hid ((HF.out.trans (Fr.of_below hb1)).trans HF2)⟩
        case measure => simp [intOf]; omega
    · have HE2 := hid (HE.out.trans (show rowsM l lim kk last U q = .ok (U, q) by rw [hk, rowsM, if_neg hr]))
      clear hk
      go_wp2_with (first | (go_at_call 16; (with_reducible refine (HRT.out).mono ?_); rintro e w1 ⟨rfl, hb1⟩))
      go_end0
      show PostRow g NB b0 A c l lim w (rowsM l lim 4 (-1) V p) _ _
      rw [HE2.out]
      exact ⟨rfl, HU.out.rd (Rd.of_below hb1) (HU.out.cb.below hb1), HF.out.trans (Fr.of_below hb1)⟩
end Go.Proofs.YtiohiiekaofkbaaGreatDoor
/- Names as they are read from bytes: what is tried. -/
namespace Go.Proofs.YtiohiiekaofkbaaGreatDoor
set_option linter.unusedVariables false
set_option linter.unusedSimpArgs false
open Go.RowKit Go.Proofs.YtiohiiekaofkbaaGreatDoor.PNamesReads Go.Proofs.YtiohiiekaofkbaaGreatDoorW.PrintWords
def noNm : NmV := ⟨false, false, false, ⟨#[]⟩, [], []⟩
def readM (l : List Int) : Except (Int × Int) (NmV × Int) :=
  match rowsM l (inLim 0 (-1) l.length) 4 (-1) noNm 0 with
  | .error s => .error s
  | .ok (V, p) => if p = inLim 0 (-1) l.length then .ok (V, p) else .error (p, 2)
def NmK (g NB b0 : Nat) (V : NmV) (w : World) : Prop := ∃ v4 v5, NmC NB V.hm V.hf V.hl V.md v4 v5 w ∧ k149.R 149 w b0 (fun k => g < k) v4 V.fs ∧ k90.R 90 w b0 (fun k => g < k) v5 V.ls
theorem NmW.k {g NB b0 : Nat} {A : Option Addr} {c : Nat} {l : List Int} {p lim : Int} {V : NmV} {w : World} (h : NmW g NB b0 A c l p lim V w) : NmK g NB b0 V w := by obtain ⟨v4, v5, h⟩ := h; exact ⟨v4, v5, h.nc, h.r4, h.r5⟩
theorem NmK.rd {g NB b0 : Nat} {V : NmV} {w W : World} (h : NmK g NB b0 V w) (hne : NB ≠ g) (hR : Rd g w W) : NmK g NB b0 V W := by
  obtain ⟨v4, v5, a, b, c⟩ := h; exact ⟨v4, v5, a.rd hne hR, r_rd b (Nat.le_refl _) hR, r_rd c (Nat.le_refl _) hR⟩
def DnR (l : List Int) (NB b0 : Nat) (w0 : World) (p : Int) (w' : World) : Prop := ∃ V, readM l = .ok (V, p) ∧ NmK (w0.heap.size + 1 + 1) NB b0 V w' ∧ Fr (fun i => i = NB ∨ w0.heap.size ≤ i) w0 w'
def StR (l : List Int) (NB : Nat) (w0 : World) (p er : Int) (w' : World) : Prop := readM l = .error (p, er) ∧ Fr (fun i => i = NB ∨ w0.heap.size ≤ i) w0 w'
set_option maxRecDepth 100000 in
set_option maxHeartbeats 4000000 in
theorem read1_walk (NB b0 S : Nat) (A : Option Addr) (c : Nat) (l : List Int) (s : ByteArray) (w0 w : World) (hw0 : Below w0.heap.size w0 w) (hw : w.heap.size = w0.heap.size + 1 + 1 + 1) (h : NmW (w0.heap.size + 1 + 1) NB b0 A c l 0 (-1) noNm w) (hcap : l.length ≤ c) (hb0 : b0 ≤ NB) (hl : l.length ≤ 1000000000)
    (hs : s.size = l.length) (cS : w.cell? ⟨S, 0, none⟩ = some (.string s)) (hNB : NB < w0.heap.size) :
    Calls Tryz.prog 13 #[.pointer (some ⟨w0.heap.size + 1 + 1, 0, none⟩), .pointer (some ⟨S, 0, none⟩), .pointer (some ⟨NB, 0, none⟩)] w (Does w0.heap.size A c l (DnR l NB b0 w0) (StR l NB w0) w) := by
  have hgl := h.cb.cu.lt
  have hsl := cell_lt cS
  have HS := hid hs
  have hw1 : w0.heap.size + 1 + 1 < w.heap.size := by omega
  clear hw
  have hmf : ∀ (fn : Fn) (first cap : Array Value) (w : World), (Instr.makeFunc fn first cap).run Tryz.prog w = .ok (.func fn first cap) w := fun _ _ _ _ => rfl
  have HL := hid (fun U (hU : Below w.heap.size w U) (cC : U.cell? ⟨w.heap.size, 0, none⟩ = some (.pointer (some ⟨w0.heap.size + 1 + 1, 0, none⟩))) U' (hR : Rd (w0.heap.size + 1 + 1) U U') (hC : CB (w0.heap.size + 1 + 1) A c l 0 (inLim 0 (-1) l.length) U') =>
    loop_walk (w0.heap.size + 1 + 1) NB b0 w.heap.size A c l 0 (inLim 0 (-1) l.length) noNm U' (h.rd ((Rd.of_below hU).trans hR) hC) hcap hb0 (by unfold inLim rest; rw [if_pos (by decide)]; omega) (hR.cell (by omega) cC) (by omega) (by omega))
  have HIM := hid (fun U k caps Dn St (hC : CB (w0.heap.size + 1 + 1) A c l 0 (-1) U) hE hd => within_walk (w0.heap.size + 1 + 1) A c l 0 (-1) (l.length : Int) U k caps Dn St hC (.inl (by decide)) (by omega) (by omega) hE hd)
  have HEN := hid (enters Tryz.func15 (by kernel_rfl) rfl)
  have HC := hid h.cb
  have HRM : readM l = match rowsM l (inLim 0 (-1) l.length) 4 (-1) noNm 0 with | .error s => .error s | .ok (V, p) => if p = inLim 0 (-1) l.length then .ok (V, p) else .error (p, 2) := rfl
  rcases hr : rowsM l (inLim 0 (-1) l.length) 4 (-1) noNm 0 with e | ⟨V, p3⟩
  · rw [hr] at HRM HL
    have HE := hid (show readM l = .error e from HRM)
    have HI := hid (fun U (hU : Below w.heap.size w U) cC => HIM.out U 15 #[.pointer (some ⟨w.heap.size, 0, none⟩), .pointer (some ⟨NB, 0, none⟩)] (fun _ _ => False) (fun q er w' => q = e.1 ∧ er = e.2 ∧ Fr (fun i => i = (w0.heap.size + 1 + 1) ∨ i = NB) U w') (HC.out.below hU) HEN.out
      (fun U' hR' hC' => (HL.out U hU cC U' hR' hC').mono (fun e w' q => .inr ⟨_, _, q.1, rfl, rfl, (Fr.of_rd hR' (.inl rfl)).trans q.2⟩)))
    clear hr HRM HIM HL HEN h hs hl
    go_enter Tryz.func13, Tryz.ntmps13
    go_wp2_with (first | (go_at_call 14; (try rw [HS.out]); (with_reducible refine (HI.out _ bel (by go_simp)).mono ?_); rintro e w3 (⟨rfl, p', w', -, hf, -⟩ | ⟨p', w', -, hf, -⟩ | ⟨q, er, hst, rfl, rfl, HF⟩); exact hf.elim; exact hf.elim; obtain rfl := hst))
    have HFF := hid (show Fr (fun i => i = w0.heap.size + 1 + 1 ∨ i = NB) w w3 from (Fr.of_below bel).trans HF)
    refine ⟨rfl, ?_⟩
    refine ⟨HFF.out.size, fun i hi => HFF.out.block i (by omega) (by omega), ?_⟩
    exact .inr ⟨_, _, rfl, HE.out, (Fr.of_below hw0).trans (HFF.out.mono (fun i _ q => by omega))⟩
  · rw [hr] at HRM HL
    have HI := hid (fun U (hU : Below w.heap.size w U) cC => HIM.out U 15 #[.pointer (some ⟨w.heap.size, 0, none⟩), .pointer (some ⟨NB, 0, none⟩)] (fun p' w' => p' = p3 ∧ NmK (w0.heap.size + 1 + 1) NB b0 V w' ∧ Fr (fun i => i = (w0.heap.size + 1 + 1) ∨ i = NB) U w') (fun _ _ _ => False) (HC.out.below hU) HEN.out
      (fun U' hR' hC' => (HL.out U hU cC U' hR' hC').mono (fun e w' q => .inl ⟨q.1, p3, q.2.1.cb, rfl, q.2.1.k, (Fr.of_rd hR' (.inl rfl)).trans q.2.2⟩)))
    by_cases hq : p3 = inLim 0 (-1) l.length
    · have HE := hid (show readM l = .ok (V, p3) from HRM.trans (if_pos hq))
      have HQ := hid hq
      clear hr HRM HIM HL HEN h hs hl hq
      go_enter Tryz.func13, Tryz.ntmps13
      go_wp2_with (first | (go_at_call 14; (try rw [HS.out]); (with_reducible refine (HI.out _ bel (by go_simp)).mono ?_); rintro e w3 (⟨rfl, p', w', hp', ⟨rfl, HN, HF⟩, HC3, HG3⟩ | ⟨p', w', hp', ⟨rfl, -, -⟩, -, -⟩ | ⟨q, er, -, hf⟩); rotate_left; exact absurd HQ.out hp'; exact hf.elim))
      go_end0
      have HFF := hid (show Fr (fun i => i = w0.heap.size + 1 + 1 ∨ i = NB) w w3 from ((Fr.of_below bel).trans HF).trans (Fr.of_rd HG3 (.inl rfl)))
      refine ⟨HFF.out.size, fun i hi => HFF.out.block i (by omega) (by omega), ?_⟩
      exact .inl ⟨rfl, _, _, HC3.cu, V, HE.out, HN.rd (by omega) HG3, (Fr.of_below hw0).trans (HFF.out.mono (fun i _ q => by omega))⟩
    · have HE := hid (show readM l = .error (p3, 2) from HRM.trans (if_neg hq))
      have HQ := hid hq
      clear hr HRM HIM HL HEN h hs hl hq
      go_enter Tryz.func13, Tryz.ntmps13
      go_wp2_with (first | (go_at_call 14; (try rw [HS.out]); (with_reducible refine (HI.out _ bel (by go_simp)).mono ?_); rintro e w3 (⟨rfl, p', w', hp', ⟨rfl, -, -⟩, -, -⟩ | ⟨p', w', hp', ⟨rfl, HN, HF⟩, hst, HG3⟩ | ⟨q, er, -, hf⟩); exact absurd hp' HQ.out; rotate_left; exact hf.elim; obtain rfl := hst))
      have HFF := hid (show Fr (fun i => i = w0.heap.size + 1 + 1 ∨ i = NB) w w3 from ((Fr.of_below bel).trans HF).trans (Fr.of_rd HG3 (.inl rfl)))
      refine ⟨rfl, ?_⟩
      refine ⟨HFF.out.size, fun i hi => HFF.out.block i (by omega) (by omega), ?_⟩
      exact .inr ⟨_, _, rfl, HE.out, (Fr.of_below hw0).trans (HFF.out.mono (fun i _ q => by omega))⟩
end Go.Proofs.YtiohiiekaofkbaaGreatDoor
/- Names as they are read from bytes: Read. -/
namespace Go.Proofs.YtiohiiekaofkbaaGreatDoor
set_option linter.unusedVariables false
set_option linter.unusedSimpArgs false
open Go.RowKit Go.Proofs.YtiohiiekaofkbaaGreatDoor.PNamesReads Go.Proofs.YtiohiiekaofkbaaGreatDoorW.PrintWords
theorem nextR_er {l : List Int} {p lim : Int} {s : Int × Int} (h : nextR l p lim = .error s) : s.2 ≠ 0 := by
  unfold nextR at h
  split at h
  · cases h; simp
  · split at h
    · cases h
    · cases h; simp
theorem uM_er {rg : Int → List (Int × Int)} {l : List Int} {lim : Int} {s : Int × Int} : ∀ (k : Nat) (v p : Int), uM rg l lim k v p = .error s → s.2 ≠ 0 := by
  intro k
  induction k with
  | zero => intro v p h; cases h
  | succ k ih =>
    intro v p h
    rw [uM] at h
    rcases hx : nextR l p lim with e | x
    · rw [hx] at h; cases h; exact nextR_er hx
    · rw [hx] at h
      simp only at h
      split at h
      · split at h
        · exact ih _ _ h
        · cases h; simp
      · split at h
        · cases h
        · cases h; simp
theorem nmM_er {l : List Int} {lim : Int} {s : Int × Int} : ∀ (k : Nat) (b q : Int), nmM l lim k b q = .error s → s.2 ≠ 0 := by
  intro k
  induction k with
  | zero => intro b q h; cases h
  | succ k ih =>
    intro b q h
    rw [nmM] at h
    rcases hx : nextR l q lim with e | x
    · rw [hx] at h; cases h; exact nextR_er hx
    · rw [hx] at h
      simp only at h
      split at h
      · exact ih _ _ h
      · cases h; simp
theorem nameM_er {a b : Int} {l : List Int} {p lim : Int} {s : Int × Int} (h : nameM a b l p lim = .error s) : s.2 ≠ 0 := by
  rw [nameM] at h
  rcases hu : uM (rgL 1 1 a b) l lim 5 0 p with e | ⟨n, p1⟩
  · rw [hu] at h; cases h; exact uM_er _ _ _ hu
  · rw [hu] at h
    simp only at h
    rcases hm : nmM l lim n.toNat p1 p1 with e | q
    · rw [hm] at h; cases h; exact nmM_er _ _ _ hm
    · rw [hm] at h; cases h
theorem riM_er {α : Type} {rd : Int → Int → Int → Int → Except (Int × Int) (α × Int)} {a b : Int} {l : List Int} {lim : Int} {s : Int × Int} (hrd : ∀ ix a b p s, rd ix a b p = .error s → s.2 ≠ 0) : ∀ (m : Nat) (nx p : Int), riM rd a b l lim m nx p = .error s → s.2 ≠ 0 := by
  intro m
  induction m with
  | zero => intro nx p h; cases h
  | succ m ih =>
    intro nx p h
    rw [riM] at h
    rcases hu : uM (rgX nx (1 + (tmMin 2 m + a))) l lim 5 0 p with e | ⟨ix, p1⟩
    · rw [hu] at h; cases h; exact uM_er _ _ _ hu
    · rw [hu] at h
      simp only at h
      rcases hr : rd ix (tmMin 2 m + a) (andMax (tmMax 1099511627776 m) b) p1 with e | ⟨x, p2⟩
      · rw [hr] at h; cases h; exact hrd _ _ _ _ _ hr
      · rw [hr] at h
        simp only at h
        rcases hm : riM rd a b l lim m (ix + 1) p2 with e | ⟨xs, p3⟩
        · rw [hm] at h; cases h; exact ih _ _ hm
        · rw [hm] at h; cases h
theorem liM_er {α : Type} {rd : Int → Int → Int → Int → Except (Int × Int) (α × Int)} {a b : Int} {l : List Int} {p lim : Int} {s : Int × Int} (hrd : ∀ ix a b p s, rd ix a b p = .error s → s.2 ≠ 0) (h : liM rd a b l p lim = .error s) : s.2 ≠ 0 := by
  rw [liM] at h
  rcases hu : uM (rgL 2 1099511627776 a b) l lim 5 0 p with e | ⟨n, p1⟩
  · rw [hu] at h; cases h; exact uM_er _ _ _ hu
  · rw [hu] at h; exact riM_er hrd _ _ _ h
theorem rdN_er {l : List Int} {lim : Int} : ∀ ix a b p s, rdN l lim ix a b p = .error s → s.2 ≠ 0 := by
  intro ix a b p s h
  rw [rdN] at h
  rcases hn : nameM a b l p lim with e | ⟨t, p'⟩
  · rw [hn] at h; cases h; exact nameM_er hn
  · rw [hn] at h; cases h
theorem rdL_er {l : List Int} {lim : Int} : ∀ ix a b p s, rdL l lim ix a b p = .error s → s.2 ≠ 0 := by
  intro ix a b p s h
  rw [rdL] at h
  rcases hn : liM (rdN l lim) a b l p lim with e | ⟨t, p'⟩
  · rw [hn] at h; cases h; exact liM_er rdN_er hn
  · rw [hn] at h; cases h
theorem bodyM_er {l : List Int} {lim x : Int} {V : NmV} {p : Int} {s : Int × Int} (h : bodyM l lim x V p = .error s) : s.2 ≠ 0 := by
  unfold bodyM at h
  split at h
  · rcases hn : nameM 0 0 l p lim with e | ⟨t, p'⟩
    · rw [hn] at h; cases h; exact nameM_er hn
    · rw [hn] at h; cases h
  · split at h
    · rcases hn : liM (rdN l lim) 0 0 l p lim with e | ⟨t, p'⟩
      · rw [hn] at h; cases h; exact liM_er rdN_er hn
      · rw [hn] at h; cases h
    · rcases hn : liM (rdL l lim) 0 0 l p lim with e | ⟨t, p'⟩
      · rw [hn] at h; cases h; exact liM_er rdL_er hn
      · rw [hn] at h; cases h
theorem rowM_er {l : List Int} {lim last : Int} {V : NmV} {p : Int} {s : Int × Int} (h : rowM l lim last V p = .error s) : s.2 ≠ 0 := by
  rw [rowM] at h
  rcases hx : nextR l p lim with e | x
  · rw [hx] at h; cases h; exact nextR_er hx
  · rw [hx] at h
    simp only at h
    split at h
    · rcases hu : uM rgSz l lim 5 0 (p + 1) with e | ⟨n, p2⟩
      · rw [hu] at h; cases h; exact uM_er _ _ _ hu
      · rw [hu] at h
        simp only at h
        rcases hb : bodyM l (inLim p2 lim n) x V p2 with e | ⟨V', p3⟩
        · rw [hb] at h; cases h; exact bodyM_er hb
        · rw [hb] at h
          simp only at h
          split at h
          · cases h
          · cases h; simp
    · cases h; simp
theorem rowsM_er {l : List Int} {lim : Int} {s : Int × Int} : ∀ (k : Nat) (last : Int) (V : NmV) (p : Int), rowsM l lim k last V p = .error s → s.2 ≠ 0 := by
  intro k
  induction k with
  | zero => intro last V p h; cases h
  | succ k ih =>
    intro last V p h
    rw [rowsM] at h
    split at h
    · rcases hm : rowM l lim last V p with e | ⟨x, V', p'⟩
      · rw [hm] at h; cases h; exact rowM_er hm
      · rw [hm] at h; exact ih _ _ _ h
    · cases h
theorem readM_er {l : List Int} {s : Int × Int} (h : readM l = .error s) : s.2 ≠ 0 := by
  rw [readM] at h
  rcases hm : rowsM l (inLim 0 (-1) l.length) 4 (-1) noNm 0 with e | ⟨V, p⟩
  · rw [hm] at h; cases h; exact rowsM_er _ _ _ _ hm
  · rw [hm] at h
    simp only at h
    split at h
    · cases h
    · cases h; simp
theorem NmK.off {B NB b0 : Nat} {V : NmV} {w w' : World} (h : NmK (B + 1 + 1) NB b0 V w) (k : Off2 B (B + 1) w w') (hN : NB < B) : NmK (B + 1 + 1) NB b0 V w' := by
  obtain ⟨v4, v5, hc, h4, h5⟩ := h
  have hlt := hc.lt
  have e : w'.heap[NB]? = w.heap[NB]? := k.block NB hlt (by omega) (by omega)
  have cc : ∀ i, w'.cell? ⟨NB, i, none⟩ = w.cell? ⟨NB, i, none⟩ := fun i => World.cell?_of_block (a := ⟨NB, i, none⟩) e
  have ff : ∀ i, w'.frozen? ⟨NB, i, none⟩ = w.frozen? ⟨NB, i, none⟩ := fun i => World.frozen?_of_block (a := ⟨NB, i, none⟩) e
  exact ⟨v4, v5, ⟨(cc 0).trans hc.c0, (cc 1).trans hc.c1, (cc 2).trans hc.c2, (cc 3).trans hc.c3, (cc 4).trans hc.c4, (cc 5).trans hc.c5, (ff 0).trans hc.z0, (ff 1).trans hc.z1, (ff 2).trans hc.z2, (ff 3).trans hc.z3, (ff 4).trans hc.z4, (ff 5).trans hc.z5⟩,
    Kd.R_step h4 (fun q hq hlt => k.block q hlt (by omega) (by omega)), Kd.R_step h5 (fun q hq hlt => k.block q hlt (by omega) (by omega))⟩
theorem tryN_walk (U : World) (NB b0 S : Nat) (ad : Addr) (c : Nat) (l : List Int) (s : ByteArray) (hG : Glob U) (hM : GlobM U) (h8 : ∀ x ∈ l, 0 ≤ x ∧ x < 256) (hl : l.length ≤ 1000000000) (hs : s.size = l.length) (hcap : l.length ≤ c) (hAt : BytesAt (some ad) l U) (had : ad.block < U.heap.size) (hAN : ad.block ≠ NB)
    (hN : NmC NB false false false ⟨#[]⟩ (.slice none 0 0) (.slice none 0 0) U) (hgb : 2 < NB ∧ 3 < NB ∧ 0 < NB ∧ 1 < NB) (hb0 : b0 ≤ NB) (cS : U.cell? ⟨S, 0, none⟩ = some (.string s)) :
    Calls Tryz.prog 12 #[.slice (some ad) l.length c, .func (.func 13) #[] #[.pointer (some ⟨S, 0, none⟩), .pointer (some ⟨NB, 0, none⟩)]] U (fun e w' => Fr (fun i => i = NB) U w' ∧ match readM l with | .ok (V, p) => e = .returned (.tuple #[.int .i64 p, .int .i64 0]) ∧ NmK (U.heap.size + 1 + 1) NB b0 V w' | .error s => e = .returned (.tuple #[.int .i64 s.1, .int .i64 s.2])) := by
  have hNB := hN.lt
  refine (try_walk (some ad) c l U 13 #[.pointer (some ⟨S, 0, none⟩), .pointer (some ⟨NB, 0, none⟩)] (DnR l NB b0 U) (StR l NB U) (enters Tryz.func13 (by kernel_rfl) rfl) ?_).mono ?_
  · intro W hW hz hC
    have hR : Rd (U.heap.size + 1 + 1) U W := Rd.of_below hW
    refine read1_walk NB b0 S (some ad) c l s U W hW hz ⟨.slice none 0 0, .slice none 0 0, ⟨hC, hAt.fr (P := fun _ => False) (fun _ _ q => q) (Fr.of_below hW), fun a e => by cases e; show ad.block ≠ _; omega, by omega, by omega, by omega, by omega, h8⟩, ?_, hN.rd (by omega) hR, Kd.R_nil _ _ _ _ _, Kd.R_nil _ _ _ _ _, by omega, fun a e => by cases e; exact hAN, hgb⟩ hcap hb0 hl hs (still hW cS) hNB
    exact ⟨hG.of hW, hM.below hW, by omega, by omega, by omega, by omega⟩
  · rintro e w' ⟨w1, hO, (⟨p, rfl, V, hr, hk, hf⟩ | ⟨p, er, rfl, hr, hf⟩)⟩
    · rw [hr]
      exact ⟨(hf.off hO (Nat.le_refl _) (by omega)).mono (fun i hi q => by omega), rfl, hk.off hO hNB⟩
    · rw [hr]
      exact ⟨(hf.off hO (Nat.le_refl _) (by omega)).mono (fun i hi q => by omega), rfl⟩
end Go.Proofs.YtiohiiekaofkbaaGreatDoor
