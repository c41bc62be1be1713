/- Texts of this claim, as far as they are used here: J7, J8, N1, N0h, N2. -/
import Derived.Test.YtiohiiekaofkbaaDoorZ06
import Derived.Laws.IdiomStrings
import Derived.Test.YtiohiiekaofkbaaDoorZ14
import Derived.Test.YtiohiiekaofkbaaDoorZ15
/- Names as they are read from bytes: Read. -/
namespace Go.Proofs.YtiohiiekaofkbaaDoor
set_option linter.unusedVariables false
set_option linter.unusedSimpArgs false
open Go.RowKit Go.Proofs.YtiohiiekaofkbaaDoor.PNamesBack Go.Proofs.YtiohiiekaofkbaaDoorW.PrintWords
theorem nextR_er {l : List Int} {p lim : Int} {s : Int × Int} (h : nextR l p lim = .error s) : s.2 ≠ 0 := by
  unfold nextR at h
  split at h
  · cases h; simp
  · split at h
    · cases h
    · cases h; simp
theorem uM_er {rg : Int → List (Int × Int)} {l : List Int} {lim : Int} {s : Int × Int} : ∀ (k : Nat) (v p : Int), uM rg l lim k v p = .error s → s.2 ≠ 0 := by
  intro k
  induction k with
  | zero => intro v p h; cases h
  | succ k ih =>
    intro v p h
    rw [uM] at h
    rcases hx : nextR l p lim with e | x
    · rw [hx] at h; cases h; exact nextR_er hx
    · rw [hx] at h
      simp only at h
      split at h
      · split at h
        · exact ih _ _ h
        · cases h; simp
      · split at h
        · cases h
        · cases h; simp
theorem nmM_er {l : List Int} {lim : Int} {s : Int × Int} : ∀ (k : Nat) (b q : Int), nmM l lim k b q = .error s → s.2 ≠ 0 := by
  intro k
  induction k with
  | zero => intro b q h; cases h
  | succ k ih =>
    intro b q h
    rw [nmM] at h
    rcases hx : nextR l q lim with e | x
    · rw [hx] at h; cases h; exact nextR_er hx
    · rw [hx] at h
      simp only at h
      split at h
      · exact ih _ _ h
      · cases h; simp
theorem nameM_er {a b : Int} {l : List Int} {p lim : Int} {s : Int × Int} (h : nameM a b l p lim = .error s) : s.2 ≠ 0 := by
  rw [nameM] at h
  rcases hu : uM (rgL 1 1 a b) l lim 5 0 p with e | ⟨n, p1⟩
  · rw [hu] at h; cases h; exact uM_er _ _ _ hu
  · rw [hu] at h
    simp only at h
    rcases hm : nmM l lim n.toNat p1 p1 with e | q
    · rw [hm] at h; cases h; exact nmM_er _ _ _ hm
    · rw [hm] at h; cases h
theorem riM_er {α : Type} {rd : Int → Int → Int → Int → Except (Int × Int) (α × Int)} {a b : Int} {l : List Int} {lim : Int} {s : Int × Int} (hrd : ∀ ix a b p s, rd ix a b p = .error s → s.2 ≠ 0) : ∀ (m : Nat) (nx p : Int), riM rd a b l lim m nx p = .error s → s.2 ≠ 0 := by
  intro m
  induction m with
  | zero => intro nx p h; cases h
  | succ m ih =>
    intro nx p h
    rw [riM] at h
    rcases hu : uM (rgX nx (1 + (tmMin 2 m + a))) l lim 5 0 p with e | ⟨ix, p1⟩
    · rw [hu] at h; cases h; exact uM_er _ _ _ hu
    · rw [hu] at h
      simp only at h
      rcases hr : rd ix (tmMin 2 m + a) (andMax (tmMax 1099511627776 m) b) p1 with e | ⟨x, p2⟩
      · rw [hr] at h; cases h; exact hrd _ _ _ _ _ hr
      · rw [hr] at h
        simp only at h
        rcases hm : riM rd a b l lim m (ix + 1) p2 with e | ⟨xs, p3⟩
        · rw [hm] at h; cases h; exact ih _ _ hm
        · rw [hm] at h; cases h
theorem liM_er {α : Type} {rd : Int → Int → Int → Int → Except (Int × Int) (α × Int)} {a b : Int} {l : List Int} {p lim : Int} {s : Int × Int} (hrd : ∀ ix a b p s, rd ix a b p = .error s → s.2 ≠ 0) (h : liM rd a b l p lim = .error s) : s.2 ≠ 0 := by
  rw [liM] at h
  rcases hu : uM (rgL 2 1099511627776 a b) l lim 5 0 p with e | ⟨n, p1⟩
  · rw [hu] at h; cases h; exact uM_er _ _ _ hu
  · rw [hu] at h; exact riM_er hrd _ _ _ h
theorem rdN_er {l : List Int} {lim : Int} : ∀ ix a b p s, rdN l lim ix a b p = .error s → s.2 ≠ 0 := by
  intro ix a b p s h
  rw [rdN] at h
  rcases hn : nameM a b l p lim with e | ⟨t, p'⟩
  · rw [hn] at h; cases h; exact nameM_er hn
  · rw [hn] at h; cases h
theorem rdL_er {l : List Int} {lim : Int} : ∀ ix a b p s, rdL l lim ix a b p = .error s → s.2 ≠ 0 := by
  intro ix a b p s h
  rw [rdL] at h
  rcases hn : liM (rdN l lim) a b l p lim with e | ⟨t, p'⟩
  · rw [hn] at h; cases h; exact liM_er rdN_er hn
  · rw [hn] at h; cases h
theorem bodyM_er {l : List Int} {lim x : Int} {V : NmV} {p : Int} {s : Int × Int} (h : bodyM l lim x V p = .error s) : s.2 ≠ 0 := by
  unfold bodyM at h
  split at h
  · rcases hn : nameM 0 0 l p lim with e | ⟨t, p'⟩
    · rw [hn] at h; cases h; exact nameM_er hn
    · rw [hn] at h; cases h
  · split at h
    · rcases hn : liM (rdN l lim) 0 0 l p lim with e | ⟨t, p'⟩
      · rw [hn] at h; cases h; exact liM_er rdN_er hn
      · rw [hn] at h; cases h
    · rcases hn : liM (rdL l lim) 0 0 l p lim with e | ⟨t, p'⟩
      · rw [hn] at h; cases h; exact liM_er rdL_er hn
      · rw [hn] at h; cases h
theorem rowM_er {l : List Int} {lim last : Int} {V : NmV} {p : Int} {s : Int × Int} (h : rowM l lim last V p = .error s) : s.2 ≠ 0 := by
  rw [rowM] at h
  rcases hx : nextR l p lim with e | x
  · rw [hx] at h; cases h; exact nextR_er hx
  · rw [hx] at h
    simp only at h
    split at h
    · rcases hu : uM rgSz l lim 5 0 (p + 1) with e | ⟨n, p2⟩
      · rw [hu] at h; cases h; exact uM_er _ _ _ hu
      · rw [hu] at h
        simp only at h
        rcases hb : bodyM l (inLim p2 lim n) x V p2 with e | ⟨V', p3⟩
        · rw [hb] at h; cases h; exact bodyM_er hb
        · rw [hb] at h
          simp only at h
          split at h
          · cases h
          · cases h; simp
    · cases h; simp
theorem rowsM_er {l : List Int} {lim : Int} {s : Int × Int} : ∀ (k : Nat) (last : Int) (V : NmV) (p : Int), rowsM l lim k last V p = .error s → s.2 ≠ 0 := by
  intro k
  induction k with
  | zero => intro last V p h; cases h
  | succ k ih =>
    intro last V p h
    rw [rowsM] at h
    split at h
    · rcases hm : rowM l lim last V p with e | ⟨x, V', p'⟩
      · rw [hm] at h; cases h; exact rowM_er hm
      · rw [hm] at h; exact ih _ _ _ h
    · cases h
theorem readM_er {l : List Int} {s : Int × Int} (h : readM l = .error s) : s.2 ≠ 0 := by
  rw [readM] at h
  rcases hm : rowsM l (inLim 0 (-1) l.length) 4 (-1) noNm 0 with e | ⟨V, p⟩
  · rw [hm] at h; cases h; exact rowsM_er _ _ _ _ hm
  · rw [hm] at h
    simp only at h
    split at h
    · cases h
    · cases h; simp
theorem NmK.off {B NB b0 : Nat} {V : NmV} {w w' : World} (h : NmK (B + 1 + 1) NB b0 V w) (k : Off2 B (B + 1) w w') (hN : NB < B) : NmK (B + 1 + 1) NB b0 V w' := by
  obtain ⟨v4, v5, hc, h4, h5⟩ := h
  have hlt := hc.lt
  have e : w'.heap[NB]? = w.heap[NB]? := k.block NB hlt (by omega) (by omega)
  have cc : ∀ i, w'.cell? ⟨NB, i, none⟩ = w.cell? ⟨NB, i, none⟩ := fun i => World.cell?_of_block (a := ⟨NB, i, none⟩) e
  have ff : ∀ i, w'.frozen? ⟨NB, i, none⟩ = w.frozen? ⟨NB, i, none⟩ := fun i => World.frozen?_of_block (a := ⟨NB, i, none⟩) e
  exact ⟨v4, v5, ⟨(cc 0).trans hc.c0, (cc 1).trans hc.c1, (cc 2).trans hc.c2, (cc 3).trans hc.c3, (cc 4).trans hc.c4, (cc 5).trans hc.c5, (ff 0).trans hc.z0, (ff 1).trans hc.z1, (ff 2).trans hc.z2, (ff 3).trans hc.z3, (ff 4).trans hc.z4, (ff 5).trans hc.z5⟩,
    Kd.R_step h4 (fun q hq hlt => k.block q hlt (by omega) (by omega)), Kd.R_step h5 (fun q hq hlt => k.block q hlt (by omega) (by omega))⟩
theorem tryN_walk (U : World) (NB b0 S : Nat) (ad : Addr) (c : Nat) (l : List Int) (s : ByteArray) (hG : Glob U) (hM : GlobM U) (h8 : ∀ x ∈ l, 0 ≤ x ∧ x < 256) (hl : l.length ≤ 1000000000) (hs : s.size = l.length) (hcap : l.length ≤ c) (hAt : BytesAt (some ad) l U) (had : ad.block < U.heap.size) (hAN : ad.block ≠ NB)
    (hN : NmC NB false false false ⟨#[]⟩ (.slice none 0 0) (.slice none 0 0) U) (hgb : 5 < NB ∧ 6 < NB ∧ 1 < NB ∧ 2 < NB) (hb0 : b0 ≤ NB) (cS : U.cell? ⟨S, 0, none⟩ = some (.string s)) :
    Calls Tryd.prog 43 #[.slice (some ad) l.length c, .func (.func 66) #[] #[.pointer (some ⟨S, 0, none⟩), .pointer (some ⟨NB, 0, none⟩)]] U (fun e w' => Fr (fun i => i = NB) U w' ∧ match readM l with | .ok (V, p) => e = .returned (.tuple #[.int .i64 p, .int .i64 0]) ∧ NmK (U.heap.size + 1 + 1) NB b0 V w' | .error s => e = .returned (.tuple #[.int .i64 s.1, .int .i64 s.2])) := by
  have hNB := hN.lt
  refine (try_walk (some ad) c l U 66 #[.pointer (some ⟨S, 0, none⟩), .pointer (some ⟨NB, 0, none⟩)] (DnR l NB b0 U) (StR l NB U) (enters Tryd.func66 (by kernel_rfl) rfl) ?_).mono ?_
  · intro W hW hz hC
    have hR : Rd (U.heap.size + 1 + 1) U W := Rd.of_below hW
    refine read1_walk NB b0 S (some ad) c l s U W hW hz ⟨.slice none 0 0, .slice none 0 0, ⟨hC, hAt.fr (P := fun _ => False) (fun _ _ q => q) (Fr.of_below hW), fun a e => by cases e; show ad.block ≠ _; omega, by omega, by omega, by omega, by omega, h8⟩, ?_, hN.rd (by omega) hR, Kd.R_nil _ _ _ _ _, Kd.R_nil _ _ _ _ _, by omega, fun a e => by cases e; exact hAN, hgb⟩ hcap hb0 hl hs (still hW cS) hNB
    exact ⟨hG.of hW, hM.below hW, by omega, by omega, by omega, by omega⟩
  · rintro e w' ⟨w1, hO, (⟨p, rfl, V, hr, hk, hf⟩ | ⟨p, er, rfl, hr, hf⟩)⟩
    · rw [hr]
      exact ⟨(hf.off hO (Nat.le_refl _) (by omega)).mono (fun i hi q => by omega), rfl, hk.off hO hNB⟩
    · rw [hr]
      exact ⟨(hf.off hO (Nat.le_refl _) (by omega)).mono (fun i hi q => by omega), rfl⟩
end Go.Proofs.YtiohiiekaofkbaaDoor
/- Names as they are read from bytes: Read. -/
namespace Go.Proofs.YtiohiiekaofkbaaDoor
set_option linter.unusedVariables false
set_option linter.unusedSimpArgs false
open Go.RowKit Go.Proofs.YtiohiiekaofkbaaDoor.PNamesBack Go.Proofs.YtiohiiekaofkbaaDoorW.PrintWords
theorem ns_length (s : ByteArray) : (ns s).length = s.size := by unfold ns; rw [List.length_map]; exact Array.length_toList
theorem ns_u8 (s : ByteArray) : ∀ x ∈ ns s, 0 ≤ x ∧ x < 256 := by
  intro x hx
  simp only [ns, List.mem_map] at hx
  obtain ⟨y, -, rfl⟩ := hx
  have := y.toNat_lt
  omega
theorem bytes_laid (W : World) (s : ByteArray) (c : Nat) (m : Nat × Nat) : BytesAt (some ⟨W.heap.size, 0, none⟩) (ns s) (W.alloc (.cells (bytesRow s c) 5 m)) := by
  refine .inr ⟨_, rfl, fun j x hj => ?_⟩
  have hj2 : j < s.size := by have := (List.getElem?_eq_some_iff.1 hj).1; rw [ns_length] at this; exact this
  have e : (bytesRow s c)[j]? = some (.int .u8 x) := by
    unfold bytesRow
    rw [Array.getElem?_append_left (by simpa using hj2), Array.getElem?_map]
    simp only [ns, List.getElem?_map] at hj
    rw [← Array.getElem?_toList]
    rcases hq : s.data.toList[j]? with _ | y
    · rw [hq] at hj; cases hj
    · rw [hq] at hj; cases hj; rfl
  have hb := heap_alloc_new W (.cells (bytesRow s c) 5 m)
  have ea : Addr.add ⟨W.heap.size, 0, none⟩ j = ⟨W.heap.size, j, none⟩ := by
    unfold Addr.add
    split
    · rename_i h; rw [h]
    · simp
  rw [ea]
  unfold World.cell?
  dsimp only
  rw [hb]
  simp [e]
theorem NmC.fr {NB : Nat} {P : Nat → Prop} {h0 h1 h2 : Bool} {m : ByteArray} {v4 v5 : Value} {w W : World} (h : NmC NB h0 h1 h2 m v4 v5 w) (hF : Fr P w W) (hn : ¬ P NB) : NmC NB h0 h1 h2 m v4 v5 W := by
  have hlt := h.lt
  have ff : ∀ i, W.frozen? ⟨NB, i, none⟩ = w.frozen? ⟨NB, i, none⟩ := fun i => World.frozen?_of_block (a := ⟨NB, i, none⟩) (hF.block NB hlt hn)
  exact ⟨hF.cell hn h.c0, hF.cell hn h.c1, hF.cell hn h.c2, hF.cell hn h.c3, hF.cell hn h.c4, hF.cell hn h.c5, (ff 0).trans h.z0, (ff 1).trans h.z1, (ff 2).trans h.z2, (ff 3).trans h.z3, (ff 4).trans h.z4, (ff 5).trans h.z5⟩
def PostRead (w : World) (r : Except (Int × Int) (NmV × Int)) (e : Ending) (w' : World) : Prop :=
  match r with
  | .ok (V, _) => ∃ v4 v5, e = .returned (.tuple #[.agg #[.bool V.hm, .bool V.hf, .bool V.hl, .string V.md, v4, v5], .bool true]) ∧ k121.R 121 w' w.heap.size (fun k => w.heap.size ≤ k) v4 V.fs ∧ k109.R 109 w' w.heap.size (fun k => w.heap.size ≤ k) v5 V.ls
  | .error _ => e = .returned (.tuple #[.agg #[.bool false, .bool false, .bool false, .string ⟨#[]⟩, .slice none 0 0, .slice none 0 0], .bool false])
set_option maxRecDepth 100000 in
set_option maxHeartbeats 4000000 in
theorem read_walk (s : ByteArray) (w : World) (hG : Glob w) (hM : GlobM w) (hs : s.size ≤ 1000000000) :
    Calls Tryd.prog 12 #[.string s] w (fun e w' => Below w.heap.size w w' ∧ PostRead w (readM (ns s)) e w') := by
  have hcv : ∀ W : World, (convert 9 70 (.string s)).run Tryd.prog W = .ok (.slice (some ⟨W.heap.size, 0, none⟩) s.size (grownCap W s.size 0 5)) (W.drew.alloc (.cells (bytesRow s (grownCap W s.size 0 5)) 5 ((bytesRow s (grownCap W s.size 0 5)).size, (bytesRow s (grownCap W s.size 0 5)).size + 1))) := fun W => run_bytes_of_string W 9 70 5 s (by kernel_rfl) (by kernel_rfl) (by kernel_rfl)
  have hmf : ∀ (fn : Fn) (first cap : Array Value) (w : World), (Instr.makeFunc fn first cap).run Tryd.prog w = .ok (.func fn first cap) w := fun _ _ _ _ => rfl
  have hgb : 5 < w.heap.size ∧ 6 < w.heap.size ∧ 1 < w.heap.size ∧ 2 < w.heap.size := ⟨cell_lt hG.c0, cell_lt hM.a0, cell_lt hM.s0, cell_lt hM.n0⟩
  have hsz := ns_length s
  have HT := hid (fun U (hU : Below w.heap.size w U) B c (hz : B < U.heap.size) (hA : BytesAt (some ⟨B, 0, none⟩) (ns s) U) (hB : B ≠ w.heap.size + 1 + 1) (hc : s.size ≤ c) (hN : NmC (w.heap.size + 1 + 1) false false false ⟨#[]⟩ (.slice none 0 0) (.slice none 0 0) U) (cS : U.cell? ⟨w.heap.size, 0, none⟩ = some (.string s)) =>
    tryN_walk U (w.heap.size + 1 + 1) w.heap.size w.heap.size ⟨B, 0, none⟩ c (ns s) s (hG.of hU) ⟨still hU hM.a0, still hU hM.a1, still hU hM.s0, still hU hM.s1, still hU hM.n0, still hU hM.n1⟩ (ns_u8 s) (by omega) hsz.symm (by omega) hA hz hB hN (by omega) (by omega) cS)
  rw [hsz] at HT
  have HGB := hid hgb
  clear hgb hG hM hsz
  go_enter Tryd.func12, Tryd.ntmps12
  go_upto_region 2 with (fail)
  obtain ⟨W1, hW1⟩ : ∃ W1, W1 = ((w.alloc (.cells #[.string s] 9)).alloc (.cells #[.bool false, .bool false, .bool false, .string ⟨#[]⟩, .slice none 0 0, .slice none 0 0] 33)).alloc (.cells #[.bool false, .bool false, .bool false, .string ⟨#[]⟩, .slice none 0 0, .slice none 0 0] 33) := ⟨_, rfl⟩
  have HB1 := hid (show Below w.heap.size w W1 by rw [hW1]; exact bel)
  have hz1 : W1.heap.size = w.heap.size + 1 + 1 + 1 := by rw [hW1]; simp
  have cS : W1.cell? ⟨w.heap.size, 0, none⟩ = some (.string s) := by rw [hW1]; go_simp
  have HN1 := hid (show NmC (w.heap.size + 1 + 1) false false false ⟨#[]⟩ (.slice none 0 0) (.slice none 0 0) W1 by rw [hW1]; exact ⟨by go_simp, by go_simp, by go_simp, by go_simp, by go_simp, by go_simp, by go_simp, by go_simp, by go_simp, by go_simp, by go_simp, by go_simp⟩)
  have HR1 := hid (show NmC (w.heap.size + 1) false false false ⟨#[]⟩ (.slice none 0 0) (.slice none 0 0) W1 by rw [hW1]; exact ⟨by go_simp, by go_simp, by go_simp, by go_simp, by go_simp, by go_simp, by go_simp, by go_simp, by go_simp, by go_simp, by go_simp, by go_simp⟩)
  rw [← hW1]
  clear hW1
  have hzz : w.heap.size < W1.heap.size ∧ w.heap.size + 1 < W1.heap.size ∧ w.heap.size + 1 + 1 < W1.heap.size := by omega
  clear hz1
  have HTT := hid (fun (m : Nat × Nat) (cp : Nat) (hc : s.size ≤ cp) => HT.out (W1.alloc (.cells (bytesRow s cp) 5 m)).drew (HB1.out.trans (((Below.drew (Below.refl _ _)).alloc (Nat.le_refl _) _).mono HB1.out.size)) W1.heap.size cp (by show W1.heap.size < (W1.alloc _).heap.size; simp) (show BytesAt _ _ (W1.drew.alloc (.cells (bytesRow s cp) 5 m)) from bytes_laid W1.drew s cp m) (by omega) hc (HN1.out.rd (g := W1.heap.size) (by omega) (Rd.of_below ((Below.drew (Below.refl _ _)).alloc (Nat.le_refl _) _))) (still ((Below.drew (Below.refl _ _)).alloc (Nat.le_refl _) _) cS))
  have HGC := hid (grownCap_ge W1 s.size 0 5)
  have HU1 := hid (fun (m : Nat × Nat) (cp : Nat) => show Below W1.heap.size W1 (W1.alloc (.cells (bytesRow s cp) 5 m)).drew from (Below.drew (Below.refl _ _)).alloc (Nat.le_refl _) _)
  rcases hr : readM (ns s) with e | ⟨V, p⟩
  · have her := readM_er hr
    rw [hr] at HTT
    clear HT
    go_wp2_with (first | (go_at_call 43; (with_reducible refine (HTT.out _ _ HGC.out).mono ?_); rintro e w2 ⟨hF, rfl⟩; have HF := hid hF; have HCZ := hid ((HR1.out.fr (Fr.of_below (P := fun i => i = w.heap.size + 1 + 1) (HU1.out _ _)) (by omega)).fr hF (by omega)); obtain ⟨c0, c1, c2, c3, c4, c5, z0, z1, z2, z3, z4, z5⟩ := HCZ.out))
    have hb2 : Below w.heap.size w w2 := (((Fr.of_below HB1.out).trans (Fr.of_below (HU1.out _ _))).trans HF.out).below w.heap.size (Nat.le_refl _) (fun i hi e => by omega)
    obtain ⟨W9, hW9⟩ : ∃ W9, W9 = (((((w2.setCell ⟨w.heap.size + 1, 0, none⟩ (.bool false)).setCell ⟨w.heap.size + 1, 1, none⟩ (.bool false)).setCell ⟨w.heap.size + 1, 2, none⟩ (.bool false)).setCell ⟨w.heap.size + 1, 3, none⟩ (.string ⟨#[]⟩)).setCell ⟨w.heap.size + 1, 4, none⟩ (.slice none 0 0)).setCell ⟨w.heap.size + 1, 5, none⟩ (.slice none 0 0) := ⟨_, rfl⟩
    have hb9 : Below w.heap.size w W9 := by rw [hW9]; exact (((((hb2.setCell (p := ⟨w.heap.size + 1, 0, none⟩) (by simp) _).setCell (p := ⟨w.heap.size + 1, 1, none⟩) (by simp) _).setCell (p := ⟨w.heap.size + 1, 2, none⟩) (by simp) _).setCell (p := ⟨w.heap.size + 1, 3, none⟩) (by simp) _).setCell (p := ⟨w.heap.size + 1, 4, none⟩) (by simp) _).setCell (p := ⟨w.heap.size + 1, 5, none⟩) (by simp) _
    obtain ⟨t0, t1, t2, t3, t4, t5, -, -, -, -, -, -⟩ := (show NmC (w.heap.size + 1) false false false ⟨#[]⟩ (.slice none 0 0) (.slice none 0 0) W9 by rw [hW9]; exact (((((HCZ.out.set0 _).set1 _).set2 _).set3 _).set4 _).set5 _)
    rw [← hW9]
    refine bodyPost_ret (v := .tuple #[.agg #[.bool false, .bool false, .bool false, .string ⟨#[]⟩, .slice none 0 0, .slice none 0 0], .bool false]) ?_ rfl ⟨hb9, ?_⟩
    · simp [results, Tryd.results12, go_sem, t0, t1, t2, t3, t4, t5]
    · rw [hr]; exact rfl
  · rw [hr] at HTT
    clear HT
    go_wp2_with (first | (go_at_call 43; (with_reducible refine (HTT.out _ _ HGC.out).mono ?_); rintro e w2 ⟨hF, rfl, v4, v5, hc, h4, h5⟩; have HF := hid hF; have HCZ := hid ((HR1.out.fr (Fr.of_below (P := fun i => i = w.heap.size + 1 + 1) (HU1.out _ _)) (by omega)).fr hF (by omega)); obtain ⟨c0, c1, c2, c3, c4, c5, z0, z1, z2, z3, z4, z5⟩ := HCZ.out; have H4 := hid (Kd.R_mono (ok' := fun k => W1.heap.size < k) h4 (fun k hk => Nat.lt_of_le_of_lt (Nat.le_trans (HU1.out _ _).size (Nat.le_trans (Nat.le_succ _) (Nat.le_succ _))) hk)); have H5 := hid (Kd.R_mono (ok' := fun k => W1.heap.size < k) h5 (fun k hk => Nat.lt_of_le_of_lt (Nat.le_trans (HU1.out _ _).size (Nat.le_trans (Nat.le_succ _) (Nat.le_succ _))) hk)); obtain ⟨A4, c4', rfl⟩ := Kd.R_slice h4; obtain ⟨A5, c5', rfl⟩ := Kd.R_slice h5; obtain ⟨d0, d1, d2, d3, d4, d5, -, -, -, -, -, -⟩ := hc; clear h4 h5))
    have hb2 : Below w.heap.size w w2 := (((Fr.of_below HB1.out).trans (Fr.of_below (HU1.out _ _))).trans HF.out).below w.heap.size (Nat.le_refl _) (fun i hi e => by omega)
    obtain ⟨W9, hW9⟩ : ∃ W9, W9 = (((((w2.setCell ⟨w.heap.size + 1, 0, none⟩ (.bool V.hm)).setCell ⟨w.heap.size + 1, 1, none⟩ (.bool V.hf)).setCell ⟨w.heap.size + 1, 2, none⟩ (.bool V.hl)).setCell ⟨w.heap.size + 1, 3, none⟩ (.string V.md)).setCell ⟨w.heap.size + 1, 4, none⟩ (.slice A4 V.fs.length c4')).setCell ⟨w.heap.size + 1, 5, none⟩ (.slice A5 V.ls.length c5') := ⟨_, rfl⟩
    have hb9 : Below w.heap.size w W9 := by rw [hW9]; exact (((((hb2.setCell (p := ⟨w.heap.size + 1, 0, none⟩) (by simp) _).setCell (p := ⟨w.heap.size + 1, 1, none⟩) (by simp) _).setCell (p := ⟨w.heap.size + 1, 2, none⟩) (by simp) _).setCell (p := ⟨w.heap.size + 1, 3, none⟩) (by simp) _).setCell (p := ⟨w.heap.size + 1, 4, none⟩) (by simp) _).setCell (p := ⟨w.heap.size + 1, 5, none⟩) (by simp) _
    obtain ⟨t0, t1, t2, t3, t4, t5, -, -, -, -, -, -⟩ := (show NmC (w.heap.size + 1) V.hm V.hf V.hl V.md (.slice A4 V.fs.length c4') (.slice A5 V.ls.length c5') W9 by rw [hW9]; exact (((((HCZ.out.set0 _).set1 _).set2 _).set3 _).set4 _).set5 _)
    have hblk : ∀ k, k ≠ w.heap.size + 1 → W9.heap[k]? = w2.heap[k]? := by
      intro k hk
      rw [hW9, heap_setCell_other _ _ _ _ hk, heap_setCell_other _ _ _ _ hk, heap_setCell_other _ _ _ _ hk, heap_setCell_other _ _ _ _ hk, heap_setCell_other _ _ _ _ hk, heap_setCell_other _ _ _ _ hk]
    have h4 : k121.R 121 W9 w.heap.size (fun k => w.heap.size ≤ k) (.slice A4 V.fs.length c4') V.fs := Kd.R_mono (Kd.R_step H4.out (fun k hk hlt => hblk k (by omega))) (fun k hk => by omega)
    have h5 : k109.R 109 W9 w.heap.size (fun k => w.heap.size ≤ k) (.slice A5 V.ls.length c5') V.ls := Kd.R_mono (Kd.R_step H5.out (fun k hk hlt => hblk k (by omega))) (fun k hk => by omega)
    rw [← hW9]
    refine bodyPost_ret (v := .tuple #[.agg #[.bool V.hm, .bool V.hf, .bool V.hl, .string V.md, .slice A4 V.fs.length c4', .slice A5 V.ls.length c5'], .bool true]) ?_ rfl ⟨hb9, ?_⟩
    · simp [results, Tryd.results12, go_sem, t0, t1, t2, t3, t4, t5]
    · rw [hr]; exact ⟨_, _, rfl, h4, h5⟩
end Go.Proofs.YtiohiiekaofkbaaDoor
/- What is put is read as it was. Plain; and Read by what it answers. -/
namespace Go.Proofs.YtiohiiekaofkbaaDoor
set_option linter.unusedVariables false
set_option linter.unusedSimpArgs false
open Go.RowKit Go.Proofs.YtiohiiekaofkbaaDoor.PNamesBack Go.Proofs.YtiohiiekaofkbaaDoorW.PrintWords
theorem read_ok {s : ByteArray} {w : World} (hG : Glob w) (hM : GlobM w) (hs : s.size ≤ 1000000000) {V : NmV} {p : Int} (h : readM (ns s) = .ok (V, p)) :
    Calls Tryd.prog 12 #[.string s] w (fun e w' => ∃ A c B d, e = .returned (.tuple #[.agg #[.bool V.hm, .bool V.hf, .bool V.hl, .string V.md, .slice A V.fs.length c, .slice B V.ls.length d], .bool true]) ∧ V.n.at A c B d w' ∧ Below w.heap.size w w') := by
  refine (read_walk s w hG hM hs).mono ?_
  rw [h]
  rintro e w' ⟨hb, v4, v5, rfl, r4, r5⟩
  obtain ⟨A, c, rfl, l4, q4⟩ := Kd.R_reads r4
  obtain ⟨B, d, rfl, l5, q5⟩ := Kd.R_reads r5
  exact ⟨A, c, B, d, rfl, ⟨q4, l4, q5, l5⟩, hb⟩
theorem read_no {s : ByteArray} {w : World} (hG : Glob w) (hM : GlobM w) (hs : s.size ≤ 1000000000) {e : Int × Int} (h : readM (ns s) = .error e) :
    Calls Tryd.prog 12 #[.string s] w (fun e w' => e = .returned (.tuple #[.agg #[.bool false, .bool false, .bool false, .string ⟨#[]⟩, .slice none 0 0, .slice none 0 0], .bool false]) ∧ Below w.heap.size w w') := by
  refine (read_walk s w hG hM hs).mono ?_
  rw [h]
  rintro e w' ⟨hb, rfl⟩
  exact ⟨rfl, hb⟩
theorem enc_byte {N : List Int} {v : Int} (h : Enc N v) : ∀ x ∈ N, 0 ≤ x ∧ x < 256 := by
  obtain ⟨D, y, e, hD, y0, y1⟩ := h.dig
  intro x hx
  rw [e] at hx
  rcases List.mem_append.1 hx with hx | hx
  · have := hD x hx; omega
  · simp at hx; omega
theorem encT_byte {B : List Int} {s : ByteArray} (h : EncT B s) : ∀ x ∈ B, 0 ≤ x ∧ x < 256 := by
  obtain ⟨N, hN, rfl⟩ := h
  intro x hx
  rcases List.mem_append.1 hx with hx | hx
  · exact enc_byte hN x hx
  · exact ns_byte s x hx
theorem encS_byte {α : Type} {P : List Int → α → Prop} (hP : ∀ B x, P B x → ∀ z ∈ B, 0 ≤ z ∧ z < 256) : ∀ (xs : List α) (B : List Int), EncS P B xs → ∀ z ∈ B, 0 ≤ z ∧ z < 256 := by
  intro xs
  induction xs with
  | nil => intro B h z hz; have : B = [] := h; rw [this] at hz; cases hz
  | cons x xs ih =>
    intro B h z hz
    obtain ⟨B1, B2, rfl, h1, h2⟩ := h
    rcases List.mem_append.1 hz with hz | hz
    · exact hP _ _ h1 z hz
    · exact ih _ h2 z hz
theorem app_byte {N C : List Int} (h1 : ∀ x ∈ N, 0 ≤ x ∧ x < 256) (h2 : ∀ x ∈ C, 0 ≤ x ∧ x < 256) : ∀ x ∈ N ++ C, 0 ≤ x ∧ x < 256 := fun x hx => (List.mem_append.1 hx).elim (h1 x) (h2 x)
theorem encNl_byte {B : List Int} {xs : List S121} (h : EncNl B xs) : ∀ x ∈ B, 0 ≤ x ∧ x < 256 := by
  obtain ⟨N, C, rfl, hN, hS⟩ := h
  refine app_byte (enc_byte hN) (encS_byte (fun B x hx => ?_) xs C hS)
  obtain ⟨N, T, rfl, hN, hT⟩ := hx
  exact app_byte (enc_byte hN) (encT_byte hT)
theorem encLl_byte {B : List Int} {xs : List S109} (h : EncLl B xs) : ∀ x ∈ B, 0 ≤ x ∧ x < 256 := by
  obtain ⟨N, C, rfl, hN, hS⟩ := h
  refine app_byte (enc_byte hN) (encS_byte (fun B x hx => ?_) xs C hS)
  obtain ⟨N, T, rfl, hN, hT⟩ := hx
  exact app_byte (enc_byte hN) (encNl_byte hT)
theorem sec_byte {i : Int} {b : Bool} {Q : List Int → Prop} {B : List Int} (h : Sec i b Q B) (i0 : 0 ≤ i ∧ i < 256) (hQ : ∀ C, Q C → ∀ x ∈ C, 0 ≤ x ∧ x < 256) : ∀ x ∈ B, 0 ≤ x ∧ x < 256 := by
  cases b
  · have : B = [] := by simpa [Sec] using h
    rw [this]; intro x hx; cases hx
  · obtain ⟨N, C, rfl, hN, hC⟩ := (show ∃ N C, B = i :: (N ++ C) ∧ Enc N C.length ∧ Q C from by simpa [Sec] using h)
    intro x hx
    rcases List.mem_cons.1 hx with rfl | hx
    · exact i0
    · exact app_byte (enc_byte hN) (hQ C hC) x hx
theorem namesE_byte {B : List Int} {V : NmV} (h : NamesE B V) : ∀ x ∈ B, 0 ≤ x ∧ x < 256 := by
  obtain ⟨B0, B1, B2, rfl, S0, S1, S2⟩ := h
  exact app_byte (sec_byte S0 (by decide) (fun C hC => encT_byte hC)) (app_byte (sec_byte S1 (by decide) (fun C hC => encNl_byte hC)) (sec_byte S2 (by decide) (fun C hC => encLl_byte hC)))
theorem flat_len {α : Type} {f : α → List Int} {k : Nat} : ∀ (l : List α), (∀ x ∈ l, (f x).length ≤ k) → (l.flatMap f).length ≤ l.length * k := by
  intro l
  induction l with
  | nil => intro _; simp
  | cons x t ih =>
    intro h
    have h1 := h x (by simp)
    have h2 := ih (fun y hy => h y (by simp [hy]))
    rw [List.flatMap_cons, List.length_append, List.length_cons, Nat.add_mul]
    omega
section
variable {e : Int → List Int} (he : ∀ v, 0 ≤ v → v ≤ 4294967295 → (e v).length ≤ 5)
include he
theorem eT_len {s : ByteArray} (h : s.size ≤ 4294967295) : (eT e s).length ≤ 5 + s.size := by
  have := he s.size (by omega) (by omega)
  have h2 := ns_len s
  rw [eT, bytesOf_ns, List.length_append]; omega
theorem eNl_len {l : List S121} {n : Nat} (h : InNs l) (hn : ∀ x ∈ l, x.f1.size ≤ n) : (eNl e l).length ≤ 5 + l.length * (10 + n) := by
  have h1 := he l.length (by omega) (by have := h.1; omega)
  have h2 := flat_len (f := eN e) (k := 10 + n) l (fun x hx => by
    have hx1 := h.2 x hx
    have a1 := he x.f0 hx1.1 hx1.2.1
    have a2 := eT_len he hx1.2.2
    have a3 := hn x hx
    rw [eN, List.length_append]; omega)
  rw [eNl, List.length_append]; omega
theorem eLl_len {l : List S109} {n k : Nat} (h : InLs l) (hn : ∀ x ∈ l, x.f1.length ≤ k ∧ ∀ y ∈ x.f1, y.f1.size ≤ n) : (eLl e l).length ≤ 5 + l.length * (10 + k * (10 + n)) := by
  have h1 := he l.length (by omega) (by have := h.1; omega)
  have h2 := flat_len (f := eL e) (k := 10 + k * (10 + n)) l (fun x hx => by
    have hx1 := h.2 x hx
    have a1 := he x.f0 hx1.1 hx1.2.1
    have a2 := eNl_len he hx1.2.2 (hn x hx).2
    have a3 := Nat.mul_le_mul_right (10 + n) (hn x hx).1
    rw [eL, List.length_append]; omega)
  rw [eLl, List.length_append]; omega
end
theorem own_in (x : rNs) (h : x.few) (hf : x.fine) : InV x.own.v := by
  obtain ⟨l1, l2, l3⟩ := few_low x h hf
  have hN : ∀ l : List S101, lowN l → InNs (l.map toN) := by
    intro l hl
    refine ⟨by rw [List.length_map]; have := hl.1; omega, fun y hy => ?_⟩
    obtain ⟨z, hz, rfl⟩ := List.mem_map.1 hy
    have := hl.2 z hz
    exact ⟨this.1.1, this.1.2, Nat.le_trans this.2 (by decide)⟩
  refine ⟨by show x.md.size ≤ _; have := h.1; omega, hN _ l1, ?_, fun y hy => ?_⟩
  · show (x.ls.map toL).length ≤ _
    rw [List.length_map]; omega
  · obtain ⟨z, hz, rfl⟩ := List.mem_map.1 hy
    have := l3 z hz
    exact ⟨this.1.1, this.1.2, hN _ this.2⟩
theorem own_lens (x : rNs) (h : x.few) (hf : x.fine) {e : Int → List Int} (he : ∀ v, 0 ≤ v → v ≤ 4294967295 → (e v).length ≤ 5) : (eT e x.own.v.md).length ≤ 100000 ∧ (eNl e x.own.v.fs).length ≤ 100000 ∧ (eLl e x.own.v.ls).length ≤ 10000000 := by
  have hi := own_in x h hf
  obtain ⟨l1, l2, l3⟩ := few_low x h hf
  refine ⟨?_, ?_, ?_⟩
  · have := eT_len he hi.md
    have h1 : x.own.v.md.size ≤ 3000 := h.1
    omega
  · have := eNl_len he (n := 3000) hi.fs (fun y hy => by
      obtain ⟨z, hz, rfl⟩ := List.mem_map.1 hy
      exact (l1.2 z hz).2)
    have h2 : x.own.v.fs.length ≤ 30 := by show (x.fs.map toN).length ≤ _; rw [List.length_map]; exact l1.1
    have h3 := Nat.mul_le_mul_right (10 + 3000) h2
    omega
  · have := eLl_len he (n := 3000) (k := 30) hi.ls (fun y hy => by
      obtain ⟨z, hz, rfl⟩ := List.mem_map.1 hy
      refine ⟨by show (z.f1.map toN).length ≤ _; rw [List.length_map]; exact (l3 z hz).2.1, fun u hu => ?_⟩
      obtain ⟨v, hv, rfl⟩ := List.mem_map.1 hu
      exact ((l3 z hz).2.2 v hv).2)
    have h2 : x.own.v.ls.length ≤ 30 := by show (x.ls.map toL).length ≤ _; rw [List.length_map]; exact l2
    have h3 := Nat.mul_le_mul_right (10 + 30 * (10 + 3000)) h2
    omega
theorem few_fitsM (x : rNs) (m : Int) (h : x.few) (hf : x.fine) (hm : 0 ≤ m) : x.fits m := by
  obtain ⟨a, b, c⟩ := own_lens x h hf (e := fun v => numB v m) (fun v h0 h1 => numB_len h0 h1 hm)
  have e1 : rlB x.fs m = eNl (fun v => numB v m) x.own.v.fs := by
    show rlB x.fs m = eNl (fun v => numB v m) (x.fs.map toN)
    rw [rlB, eNl, List.length_map, rnsB, List.flatMap_map]; rfl
  have e2 : rllB x.ls m = eLl (fun v => numB v m) x.own.v.ls := by
    show rllB x.ls m = eLl (fun v => numB v m) (x.ls.map toL)
    rw [rllB, eLl, List.length_map, rlosB, List.flatMap_map]
    congr 1
    congr 1
    funext y
    rw [rloB]
    show _ = numB y.f0 m ++ eNl (fun v => numB v m) (y.f1.map toN)
    rw [rlB, eNl, List.length_map, rnsB, List.flatMap_map]; rfl
  refine ⟨?_, ?_, ?_⟩
  · have : (txtM x.md m).length ≤ 100000 := a
    omega
  · rw [e1]; omega
  · rw [e2]; omega
theorem own_good (x : rNs) (h : x.few) (hf : x.fine) (hr : rrightB x = true) : GoodV x.own.v := by
  have hi := own_in x h hf
  rw [rright_eq] at hr
  exact (right_iff x.own.v (fun y hy => (hi.fs.2 y hy).1) (fun y hy => ⟨(hi.ls.2 y hy).1, fun z hz => ((hi.ls.2 y hy).2.2.2 z hz).1⟩)).1 hr
theorem len_str (L : List Int) : (strOfNums L).size = L.length := by simp [strOfNums, ByteArray.size]
theorem long_read (x : rNs) (m : Int) (h : x.few) (hf : x.fine) (hr : rrightB x = true) (hm : 0 ≤ m) :
    (∃ p, readM (ns (strOfNums (rputB x m))) = .ok (x.own.v, p)) ∧ (strOfNums (rputB x m)).size ≤ 1000000000 ∧ (strOfNums (putB x.own)).size ≤ (strOfNums (rputB x m)).size := by
  obtain ⟨a, b, c⟩ := own_lens x h hf (e := fun v => numB v m) (fun v h0 h1 => numB_len h0 h1 hm)
  have hE := eAll_enc (numB_enc m hm) (own_in x h hf) (by omega) (by omega) (by omega)
  rw [← rputB_all] at hE
  have hg := own_good x h hf hr
  have hl : (rputB x m).length ≤ 1000000000 := by
    rw [rputB_all, eAll, List.length_append, List.length_append]
    have n5 : ∀ k : Nat, k ≤ 10000000 → (numB k m).length ≤ 5 := fun k hk => numB_len (by omega) (by omega) hm
    have e0 : (if x.own.v.hm then eSec (fun v => numB v m) 0 (eT (fun v => numB v m) x.own.v.md) else []).length ≤ 100006 := by
      split
      · rw [eSec, List.length_cons, List.length_append]; have := n5 _ (Nat.le_trans a (by decide)); omega
      · simp
    have e1 : (if x.own.v.hf then eSec (fun v => numB v m) 1 (eNl (fun v => numB v m) x.own.v.fs) else []).length ≤ 100006 := by
      split
      · rw [eSec, List.length_cons, List.length_append]; have := n5 _ (Nat.le_trans b (by decide)); omega
      · simp
    have e2 : (if x.own.v.hl then eSec (fun v => numB v m) 2 (eLl (fun v => numB v m) x.own.v.ls) else []).length ≤ 10000006 := by
      split
      · rw [eSec, List.length_cons, List.length_append]; have := n5 _ c; omega
      · simp
    omega
  have hns : ns (strOfNums (rputB x m)) = rputB x m := ns_str (namesE_byte hE)
  refine ⟨?_, by rw [len_str]; exact hl, ?_⟩
  · rw [hns]; exact readM_read hl hE hg
  · rw [len_str, len_str]
    exact (names_least hE hg).1
theorem bodies_least {B : List Int} {V : NmV} (h : NamesE B V) (hg : GoodV V) : (eT uL V.md).length ≤ B.length + 1 ∧ (eNl uL V.fs).length ≤ B.length + 1 ∧ (eLl uL V.ls).length ≤ B.length + 1 := by
  obtain ⟨B0, B1, B2, rfl, S0, S1, S2⟩ := h
  simp only [List.length_append]
  have u0 : (uL 0).length = 1 := by rw [uL_small (by decide)]; rfl
  refine ⟨?_, ?_, ?_⟩
  · refine (sec_least (C0 := eT uL V.md) (R := (eT uL V.md).length ≤ B0.length + (B1.length + B2.length) + 1) S0 (fun C hC hQ => ?_) (fun hb => ?_)).2
    · have := (encT_least hQ).1
      exact ⟨this, by omega⟩
    · have : V.md = ⟨#[]⟩ := by rcases hg.m with h | h; rw [hb] at h; cases h; exact h
      rw [this]
      show (uL 0 ++ []).length ≤ _
      rw [List.append_nil, u0]; omega
  · refine (sec_least (C0 := eNl uL V.fs) (R := (eNl uL V.fs).length ≤ B0.length + (B1.length + B2.length) + 1) S1 (fun C hC hQ => ?_) (fun hb => ?_)).2
    · have := (encNl_least (n := C.length) hQ (Nat.le_refl _)).1
      exact ⟨this, by omega⟩
    · have : V.fs = [] := by rcases hg.f with h | h; rw [hb] at h; cases h; exact h
      rw [this]
      show (uL 0 ++ []).length ≤ _
      rw [List.append_nil, u0]; omega
  · refine (sec_least (C0 := eLl uL V.ls) (R := (eLl uL V.ls).length ≤ B0.length + (B1.length + B2.length) + 1) S2 (fun C hC hQ => ?_) (fun hb => ?_)).2
    · have := (encLl_least (n := C.length) hQ (Nat.le_refl _)).1
      exact ⟨this, by omega⟩
    · have : V.ls = [] := by rcases hg.l with h | h; rw [hb] at h; cases h; exact h
      rw [this]
      show (uL 0 ++ []).length ≤ _
      rw [List.append_nil, u0]; omega
theorem le_in {n : Nat} {V : NmV} (h : LeV n V) : InV V := ⟨h.md.1, ⟨h.fs.2.1, fun x hx => (h.fs.2.2 x hx).1⟩, ⟨h.ls.2.1, fun x hx => ⟨(h.ls.2.2 x hx).1, (h.ls.2.2 x hx).2.1, (h.ls.2.2 x hx).2.2.2.1, fun y hy => ((h.ls.2.2 x hx).2.2.2.2 y hy).1⟩⟩⟩
structure ReadV (s : ByteArray) (V : NmV) : Prop where
  right : nrightB V.n = true
  small : V.n.small
  fit : V.n.fit
  some3 : V.n.some3
  short : (strOfNums (putB V.n)).size ≤ s.size
  again : ∃ p, readM (ns (strOfNums (putB V.n))) = .ok (V, p)
theorem read_v {s : ByteArray} (hs : s.size ≤ 2000) {V : NmV} {p : Int} (h : readM (ns s) = .ok (V, p)) : ReadV s V := by
  have hl := ns_len s
  obtain ⟨hE, hg⟩ := readM_put (ns_byte s) (by omega) h
  obtain ⟨h1, hL⟩ := names_least hE hg
  obtain ⟨b0, b1, b2⟩ := bodies_least hE hg
  have hi := le_in hL
  have hE2 := eAll_enc (e := uL) uL_enc hi (by omega) (by omega) (by omega)
  rw [← putB_all] at hE2
  refine ⟨(right_iff V (fun y hy => (hi.fs.2 y hy).1) (fun y hy => ⟨(hi.ls.2 y hy).1, fun z hz => ((hi.ls.2 y hy).2.2.2 z hz).1⟩)).2 hg, ?_, ?_, ?_, by rw [len_str]; omega, ?_⟩
  · refine ⟨by show V.md.size ≤ _; have := hL.md.2; omega, by show V.fs.length ≤ _; have := hL.fs.1; omega, by show V.ls.length ≤ _; have := hL.ls.1; omega, fun i hi' => ?_, fun i hi' => ?_⟩
    · have hi' : i < V.fs.length := hi'
      show (rd_T121 V.fs i).f1.size ≤ _
      rw [rd_Name V.fs i hi']
      have := (hL.fs.2.2 _ (List.getElem_mem hi')).2
      omega
    · have hi' : i < V.ls.length := hi'
      show (rd_T109 V.ls i).f1.length ≤ _ ∧ ∀ j : Nat, j < (rd_T109 V.ls i).f1.length → (rd_T121 (rd_T109 V.ls i).f1 j).f1.size ≤ _
      rw [rd_Local V.ls i hi']
      have hx := (hL.ls.2.2 _ (List.getElem_mem hi')).2.2
      refine ⟨by have := hx.1; omega, fun j hj => ?_⟩
      rw [rd_Name _ j hj]
      have := (hx.2.2 _ (List.getElem_mem hj)).2
      omega
  · refine ⟨fun y hy => ⟨(hi.fs.2 y hy).1, (hi.fs.2 y hy).2.1⟩, fun y hy => ⟨(hi.ls.2 y hy).1, (hi.ls.2 y hy).2.1, fun z hz => ⟨((hi.ls.2 y hy).2.2.2 z hz).1, ((hi.ls.2 y hy).2.2.2 z hz).2.1⟩⟩, ?_, ?_, ?_⟩
    · show (eT uL V.md).length ≤ _; omega
    · show (eNl uL V.fs).length ≤ _; omega
    · show (eLl uL V.ls).length ≤ _; omega
  · refine ⟨by show V.fs.length ≤ _; have := hL.fs.1; omega, by show V.ls.length ≤ _; have := hL.ls.1; omega, fun i hi' => ?_⟩
    have hi' : i < V.ls.length := hi'
    show (rd_T109 V.ls i).f1.length ≤ _
    rw [rd_Local V.ls i hi']
    have := (hL.ls.2.2 _ (List.getElem_mem hi')).2.2.1
    omega
  · rw [show ns (strOfNums (putB V.n)) = putB V.n from ns_str (namesE_byte hE2)]
    exact readM_read (by omega) hE2 hg
theorem nEq_refl (l : List S121) : nEq l l = true := by
  rw [nEq, Bool.and_eq_true, allB_iff]
  exact ⟨decide_eq_true rfl, fun i _ => by simp [nEqAt]⟩
theorem lEq_refl (l : List S109) : lEq l l = true := by
  rw [lEq, Bool.and_eq_true, allB_iff]
  exact ⟨decide_eq_true rfl, fun i _ => by rw [lEqAt, nEq_refl]; simp⟩
theorem sameB_refl (x : Ns) : sameB x x = true := by
  unfold sameB
  rw [nEq_refl, lEq_refl]
  simp
end Go.Proofs.YtiohiiekaofkbaaDoor
/- Small laws for the walks of the statements on names. -/
namespace Go.Proofs.YtiohiiekaofkbaaDoor
set_option linter.unusedVariables false
set_option linter.unusedSimpArgs false
open Go.RowKit Go.Proofs.YtiohiiekaofkbaaDoor.PNamesBack Go.Proofs.YtiohiiekaofkbaaDoorW.PrintWords
theorem keepC18 {p0 p1 p2 p3 p4 p5 p6 p7 p8 p9 p10 p11 p12 p13 p14 p15 p16 p17 : Addr} {a0 a1 a2 a3 a4 a5 a6 a7 a8 a9 a10 a11 a12 a13 a14 a15 a16 a17 : Value} {w W W' : World} {B : Nat} (h : W.cell? p0 = some a0 ∧ W.cell? p1 = some a1 ∧ W.cell? p2 = some a2 ∧ W.cell? p3 = some a3 ∧ W.cell? p4 = some a4 ∧ W.cell? p5 = some a5 ∧ W.cell? p6 = some a6 ∧ W.cell? p7 = some a7 ∧ W.cell? p8 = some a8 ∧ W.cell? p9 = some a9 ∧ W.cell? p10 = some a10 ∧ W.cell? p11 = some a11 ∧ W.cell? p12 = some a12 ∧ W.cell? p13 = some a13 ∧ W.cell? p14 = some a14 ∧ W.cell? p15 = some a15 ∧ W.cell? p16 = some a16 ∧ W.cell? p17 = some a17 ∧ Below B w W ∧ B ≤ W.heap.size) (hb : Below W.heap.size W W') : W'.cell? p0 = some a0 ∧ W'.cell? p1 = some a1 ∧ W'.cell? p2 = some a2 ∧ W'.cell? p3 = some a3 ∧ W'.cell? p4 = some a4 ∧ W'.cell? p5 = some a5 ∧ W'.cell? p6 = some a6 ∧ W'.cell? p7 = some a7 ∧ W'.cell? p8 = some a8 ∧ W'.cell? p9 = some a9 ∧ W'.cell? p10 = some a10 ∧ W'.cell? p11 = some a11 ∧ W'.cell? p12 = some a12 ∧ W'.cell? p13 = some a13 ∧ W'.cell? p14 = some a14 ∧ W'.cell? p15 = some a15 ∧ W'.cell? p16 = some a16 ∧ W'.cell? p17 = some a17 ∧ Below B w W' ∧ B ≤ W'.heap.size :=
  ⟨pw_cell_below hb h.1, pw_cell_below hb h.2.1, pw_cell_below hb h.2.2.1, pw_cell_below hb h.2.2.2.1, pw_cell_below hb h.2.2.2.2.1, pw_cell_below hb h.2.2.2.2.2.1, pw_cell_below hb h.2.2.2.2.2.2.1, pw_cell_below hb h.2.2.2.2.2.2.2.1, pw_cell_below hb h.2.2.2.2.2.2.2.2.1, pw_cell_below hb h.2.2.2.2.2.2.2.2.2.1, pw_cell_below hb h.2.2.2.2.2.2.2.2.2.2.1, pw_cell_below hb h.2.2.2.2.2.2.2.2.2.2.2.1, pw_cell_below hb h.2.2.2.2.2.2.2.2.2.2.2.2.1, pw_cell_below hb h.2.2.2.2.2.2.2.2.2.2.2.2.2.1, pw_cell_below hb h.2.2.2.2.2.2.2.2.2.2.2.2.2.2.1, pw_cell_below hb h.2.2.2.2.2.2.2.2.2.2.2.2.2.2.2.1, pw_cell_below hb h.2.2.2.2.2.2.2.2.2.2.2.2.2.2.2.2.1, pw_cell_below hb h.2.2.2.2.2.2.2.2.2.2.2.2.2.2.2.2.2.1, h.2.2.2.2.2.2.2.2.2.2.2.2.2.2.2.2.2.2.1.trans (hb.mono h.2.2.2.2.2.2.2.2.2.2.2.2.2.2.2.2.2.2.2), Nat.le_trans h.2.2.2.2.2.2.2.2.2.2.2.2.2.2.2.2.2.2.2 hb.size⟩
def ZeroN (g : Nat) (W : World) : Prop := W.cell? ⟨g, 0, none⟩ = some (.bool false) ∧ W.cell? ⟨g, 1, none⟩ = some (.bool false) ∧ W.cell? ⟨g, 2, none⟩ = some (.bool false) ∧ W.cell? ⟨g, 3, none⟩ = some (.string ⟨#[]⟩) ∧ W.cell? ⟨g, 4, none⟩ = some (.slice none 0 0) ∧ W.cell? ⟨g, 5, none⟩ = some (.slice none 0 0) ∧ W.frozen? ⟨g, 0, none⟩ = false ∧ W.frozen? ⟨g, 1, none⟩ = false ∧ W.frozen? ⟨g, 2, none⟩ = false ∧ W.frozen? ⟨g, 3, none⟩ = false ∧ W.frozen? ⟨g, 4, none⟩ = false ∧ W.frozen? ⟨g, 5, none⟩ = false
theorem ZeroN.new (W : World) : ZeroN W.heap.size (W.alloc (.cells #[.bool false, .bool false, .bool false, .string ⟨#[]⟩, .slice none 0 0, .slice none 0 0] 33)) := by
  have hb : (W.alloc (.cells #[.bool false, .bool false, .bool false, .string ⟨#[]⟩, .slice none 0 0, .slice none 0 0] 33)).heap[W.heap.size]? = some (.cells #[.bool false, .bool false, .bool false, .string ⟨#[]⟩, .slice none 0 0, .slice none 0 0] 33 (0, 0)) := by
    show (W.heap.push _)[W.heap.size]? = _
    rw [Array.getElem?_push_size]
  unfold ZeroN
  exact ⟨blk_cell hb 0, blk_cell hb 1, blk_cell hb 2, blk_cell hb 3, blk_cell hb 4, blk_cell hb 5, blk_frozen hb 0, blk_frozen hb 1, blk_frozen hb 2, blk_frozen hb 3, blk_frozen hb 4, blk_frozen hb 5⟩
theorem ZeroN.of {W : World} {p : Addr} {v : Value} {R : Prop} (h : W.cell? p = some v ∧ R) : ZeroN W.heap.size (W.alloc (.cells #[.bool false, .bool false, .bool false, .string ⟨#[]⟩, .slice none 0 0, .slice none 0 0] 33)) := ZeroN.new W
theorem ZeroN.below {g : Nat} {W W' : World} (h : ZeroN g W) (hb : Below W.heap.size W W') : ZeroN g W' := by
  have hl : g < W.heap.size := cell_lt h.1
  have hc : ∀ i, W'.cell? ⟨g, i, none⟩ = W.cell? ⟨g, i, none⟩ := fun i => hb.cell (p := ⟨g, i, none⟩) hl
  have hf : ∀ i, W'.frozen? ⟨g, i, none⟩ = W.frozen? ⟨g, i, none⟩ := fun i => hb.frozen (p := ⟨g, i, none⟩) hl
  unfold ZeroN at h ⊢
  simp only [hc, hf]
  exact h
end Go.Proofs.YtiohiiekaofkbaaDoor
/- The walk of the statement NamesBack. -/
namespace Go.Proofs.YtiohiiekaofkbaaDoor
set_option linter.unusedVariables false
set_option linter.unusedSimpArgs false
open Go.RowKit Go.Proofs.YtiohiiekaofkbaaDoor.PNamesBack Go.Proofs.YtiohiiekaofkbaaDoorW.PrintWords
def Ns.agg (x : Ns) (A : Option Addr) (c : Nat) (B : Option Addr) (d : Nat) : Value := .agg #[.bool x.hm, .bool x.hf, .bool x.hl, .string x.md, .slice A x.fs.length c, .slice B x.ls.length d]
def zeroNs : Ns := ⟨false, false, false, ⟨#[]⟩, [], []⟩
theorem zero_same (W : World) : Calls Tryd.prog 15 #[.agg #[.bool false, .bool false, .bool false, .string ⟨#[]⟩, .slice none 0 0, .slice none 0 0], .agg #[.bool false, .bool false, .bool false, .string ⟨#[]⟩, .slice none 0 0, .slice none 0 0]] W (fun e w' => e = .returned (.bool true) ∧ Below W.heap.size W w') := by
  have hat : zeroNs.at none 0 none 0 W := ⟨Kd.C_nil _ _, Nat.le_refl _, Kd.C_nil _ _, Nat.le_refl _⟩
  have := same_walk zeroNs zeroNs none 0 none 0 none 0 none 0 W hat hat ⟨Nat.zero_le _, Nat.zero_le _, Nat.zero_le _, fun i hi => absurd hi (Nat.not_lt_zero i), fun i hi => absurd hi (Nat.not_lt_zero i)⟩
  rwa [sameB_refl] at this
theorem vput_walk {s : ByteArray} {V : NmV} (hV : ReadV s V) (A : Option Addr) (c : Nat) (B : Option Addr) (d : Nat) (W : World) (h : V.n.at A c B d W) :
    Calls Tryd.prog 11 #[.agg #[.bool V.hm, .bool V.hf, .bool V.hl, .string V.md, .slice A V.fs.length c, .slice B V.ls.length d]] W (fun e w' => e = .returned (.tuple #[.string (strOfNums (putB V.n)), .int .i64 0]) ∧ Below W.heap.size W w') := by
  have := put_walk V.n A c B d W h hV.small hV.fit
  rw [hV.right] at this
  exact this
theorem vright_walk {s : ByteArray} {V : NmV} (hV : ReadV s V) (A : Option Addr) (c : Nat) (B : Option Addr) (d : Nat) (W : World) (h : V.n.at A c B d W) :
    Calls Tryd.prog 17 #[.agg #[.bool V.hm, .bool V.hf, .bool V.hl, .string V.md, .slice A V.fs.length c, .slice B V.ls.length d]] W (fun e w' => e = .returned (.bool true) ∧ Below W.heap.size W w') := by
  have := right_walk V.n A c B d W h hV.small
  rw [hV.right] at this
  exact this
theorem vsame_walk {s : ByteArray} {V : NmV} (hV : ReadV s V) (A : Option Addr) (c : Nat) (B : Option Addr) (d : Nat) (A' : Option Addr) (c' : Nat) (B' : Option Addr) (d' : Nat) (W : World) (h : V.n.at A c B d W) (h' : V.n.at A' c' B' d' W) :
    Calls Tryd.prog 15 #[.agg #[.bool V.hm, .bool V.hf, .bool V.hl, .string V.md, .slice A V.fs.length c, .slice B V.ls.length d], .agg #[.bool V.hm, .bool V.hf, .bool V.hl, .string V.md, .slice A' V.fs.length c', .slice B' V.ls.length d']] W (fun e w' => e = .returned (.bool true) ∧ Below W.heap.size W w') := by
  have := same_walk V.n V.n A c B d A' c' B' d' W h h' hV.small
  rw [sameB_refl] at this
  exact this
theorem back_own_walk (x : rNs) (hx : x.few) (A : Option Addr) (c : Nat) (B : Option Addr) (d : Nat) (W : World) (h : x.own.at A c B d W) :
    Calls Tryd.prog 14 #[.agg #[.bool x.own.hm, .bool x.own.hf, .bool x.own.hl, .string x.own.md, .slice A x.own.fs.length c, .slice B x.own.ls.length d]] W (fun e w' => ∃ A' c' B' d', e = .returned (.agg #[.bool x.hm, .bool x.hf, .bool x.hl, .string x.md, .slice A' x.fs.length c', .slice B' x.ls.length d']) ∧ x.at A' c' B' d' w' ∧ Below W.heap.size W w') := by
  have := back_walk x.own A c B d W h (own_some3 x hx)
  rwa [own_back] at this
theorem read_own (x : rNs) {s : ByteArray} {w : World} (hG : Glob w) (hM : GlobM w) (hs : s.size ≤ 1000000000) {p : Int} (h : readM (ns s) = .ok (x.own.v, p)) :
    Calls Tryd.prog 12 #[.string s] w (fun e w' => ∃ A c B d, e = .returned (.tuple #[.agg #[.bool x.own.hm, .bool x.own.hf, .bool x.own.hl, .string x.own.md, .slice A x.own.fs.length c, .slice B x.own.ls.length d], .bool true]) ∧ x.own.at A c B d w' ∧ Below w.heap.size w w') :=
  read_ok hG hM hs h
theorem rsame_self (x : rNs) (hx : x.few) (A : Option Addr) (c : Nat) (B : Option Addr) (d : Nat) (A' : Option Addr) (c' : Nat) (B' : Option Addr) (d' : Nat) (W : World) (h : x.at A c B d W) (h' : x.at A' c' B' d' W) :
    Calls Tryd.prog 13 #[.agg #[.bool x.hm, .bool x.hf, .bool x.hl, .string x.md, .slice A x.fs.length c, .slice B x.ls.length d], .agg #[.bool x.hm, .bool x.hf, .bool x.hl, .string x.md, .slice A' x.fs.length c', .slice B' x.ls.length d']] W (fun e w' => e = .returned (.bool true) ∧ Below W.heap.size W w') := by
  have := rsame_walk x x A c B d A' c' B' d' W h h' hx
  rwa [sameB_refl] at this
set_option maxRecDepth 100000 in
set_option maxHeartbeats 8000000 in
theorem back_law (x : rNs) (A : Option Addr) (c : Nat) (B : Option Addr) (d : Nat) (more : Int) (s : ByteArray) (w : World) (hx : x.at A c B d w) (hxf : x.fine) (hG : Glob w) (hM : GlobM w) (m0 : 0 ≤ more) (m1 : more < 256) :
    Calls Tryd.prog 3 #[.agg #[.bool x.hm, .bool x.hf, .bool x.hl, .string x.md, .slice A x.fs.length c, .slice B x.ls.length d], .int .u8 more, .string s] w fun e w' => e = .returned (.bool true) ∧ Below w.heap.size w w' := by
  have hu := Tryd.underlying25
  have hu2 := Tryd.underlying33
  obtain ⟨r1, q1, G1⟩ := great_walk x A c B d w hx hxf
  have HG1 := hid G1
  have HX := hid hx
  have HXF := hid hxf
  have HQ1 := hid q1
  have HG := hid hG
  have HM := hid hM
  clear G1 hx hxf q1 hG hM
  go_enter Tryd.func3, Tryd.ntmps3
  go_upto_region 1 with (fail)
  obtain ⟨w0, hw0⟩ : ∃ w0, w0 = (w.alloc (.cells #[.bool x.hm, .bool x.hf, .bool x.hl, .string x.md, .slice A x.fs.length c, .slice B x.ls.length d] 25)) := ⟨_, rfl⟩
  have KX := hid (show rBoxN w.heap.size x.hm x.hf x.hl x.md (.slice A x.fs.length c) (.slice B x.ls.length d) w0 by rw [hw0]; exact rBoxN.new _ _ _ _ _ _ _ _)
  have KB := hid (show Below w.heap.size w w0 by rw [hw0]; exact below_alloc (Below.refl _ _) _)
  have kz : w.heap.size < w0.heap.size := by rw [hw0]; simp
  rw [← hw0]
  clear hw0
  obtain ⟨x0, x1, x2, x3, x4, x5⟩ := KX.out
  cases r1 with
  | true =>
    go_wp2_with (first | (go_at_call 7; (with_reducible refine (HG1.out _ KB.out).mono ?_); rintro e w1 ⟨rfl, hb1⟩))
    go_ret
    exact ⟨rfl, KB.out.trans (hb1.mono KB.out.size)⟩
  | false =>
    by_cases hsz : (2000 : Int) < (s.size : Int)
    · go_wp2_with (first | (go_at_call 7; (with_reducible refine (HG1.out _ KB.out).mono ?_); rintro e w1 ⟨rfl, hb1⟩))
      go_ret
      exact ⟨rfl, KB.out.trans (hb1.mono KB.out.size)⟩
    · have hxs := HQ1.out rfl
      have HSZ := hid hsz
      go_upto_region 3 with (first | (go_at_call 7; (with_reducible refine (HG1.out _ KB.out).mono ?_); rintro e w1 ⟨rfl, hb1⟩))
      have KB1 := hid (KB.out.trans (hb1.mono KB.out.size))
      have KX1 := hid (KX.out.below hb1)
      have kz1 : w.heap.size < w1.heap.size := Nat.lt_of_lt_of_le kz hb1.size
      clear x0 x1 x2 x3 x4 x5 hb1 KX KB kz HG1 HQ1
      have HRR := hid (fun W (h : Below w.heap.size w W) => rright_walk x A c B d W (HX.out.below h) (few_small x hxs HXF.out))
      obtain ⟨rr, hrr⟩ : ∃ b, rrightB x = b := ⟨_, rfl⟩
      rw [hrr] at HRR
      have HRB := hid hrr
      clear hrr
      obtain ⟨x0, x1, x2, x3, x4, x5⟩ := KX1.out
      go_upto_if 28 with (first | (go_at_call 8; (with_reducible refine (HRR.out _ KB1.out).mono ?_); rintro e w2 ⟨rfl, hb2⟩))
      have KB2 := hid (KB1.out.trans (hb2.mono KB1.out.size))
      have KX2 := hid (KX1.out.below hb2)
      have kz2 : w.heap.size < w2.heap.size := Nat.lt_of_lt_of_le kz1 hb2.size
      clear x0 x1 x2 x3 x4 x5 hb2 KX1 KB1 kz1 HRR
      go_cut [6] (fun s6 wx => s6 = .bool false ∧ Hid (Below w.heap.size w wx))
      case first =>
        cases rr with
        | false =>
          go_wp2_with fail
          go_meet
          exact ⟨rfl, KB2⟩
        | true =>
          obtain ⟨⟨p1, hr1⟩, hz1, hle⟩ := long_read x (more % 5) hxs HXF.out HRB.out (by omega)
          obtain ⟨⟨p2, hr2⟩, hz2, -⟩ := long_read x 0 hxs HXF.out HRB.out (by decide)
          rw [rput_zero x hxs HXF.out] at hr2 hz2
          have HRP := hid (fun W (h : Below w.heap.size w W) => rput_walk x A c B d (more % 5) W (HX.out.below h) (few_small x hxs HXF.out) (few_fitsM x _ hxs HXF.out (by omega)) (by omega) (by omega))
          have HRO := hid (fun W (h : Below w.heap.size w W) => own14_walk x A c B d W (HX.out.below h) hxs)
          have HPU := hid (fun W A' c' B' d' (h : x.own.at A' c' B' d' W) => put_walk x.own A' c' B' d' W h (own_small x hxs HXF.out) (own_fit x hxs HXF.out))
          rw [← rright_eq x, HRB.out] at HPU
          simp only [if_true] at HPU
          obtain ⟨lg, hlg⟩ : ∃ b, strOfNums (rputB x (more % 5)) = b := ⟨_, rfl⟩
          obtain ⟨ps, hps⟩ : ∃ b, strOfNums (putB x.own) = b := ⟨_, rfl⟩
          rw [hlg] at hr1 hz1 hle HRP
          rw [hps] at hr2 hz2 hle HPU
          have HR1 := hid (fun W (h : Below w.heap.size w W) => read_own x (HG.out.of h) (HM.out.below h) hz1 hr1)
          have HR2 := hid (fun W (h : Below w.heap.size w W) => read_own x (HG.out.of h) (HM.out.below h) hz2 hr2)
          have HBK := hid (fun W A' c' B' d' (h : x.own.at A' c' B' d' W) => back_own_walk x hxs A' c' B' d' W h)
          have HSM := hid (fun W A' c' B' d' (h : x.at A' c' B' d' W) (hW : Below w.heap.size w W) => rsame_self x hxs A' c' B' d' A c B d W h (HX.out.below hW))
          have hm5 : 0 ≤ more % 5 ∧ more % 5 < 5 := by omega
          have HLE := hid hle
          clear hlg hps hr1 hr2 hz1 hz2 hle
          obtain ⟨x0, x1, x2, x3, x4, x5⟩ := KX2.out
          go_upto_region 5 with (first | (go_at_call 9; (with_reducible refine (HRP.out _ KB2.out).mono ?_); rintro e w3 ⟨rfl, hb3⟩; have KB3 := hid (KB2.out.trans (hb3.mono KB2.out.size)); have KX3 := hid (KX2.out.below hb3)))
          clear x0 x1 x2 x3 x4 x5 HRP
          obtain ⟨x0, x1, x2, x3, x4, x5⟩ := KX3.out
          go_upto_region 6 with (first | (go_at_call 10; (with_reducible refine (HRO.out _ KB3.out).mono ?_); rintro e w4 ⟨Ao, co, Bo, do_, rfl, hat, hb4⟩; have HA4 := hid hat.now; clear hat; have KB4 := hid (KB3.out.trans (hb4.mono KB3.out.size)); have KX4 := hid (KX3.out.below hb4)) | (go_at_call 11; (with_reducible refine (HPU.out _ _ _ _ _ HA4.out).mono ?_); rintro e w4b ⟨rfl, hb4b⟩; have KB4b := hid (KB4.out.trans (hb4b.mono KB4.out.size)); have KX4b := hid (KX4.out.below hb4b)))
          clear x0 x1 x2 x3 x4 x5 HRO HPU hb4 hb4b KX3 KX4
          go_upto_region 7 with (first | (go_at_call 12; (with_reducible refine (HR1.out _ KB4b.out).mono ?_); rintro e w5 ⟨A5, c5, B5, d5, rfl, hat5, hb5⟩))
          have K5 := KB4b.out.trans (hb5.mono KB4b.out.size)
          obtain ⟨W5, hW5⟩ : ∃ W5, W5 = w5.alloc (.cells #[.bool x.own.hm, .bool x.own.hf, .bool x.own.hl, .string x.own.md, .slice A5 x.own.fs.length c5, .slice B5 x.own.ls.length d5] 33) := ⟨_, rfl⟩
          have hb5a : Below w5.heap.size w5 W5 := by rw [hW5]; exact below_alloc (Below.refl _ _) _
          have KP := hid (show rBoxN w5.heap.size x.own.hm x.own.hf x.own.hl x.own.md (.slice A5 x.own.fs.length c5) (.slice B5 x.own.ls.length d5) W5 by rw [hW5]; exact rBoxN.new _ _ _ _ _ _ _ _)
          have HA5 := hid (hat5.below hb5a)
          have KX5 := hid ((KX4b.out.below hb5).below hb5a)
          have K5 := hid (K5.trans (hb5a.mono K5.size))
          rw [← hW5]
          clear hW5 hb5 hb5a hat5 HR1 KX4b
          go_upto_region 8 with (first | (go_at_call 12; (with_reducible refine (HR2.out _ K5.out).mono ?_); rintro e w6 ⟨A6, c6, B6, d6, rfl, hat6, hb6⟩))
          have K6 := K5.out.trans (hb6.mono K5.out.size)
          obtain ⟨W6, hW6⟩ : ∃ W6, W6 = w6.alloc (.cells #[.bool x.own.hm, .bool x.own.hf, .bool x.own.hl, .string x.own.md, .slice A6 x.own.fs.length c6, .slice B6 x.own.ls.length d6] 33) := ⟨_, rfl⟩
          have hb6a : Below w6.heap.size w6 W6 := by rw [hW6]; exact below_alloc (Below.refl _ _) _
          have KQ := hid (show rBoxN w6.heap.size x.own.hm x.own.hf x.own.hl x.own.md (.slice A6 x.own.fs.length c6) (.slice B6 x.own.ls.length d6) W6 by rw [hW6]; exact rBoxN.new _ _ _ _ _ _ _ _)
          have HA6 := hid (hat6.below hb6a)
          have HA5 := hid ((HA5.out.below hb6).below hb6a)
          have KX6 := hid ((KX5.out.below hb6).below hb6a)
          have KP := hid ((KP.out.below hb6).below hb6a)
          have K6 := hid (K6.trans (hb6a.mono K6.size))
          rw [← hW6]
          clear hW6 hb6 hb6a hat6 HR2 KX5
          have S0 : W6.cell? ⟨w5.heap.size, 0, none⟩ = some (.bool x.own.hm) ∧ W6.cell? ⟨w5.heap.size, 1, none⟩ = some (.bool x.own.hf) ∧ W6.cell? ⟨w5.heap.size, 2, none⟩ = some (.bool x.own.hl) ∧ W6.cell? ⟨w5.heap.size, 3, none⟩ = some (.string x.own.md) ∧ W6.cell? ⟨w5.heap.size, 4, none⟩ = some (.slice A5 x.own.fs.length c5) ∧ W6.cell? ⟨w5.heap.size, 5, none⟩ = some (.slice B5 x.own.ls.length d5) ∧ W6.cell? ⟨w6.heap.size, 0, none⟩ = some (.bool x.own.hm) ∧ W6.cell? ⟨w6.heap.size, 1, none⟩ = some (.bool x.own.hf) ∧ W6.cell? ⟨w6.heap.size, 2, none⟩ = some (.bool x.own.hl) ∧ W6.cell? ⟨w6.heap.size, 3, none⟩ = some (.string x.own.md) ∧ W6.cell? ⟨w6.heap.size, 4, none⟩ = some (.slice A6 x.own.fs.length c6) ∧ W6.cell? ⟨w6.heap.size, 5, none⟩ = some (.slice B6 x.own.ls.length d6) ∧ W6.cell? ⟨w.heap.size, 0, none⟩ = some (.bool x.hm) ∧ W6.cell? ⟨w.heap.size, 1, none⟩ = some (.bool x.hf) ∧ W6.cell? ⟨w.heap.size, 2, none⟩ = some (.bool x.hl) ∧ W6.cell? ⟨w.heap.size, 3, none⟩ = some (.string x.md) ∧ W6.cell? ⟨w.heap.size, 4, none⟩ = some (.slice A x.fs.length c) ∧ W6.cell? ⟨w.heap.size, 5, none⟩ = some (.slice B x.ls.length d) ∧ Below W6.heap.size W6 W6 ∧ W6.heap.size ≤ W6.heap.size := by
            obtain ⟨x0, x1, x2, x3, x4, x5⟩ := KX6.out
            obtain ⟨y0, y1, y2, y3, y4, y5⟩ := KP.out
            obtain ⟨z0, z1, z2, z3, z4, z5⟩ := KQ.out
            exact ⟨y0, y1, y2, y3, y4, y5, z0, z1, z2, z3, z4, z5, x0, x1, x2, x3, x4, x5, Below.refl _ _, Nat.le_refl _⟩
          have hle := HLE.out
          refine wp_region_noPanic ?_
          refine wp_region_held_drew (S := (fun W => W.cell? ⟨w5.heap.size, 0, none⟩ = some (.bool x.own.hm) ∧ W.cell? ⟨w5.heap.size, 1, none⟩ = some (.bool x.own.hf) ∧ W.cell? ⟨w5.heap.size, 2, none⟩ = some (.bool x.own.hl) ∧ W.cell? ⟨w5.heap.size, 3, none⟩ = some (.string x.own.md) ∧ W.cell? ⟨w5.heap.size, 4, none⟩ = some (.slice A5 x.own.fs.length c5) ∧ W.cell? ⟨w5.heap.size, 5, none⟩ = some (.slice B5 x.own.ls.length d5) ∧ W.cell? ⟨w6.heap.size, 0, none⟩ = some (.bool x.own.hm) ∧ W.cell? ⟨w6.heap.size, 1, none⟩ = some (.bool x.own.hf) ∧ W.cell? ⟨w6.heap.size, 2, none⟩ = some (.bool x.own.hl) ∧ W.cell? ⟨w6.heap.size, 3, none⟩ = some (.string x.own.md) ∧ W.cell? ⟨w6.heap.size, 4, none⟩ = some (.slice A6 x.own.fs.length c6) ∧ W.cell? ⟨w6.heap.size, 5, none⟩ = some (.slice B6 x.own.ls.length d6) ∧ W.cell? ⟨w.heap.size, 0, none⟩ = some (.bool x.hm) ∧ W.cell? ⟨w.heap.size, 1, none⟩ = some (.bool x.hf) ∧ W.cell? ⟨w.heap.size, 2, none⟩ = some (.bool x.hl) ∧ W.cell? ⟨w.heap.size, 3, none⟩ = some (.string x.md) ∧ W.cell? ⟨w.heap.size, 4, none⟩ = some (.slice A x.fs.length c) ∧ W.cell? ⟨w.heap.size, 5, none⟩ = some (.slice B x.ls.length d) ∧ Below W6.heap.size W6 W ∧ W6.heap.size ≤ W.heap.size)) (by kernel_rfl) ?hSr1 (fun hHeld => ?gor1)
          case hSr1 => exact keepC18 S0 (below_drew (Below.refl _ _))
          refine tk 0 ⟨some 50, .move (.tmp 9), 28, "outright.go:19", #[], none⟩ rfl ?_
          refine tk 1 ⟨some 51, .binOp .neq 28 (.tmp 50) (.const (.int .i64 0)) 28, 4, "outright.go:19", #[⟨0, .data⟩], none⟩ rfl ?_
          refine tk 2 ⟨some 52, .move (.tmp 51), 4, "outright.go:19", #[⟨1, .data⟩], none⟩ rfl ?_
          refine tk 3 ⟨some 53, .move (.tmp 11), 4, "outright.go:19", #[⟨2, .guard⟩], some (2, false)⟩ rfl ?_
          refine tk 4 ⟨some 54, .unOp .not 4 (.tmp 53), 4, "outright.go:19", #[⟨3, .data⟩, ⟨2, .guard⟩], some (2, false)⟩ rfl ?_
          refine tk 5 ⟨some 55, .pick (.tmp 52) (.const (.bool true)) (.tmp 54), 4, "outright.go:19", #[⟨2, .data⟩, ⟨4, .data⟩], none⟩ rfl ?_
          refine tk 6 ⟨some 56, .move (.tmp 55), 4, "outright.go:19", #[⟨5, .data⟩, ⟨2, .chain⟩], none⟩ rfl ?_
          refine tk 7 ⟨some 57, .move (.tmp 13), 4, "outright.go:19", #[⟨6, .guard⟩], some (6, false)⟩ rfl ?_
          refine tk 8 ⟨some 58, .unOp .not 4 (.tmp 57), 4, "outright.go:19", #[⟨7, .data⟩, ⟨6, .guard⟩], some (6, false)⟩ rfl ?_
          refine tk 9 ⟨some 59, .pick (.tmp 56) (.const (.bool true)) (.tmp 58), 4, "outright.go:19", #[⟨6, .data⟩, ⟨8, .data⟩], none⟩ rfl ?_
          refine tk 10 ⟨some 60, .move (.tmp 59), 4, "outright.go:19", #[⟨9, .data⟩, ⟨6, .chain⟩], none⟩ rfl ?_
          refine tk 11 ⟨some 61, .load 33 (.tmp 10), 33, "outright.go:19", #[⟨10, .guard⟩], some (10, false)⟩ rfl ?_
          refine tk 13 ⟨some 63, .load 25 (.tmp 3), 25, "outright.go:19", #[⟨10, .guard⟩], some (10, false)⟩ rfl ?_
          refine wpAnyH_ready (rs := [12]) (by kernel_rfl) (by simp) ?_
          refine AllReadyH.cons (o := ⟨some 62, .call { callee := .value (.func 14), args := #[.tmp 61], argTypes := #[33] }, 25, "outright.go:19", #[⟨11, .data⟩, ⟨10, .chain⟩, ⟨10, .guard⟩], some (10, false)⟩) rfl (fun K hK => ?_) AllReadyH.nil
          go_simp
          go_at_call 14; (with_reducible refine (HBK.out _ _ _ _ _ (HA5.out.below hHeld.2.2.2.2.2.2.2.2.2.2.2.2.2.2.2.2.2.2.1)).mono ?_); rintro e w7 ⟨A7, c7, B7, d7, rfl, hat7, hb1⟩; have HAT := hid hat7; clear hat7
          refine hK.out _ _ ?_ (fun hHeld => ?_)
          · (try dsimp only); exact keepC18 hHeld hb1
          clear hK K
          try simp only [Act.put, List.setIfInBounds_toArray, List.set_cons_zero, List.set_cons_succ]
          refine wpAnyH_ready (rs := [14]) (by kernel_rfl) (by simp) ?_
          refine AllReadyH.cons (o := ⟨some 64, .call { callee := .value (.func 13), args := #[.tmp 62, .tmp 63], argTypes := #[25, 25] }, 4, "outright.go:19", #[⟨12, .data⟩, ⟨13, .data⟩, ⟨12, .chain⟩, ⟨10, .guard⟩], some (10, false)⟩) rfl (fun K hK => ?_) AllReadyH.nil
          go_simp
          go_at_call 13; (with_reducible refine (HSM.out _ _ _ _ _ HAT.out (K6.out.trans (hHeld.2.2.2.2.2.2.2.2.2.2.2.2.2.2.2.2.2.2.1.mono K6.out.size))).mono ?_); rintro e w8 ⟨rfl, hb1⟩
          refine hK.out _ _ ?_ (fun hHeld => ?_)
          · (try dsimp only); exact keepC18 hHeld hb1
          clear hK K
          try simp only [Act.put, List.setIfInBounds_toArray, List.set_cons_zero, List.set_cons_succ]
          refine tk 15 ⟨some 65, .unOp .not 4 (.tmp 64), 4, "outright.go:19", #[⟨14, .data⟩, ⟨10, .guard⟩], some (10, false)⟩ rfl ?_
          refine tk 16 ⟨some 66, .pick (.tmp 60) (.const (.bool true)) (.tmp 65), 4, "outright.go:19", #[⟨10, .data⟩, ⟨15, .data⟩], none⟩ rfl ?_
          refine tk 17 ⟨some 67, .move (.tmp 66), 4, "outright.go:19", #[⟨16, .data⟩, ⟨14, .chain⟩], none⟩ rfl ?_
          refine tk 18 ⟨some 68, .load 33 (.tmp 12), 33, "outright.go:19", #[⟨17, .guard⟩], some (17, false)⟩ rfl ?_
          refine tk 20 ⟨some 70, .load 25 (.tmp 3), 25, "outright.go:19", #[⟨17, .guard⟩], some (17, false)⟩ rfl ?_
          refine wpAnyH_ready (rs := [19]) (by kernel_rfl) (by simp) ?_
          refine AllReadyH.cons (o := ⟨some 69, .call { callee := .value (.func 14), args := #[.tmp 68], argTypes := #[33] }, 25, "outright.go:19", #[⟨18, .data⟩, ⟨17, .chain⟩, ⟨17, .guard⟩], some (17, false)⟩) rfl (fun K hK => ?_) AllReadyH.nil
          go_simp
          go_at_call 14; (with_reducible refine (HBK.out _ _ _ _ _ (HA6.out.below hHeld.2.2.2.2.2.2.2.2.2.2.2.2.2.2.2.2.2.2.1)).mono ?_); rintro e w9 ⟨A9, c9, B9, d9, rfl, hat9, hb1⟩; have HAT := hid hat9; clear hat9
          refine hK.out _ _ ?_ (fun hHeld => ?_)
          · (try dsimp only); exact keepC18 hHeld hb1
          clear hK K
          try simp only [Act.put, List.setIfInBounds_toArray, List.set_cons_zero, List.set_cons_succ]
          refine wpAnyH_ready (rs := [21]) (by kernel_rfl) (by simp) ?_
          refine AllReadyH.cons (o := ⟨some 71, .call { callee := .value (.func 13), args := #[.tmp 69, .tmp 70], argTypes := #[25, 25] }, 4, "outright.go:19", #[⟨19, .data⟩, ⟨20, .data⟩, ⟨19, .chain⟩, ⟨17, .guard⟩], some (17, false)⟩) rfl (fun K hK => ?_) AllReadyH.nil
          go_simp
          go_at_call 13; (with_reducible refine (HSM.out _ _ _ _ _ HAT.out (K6.out.trans (hHeld.2.2.2.2.2.2.2.2.2.2.2.2.2.2.2.2.2.2.1.mono K6.out.size))).mono ?_); rintro e w10 ⟨rfl, hb1⟩
          refine hK.out _ _ ?_ (fun hHeld => ?_)
          · (try dsimp only); exact keepC18 hHeld hb1
          clear hK K
          try simp only [Act.put, List.setIfInBounds_toArray, List.set_cons_zero, List.set_cons_succ]
          refine tk 22 ⟨some 72, .unOp .not 4 (.tmp 71), 4, "outright.go:19", #[⟨21, .data⟩, ⟨17, .guard⟩], some (17, false)⟩ rfl ?_
          refine tk 23 ⟨some 73, .pick (.tmp 67) (.const (.bool true)) (.tmp 72), 4, "outright.go:19", #[⟨17, .data⟩, ⟨22, .data⟩], none⟩ rfl ?_
          refine tk 24 ⟨some 74, .move (.tmp 73), 4, "outright.go:19", #[⟨23, .data⟩, ⟨21, .chain⟩], none⟩ rfl ?_
          refine tk 25 ⟨some 75, .move (.tmp 8), 9, "outright.go:19", #[⟨24, .guard⟩], some (24, false)⟩ rfl ?_
          refine tk 26 ⟨some 76, .call { callee := .builtin Go.Builtin.len, args := #[.tmp 75], argTypes := #[9] }, 3, "outright.go:19", #[⟨25, .data⟩, ⟨24, .guard⟩], some (24, false)⟩ rfl ?_
          refine tk 27 ⟨some 77, .move (.tmp 7), 9, "outright.go:19", #[⟨24, .guard⟩], some (24, false)⟩ rfl ?_
          refine tk 28 ⟨some 78, .call { callee := .builtin Go.Builtin.len, args := #[.tmp 77], argTypes := #[9] }, 3, "outright.go:19", #[⟨27, .data⟩, ⟨24, .guard⟩], some (24, false)⟩ rfl ?_
          refine tk 29 ⟨some 79, .binOp .gtr 3 (.tmp 76) (.tmp 78) 3, 4, "outright.go:19", #[⟨26, .data⟩, ⟨28, .data⟩, ⟨24, .guard⟩], some (24, false)⟩ rfl ?_
          refine tk 30 ⟨some 80, .pick (.tmp 74) (.const (.bool true)) (.tmp 79), 4, "outright.go:19", #[⟨24, .data⟩, ⟨29, .data⟩], none⟩ rfl ?_
          refine wpAnyH_done (by kernel_rfl) ?_ _
          refine NoPanic.normal ?_
          go_wp2_with fail
          go_meet
          exact ⟨rfl, hid (K6.out.trans (hHeld.2.2.2.2.2.2.2.2.2.2.2.2.2.2.2.2.2.2.1.mono K6.out.size))⟩
      case rest =>
        obtain ⟨rfl, KB3⟩ := hcut
        have hs2 : s.size ≤ 2000 := by have := HSZ.out; omega
        clear KX2 KB2 kz2
        rcases hrd : readM (ns s) with er | ⟨V, p⟩
        · have HRD := hid (fun W (h : Below w.heap.size w W) => read_no (HG.out.of h) (HM.out.below h) (by omega) hrd)
          have HSM := hid (fun W => zero_same W)
          clear hrd
          go_wp2_with (first | (go_at_call 12; (with_reducible refine (HRD.out _ KB3.out).mono ?_); rintro e w4 ⟨rfl, hb4⟩) | (go_at_call 15; (with_reducible refine (HSM.out _).mono ?_); rintro e w5 ⟨rfl, hb5⟩) | (go_at_call 16; (with_reducible refine (awake14_walk _).mono ?_); rintro e w6 ⟨rfl, hb6⟩))
          go_ret
          have K4 := KB3.out.trans (hb4.mono KB3.out.size)
          have K4a : Below w.heap.size w (w4.alloc (.cells #[.bool false, .bool false, .bool false, .string ⟨#[]⟩, .slice none 0 0, .slice none 0 0] 33)) := below_alloc K4 _
          have K5 := K4a.trans (hb5.mono K4a.size)
          exact ⟨rfl, K5.trans (hb6.mono K5.size)⟩
        · have HV := hid (read_v hs2 hrd)
          have HRD := hid (fun W (h : Below w.heap.size w W) => read_ok (HG.out.of h) (HM.out.below h) (by omega) hrd)
          have HPU := hid (fun W A' c' B' d' (h : V.n.at A' c' B' d' W) => vput_walk HV.out A' c' B' d' W h)
          have HRT := hid (fun W A' c' B' d' (h : V.n.at A' c' B' d' W) => vright_walk HV.out A' c' B' d' W h)
          have HSM := hid (fun W A' c' B' d' A2 c2 B2 d2 (h : V.n.at A' c' B' d' W) (h2 : V.n.at A2 c2 B2 d2 W) => vsame_walk HV.out A' c' B' d' A2 c2 B2 d2 W h h2)
          obtain ⟨t, ht⟩ : ∃ t, strOfNums (putB V.n) = t := ⟨_, rfl⟩
          have hts := HV.out.short
          obtain ⟨p2, hag⟩ := HV.out.again
          rw [ht] at hts hag HPU
          have HR2 := hid (fun W (h : Below w.heap.size w W) => read_ok (HG.out.of h) (HM.out.below h) (by omega) hag)
          have HTS := hid hts
          clear hrd ht hag hts
          go_upto_region 13 with (first | (go_at_call 12; (with_reducible refine (HRD.out _ KB3.out).mono ?_); rintro e w4 ⟨A4, c4, B4, d4, rfl, hat4, hb4⟩))
          have K4 := KB3.out.trans (hb4.mono KB3.out.size)
          obtain ⟨W4, hW4⟩ : ∃ W4, W4 = w4.alloc (.cells #[.bool V.hm, .bool V.hf, .bool V.hl, .string V.md, .slice A4 V.fs.length c4, .slice B4 V.ls.length d4] 33) := ⟨_, rfl⟩
          have hb4a : Below w4.heap.size w4 W4 := by rw [hW4]; exact below_alloc (Below.refl _ _) _
          have KV := hid (show rBoxN w4.heap.size V.hm V.hf V.hl V.md (.slice A4 V.fs.length c4) (.slice B4 V.ls.length d4) W4 by rw [hW4]; exact rBoxN.new _ _ _ _ _ _ _ _)
          have HA4 := hid (hat4.below hb4a)
          have K4 := hid (K4.trans (hb4a.mono K4.size))
          rw [← hW4]
          clear hW4 hb4 hb4a hat4 HRD
          obtain ⟨v0, v1, v2, v3, v4, v5⟩ := KV.out
          go_upto_region 15 with (first | (go_at_call 11; (with_reducible refine (HPU.out _ _ _ _ _ HA4.out).mono ?_); rintro e w5 ⟨rfl, hb5⟩; have KV := hid (KV.out.below hb5); have HA4 := hid (HA4.out.below hb5); have K5 := hid (K4.out.trans (hb5.mono K4.out.size))) | (go_at_call 12; (with_reducible refine (HR2.out _ K5.out).mono ?_); rintro e w6 ⟨A6, c6, B6, d6, rfl, hat6, hb6⟩))
          have K6 := K5.out.trans (hb6.mono K5.out.size)
          obtain ⟨W6, hW6⟩ : ∃ W6, W6 = w6.alloc (.cells #[.bool V.hm, .bool V.hf, .bool V.hl, .string V.md, .slice A6 V.fs.length c6, .slice B6 V.ls.length d6] 33) := ⟨_, rfl⟩
          have hb6a : Below w6.heap.size w6 W6 := by rw [hW6]; exact below_alloc (Below.refl _ _) _
          have KY := hid (show rBoxN w6.heap.size V.hm V.hf V.hl V.md (.slice A6 V.fs.length c6) (.slice B6 V.ls.length d6) W6 by rw [hW6]; exact rBoxN.new _ _ _ _ _ _ _ _)
          have HA6 := hid (hat6.below hb6a)
          have KV := hid ((KV.out.below hb6).below hb6a)
          have HA4 := hid ((HA4.out.below hb6).below hb6a)
          have K6 := hid (K6.trans (hb6a.mono K6.size))
          rw [← hW6]
          clear hW6 hb6 hb6a hat6 HR2 v0 v1 v2 v3 v4 v5 hb5
          obtain ⟨v0, v1, v2, v3, v4, v5⟩ := KV.out
          obtain ⟨y0, y1, y2, y3, y4, y5⟩ := KY.out
          have hle := HTS.out
          go_wp2_with (first | (go_at_call 17; (with_reducible refine (HRT.out _ _ _ _ _ HA4.out).mono ?_); rintro e w7 ⟨rfl, hb7⟩; have HA4 := hid (HA4.out.below hb7); have HA6 := hid (HA6.out.below hb7); have K7 := hid (K6.out.trans (hb7.mono K6.out.size)); obtain ⟨v0, v1, v2, v3, v4, v5⟩ := KV.out.below hb7; obtain ⟨y0, y1, y2, y3, y4, y5⟩ := KY.out.below hb7) | (go_at_call 15; (with_reducible refine (HSM.out _ _ _ _ _ _ _ _ _ HA6.out HA4.out).mono ?_); rintro e w8 ⟨rfl, hb8⟩; have K8 := hid (K7.out.trans (hb8.mono K7.out.size))) | (go_at_call 16; (with_reducible refine (awake14_walk _).mono ?_); rintro e w9 ⟨rfl, hb9⟩))
          go_ret
          exact ⟨rfl, K8.out.trans (hb9.mono K8.out.size)⟩
end Go.Proofs.YtiohiiekaofkbaaDoor
