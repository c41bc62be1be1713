/- Texts of this claim, as far as they are used here: T2, T3, O0, M0, M1, PNamesBackx2, PNamesBackx17, M2, M3. -/
import Derived.Test.YtiohiiekaofkbaaDoorZ02
import Derived.Test.YtiohiiekaofkbaaDoorZ06
import Derived.Test.YtiohiiekaofkbaaDoorZ04
import Derived.Lib.SmallJoins
import Derived.SizedLaws
import Derived.ChangeOld
import Derived.ShutString
import Derived.ProofKit
import Derived.OpenShut
import Derived.Test.YtiohiiekaofkbaaDoorZ00
/- Names as they are read: the bytes tell them. Plain. -/
namespace Go.Proofs.YtiohiiekaofkbaaDoor
set_option linter.unusedVariables false
set_option linter.unusedSimpArgs false
open Go.RowKit Go.Proofs.YtiohiiekaofkbaaDoor.PNamesBack Go.Proofs.YtiohiiekaofkbaaDoorW.PrintWords
def EncT (B : List Int) (s : ByteArray) : Prop := ∃ N, Enc N s.size ∧ B = N ++ ns s
def EncN (B : List Int) (x : S121) : Prop := ∃ N T, B = N ++ T ∧ Enc N x.f0 ∧ EncT T x.f1
def EncS {α : Type} (P : List Int → α → Prop) : List Int → List α → Prop
  | B, [] => B = []
  | B, x :: xs => ∃ B1 B2, B = B1 ++ B2 ∧ P B1 x ∧ EncS P B2 xs
def EncNl (B : List Int) (xs : List S121) : Prop := ∃ N C, B = N ++ C ∧ Enc N xs.length ∧ EncS EncN C xs
def EncL (B : List Int) (x : S109) : Prop := ∃ N C, B = N ++ C ∧ Enc N x.f0 ∧ EncNl C x.f1
def EncLl (B : List Int) (xs : List S109) : Prop := ∃ N C, B = N ++ C ∧ Enc N xs.length ∧ EncS EncL C xs
def RiseF {α : Type} (f0 : α → Int) : Int → List α → Prop
  | _, [] => True
  | nx, x :: xs => nx ≤ f0 x ∧ RiseF f0 (f0 x + 1) xs
def GoodN (x : S121) : Prop := Txt (ns x.f1)
def GoodNs (xs : List S121) : Prop := RiseF (fun x : S121 => x.f0) 0 xs ∧ ∀ x ∈ xs, GoodN x
def GoodL (x : S109) : Prop := GoodNs x.f1
def GoodLs (xs : List S109) : Prop := RiseF (fun x : S109 => x.f0) 0 xs ∧ ∀ x ∈ xs, GoodL x
structure GoodV (V : NmV) : Prop where
  m : V.hm = true ∨ V.md = ⟨#[]⟩
  f : V.hf = true ∨ V.fs = []
  l : V.hl = true ∨ V.ls = []
  md : Txt (ns V.md)
  fs : GoodNs V.fs
  ls : GoodLs V.ls
def Sec (i : Int) (has : Bool) (Q : List Int → Prop) (B : List Int) : Prop := if has then ∃ N C, B = i :: (N ++ C) ∧ Enc N C.length ∧ Q C else B = []
def NamesE (B : List Int) (V : NmV) : Prop := ∃ B0 B1 B2, B = B0 ++ (B1 ++ B2) ∧ Sec 0 V.hm (fun C => EncT C V.md) B0 ∧ Sec 1 V.hf (fun C => EncNl C V.fs) B1 ∧ Sec 2 V.hl (fun C => EncLl C V.ls) B2
theorem str_len2 (L : List Int) : (strOfNums L).size = L.length := by simp [strOfNums, ByteArray.size]
theorem seg_mem {l : List Int} {p q x : Int} (h : x ∈ Seg l p q) : x ∈ l := List.mem_of_mem_drop (List.mem_of_mem_take h)
section
variable {l : List Int} {lim : Int}
theorem nameM_put (h8 : ∀ x ∈ l, 0 ≤ x ∧ x < 256) (hlim : 0 ≤ lim) {a b p p' : Int} {s : List Int} (p0 : 0 ≤ p) (h : nameM a b l p lim = .ok (s, p')) :
    EncT (Seg l p p') (strOfNums s) ∧ Txt (ns (strOfNums s)) ∧ p < p' ∧ p' ≤ lim ∧ p' ≤ l.length := by
  rw [nameM] at h
  rcases hu : uM (rgL 1 1 a b) l lim 5 0 p with e | ⟨n, p1⟩
  · rw [hu] at h; cases h
  · rw [hu] at h
    simp only at h
    obtain ⟨hE, h1, h2, h3, -⟩ := uM_enc h8 hlim p0 hu
    rcases hm : nmM l lim n.toNat p1 p1 with e | q
    · rw [hm] at h; cases h
    · rw [hm] at h
      simp only [Except.ok.injEq, Prod.mk.injEq] at h
      obtain ⟨rfl, rfl⟩ := h
      obtain ⟨e, ht, g1, g2⟩ := nmM_put hlim (by omega) n.toNat p1 p1 q (Int.le_refl _) (Int.le_refl _) (fun _ => rfl) h2 h3 (by rw [seg_nil]; exact txt_nil) hm
      have hv0 := hE.v0
      have hS : (l.drop p1.toNat).take (q - p1).toNat = Seg l p1 q := rfl
      rw [hS]
      have hns : ns (strOfNums (Seg l p1 q)) = Seg l p1 q := ns_str (fun x hx => h8 x (seg_mem hx))
      have hsl := seg_len (l := l) (show 0 ≤ p1 by omega) (show p1 ≤ q by omega) g2
      refine ⟨⟨Seg l p p1, ?_, ?_⟩, by rw [hns]; exact ht, by omega, g1, g2⟩
      · rw [str_len2]
        have : ((Seg l p1 q).length : Int) = n := by omega
        rw [this]; exact hE
      · rw [hns, seg_app p0 (by omega) (by omega)]
theorem rdN_put (h8 : ∀ x ∈ l, 0 ≤ x ∧ x < 256) (hlim : 0 ≤ lim) : ∀ ix a b p x p', 0 ≤ p → rdN l lim ix a b p = .ok (x, p') → p ≤ p' ∧ p' ≤ lim ∧ p' ≤ l.length ∧ x.f0 = ix ∧ GoodN x ∧ ∀ N, Enc N ix → EncN (N ++ Seg l p p') x := by
  intro ix a b p x p' p0 h
  rw [rdN] at h
  rcases hn : nameM a b l p lim with e | ⟨t, q⟩
  · rw [hn] at h; cases h
  · rw [hn] at h
    simp only [Except.ok.injEq, Prod.mk.injEq] at h
    obtain ⟨rfl, rfl⟩ := h
    obtain ⟨a1, a2, a3, a4, a5⟩ := nameM_put h8 hlim p0 hn
    exact ⟨by omega, a4, a5, rfl, a2, fun N hN => ⟨N, _, rfl, hN, a1⟩⟩
theorem rgX_in {nx mn r lo hi : Int} (h : (lo, hi) ∈ rgX nx mn r) : lo = nx := by
  unfold rgX at h
  split at h
  · simp at h; exact h.1
  · cases h
theorem riM_put {α : Type} {rd : Int → Int → Int → Int → Except (Int × Int) (α × Int)} {P : List Int → α → Prop} {f0 : α → Int} {Gd : α → Prop} (h8 : ∀ x ∈ l, 0 ≤ x ∧ x < 256) (hlim : 0 ≤ lim)
    (hrd : ∀ ix a b p x p', 0 ≤ p → rd ix a b p = .ok (x, p') → p ≤ p' ∧ p' ≤ lim ∧ p' ≤ l.length ∧ f0 x = ix ∧ Gd x ∧ ∀ N, Enc N ix → P (N ++ Seg l p p') x) (a b : Int) :
    ∀ (m : Nat) (nx p : Int) (xs : List α) (p' : Int), 0 ≤ p → p ≤ lim → p ≤ l.length → riM rd a b l lim m nx p = .ok (xs, p') → xs.length = m ∧ p ≤ p' ∧ p' ≤ lim ∧ p' ≤ l.length ∧ EncS P (Seg l p p') xs ∧ RiseF f0 nx xs ∧ ∀ x ∈ xs, Gd x := by
  intro m
  induction m with
  | zero =>
    intro nx p xs p' p0 pl pn h
    simp only [riM, Except.ok.injEq, Prod.mk.injEq] at h
    obtain ⟨rfl, rfl⟩ := h
    exact ⟨rfl, Int.le_refl _, pl, pn, seg_nil _ _, trivial, fun x hx => by cases hx⟩
  | succ m ih =>
    intro nx p xs p' p0 pl pn h
    rw [riM] at h
    rcases hu : uM (rgX nx (1 + (tmMin 2 m + a))) l lim 5 0 p with e | ⟨ix, p1⟩
    · rw [hu] at h; cases h
    · rw [hu] at h
      simp only at h
      obtain ⟨hE, h1, h2, h3, lo, hi, hm, hlo, hhi⟩ := uM_enc h8 hlim p0 hu
      rcases hr : rd ix (tmMin 2 m + a) (andMax (tmMax 1099511627776 m) b) p1 with e | ⟨x, p2⟩
      · rw [hr] at h; cases h
      · rw [hr] at h
        simp only at h
        obtain ⟨r1, r2, r3, r4, r5, r6⟩ := hrd _ _ _ _ _ _ (show 0 ≤ p1 by omega) hr
        rcases hs : riM rd a b l lim m (ix + 1) p2 with e | ⟨ys, p3⟩
        · rw [hs] at h; cases h
        · rw [hs] at h
          simp only [Except.ok.injEq, Prod.mk.injEq] at h
          obtain ⟨rfl, rfl⟩ := h
          obtain ⟨s1, s2, s3, s4, s5, s6, s7⟩ := ih (ix + 1) p2 ys p3 (by omega) r2 r3 hs
          refine ⟨by simp [s1], by omega, s3, s4, ⟨Seg l p p2, Seg l p2 p3, (seg_app p0 (by omega) s2).symm, ?_, s5⟩, ⟨?_, by rw [r4]; exact s6⟩, ?_⟩
          · rw [← seg_app p0 (show p ≤ p1 by omega) r1]; exact r6 _ hE
          · rw [r4, ← rgX_in hm]; exact hlo
          · intro y hy
            rcases List.mem_cons.1 hy with rfl | hy
            · exact r5
            · exact s7 y hy
theorem liM_put {α : Type} {rd : Int → Int → Int → Int → Except (Int × Int) (α × Int)} {P : List Int → α → Prop} {f0 : α → Int} {Gd : α → Prop} (h8 : ∀ x ∈ l, 0 ≤ x ∧ x < 256) (hlim : 0 ≤ lim)
    (hrd : ∀ ix a b p x p', 0 ≤ p → rd ix a b p = .ok (x, p') → p ≤ p' ∧ p' ≤ lim ∧ p' ≤ l.length ∧ f0 x = ix ∧ Gd x ∧ ∀ N, Enc N ix → P (N ++ Seg l p p') x) {a b p p' : Int} {xs : List α} (p0 : 0 ≤ p) (h : liM rd a b l p lim = .ok (xs, p')) :
    (∃ N C, Seg l p p' = N ++ C ∧ Enc N xs.length ∧ EncS P C xs) ∧ p ≤ p' ∧ p' ≤ lim ∧ p' ≤ l.length ∧ RiseF f0 0 xs ∧ ∀ x ∈ xs, Gd x := by
  rw [liM] at h
  rcases hu : uM (rgL 2 1099511627776 a b) l lim 5 0 p with e | ⟨n, p1⟩
  · rw [hu] at h; cases h
  · rw [hu] at h
    simp only at h
    obtain ⟨hE, h1, h2, h3, -⟩ := uM_enc h8 hlim p0 hu
    obtain ⟨s1, s2, s3, s4, s5, s6, s7⟩ := riM_put h8 hlim hrd a b n.toNat 0 p1 xs p' (by omega) h2 h3 h
    have := hE.v0
    refine ⟨⟨Seg l p p1, Seg l p1 p', (seg_app p0 (by omega) s2).symm, ?_, s5⟩, by omega, s3, s4, s6, s7⟩
    have e : (xs.length : Int) = n := by omega
    rw [e]; exact hE
theorem rdL_put (h8 : ∀ x ∈ l, 0 ≤ x ∧ x < 256) (hlim : 0 ≤ lim) : ∀ ix a b p x p', 0 ≤ p → rdL l lim ix a b p = .ok (x, p') → p ≤ p' ∧ p' ≤ lim ∧ p' ≤ l.length ∧ x.f0 = ix ∧ GoodL x ∧ ∀ N, Enc N ix → EncL (N ++ Seg l p p') x := by
  intro ix a b p x p' p0 h
  rw [rdL] at h
  rcases hn : liM (rdN l lim) a b l p lim with e | ⟨t, q⟩
  · rw [hn] at h; cases h
  · rw [hn] at h
    simp only [Except.ok.injEq, Prod.mk.injEq] at h
    obtain ⟨rfl, rfl⟩ := h
    obtain ⟨a1, a2, a3, a4, a5, a6⟩ := liM_put h8 hlim (rdN_put h8 hlim) p0 hn
    exact ⟨a2, a3, a4, rfl, ⟨a5, a6⟩, fun N hN => ⟨N, _, rfl, hN, a1⟩⟩
theorem rgSz_in {r n lo hi : Int} (r0 : 0 ≤ r) (h : (lo, hi) ∈ rgSz r) (h1 : lo ≤ n) (h2 : n ≤ hi) : 1 ≤ n ∧ n ≤ r := by
  simp only [rgSz, List.mem_singleton, Prod.mk.injEq] at h
  obtain ⟨rfl, rfl⟩ := h
  have hn : ¬ szNone 1099511627776 r := by unfold szNone; omega
  unfold szL at h1
  unfold szH at h2
  rw [if_neg hn] at h1 h2
  have hlow : szLow 1 1099511627776 r = 1 := by unfold szLow; rw [if_pos (.inr (Int.le_refl _))]
  have hhigh : szHigh 1099511627776 0 r ≤ r := by unfold szHigh; split <;> omega
  rw [hlow] at h1 h2
  unfold wiL at h1
  unfold wiH at h2
  split at h1
  · rename_i hc; rw [if_pos hc] at h2; omega
  · rename_i hc; rw [if_neg hc] at h2; omega
structure Upto (last : Int) (V : NmV) (p : Int) : Prop where
  bytes : NamesE (Seg l 0 p) V
  good : GoodV V
  n0 : last < 0 → V.hm = false ∧ V.md = ⟨#[]⟩
  n1 : last < 1 → V.hf = false ∧ V.fs = []
  n2 : last < 2 → V.hl = false ∧ V.ls = []
theorem sec_no {i : Int} {b : Bool} {Q : List Int → Prop} {B : List Int} (h : Sec i b Q B) (hb : b = false) : B = [] := by subst hb; simpa [Sec] using h
theorem rowM_put (h8 : ∀ x ∈ l, 0 ≤ x ∧ x < 256) (hlim : 0 ≤ lim) {last p x p' : Int} {V V' : NmV} (t0 : -1 ≤ last) (p0 : 0 ≤ p) (pl : p ≤ lim) (pn : p ≤ l.length) (hU : Upto (l := l) last V p) (h : rowM l lim last V p = .ok (x, V', p')) :
    Upto (l := l) x V' p' ∧ p < p' ∧ p' ≤ lim ∧ p' ≤ l.length ∧ last < x ∧ x < 3 := by
  rw [rowM] at h
  rcases hx : nextR l p lim with s | y
  · rw [hx] at h; cases h
  · rw [hx] at h
    simp only at h
    obtain ⟨hx1, hx2, hx3⟩ := next_ok2 hx
    split at h
    · rename_i hd
      rcases hu : uM rgSz l lim 5 0 (p + 1) with s | ⟨n, p2⟩
      · rw [hu] at h; cases h
      · rw [hu] at h
        simp only at h
        obtain ⟨hE, h1, h2, h3, lo, hi, hm, hlo, hhi⟩ := uM_enc h8 hlim (show 0 ≤ p + 1 by omega) hu
        rw [rest_in hlim] at hm hx2
        obtain ⟨n1, n2⟩ := rgSz_in (by omega) hm hlo hhi
        have hin : inLim p2 lim n = p2 + n := by unfold inLim; rw [rest_in hlim]; omega
        rw [hin] at h
        rcases hb : bodyM l (p2 + n) y V p2 with s | ⟨V2, p3⟩
        · rw [hb] at h; cases h
        · rw [hb] at h
          simp only at h
          split at h
          · rename_i hq
            simp only [Except.ok.injEq, Prod.mk.injEq] at h
            obtain ⟨rfl, rfl, rfl⟩ := h
            subst hq
            obtain ⟨⟨B0, B1, B2, hB, S0, S1, S2⟩, hg, m0, m1, m2⟩ := hU
            have hrow : Seg l p (p2 + n) = y :: (Seg l (p + 1) p2 ++ Seg l p2 (p2 + n)) := by
              rw [seg_cons p0 (by omega) hx1, seg_app (by omega) (by omega) (by omega)]
            have hall : Seg l 0 (p2 + n) = Seg l 0 p ++ (y :: (Seg l (p + 1) p2 ++ Seg l p2 (p2 + n))) := by rw [← hrow, seg_app (by omega) p0 (by omega)]
            have key : ∀ {Q : List Int → Prop}, p2 + n ≤ l.length → Q (Seg l p2 (p2 + n)) → Sec y true Q (y :: (Seg l (p + 1) p2 ++ Seg l p2 (p2 + n))) := by
              intro Q hl hQ
              refine ⟨Seg l (p + 1) p2, Seg l p2 (p2 + n), rfl, ?_, hQ⟩
              have : ((Seg l p2 (p2 + n)).length : Int) = n := by have := seg_len (l := l) (show 0 ≤ p2 by omega) (show p2 ≤ p2 + n by omega) hl; omega
              rw [this]; exact hE
            have hy : y = 0 ∨ y = 1 ∨ y = 2 := by omega
            rcases hy with rfl | rfl | rfl
            · obtain ⟨a0, b0⟩ := m0 (by omega)
              obtain ⟨a1, b1⟩ := m1 (by omega)
              obtain ⟨a2, b2⟩ := m2 (by omega)
              unfold bodyM at hb
              rw [if_pos rfl] at hb
              rcases hn : nameM 0 0 l p2 (p2 + n) with s | ⟨t, q⟩
              · rw [hn] at hb; cases hb
              · rw [hn] at hb
                simp only [Except.ok.injEq, Prod.mk.injEq] at hb
                obtain ⟨rfl, rfl⟩ := hb
                obtain ⟨c1, c2, c3, c4, c5⟩ := nameM_put h8 (show 0 ≤ p2 + n by omega) (by omega) hn
                rw [sec_no S0 a0, sec_no S1 a1, sec_no S2 a2] at hB
                refine ⟨⟨⟨_, [], [], by rw [hall, hB]; simp, key c5 c1, by rw [a1]; rfl, by rw [a2]; rfl⟩, ⟨.inl rfl, hg.f, hg.l, c2, hg.fs, hg.ls⟩, by omega, fun _ => ⟨a1, b1⟩, fun _ => ⟨a2, b2⟩⟩, by omega, by omega, c5, hd.1, by decide⟩
            · obtain ⟨a1, b1⟩ := m1 (by omega)
              obtain ⟨a2, b2⟩ := m2 (by omega)
              unfold bodyM at hb
              rw [if_neg (by decide), if_pos rfl] at hb
              rcases hn : liM (rdN l (p2 + n)) 0 0 l p2 (p2 + n) with s | ⟨t, q⟩
              · rw [hn] at hb; cases hb
              · rw [hn] at hb
                simp only [Except.ok.injEq, Prod.mk.injEq] at hb
                obtain ⟨rfl, rfl⟩ := hb
                obtain ⟨c1, c2, c3, c4, c5, c6⟩ := liM_put h8 (show 0 ≤ p2 + n by omega) (rdN_put h8 (show 0 ≤ p2 + n by omega)) (show 0 ≤ p2 by omega) hn
                rw [sec_no S1 a1, sec_no S2 a2] at hB
                refine ⟨⟨⟨B0, _, [], by rw [hall, hB]; simp, S0, key c4 c1, by rw [a2]; rfl⟩, ⟨hg.m, .inl rfl, hg.l, hg.md, ⟨c5, c6⟩, hg.ls⟩, by omega, by omega, fun _ => ⟨a2, b2⟩⟩, by omega, by omega, c4, hd.1, by decide⟩
            · obtain ⟨a2, b2⟩ := m2 (by omega)
              unfold bodyM at hb
              rw [if_neg (by decide), if_neg (by decide)] at hb
              rcases hn : liM (rdL l (p2 + n)) 0 0 l p2 (p2 + n) with s | ⟨t, q⟩
              · rw [hn] at hb; cases hb
              · rw [hn] at hb
                simp only [Except.ok.injEq, Prod.mk.injEq] at hb
                obtain ⟨rfl, rfl⟩ := hb
                obtain ⟨c1, c2, c3, c4, c5, c6⟩ := liM_put h8 (show 0 ≤ p2 + n by omega) (rdL_put h8 (show 0 ≤ p2 + n by omega)) (show 0 ≤ p2 by omega) hn
                rw [sec_no S2 a2] at hB
                refine ⟨⟨⟨B0, B1, _, by rw [hall, hB]; simp, S0, S1, key c4 c1⟩, ⟨hg.m, hg.f, .inl rfl, hg.md, hg.fs, ⟨c5, c6⟩⟩, by omega, by omega, by omega⟩, by omega, by omega, c4, hd.1, by decide⟩
          · cases h
    · cases h
theorem rowsM_put (h8 : ∀ x ∈ l, 0 ≤ x ∧ x < 256) (hlim : 0 ≤ lim) : ∀ (k : Nat) {last p p' : Int} {V V' : NmV}, -1 ≤ last → 0 ≤ p → p ≤ lim → p ≤ l.length → Upto (l := l) last V p → rowsM l lim k last V p = .ok (V', p') → NamesE (Seg l 0 p') V' ∧ GoodV V' ∧ 0 ≤ p' ∧ p' ≤ lim ∧ p' ≤ l.length := by
  intro k
  induction k with
  | zero =>
    intro last p p' V V' _ p0 pl pn hU h
    simp only [rowsM, Except.ok.injEq, Prod.mk.injEq] at h
    obtain ⟨rfl, rfl⟩ := h
    exact ⟨hU.bytes, hU.good, p0, pl, pn⟩
  | succ k ih =>
    intro last p p' V V' t0 p0 pl pn hU h
    rw [rowsM] at h
    split at h
    · rcases hm : rowM l lim last V p with s | ⟨x, V2, q⟩
      · rw [hm] at h; cases h
      · rw [hm] at h
        obtain ⟨a, b, c, d, e, f⟩ := rowM_put h8 hlim t0 p0 pl pn hU hm
        exact ih (by omega) (by omega) c d a h
    · simp only [Except.ok.injEq, Prod.mk.injEq] at h
      obtain ⟨rfl, rfl⟩ := h
      exact ⟨hU.bytes, hU.good, p0, pl, pn⟩
end
theorem inLim_all {l : List Int} (hl : l.length ≤ 1000000000) : inLim 0 (-1) l.length = l.length := by unfold inLim rest; rw [if_pos (by decide)]; omega
theorem readM_put {l : List Int} (h8 : ∀ x ∈ l, 0 ≤ x ∧ x < 256) (hl : l.length ≤ 1000000000) {V : NmV} {p : Int} (h : readM l = .ok (V, p)) : NamesE l V ∧ GoodV V := by
  rw [readM, inLim_all hl] at h
  rcases hm : rowsM l l.length 4 (-1) noNm 0 with s | ⟨V2, q⟩
  · rw [hm] at h; cases h
  · rw [hm] at h
    simp only at h
    split at h
    · rename_i hq
      simp only [Except.ok.injEq, Prod.mk.injEq] at h
      obtain ⟨rfl, rfl⟩ := h
      have hU : Upto (l := l) (-1) noNm 0 := ⟨⟨[], [], [], by rw [seg_nil]; rfl, rfl, rfl, rfl⟩, ⟨.inr rfl, .inr rfl, .inr rfl, txt_nil, ⟨trivial, fun x hx => by cases hx⟩, ⟨trivial, fun x hx => by cases hx⟩⟩, fun _ => ⟨rfl, rfl⟩, fun _ => ⟨rfl, rfl⟩, fun _ => ⟨rfl, rfl⟩⟩
      have := rowsM_put h8 (by omega) 4 (by decide) (by decide) (by omega) (by omega) hU hm
      rw [hq, seg_all] at this
      exact ⟨this.1, this.2.1⟩
    · cases h
end Go.Proofs.YtiohiiekaofkbaaDoor
/- Names whose bytes these are, are read. Plain. -/
namespace Go.Proofs.YtiohiiekaofkbaaDoor
set_option linter.unusedVariables false
set_option linter.unusedSimpArgs false
open Go.RowKit Go.Proofs.YtiohiiekaofkbaaDoor.PNamesBack Go.Proofs.YtiohiiekaofkbaaDoorW.PrintWords
theorem hasAt_cut {l : List Int} {p : Int} {L1 L2 : List Int} (h : HasAt l p (L1 ++ L2)) (p0 : 0 ≤ p) : HasAt l p L1 ∧ HasAt l (p + L1.length) L2 :=
  ⟨fun j x hj => h j x (by rw [List.getElem?_append_left (List.getElem?_eq_some_iff.1 hj).1]; exact hj), fun j x hj => by
    have := h (L1.length + j) x (by rw [List.getElem?_append_right (by omega), show L1.length + j - L1.length = j by omega]; exact hj)
    rwa [show (p + ((L1.length + j : Nat) : Int)).toNat = (p + (L1.length : Int) + (j : Int)).toNat by omega] at this⟩
theorem hasAt_self (l : List Int) : HasAt l 0 l := fun j x hj => by rwa [show ((0 : Int) + (j : Int)).toNat = j by omega]
theorem hasAt_seg {l : List Int} {p : Int} {L : List Int} (h : HasAt l p L) (p0 : 0 ≤ p) (hl : p + L.length ≤ l.length) : Seg l p (p + L.length) = L := by
  apply List.ext_getElem?
  intro j
  unfold Seg
  rw [List.getElem?_take, List.getElem?_drop, show (p + (L.length : Int) - p).toNat = L.length by omega]
  by_cases hj : j < L.length
  · rw [if_pos hj]
    have := h j L[j] (List.getElem?_eq_getElem hj)
    rw [show (p + (j : Int)).toNat = p.toNat + j by omega] at this
    rw [this, List.getElem?_eq_getElem hj]
  · rw [if_neg hj, List.getElem?_eq_none (by omega)]
theorem list_in1 {a b r n : Int} (h0 : a ≤ r) (h1 : r < 1099511627776) (hn : 0 ≤ n) (hn1 : n ≤ 4294967295) (hn2 : n ≤ r - a) (hn3 : 1099511627776 ≤ b ∨ r - b ≤ n) :
    ∃ lo hi, (lo, hi) ∈ rgL 1 1 a b r ∧ lo ≤ n ∧ n ≤ hi := by
  have hno : ¬ cnNone 1 a b r := by unfold cnNone; omega
  have hlow : cnLow 1 a b r ≤ n := by
    unfold cnLow
    by_cases hh : hasB a b r = true ∧ (r < 1099511627776 ∨ 1099511627776 ≤ b)
    · rw [if_pos hh]; exact hn
    · rw [if_neg hh, if_neg (by omega), Int.ediv_one]
      rcases hn3 with h | h
      · exact absurd ⟨by unfold hasB; exact decide_eq_true ⟨h0, .inl h⟩, .inl h1⟩ hh
      · omega
  have hhigh : cnHigh 1 a r = r - a := by unfold cnHigh; rw [Int.ediv_one]
  refine ⟨cnL 1 1 a b r, cnH 1 1 a b r, by simp [rgL], ?_, ?_⟩
  · unfold cnL
    rw [if_neg hno, hhigh]
    unfold wiL
    rw [if_neg (by omega)]
    omega
  · unfold cnH
    rw [if_neg hno, hhigh]
    unfold wiH
    rw [if_neg (by omega)]
    omega
theorem list_in2 {a b r n : Int} (h0 : a + 2 * n ≤ r) (h1 : r < 1099511627776) (hn : 0 ≤ n) (hn1 : n ≤ 4294967295) (hn3 : n = 0 → 1099511627776 ≤ b ∨ r ≤ b) :
    ∃ lo hi, (lo, hi) ∈ rgL 2 1099511627776 a b r ∧ lo ≤ n ∧ n ≤ hi := by
  have hno : ¬ cnNone 1099511627776 a b r := by unfold cnNone; omega
  have hlow : cnLow 1099511627776 a b r ≤ n := by
    unfold cnLow
    by_cases hh : hasB a b r = true ∧ (r < 1099511627776 ∨ 1099511627776 ≤ b)
    · rw [if_pos hh]; exact hn
    · rw [if_neg hh, if_pos (by omega)]
      by_cases hz : n = 0
      · exact absurd ⟨by unfold hasB; exact decide_eq_true ⟨by omega, hn3 hz⟩, .inl h1⟩ hh
      · omega
  have hhigh : n ≤ cnHigh 2 a r := by unfold cnHigh; omega
  refine ⟨cnL 2 1099511627776 a b r, cnH 2 1099511627776 a b r, by simp [rgL], ?_, ?_⟩
  · unfold cnL
    rw [if_neg hno]
    unfold wiL
    rw [if_neg (by omega)]
    omega
  · unfold cnH
    rw [if_neg hno]
    unfold wiH
    rw [if_neg (by omega)]
    omega
theorem rgSz_has {r n : Int} (h1 : 1 ≤ n) (h2 : n ≤ r) (h3 : r < 1099511627776) (h4 : n ≤ 4294967295) : ∃ lo hi, (lo, hi) ∈ rgSz r ∧ lo ≤ n ∧ n ≤ hi := by
  have hn : ¬ szNone 1099511627776 r := by unfold szNone; omega
  have hlow : szLow 1 1099511627776 r = 1 := by unfold szLow; rw [if_pos (.inr (Int.le_refl _))]
  have hhigh : n ≤ szHigh 1099511627776 0 r := by unfold szHigh; rw [if_neg (by omega)]; omega
  refine ⟨_, _, by rw [rgSz]; exact List.mem_singleton.2 rfl, ?_, ?_⟩
  · unfold szL
    rw [if_neg hn, hlow]
    unfold wiL
    split <;> omega
  · unfold szH
    rw [if_neg hn, hlow]
    unfold wiH
    rw [if_neg (by omega)]
    omega
theorem encT_pos {B : List Int} {s : ByteArray} (h : EncT B s) : 1 ≤ B.length := by
  obtain ⟨N, hN, rfl⟩ := h
  have := hN.pos
  rw [List.length_append]; omega
theorem encNl_pos {B : List Int} {xs : List S121} (h : EncNl B xs) : 1 ≤ B.length := by
  obtain ⟨N, C, rfl, hN, -⟩ := h
  have := hN.pos
  rw [List.length_append]; omega
section
variable {l : List Int} {lim : Int}
theorem nameM_read (hlim : lim ≤ l.length) (hl : l.length ≤ 1000000000) {a b p : Int} {B : List Int} {s : ByteArray} (hE : EncT B s) (ht : Txt (ns s)) (hat : HasAt l p B) (p0 : 0 ≤ p) (a0 : 0 ≤ a) (h1 : p + B.length + a ≤ lim) (h2 : 1099511627776 ≤ b ∨ lim - (p + B.length) ≤ b) :
    nameM a b l p lim = .ok (ns s, p + B.length) := by
  obtain ⟨N, hN, rfl⟩ := hE
  obtain ⟨hA1, hA2⟩ := hasAt_cut hat p0
  have hns := ns_len s
  rw [List.length_append] at h1 h2
  obtain ⟨lo, hi, hm, hlo, hhi⟩ := list_in1 (a := a) (b := b) (r := rest (p + N.length) lim) (n := s.size) (by rw [rest_in (by omega)]; omega) (by rw [rest_in (by omega)]; omega) (by omega) hN.v1 (by rw [rest_in (by omega)]; omega) (by rw [rest_in (by omega)]; omega)
  have hu := enc_read hN hA1 p0 (by omega) hm hlo hhi
  have hS := hasAt_seg hA2 (by omega) (by omega)
  have hr := nmM_read (l := l) (lim := lim) (E := p + N.length + (ns s).length) (by omega) (by omega) s.size (p + N.length) (p + N.length) (by omega) (Int.le_refl _) (by omega) (by rw [hS]; exact ht) (fun T h => by have := (sgnR_whole h).1; omega)
  rw [nameM, hu]
  simp only
  rw [Int.toNat_natCast, hr]
  simp only
  have : (l.drop (p + (N.length : Int)).toNat).take (p + (N.length : Int) + (ns s).length - (p + N.length)).toNat = ns s := hS
  rw [this, List.length_append, show p + (N.length : Int) + ((ns s).length : Int) = p + ((N.length + (ns s).length : Nat) : Int) by omega]
theorem str_ns (s : ByteArray) : strOfNums (ns s) = s := by
  unfold strOfNums ns
  congr 1
  rw [List.map_map]
  conv => rhs; rw [← Array.toArray_toList (xs := s.data), ← List.map_id s.data.toList]
  congr 1
  apply List.map_congr_left
  intro x _
  simp
theorem rdN_read (hlim : lim ≤ l.length) (hl : l.length ≤ 1000000000) : ∀ (x : S121) (T : List Int) (a b p : Int), EncT T x.f1 → GoodN x → HasAt l p T → 0 ≤ p → 0 ≤ a → p + T.length + a ≤ lim → (1099511627776 ≤ b ∨ lim - (p + T.length) ≤ b) → rdN l lim x.f0 a b p = .ok (x, p + T.length) := by
  intro x T a b p hE hg hat p0 a0 h1 h2
  rw [rdN, nameM_read hlim hl hE hg hat p0 a0 h1 h2]
  simp only
  rw [str_ns]
theorem tmMin_2 (m : Nat) (h : (m : Int) ≤ 1000000000) : tmMin 2 (m : Int) = 2 * m := by
  unfold tmMin capM
  split
  · omega
  · rw [if_neg (by omega)]; omega
theorem tmMax_E (m : Nat) : tmMax 1099511627776 (m : Int) = if m = 0 then 0 else 1099511627776 := by
  unfold tmMax
  by_cases h : m = 0
  · rw [if_pos (by omega), if_pos h]
  · rw [if_neg (by omega), if_pos (by omega), if_neg h]
theorem riM_read {α : Type} {rd : Int → Int → Int → Int → Except (Int × Int) (α × Int)} {Q : List Int → α → Prop} {f0 : α → Int} {Gd : α → Prop} (hlim : lim ≤ l.length) (hl : l.length ≤ 1000000000) (hQ : ∀ T x, Q T x → 1 ≤ T.length)
    (hrd : ∀ (x : α) (T : List Int) (a b p : Int), Q T x → Gd x → HasAt l p T → 0 ≤ p → 0 ≤ a → p + T.length + a ≤ lim → (1099511627776 ≤ b ∨ lim - (p + T.length) ≤ b) → rd (f0 x) a b p = .ok (x, p + T.length)) (a b : Int) (a0 : 0 ≤ a) :
    ∀ (xs : List α) (nx p : Int) (B : List Int), EncS (fun B x => ∃ N T, B = N ++ T ∧ Enc N (f0 x) ∧ Q T x) B xs → RiseF f0 nx xs → (∀ x ∈ xs, Gd x) → HasAt l p B → 0 ≤ p → p + B.length + a ≤ lim → (1099511627776 ≤ b ∨ lim - (p + B.length) ≤ b) → riM rd a b l lim xs.length nx p = .ok (xs, p + B.length) ∧ 2 * xs.length ≤ B.length := by
  intro xs
  induction xs with
  | nil =>
    intro nx p B hS _ _ _ _ _ _
    have : B = [] := hS
    subst this
    simp [riM]
  | cons x xs ih =>
    intro nx p B hS hR hG hat p0 h1 h2
    obtain ⟨B1, B2, rfl, ⟨N, T, rfl, hN, hT⟩, hS2⟩ := hS
    obtain ⟨hR1, hR2⟩ := hR
    obtain ⟨hA1, hA2⟩ := hasAt_cut hat p0
    obtain ⟨hA3, hA4⟩ := hasAt_cut hA1 p0
    have hNp := hN.pos
    have hTp := hQ T x hT
    simp only [List.length_append] at h1 h2 hA2
    obtain ⟨hrest, hlen⟩ := ih (f0 x + 1) (p + ((N.length + T.length : Nat) : Int)) B2 hS2 hR2 (fun y hy => hG y (by simp [hy])) hA2 (by omega) (by omega) (by omega)
    have hm9 : (xs.length : Int) ≤ 1000000000 := by omega
    have hu := enc_read (rg := rgX nx (1 + (tmMin 2 xs.length + a))) hN hA3 p0 (lim := lim) (by omega) (lo := nx) (hi := 4294967295) (by
      unfold rgX
      rw [rest_in (by omega), ch_in (by rw [tmMin_2 _ hm9]; omega) (by omega) (.inl (Int.le_refl _)), if_pos rfl]
      exact List.mem_singleton.2 rfl) hR1 hN.v1
    have hd := hrd x T (tmMin 2 xs.length + a) (andMax (tmMax 1099511627776 xs.length) b) (p + N.length) hT (hG x (by simp)) hA4 (by omega) (by rw [tmMin_2 _ hm9]; omega) (by rw [tmMin_2 _ hm9]; omega) (by
      rw [tmMax_E]
      unfold andMax
      by_cases hz : xs.length = 0
      · have e0 : xs = [] := List.length_eq_zero_iff.1 hz
        subst e0
        have : B2 = [] := hS2
        subst this
        simp only [List.length_nil, Nat.add_zero] at h1 h2
        rw [if_pos hz]
        split <;> omega
      · rw [if_neg hz, if_pos (.inl (Int.le_refl _))]; left; exact Int.le_refl _)
    refine ⟨?_, by simp only [List.length_append, List.length_cons]; omega⟩
    rw [List.length_cons, riM, hu]
    simp only
    rw [hd]
    simp only
    rw [show p + (N.length : Int) + (T.length : Int) = p + ((N.length + T.length : Nat) : Int) by omega, hrest]
    simp only [List.length_append]
    rw [show p + ((N.length + T.length : Nat) : Int) + (B2.length : Int) = p + ((N.length + T.length + B2.length : Nat) : Int) by omega]
theorem liM_read {α : Type} {rd : Int → Int → Int → Int → Except (Int × Int) (α × Int)} {Q : List Int → α → Prop} {f0 : α → Int} {Gd : α → Prop} (hlim : lim ≤ l.length) (hl : l.length ≤ 1000000000) (hQ : ∀ T x, Q T x → 1 ≤ T.length)
    (hrd : ∀ (x : α) (T : List Int) (a b p : Int), Q T x → Gd x → HasAt l p T → 0 ≤ p → 0 ≤ a → p + T.length + a ≤ lim → (1099511627776 ≤ b ∨ lim - (p + T.length) ≤ b) → rd (f0 x) a b p = .ok (x, p + T.length)) {a b : Int} (a0 : 0 ≤ a)
    {xs : List α} {p : Int} {B : List Int} (hB : ∃ N C, B = N ++ C ∧ Enc N xs.length ∧ EncS (fun B x => ∃ N T, B = N ++ T ∧ Enc N (f0 x) ∧ Q T x) C xs) (hR : RiseF f0 0 xs) (hG : ∀ x ∈ xs, Gd x) (hat : HasAt l p B) (p0 : 0 ≤ p) (h1 : p + B.length + a ≤ lim) (h2 : 1099511627776 ≤ b ∨ lim - (p + B.length) ≤ b) :
    liM rd a b l p lim = .ok (xs, p + B.length) := by
  obtain ⟨N, C, rfl, hN, hS⟩ := hB
  obtain ⟨hA1, hA2⟩ := hasAt_cut hat p0
  simp only [List.length_append] at h1 h2
  obtain ⟨hrest, hlen⟩ := riM_read hlim hl hQ hrd a b a0 xs 0 (p + N.length) C hS hR hG hA2 (by omega) (by omega) (by omega)
  obtain ⟨lo, hi, hm, hlo, hhi⟩ := list_in2 (a := a) (b := b) (r := rest (p + N.length) lim) (n := xs.length) (by rw [rest_in (by omega)]; omega) (by rw [rest_in (by omega)]; omega) (by omega) hN.v1 (fun hz => by
    have e0 : xs = [] := List.length_eq_zero_iff.1 (by omega)
    subst e0
    have : C = [] := hS
    subst this
    simp only [List.length_nil, Nat.add_zero] at h2
    rw [rest_in (by omega)]
    exact h2)
  have hu := enc_read hN hA1 p0 (by omega) hm hlo hhi
  rw [liM, hu]
  simp only
  rw [Int.toNat_natCast, hrest, List.length_append, show p + (N.length : Int) + (C.length : Int) = p + ((N.length + C.length : Nat) : Int) by omega]
theorem nl_read (hlim : lim ≤ l.length) (hl : l.length ≤ 1000000000) {a b : Int} (a0 : 0 ≤ a) {xs : List S121} {p : Int} {B : List Int} (hB : EncNl B xs) (hg : GoodNs xs) (hat : HasAt l p B) (p0 : 0 ≤ p) (h1 : p + B.length + a ≤ lim) (h2 : 1099511627776 ≤ b ∨ lim - (p + B.length) ≤ b) :
    liM (rdN l lim) a b l p lim = .ok (xs, p + B.length) :=
  liM_read (Q := fun T (x : S121) => EncT T x.f1) (f0 := fun x : S121 => x.f0) (Gd := GoodN) hlim hl (fun T x h => encT_pos h) (rdN_read hlim hl) a0 hB hg.1 hg.2 hat p0 h1 h2
theorem rdL_read (hlim : lim ≤ l.length) (hl : l.length ≤ 1000000000) : ∀ (x : S109) (T : List Int) (a b p : Int), EncNl T x.f1 → GoodL x → HasAt l p T → 0 ≤ p → 0 ≤ a → p + T.length + a ≤ lim → (1099511627776 ≤ b ∨ lim - (p + T.length) ≤ b) → rdL l lim x.f0 a b p = .ok (x, p + T.length) := by
  intro x T a b p hE hg hat p0 a0 h1 h2
  rw [rdL, nl_read hlim hl a0 hE hg hat p0 h1 h2]
theorem ll_read (hlim : lim ≤ l.length) (hl : l.length ≤ 1000000000) {a b : Int} (a0 : 0 ≤ a) {xs : List S109} {p : Int} {B : List Int} (hB : EncLl B xs) (hg : GoodLs xs) (hat : HasAt l p B) (p0 : 0 ≤ p) (h1 : p + B.length + a ≤ lim) (h2 : 1099511627776 ≤ b ∨ lim - (p + B.length) ≤ b) :
    liM (rdL l lim) a b l p lim = .ok (xs, p + B.length) :=
  liM_read (Q := fun T (x : S109) => EncNl T x.f1) (f0 := fun x : S109 => x.f0) (Gd := GoodL) hlim hl (fun T x h => encNl_pos h) (rdL_read hlim hl) a0 hB hg.1 hg.2 hat p0 h1 h2
theorem row_read (hlim : lim ≤ l.length) (hl : l.length ≤ 1000000000) {last x p : Int} {V V' : NmV} {N C : List Int} (hN : Enc N C.length) (hC : 1 ≤ C.length) (hat : HasAt l p (x :: (N ++ C))) (p0 : 0 ≤ p) (h1 : p + 1 + N.length + C.length ≤ lim) (hx : last < x ∧ x < 3)
    (hb : HasAt l (p + 1 + N.length) C → bodyM l (p + 1 + N.length + C.length) x V (p + 1 + N.length) = .ok (V', p + 1 + N.length + C.length)) :
    rowM l lim last V p = .ok (x, V', p + 1 + N.length + C.length) := by
  have hA0 := hat.tail p0
  obtain ⟨hA1, hA2⟩ := hasAt_cut hA0 (by omega)
  obtain ⟨lo, hi, hm, hlo, hhi⟩ := rgSz_has (r := rest (p + 1 + N.length) lim) (n := C.length) (by omega) (by rw [rest_in (by omega)]; omega) (by rw [rest_in (by omega)]; omega) hN.v1
  have hu := enc_read hN hA1 (by omega) (by omega) hm hlo hhi
  have hin : inLim (p + 1 + N.length) lim C.length = p + 1 + N.length + C.length := by unfold inLim; rw [rest_in (by omega)]; omega
  rw [rowM, next_at hat (by omega)]
  simp only
  rw [if_pos hx, hu]
  simp only
  rw [hin, hb hA2]
  simp only
  rw [if_pos trivial]
theorem rows_step {k : Nat} {last p x p' : Int} {V V' : NmV} (h : rowM l lim last V p = .ok (x, V', p')) (hr : 0 < rest p lim) : rowsM l lim (k + 1) last V p = rowsM l lim k x V' p' := by
  rw [rowsM, if_pos hr, h]
theorem rows_end {k : Nat} {last p : Int} {V : NmV} (hr : rest p lim ≤ 0) : rowsM l lim (k + 1) last V p = .ok (V, p) := by
  rw [rowsM, if_neg (by omega)]
end
theorem readM_read {l : List Int} {V : NmV} (hl : l.length ≤ 1000000000) (hB : NamesE l V) (hg : GoodV V) : ∃ p, readM l = .ok (V, p) := by
  obtain ⟨B0, B1, B2, hE, S0, S1, S2⟩ := hB
  have hat : HasAt l 0 (B0 ++ (B1 ++ B2)) := by rw [← hE]; exact hasAt_self l
  have hlen : l.length = B0.length + (B1.length + B2.length) := by rw [hE]; simp
  obtain ⟨hA0, hA1⟩ := hasAt_cut hat (by omega)
  obtain ⟨hA1, hA2⟩ := hasAt_cut hA1 (by omega)
  have P : Int := 0
  have stage2 : ∀ (k : Nat) (last : Int), last < 2 → rowsM l l.length (k + 2) last ⟨V.hm, V.hf, false, V.md, V.fs, []⟩ (0 + B0.length + B1.length) = .ok (V, l.length) := by
    intro k last hlast
    cases hh : V.hl
    · rw [hh] at S2
      have e : B2 = [] := by simpa [Sec] using S2
      rw [e] at hlen
      have hz : V.ls = [] := by rcases hg.l with h | h; rw [hh] at h; cases h; exact h
      rw [rows_end (by rw [rest_in (by omega)]; simp at hlen; omega)]
      simp only [List.length_nil, Nat.add_zero] at hlen
      rw [show (0 : Int) + (B0.length : Int) + (B1.length : Int) = l.length by omega]
      rw [← hh, ← hz]
    · rw [hh] at S2
      obtain ⟨N, C, rfl, hN, hC⟩ := (show ∃ N C, B2 = (2 : Int) :: (N ++ C) ∧ Enc N C.length ∧ EncLl C V.ls from by simpa [Sec] using S2)
      have hCp : 1 ≤ C.length := by obtain ⟨N', C', rfl, hN', -⟩ := hC; have := hN'.pos; simp; omega
      simp only [List.length_cons, List.length_append] at hlen
      have := row_read (l := l) (lim := l.length) (last := last) (V := ⟨V.hm, V.hf, false, V.md, V.fs, []⟩) (V' := V) (Int.le_refl _) hl hN hCp hA2 (by omega) (by omega) ⟨hlast, by decide⟩ (fun hA => by
        unfold bodyM
        rw [if_neg (by decide), if_neg (by decide), ll_read (l := l) (by omega) hl (Int.le_refl 0) hC hg.ls hA (by omega) (by omega) (by omega)]
        simp only
        rw [← hh])
      rw [rows_step this (by rw [rest_in (by omega)]; omega), rows_end (by rw [rest_in (by omega)]; omega)]
      congr 2
      omega
  have stage1 : ∀ (k : Nat) (last : Int), last < 1 → rowsM l l.length (k + 3) last ⟨V.hm, false, false, V.md, [], []⟩ (0 + B0.length) = .ok (V, l.length) := by
    intro k last hlast
    cases hh : V.hf
    · rw [hh] at S1
      have e : B1 = [] := by simpa [Sec] using S1
      subst e
      have hz : V.fs = [] := by rcases hg.f with h | h; rw [hh] at h; cases h; exact h
      have := stage2 (k + 1) last (by omega)
      rw [hh, hz] at this
      simpa using this
    · rw [hh] at S1
      obtain ⟨N, C, rfl, hN, hC⟩ := (show ∃ N C, B1 = (1 : Int) :: (N ++ C) ∧ Enc N C.length ∧ EncNl C V.fs from by simpa [Sec] using S1)
      have hCp := encNl_pos hC
      simp only [List.length_cons, List.length_append] at hlen
      have := row_read (l := l) (lim := l.length) (last := last) (V := ⟨V.hm, false, false, V.md, [], []⟩) (V' := ⟨V.hm, true, false, V.md, V.fs, []⟩) (Int.le_refl _) hl hN hCp hA1 (by omega) (by omega) ⟨hlast, by decide⟩ (fun hA => by
        unfold bodyM
        rw [if_neg (by decide), if_pos rfl, nl_read (l := l) (by omega) hl (Int.le_refl 0) hC hg.fs hA (by omega) (by omega) (by omega)])
      rw [rows_step this (by rw [rest_in (by omega)]; omega)]
      have h2 := stage2 k 1 (by decide)
      rw [hh] at h2
      simp only [List.length_cons, List.length_append] at h2
      rw [← h2]
      congr 1
      omega
  have stage0 : rowsM l l.length 4 (-1) noNm 0 = .ok (V, l.length) := by
    cases hh : V.hm
    · rw [hh] at S0
      have e : B0 = [] := by simpa [Sec] using S0
      subst e
      have hz : V.md = ⟨#[]⟩ := by rcases hg.m with h | h; rw [hh] at h; cases h; exact h
      have := stage1 1 (-1) (by decide)
      rw [hh, hz] at this
      simpa [noNm] using this
    · rw [hh] at S0
      obtain ⟨N, C, rfl, hN, hC⟩ := (show ∃ N C, B0 = (0 : Int) :: (N ++ C) ∧ Enc N C.length ∧ EncT C V.md from by simpa [Sec] using S0)
      have hCp := encT_pos hC
      simp only [List.length_cons, List.length_append] at hlen
      have := row_read (l := l) (lim := l.length) (last := -1) (V := noNm) (V' := ⟨true, false, false, V.md, [], []⟩) (Int.le_refl _) hl hN hCp hA0 (by omega) (by omega) ⟨by decide, by decide⟩ (fun hA => by
        unfold bodyM
        rw [if_pos rfl, nameM_read (l := l) (by omega) hl hC hg.md hA (by omega) (Int.le_refl 0) (by omega) (by omega)]
        simp only
        rw [str_ns]; rfl)
      rw [rows_step this (by rw [rest_in (by omega)]; omega)]
      have h2 := stage1 0 0 (by decide)
      rw [hh] at h2
      simp only [List.length_cons, List.length_append] at h2
      rw [← h2]
      congr 1
      omega
  refine ⟨l.length, ?_⟩
  rw [readM, inLim_all hl, stage0]
  simp only
  rw [if_pos trivial]
end Go.Proofs.YtiohiiekaofkbaaDoor
/- What comes in, opened by its type: numbers, texts, slices, structs; what reads as data holds no more than the reach. -/
namespace Go.Proofs.YtiohiiekaofkbaaDoor
set_option linter.unusedVariables false
set_option linter.unusedSimpArgs false
open Go.RowKit Go.Proofs.YtiohiiekaofkbaaDoor.PNamesBack Go.Proofs.YtiohiiekaofkbaaDoorW.PrintWords Go.ChangeShapes Go.WideShapes Go.Deep Go.Lib
section
variable {H : Type} {enc : TypeId × Value → H} {P : Program} {w : World} {base : Nat} {spare : Nat → Bool} {held : Bool} {α β : Type}
def Opn (enc : TypeId × Value → H) (P : Program) (w : World) (base : Nat) (spare : Nat → Bool) (held : Bool) (e : TypeId) (k : Kd α) (Fine : α → Prop) : Prop :=
  ∀ (n : Nat) (cs : List Value) (x : DataW H × List MemPlace), DataW.trod enc P w base spare held n e cs = some x → (∀ m ∈ x.1.weights P e, m ≤ 140737488351232) → ∃ y, k.K w y cs ∧ Fine y
theorem Opn.mono {e : TypeId} {k : Kd α} {F G : α → Prop} (h : Opn enc P w base spare held e k F) (hg : ∀ y, F y → G y) : Opn enc P w base spare held e k G := fun n cs x hx hw =>
  let ⟨y, h1, h2⟩ := h n cs x hx hw
  ⟨y, h1, hg y h2⟩
theorem opn_int {e : TypeId} {k : IntKind} (he : P.underlying e = some (.int k)) : Opn enc P w base spare held e (Kd.int k) (fun a => (Lit.int k a).wf = true) := fun n cs x hx _ => by
  obtain ⟨a, rfl, rfl, wa⟩ := DataW.trod_int he hx
  exact ⟨a, rfl, wa⟩
theorem opn_bool {e : TypeId} (he : P.underlying e = some .bool) : Opn enc P w base spare held e Kd.bool (fun _ => True) := fun n cs x hx _ => by
  obtain ⟨a, rfl, rfl⟩ := DataW.trod_bool he hx
  exact ⟨a, rfl, trivial⟩
theorem opn_string {e : TypeId} (he : P.underlying e = some .string) : Opn enc P w base spare held e Kd.string (fun s => s.size ≤ 140737488351232) := fun n cs x hx hw => by
  obtain ⟨s, rfl, rfl, ws⟩ := DataW.trod_string he hx
  refine ⟨s, rfl, ?_⟩
  have := hw s.data.toList.length (by simp [DataW.weights])
  rwa [Array.length_toList] at this
theorem weights_all {e : TypeId} {ds : List (DataW H)} {d : DataW H} (h : d ∈ ds) : ∀ m ∈ d.weights P e, m ∈ DataW.weightsAll P e ds := by
  induction ds with
  | nil => simp at h
  | cons a t ih =>
    intro m hm
    simp only [DataW.weightsAll, List.mem_append]
    rcases List.mem_cons.1 h with rfl | h
    · exact .inl hm
    · exact .inr (ih h m hm)
theorem opn_slice {t e : TypeId} {k : Kd α} {F : α → Prop} (ht : P.underlying t = some (.slice e)) (hc : P.cellsOf e = k.sz) {B : Nat} (hB : P.bytesOf e = B) (h : Opn enc P w base spare held e k F) :
    Opn enc P w base spare held t (Kd.slice e k) (fun l => l.length * B ≤ 140737488351232 ∧ ∀ y ∈ l, F y) := fun n cs x hx hw => by
  rcases open_slice ht hx with ⟨rfl, rfl⟩ | ⟨a, len, cap, m, n', D, Pl, rfl, hb, hl, hm, hmm, rfl, he⟩
  · exact ⟨[], ⟨none, 0, rfl, Nat.le_refl _, Kd.C_nil _ _⟩, by simp, fun y hy => by simp at hy⟩
  · have hlm : len ≤ m := by rw [hmm]; split <;> omega
    have hwe : ∀ i, i < len → ∀ q ∈ (D i).weights P e, q ≤ 140737488351232 := fun i hi q hq => hw q (by
      simp only [DataW.weights, ht, List.mem_cons, List.mem_append]
      exact .inr (.inl (weights_all (List.mem_map.2 ⟨i, List.mem_range.2 hi, rfl⟩) q hq)))
    have each : ∀ i, i < len → ∃ q : α × List Value, w.cells? base (a.add (i * P.cellsOf e)) (P.cellsOf e) = some q.2 ∧ k.K w q.1 q.2 ∧ F q.1 := fun i hi => by
      obtain ⟨cs', h1, h2⟩ := he i (by omega)
      obtain ⟨y, hy1, hy2⟩ := h n' cs' _ h2 (hwe i hi)
      exact ⟨(y, cs'), h1, hy1, hy2⟩
    rcases Nat.eq_zero_or_pos len with h0 | hpos
    · subst h0
      exact ⟨[], ⟨some a, cap, rfl, by simp, ⟨rfl, by simp, fun h => absurd h (Nat.lt_irrefl 0)⟩⟩, by simp, fun y hy => by simp at hy⟩
    · obtain ⟨q0, _⟩ := each 0 hpos
      have : Nonempty (α × List Value) := ⟨q0⟩
      have each' : ∀ i, ∃ q : α × List Value, i < len → w.cells? base (a.add (i * P.cellsOf e)) (P.cellsOf e) = some q.2 ∧ k.K w q.1 q.2 ∧ F q.1 := fun i => by
        by_cases hi : i < len
        · obtain ⟨q, hq⟩ := each i hi; exact ⟨q, fun _ => hq⟩
        · exact ⟨q0, fun h => absurd h hi⟩
      obtain ⟨Q, hQ⟩ := Classical.axiomOfChoice each'
      refine ⟨(List.range len).map fun i => (Q i).1, ⟨some a, cap, by simp, by simpa using hl, ?_⟩, ?_, ?_⟩
      · refine ⟨rfl, ?_, fun _ => ⟨a, rfl, ?_⟩⟩
        · simp; unfold maxLen at hm; omega
        · intro j p hj
          rw [List.getElem?_map] at hj
          obtain ⟨i, hi, rfl⟩ := Option.map_eq_some_iff.1 hj
          obtain ⟨hlt, rfl⟩ : j < len ∧ i = j := by
            rcases Nat.lt_or_ge j len with h2 | h2
            · rw [List.getElem?_range h2] at hi
              exact ⟨h2, (Option.some.inj hi).symm⟩
            · rw [List.getElem?_eq_none (by simpa using h2)] at hi
              cases hi
          obtain ⟨h1, h2, _⟩ := hQ i hlt
          obtain ⟨_, hlen, hcell⟩ := World.cells?_some h1
          refine ⟨(Q i).2, by rw [hlen, hc], h2, fun r u hu => ?_⟩
          have hr : r < P.cellsOf e := by
            have := (List.getElem?_eq_some_iff.1 hu).1
            omega
          have := hcell r hr
          rw [Go.Deep.add_add, hc] at this
          rw [this, hu]
      · have := hw ((((List.range len).map D).length + ((List.range (m - len)).map fun j => D (len + j)).length) * P.bytesOf e) (by simp [DataW.weights, ht])
        rw [hB] at this
        refine Nat.le_trans (Nat.mul_le_mul_right _ ?_) this
        simp
      · intro y hy
        obtain ⟨i, hi, rfl⟩ := List.mem_map.1 hy
        exact (hQ i (List.mem_range.1 hi)).2.2
theorem weights_fst {ts : List TypeId} {f : TypeId} {d : DataW H} {ds : List (DataW H)} : ∀ m ∈ d.weights P f, m ∈ DataW.weightsEach P (f :: ts) (d :: ds) := fun m hm => by
  simp only [DataW.weightsEach, List.mem_append]; exact .inl hm
theorem weights_rest {ts : List TypeId} {f : TypeId} {d : DataW H} {ds : List (DataW H)} : ∀ m ∈ DataW.weightsEach P ts ds, m ∈ DataW.weightsEach P (f :: ts) (d :: ds) := fun m hm => by
  simp only [DataW.weightsEach, List.mem_append]; exact .inr hm
theorem opn_pair {e : TypeId} {f0 f1 : Field} {k0 : Kd α} {k1 : Kd β} {F0 : α → Prop} {F1 : β → Prop} (he : P.underlying e = some (.struct #[f0, f1])) (o0 : f0.offset = 0) (o1 : f1.offset = k0.sz)
    (c0 : P.cellsOf f0.type = k0.sz) (c1 : P.cellsOf f1.type = k1.sz) (ce : P.cellsOf e = k0.sz + k1.sz) (h0 : Opn enc P w base spare held f0.type k0 F0) (h1 : Opn enc P w base spare held f1.type k1 F1) :
    Opn enc P w base spare held e (Kd.pair k0 k1) (fun y => F0 y.1 ∧ F1 y.2) := fun n cs x hx hw => by
  obtain ⟨y0, y1, n', rfl, hlen, g0, g1⟩ := trod_struct2 he hx
  have hw' : ∀ m ∈ DataW.weightsEach P [f0.type, f1.type] [y0.1, y1.1], m ≤ 140737488351232 := fun m hm => hw m (by simpa [DataW.weights, he] using hm)
  obtain ⟨a, ha, fa⟩ := h0 _ _ _ g0 (fun m hm => hw' m (weights_fst m hm))
  obtain ⟨b, hb, fb⟩ := h1 _ _ _ g1 (fun m hm => hw' m (weights_rest m (weights_fst m hm)))
  refine ⟨(a, b), ⟨_, _, ?_, ha, hb⟩, fa, fb⟩
  rw [o0, o1, c0, c1, List.drop_zero]
  have : (cs.drop k0.sz).take k1.sz = cs.drop k0.sz := List.take_of_length_le (by rw [List.length_drop]; omega)
  rw [this, List.take_append_drop]
theorem opn_iso {e : TypeId} {k : Kd α} (f : β → α) (g : α → β) (hfg : ∀ a, f (g a) = a) {F : α → Prop} (h : Opn enc P w base spare held e k F) : Opn enc P w base spare held e (Kd.iso k f) (fun y => F (f y)) := fun n cs x hx hw => by
  obtain ⟨a, ha, fa⟩ := h n cs x hx hw
  exact ⟨g a, by show k.K w (f (g a)) cs; rw [hfg]; exact ha, by show F (f (g a)); rw [hfg]; exact fa⟩
end
def fineN (x : S101) : Prop := (Lit.int .u32 x.f0).wf = true ∧ x.f1.size ≤ 140737488351232
def fineNs (l : List S101) : Prop := l.length * 24 ≤ 140737488351232 ∧ ∀ y ∈ l, fineN y
def fineL (x : S103) : Prop := (Lit.int .u32 x.f0).wf = true ∧ fineNs x.f1
def fineLs (l : List S103) : Prop := l.length * 32 ≤ 140737488351232 ∧ ∀ y ∈ l, fineL y
section
variable {H : Type} {enc : TypeId × Value → H} {w : World} {base : Nat} {spare : Nat → Bool} {held : Bool}
theorem opn_rName : Opn enc Tryd.prog w base spare held 101 k101 fineN :=
  opn_iso (fun x : S101 => (x.f0, x.f1)) (fun a => ⟨a.1, a.2⟩) (fun _ => rfl) (opn_pair (k0 := Kd.int .u32) (k1 := Kd.string) Tryd.underlying101 rfl rfl (by kernel_rfl) (by kernel_rfl) (by kernel_rfl) (opn_int Tryd.underlying45) (opn_string Tryd.underlying9))
theorem opn_rNames : Opn enc Tryd.prog w base spare held 22 (Kd.slice 101 k101) fineNs := opn_slice (k := k101) Tryd.underlying22 (by kernel_rfl) (B := 24) (by kernel_rfl) opn_rName
theorem opn_rLocal : Opn enc Tryd.prog w base spare held 103 k103 fineL :=
  opn_iso (fun x : S103 => (x.f0, x.f1)) (fun a => ⟨a.1, a.2⟩) (fun _ => rfl) (opn_pair (k0 := Kd.int .u32) (k1 := Kd.slice 101 k101) Tryd.underlying103 rfl rfl (by kernel_rfl) (by kernel_rfl) (by kernel_rfl) (opn_int Tryd.underlying45) opn_rNames)
theorem opn_rLocals : Opn enc Tryd.prog w base spare held 23 (Kd.slice 103 k103) fineLs := opn_slice (k := k103) Tryd.underlying23 (by kernel_rfl) (B := 32) (by kernel_rfl) opn_rLocal
end
end Go.Proofs.YtiohiiekaofkbaaDoor
/- Do the indexes of a list of names, of locals rise: names.rises; what is true of all: slices.ContainsFunc. -/
namespace Go.Proofs.YtiohiiekaofkbaaDoor
set_option linter.unusedVariables false
set_option linter.unusedSimpArgs false
open Go.RowKit Go.Proofs.YtiohiiekaofkbaaDoor.PNamesBack Go.Proofs.YtiohiiekaofkbaaDoorW.PrintWords
def allB (p : Nat → Bool) : Nat → Bool
  | 0 => true
  | n + 1 => allB p n && p n
theorem allB_iff {p : Nat → Bool} {n : Nat} : allB p n = true ↔ ∀ i, i < n → p i = true := by
  induction n with
  | zero => simp [allB]
  | succ n ih =>
    simp only [allB, Bool.and_eq_true, ih]
    constructor
    · rintro ⟨h1, h2⟩ i hi
      by_cases e : i = n
      · exact e ▸ h2
      · exact h1 i (by omega)
    · exact fun h => ⟨fun i hi => h i (by omega), h n (by omega)⟩
theorem allB_not {p : Nat → Bool} {n i : Nat} (hi : i < n) (h : p i = false) : allB p n = false := by
  rcases hb : allB p n with _ | _
  · rfl
  · rw [allB_iff.1 hb i hi] at h; cases h
theorem allB_congr {p q : Nat → Bool} {n : Nat} (h : ∀ i, i < n → p i = q i) : allB p n = allB q n := by
  rw [Bool.eq_iff_iff, allB_iff, allB_iff]
  exact ⟨fun k i hi => by rw [← h i hi]; exact k i hi, fun k i hi => by rw [h i hi]; exact k i hi⟩
def upB (f : Nat → Int) (i : Nat) : Bool := decide (i = 0) || decide (f (i - 1) < f i)
def nIdx (l : List S121) (i : Nat) : Int := (rd_T121 l i).f0
def lIdx (l : List S109) (i : Nat) : Int := (rd_T109 l i).f0
theorem nIdx_up (l : List S121) (j : Nat) : upB (nIdx l) (j + 1) = decide ((rd_T121 l (j : Int)).f0 < (rd_T121 l ((j : Int) + 1)).f0) := by unfold upB; rw [show decide (j + 1 = 0) = false from by simp, Bool.false_or]; rfl
theorem lIdx_up (l : List S109) (j : Nat) : upB (lIdx l) (j + 1) = decide ((rd_T109 l (j : Int)).f0 < (rd_T109 l ((j : Int) + 1)).f0) := by unfold upB; rw [show decide (j + 1 = 0) = false from by simp, Bool.false_or]; rfl
set_option maxHeartbeats 1000000 in
theorem ofName_walk (a : Int) (s : ByteArray) (w : World) : Calls Tryd.prog 131 #[.agg #[.int .u32 a, .string s]] w fun e w' => e = .returned (.int .u32 a) ∧ Below w.heap.size w w' := by
  have hu := Tryd.underlying121
  go_enter Tryd.func131, Tryd.ntmps131
  go_wp2
  go_ret
  exact ⟨rfl, bel⟩
set_option maxHeartbeats 1000000 in
theorem ofLocal_walk (a : Int) (v : Value) (w : World) : Calls Tryd.prog 76 #[.agg #[.int .u32 a, v]] w fun e w' => e = .returned (.int .u32 a) ∧ Below w.heap.size w w' := by
  have hu := Tryd.underlying109
  go_enter Tryd.func76, Tryd.ntmps76
  go_wp2
  go_ret
  exact ⟨rfl, bel⟩
theorem keep4 {p1 p2 p3 p4 : Addr} {a b c d : Value} {w W W' : World} {B : Nat} (h : W.cell? p1 = some a ∧ W.cell? p2 = some b ∧ W.cell? p3 = some c ∧ W.cell? p4 = some d ∧ Below B w W ∧ B ≤ W.heap.size)
    (hb : Below W.heap.size W W') : W'.cell? p1 = some a ∧ W'.cell? p2 = some b ∧ W'.cell? p3 = some c ∧ W'.cell? p4 = some d ∧ Below B w W' ∧ B ≤ W'.heap.size := by
  obtain ⟨h1, h2, h3, h4, h5, h6⟩ := h
  exact ⟨pw_cell_below hb h1, pw_cell_below hb h2, pw_cell_below hb h3, pw_cell_below hb h4, h5.trans (hb.mono h6), Nat.le_trans h6 hb.size⟩
set_option maxRecDepth 100000 in
set_option maxHeartbeats 4000000 in
theorem risesName_walk (A : Option Addr) (c : Nat) (l : List S121) (w : World) (hC : Kd.C k121 w A l.length l) (hlen : l.length ≤ 1000000000) :
    Calls Tryd.prog 130 #[.slice A l.length c, .func (.func 131) #[] #[]] w fun e w' => e = .returned (.bool (allB (upB (nIdx l)) l.length)) ∧ Below w.heap.size w w' := by
  have hu := Tryd.underlying121
  have HC := hid hC
  clear hC
  go_enter Tryd.func130, Tryd.ntmps130
  go_wp2
  go_loopw [5] (fun v5 wr => ∃ i : Nat, v5 = .int .i64 i ∧ 1 ≤ i ∧ i ≤ l.length + 1 ∧ Hid (allB (upB (nIdx l)) i = true) ∧ w.heap.size ≤ wr.heap.size ∧ Hid (Below w.heap.size w wr)) (fun v5 _ => l.length + 1 - (intOf v5).toNat)
  case atStart => exact ⟨1, by go_num, by omega, by omega, hid (by simp [allB, upB]), Nat.le_refl _, Below.refl _ _⟩
  case round =>
    obtain ⟨i, rfl, hi0, hi1, HA, hsz, HB⟩ := hrel
    by_cases hlt : i < l.length
    · obtain ⟨j, rfl⟩ : ∃ j, i = j + 1 := ⟨i - 1, by omega⟩
      have hcr := Kd.C_below HC.out HB.out
      obtain ⟨ad, rfl, e1, e2⟩ := at_T121 hcr ((j + 1 : Nat) : Int) (by omega) (by omega)
      obtain ⟨ad', he, e3, e4⟩ := at_T121 hcr (j : Int) (by omega) (by omega)
      obtain rfl := Option.some.inj he
      rw [Int.toNat_natCast] at e1 e2 e3 e4
      clear he hcr
      have hi3 : (j : Int) + 1 < (l.length : Int) := by omega
      have hi4 : (j : Int) < (l.length : Int) := by omega
      have hi5 : (0 : Int) ≤ (j : Int) + 1 := by omega
      have hw1 : IntKind.i64.wrap ((j : Int) + 1 - 1) = (j : Int) := by rw [IntKind.wrap_i64]; omega
      have hw2 : IntKind.i64.wrap (j : Int) = (j : Int) := by rw [IntKind.wrap_i64]; omega
      rw [show (((j + 1 : Nat) : Int)) = (j : Int) + 1 by omega] at e1 e2
      go_upto_region 4 with (fail)
      go_cut [25] (fun s25 wx => s25 = .bool (decide ((rd_T121 l (j + 1)).f0 ≤ (rd_T121 l j).f0)) ∧ w.heap.size ≤ wx.heap.size ∧ Hid (Below w.heap.size w wx))
      case first =>
        have S0 : wr.cell? (ad.add ((j + 1) * 2)) = some (.int .u32 (rd_T121 l (j + 1)).f0) ∧ wr.cell? ⟨(ad.add ((j + 1) * 2)).block, (ad.add ((j + 1) * 2)).off + 1, none⟩ = some (.string (rd_T121 l (j + 1)).f1) ∧ wr.cell? (ad.add (j * 2)) = some (.int .u32 (rd_T121 l j).f0) ∧ wr.cell? ⟨(ad.add (j * 2)).block, (ad.add (j * 2)).off + 1, none⟩ = some (.string (rd_T121 l j).f1) ∧ Below w.heap.size w wr ∧ w.heap.size ≤ wr.heap.size := ⟨e1, e2, e3, e4, HB.out, hsz⟩
        clear e1 e2 e3 e4
        go_region_held3 (fun w' => w'.cell? (ad.add ((j + 1) * 2)) = some (.int .u32 (rd_T121 l (j + 1)).f0) ∧ w'.cell? ⟨(ad.add ((j + 1) * 2)).block, (ad.add ((j + 1) * 2)).off + 1, none⟩ = some (.string (rd_T121 l (j + 1)).f1) ∧ w'.cell? (ad.add (j * 2)) = some (.int .u32 (rd_T121 l j).f0) ∧ w'.cell? ⟨(ad.add (j * 2)).block, (ad.add (j * 2)).off + 1, none⟩ = some (.string (rd_T121 l j).f1) ∧ Below w.heap.size w w' ∧ w.heap.size ≤ w'.heap.size)
          (first | exact S0 | exact keep4 (by assumption) (by assumption) | exact keep4 (by assumption) (below_drew (Below.refl _ _)))
          (first | (go_at_call 131; refine (ofName_walk _ _ _).mono ?_; rintro e w' ⟨rfl, hb1⟩))
        all_goals (go_wp2_with fail)
        all_goals (go_meet)
        all_goals (refine ⟨rfl, ?_, ?_⟩ <;> first | exact (‹_ ∧ _ ∧ _ ∧ _ ∧ _ ∧ _›).2.2.2.2.2 | exact hid (‹_ ∧ _ ∧ _ ∧ _ ∧ _ ∧ _›).2.2.2.2.1)
      case rest =>
        obtain ⟨rfl, hsx, HX⟩ := hcut
        by_cases hup : (rd_T121 l (j + 1)).f0 ≤ (rd_T121 l j).f0
        · have HP := hid hup
          go_wp2
          go_ret
          refine ⟨ret_bool ?_, HX.out⟩
          exact (allB_not hlt (by rw [nIdx_up]; exact decide_eq_false (by have := HP.out; omega))).symm
        · have HP := hid hup
          have hup2 : (rd_T121 l j).f0 < (rd_T121 l (j + 1)).f0 := by omega
          go_wp2
          go_roundw
          case rel => exact ⟨j + 2, by go_num, by omega, by omega, hid (by rw [allB, HA.out, Bool.true_and, nIdx_up]; exact decide_eq_true (by have := HP.out; omega)), hsx, HX⟩
          case measure => simp [intOf]; omega
    · go_wp2
      go_ret
      refine ⟨ret_bool ?_, HB.out⟩
      have e := HA.out
      rcases (show i = l.length ∨ i = l.length + 1 by omega) with rfl | rfl
      · exact e.symm
      · rw [allB, Bool.and_eq_true] at e; exact e.1.symm
set_option maxRecDepth 100000 in
set_option maxHeartbeats 4000000 in
theorem risesLocal_walk (A : Option Addr) (c : Nat) (l : List S109) (w : World) (hC : Kd.C k109 w A l.length l) (hlen : l.length ≤ 1000000000) :
    Calls Tryd.prog 75 #[.slice A l.length c, .func (.func 76) #[] #[]] w fun e w' => e = .returned (.bool (allB (upB (lIdx l)) l.length)) ∧ Below w.heap.size w w' := by
  have hu := Tryd.underlying109
  have HC := hid hC
  clear hC
  go_enter Tryd.func75, Tryd.ntmps75
  go_wp2
  go_loopw [5] (fun v5 wr => ∃ i : Nat, v5 = .int .i64 i ∧ 1 ≤ i ∧ i ≤ l.length + 1 ∧ Hid (allB (upB (lIdx l)) i = true) ∧ w.heap.size ≤ wr.heap.size ∧ Hid (Below w.heap.size w wr)) (fun v5 _ => l.length + 1 - (intOf v5).toNat)
  case atStart => exact ⟨1, by go_num, by omega, by omega, hid (by simp [allB, upB]), Nat.le_refl _, Below.refl _ _⟩
  case round =>
    obtain ⟨i, rfl, hi0, hi1, HA, hsz, HB⟩ := hrel
    by_cases hlt : i < l.length
    · obtain ⟨j, rfl⟩ : ∃ j, i = j + 1 := ⟨i - 1, by omega⟩
      have hcr := Kd.C_below HC.out HB.out
      obtain ⟨ad, A1, c1, rfl, e1, e2, l1, g1⟩ := at_T109 hcr ((j + 1 : Nat) : Int) (by omega) (by omega)
      obtain ⟨ad', A2, c2, he, e3, e4, l2, g2⟩ := at_T109 hcr (j : Int) (by omega) (by omega)
      obtain rfl := Option.some.inj he
      rw [Int.toNat_natCast] at e1 e2 e3 e4
      clear he hcr l1 g1 l2 g2
      have hi3 : (j : Int) + 1 < (l.length : Int) := by omega
      have hi4 : (j : Int) < (l.length : Int) := by omega
      have hi5 : (0 : Int) ≤ (j : Int) + 1 := by omega
      have hw1 : IntKind.i64.wrap ((j : Int) + 1 - 1) = (j : Int) := by rw [IntKind.wrap_i64]; omega
      have hw2 : IntKind.i64.wrap (j : Int) = (j : Int) := by rw [IntKind.wrap_i64]; omega
      rw [show (((j + 1 : Nat) : Int)) = (j : Int) + 1 by omega] at e1 e2
      go_upto_region 4 with (fail)
      go_cut [25] (fun s25 wx => s25 = .bool (decide ((rd_T109 l (j + 1)).f0 ≤ (rd_T109 l j).f0)) ∧ w.heap.size ≤ wx.heap.size ∧ Hid (Below w.heap.size w wx))
      case first =>
        have S0 : wr.cell? (ad.add ((j + 1) * 2)) = some (.int .u32 (rd_T109 l (j + 1)).f0) ∧ wr.cell? ⟨(ad.add ((j + 1) * 2)).block, (ad.add ((j + 1) * 2)).off + 1, none⟩ = some (.slice A1 (rd_T109 l (j + 1)).f1.length c1) ∧ wr.cell? (ad.add (j * 2)) = some (.int .u32 (rd_T109 l j).f0) ∧ wr.cell? ⟨(ad.add (j * 2)).block, (ad.add (j * 2)).off + 1, none⟩ = some (.slice A2 (rd_T109 l j).f1.length c2) ∧ Below w.heap.size w wr ∧ w.heap.size ≤ wr.heap.size := ⟨e1, e2, e3, e4, HB.out, hsz⟩
        clear e1 e2 e3 e4
        go_region_held3 (fun w' => w'.cell? (ad.add ((j + 1) * 2)) = some (.int .u32 (rd_T109 l (j + 1)).f0) ∧ w'.cell? ⟨(ad.add ((j + 1) * 2)).block, (ad.add ((j + 1) * 2)).off + 1, none⟩ = some (.slice A1 (rd_T109 l (j + 1)).f1.length c1) ∧ w'.cell? (ad.add (j * 2)) = some (.int .u32 (rd_T109 l j).f0) ∧ w'.cell? ⟨(ad.add (j * 2)).block, (ad.add (j * 2)).off + 1, none⟩ = some (.slice A2 (rd_T109 l j).f1.length c2) ∧ Below w.heap.size w w' ∧ w.heap.size ≤ w'.heap.size)
          (first | exact S0 | exact keep4 (by assumption) (by assumption) | exact keep4 (by assumption) (below_drew (Below.refl _ _)))
          (first | (go_at_call 76; refine (ofLocal_walk _ _ _).mono ?_; rintro e w' ⟨rfl, hb1⟩))
        all_goals (go_wp2_with fail)
        all_goals (go_meet)
        all_goals (refine ⟨rfl, ?_, ?_⟩ <;> first | exact (‹_ ∧ _ ∧ _ ∧ _ ∧ _ ∧ _›).2.2.2.2.2 | exact hid (‹_ ∧ _ ∧ _ ∧ _ ∧ _ ∧ _›).2.2.2.2.1)
      case rest =>
        obtain ⟨rfl, hsx, HX⟩ := hcut
        by_cases hup : (rd_T109 l (j + 1)).f0 ≤ (rd_T109 l j).f0
        · have HP := hid hup
          go_wp2
          go_ret
          refine ⟨ret_bool ?_, HX.out⟩
          exact (allB_not hlt (by rw [lIdx_up]; exact decide_eq_false (by have := HP.out; omega))).symm
        · have HP := hid hup
          have hup2 : (rd_T109 l j).f0 < (rd_T109 l (j + 1)).f0 := by omega
          go_wp2
          go_roundw
          case rel => exact ⟨j + 2, by go_num, by omega, by omega, hid (by rw [allB, HA.out, Bool.true_and, lIdx_up]; exact decide_eq_true (by have := HP.out; omega)), hsx, HX⟩
          case measure => simp [intOf]; omega
    · go_wp2
      go_ret
      refine ⟨ret_bool ?_, HB.out⟩
      have e := HA.out
      rcases (show i = l.length ∨ i = l.length + 1 by omega) with rfl | rfl
      · exact e.symm
      · rw [allB, Bool.and_eq_true] at e; exact e.1.symm
end Go.Proofs.YtiohiiekaofkbaaDoor
/- Are names, locals right: names.named, slices.ContainsFunc, slices.IndexFunc. -/
namespace Go.Proofs.YtiohiiekaofkbaaDoor
set_option linter.unusedVariables false
set_option linter.unusedSimpArgs false
open Go.RowKit Go.Proofs.YtiohiiekaofkbaaDoor.PNamesBack Go.Proofs.YtiohiiekaofkbaaDoorW.PrintWords
def vld (s : ByteArray) : Bool := (need (ns s)).2 && (need (ns s)).1 == 0
theorem vld_walk (s : ByteArray) (w : World) (hs : s.size ≤ 140737488351232) : Calls Tryd.prog 80 #[.string s] w (fun e w' => e = .returned (.bool (vld s)) ∧ w = w') := valid_walk s w hs
def nVld (l : List S121) (i : Nat) : Bool := vld (rd_T121 l i).f1
def named (l : List S121) : Bool := allB (upB (nIdx l)) l.length && allB (nVld l) l.length
def lNamed (l : List S109) (i : Nat) : Bool := named (rd_T109 l i).f1
set_option maxHeartbeats 4000000 in
theorem named1_walk (a : Int) (s : ByteArray) (w : World) (hs : s.size ≤ 1000000000) : Calls Tryd.prog 133 #[.agg #[.int .u32 a, .string s]] w fun e w' => e = .returned (.bool (!(vld s))) ∧ Below w.heap.size w w' := by
  have hu := Tryd.underlying121
  go_enter Tryd.func133, Tryd.ntmps133
  go_wp2_with (first | (go_at_call 80; refine (vld_walk s _ (by omega)).mono ?_; rintro e w' ⟨rfl, rfl⟩))
  go_ret
  exact ⟨rfl, bel⟩
def firstN (p : Nat → Bool) (n : Nat) (r : Int) : Prop := (allB p n = true ∧ r = -1) ∨ (allB p n = false ∧ 0 ≤ r)
set_option maxHeartbeats 4000000 in
theorem indexName_walk (A : Option Addr) (c : Nat) (l : List S121) (w : World) (hC : Kd.C k121 w A l.length l) (hlen : l.length ≤ 1000000000) (hs : ∀ i : Nat, i < l.length → (rd_T121 l i).f1.size ≤ 1000000000) :
    Calls Tryd.prog 159 #[.slice A l.length c, .func (.func 133) #[] #[]] w fun e w' => ∃ r, e = .returned (.int .i64 r) ∧ firstN (nVld l) l.length r ∧ Below w.heap.size w w' := by
  have hu := Tryd.underlying121
  have HC := hid hC
  have HS := hid hs
  clear hC hs
  go_enter Tryd.func159, Tryd.ntmps159
  go_wp2
  go_loopw [5, 8] (fun _ v8 wr => ∃ i : Nat, v8 = .int .i64 i ∧ i ≤ l.length ∧ Hid (allB (nVld l) i = true) ∧ w.heap.size ≤ wr.heap.size ∧ Hid (Below w.heap.size w wr)) (fun _ v8 _ => l.length - (intOf v8).toNat)
  case atStart => exact ⟨0, by go_num, by omega, hid rfl, Nat.le_refl _, Below.refl _ _⟩
  case round =>
    obtain ⟨i, rfl, hi1, HA, hsz, HB⟩ := hrel
    by_cases hlt : i < l.length
    · have hcr := Kd.C_below HC.out HB.out
      obtain ⟨ad, rfl, e1, e2⟩ := at_T121 hcr (i : Int) (by omega) (by omega)
      rw [Int.toNat_natCast] at e1 e2
      clear hcr
      have hss := HS.out i hlt
      rcases hv : nVld l i with _ | _
      · have HV := hid hv
        have hv2 : vld (rd_T121 l i).f1 = false := hv
        clear hv
        go_wp2_with (first | (go_at_call 133; refine (named1_walk _ _ _ hss).mono ?_; rw [hv2]; rintro e w' ⟨rfl, hb1⟩; (first | have hq1 := hz1 | have hq1 := True.intro); (first | have hq0 := hz0 | have hq0 := True.intro); obtain ⟨hcc, hff⟩ := bcell hb1; have hz1 := hb1.size; (try simp at hz1); (try have hy1 := Nat.lt_of_lt_of_le hq1 hz1); (try have hy0 := Nat.lt_of_lt_of_le hq0 hz1); (try replace hz1 := Nat.lt_of_succ_le hz1); (try have hz0 := Nat.lt_of_succ_lt hz1)))
        go_ret
        exact ⟨i, rfl, .inr ⟨allB_not hlt HV.out, by omega⟩, HB.out.trans (hb1.mono hsz)⟩
      · have HV := hid hv
        have hv2 : vld (rd_T121 l i).f1 = true := hv
        clear hv
        go_wp2_with (first | (go_at_call 133; refine (named1_walk _ _ _ hss).mono ?_; rw [hv2]; rintro e w' ⟨rfl, hb1⟩; (first | have hq1 := hz1 | have hq1 := True.intro); (first | have hq0 := hz0 | have hq0 := True.intro); obtain ⟨hcc, hff⟩ := bcell hb1; have hz1 := hb1.size; (try simp at hz1); (try have hy1 := Nat.lt_of_lt_of_le hq1 hz1); (try have hy0 := Nat.lt_of_lt_of_le hq0 hz1); (try replace hz1 := Nat.lt_of_succ_le hz1); (try have hz0 := Nat.lt_of_succ_lt hz1)))
        go_roundw
        case rel => exact ⟨i + 1, by go_num, by omega, hid (by rw [allB, HA.out, HV.out]; rfl), by omega, HB.out.trans (hb1.mono hsz)⟩
        case measure => simp [intOf]; omega
    · go_wp2
      go_ret
      exact ⟨-1, rfl, .inl ⟨by rw [show l.length = i by omega]; exact HA.out, rfl⟩, HB.out⟩
set_option maxHeartbeats 4000000 in
theorem containsName_walk (A : Option Addr) (c : Nat) (l : List S121) (w : World) (hC : Kd.C k121 w A l.length l) (hlen : l.length ≤ 1000000000) (hs : ∀ i : Nat, i < l.length → (rd_T121 l i).f1.size ≤ 1000000000) :
    Calls Tryd.prog 132 #[.slice A l.length c, .func (.func 133) #[] #[]] w fun e w' => e = .returned (.bool (!(allB (nVld l) l.length))) ∧ Below w.heap.size w w' := by
  have HI := hid (fun W (h : Kd.C k121 W A l.length l) => indexName_walk A c l W h hlen hs)
  have HC := hid hC
  clear hC hs
  go_enter Tryd.func132, Tryd.ntmps132
  go_wp2_with (first | (go_at_call 159; refine (HI.out _ HC.out).mono ?_; rintro e w' ⟨r, rfl, hr, hb1⟩; have HR := hid hr; clear hr; (first | have hq1 := hz1 | have hq1 := True.intro); (first | have hq0 := hz0 | have hq0 := True.intro); obtain ⟨hcc, hff⟩ := bcell hb1; have hz1 := hb1.size; (try simp at hz1); (try have hy1 := Nat.lt_of_lt_of_le hq1 hz1); (try have hy0 := Nat.lt_of_lt_of_le hq0 hz1); (try replace hz1 := Nat.lt_of_succ_le hz1); (try have hz0 := Nat.lt_of_succ_lt hz1)))
  go_ret
  refine ⟨ret_bool ?_, hb1⟩
  rcases HR.out with ⟨h1, h2⟩ | ⟨h1, h2⟩
  · subst h2; rw [h1]; rfl
  · rw [h1]; simp; omega
set_option maxHeartbeats 4000000 in
theorem named_walk (A : Option Addr) (c : Nat) (l : List S121) (w : World) (hC : Kd.C k121 w A l.length l) (hlen : l.length ≤ 1000000000) (hs : ∀ i : Nat, i < l.length → (rd_T121 l i).f1.size ≤ 1000000000) :
    Calls Tryd.prog 79 #[.slice A l.length c] w fun e w' => e = .returned (.bool (named l)) ∧ Below w.heap.size w w' := by
  have HI := hid (fun W (h : Below w.heap.size w W) => containsName_walk A c l W (Kd.C_below hC h) hlen hs)
  have HR := hid (risesName_walk A c l w hC hlen)
  unfold named
  rcases hu : allB (upB (nIdx l)) l.length with _ | _
  · rw [hu] at HR
    clear hC hs hu
    go_enter Tryd.func79, Tryd.ntmps79
    go_wp2_with (first | (go_at_call 130; refine HR.out.mono ?_; rintro e w' ⟨rfl, hb1⟩; (first | have hq1 := hz1 | have hq1 := True.intro); (first | have hq0 := hz0 | have hq0 := True.intro); obtain ⟨hcc, hff⟩ := bcell hb1; have hz1 := hb1.size; (try simp at hz1); (try have hy1 := Nat.lt_of_lt_of_le hq1 hz1); (try have hy0 := Nat.lt_of_lt_of_le hq0 hz1); (try replace hz1 := Nat.lt_of_succ_le hz1); (try have hz0 := Nat.lt_of_succ_lt hz1)))
    go_ret
    exact ⟨ret_bool rfl, hb1⟩
  · rw [hu] at HR
    clear hC hs hu
    go_enter Tryd.func79, Tryd.ntmps79
    go_wp2_with (first | (go_at_call 130; refine HR.out.mono ?_; rintro e w' ⟨rfl, hb1⟩; (first | have hq1 := hz1 | have hq1 := True.intro); (first | have hq0 := hz0 | have hq0 := True.intro); obtain ⟨hcc, hff⟩ := bcell hb1; have hz1 := hb1.size; (try simp at hz1); (try have hy1 := Nat.lt_of_lt_of_le hq1 hz1); (try have hy0 := Nat.lt_of_lt_of_le hq0 hz1); (try replace hz1 := Nat.lt_of_succ_le hz1); (try have hz0 := Nat.lt_of_succ_lt hz1)) | (go_at_call 132; refine (HI.out _ hb1).mono ?_; rintro e w' ⟨rfl, hb2⟩))
    go_ret
    exact ⟨ret_bool (by simp), hb1.trans (hb2.mono hb1.size)⟩
def Short (l : List S109) : Prop := ∀ i : Nat, i < l.length → (rd_T109 l i).f1.length ≤ 1000000000 ∧ ∀ j : Nat, j < (rd_T109 l i).f1.length → (rd_T121 (rd_T109 l i).f1 j).f1.size ≤ 1000000000
set_option maxHeartbeats 4000000 in
theorem right1_walk (a : Int) (A : Option Addr) (c : Nat) (l : List S121) (w : World) (hC : Kd.C k121 w A l.length l) (hlen : l.length ≤ 1000000000) (hs : ∀ i : Nat, i < l.length → (rd_T121 l i).f1.size ≤ 1000000000) : Calls Tryd.prog 78 #[.agg #[.int .u32 a, .slice A l.length c]] w fun e w' => e = .returned (.bool (!(named l))) ∧ Below w.heap.size w w' := by
  have hu := Tryd.underlying109
  have HI := hid (fun W (h : Below w.heap.size w W) => named_walk A c l W (Kd.C_below hC h) hlen hs)
  clear hC hs
  go_enter Tryd.func78, Tryd.ntmps78
  go_wp2_with (first | (go_at_call 79; refine (HI.out _ bel).mono ?_; rintro e w' ⟨rfl, hb1⟩; (first | have hq1 := hz1 | have hq1 := True.intro); (first | have hq0 := hz0 | have hq0 := True.intro); obtain ⟨hcc, hff⟩ := bcell hb1; have hz1 := hb1.size; (try simp at hz1); (try have hy1 := Nat.lt_of_lt_of_le hq1 hz1); (try have hy0 := Nat.lt_of_lt_of_le hq0 hz1); (try replace hz1 := Nat.lt_of_succ_le hz1); (try have hz0 := Nat.lt_of_succ_lt hz1)))
  go_ret
  exact ⟨rfl, bel⟩
end Go.Proofs.YtiohiiekaofkbaaDoor
/- Printed for this claim. -/
namespace Go.Proofs.YtiohiiekaofkbaaDoor.PNamesBack
open Go.RowKit Go.Proofs.YtiohiiekaofkbaaDoorW.PrintWords Go.Proofs.YtiohiiekaofkbaaDoorW.PrintLast Go.Proofs.YtiohiiekaofkbaaDoorW.PrintMore
attribute [local go_sem] max2_int min2_int max_two min_two max_three min_three max_four min_four
set_option linter.unusedVariables false
set_option linter.unusedSimpArgs false
theorem eqA121 (d : Nat) (w : World) (x0 y0 : Int) (x1 y1 : ByteArray) :
    (Op.equalIn (d + 2) 121 (.agg #[.int .u32 x0, .string x1]) (.agg #[.int .u32 y0, .string y1])).run Tryd.prog w = .ok (x0 == y0 && (x1.toList == y1.toList)) w := by
  refine eqA_of Tryd.underlying121 (by kernel_rfl) ?_
  refine eqf_cons (by rfl) (by go_simp; rfl) (by go_simp; rfl) (by go_simp) ?_
  exact eqf_last (by rfl) (by go_simp; rfl) (by go_simp; rfl) (by go_simp)
end Go.Proofs.YtiohiiekaofkbaaDoor.PNamesBack
/- Printed for this claim. -/
namespace Go.Proofs.YtiohiiekaofkbaaDoor.PNamesBack
open Go.RowKit Go.Proofs.YtiohiiekaofkbaaDoorW.PrintWords Go.Proofs.YtiohiiekaofkbaaDoorW.PrintLast Go.Proofs.YtiohiiekaofkbaaDoorW.PrintMore
attribute [local go_sem] max2_int min2_int max_two min_two max_three min_three max_four min_four
set_option linter.unusedVariables false
set_option linter.unusedSimpArgs false
attribute [local go_sem high] eqA121
def names_Name_72.l0 : Nat → List (S121) → List (S121) → Int → Int → Option (Bool)
  | 0, _, _, _, _ => none
  | k + 1, x0, x1, x12, x13 => if x13 < x12 then (if 0 ≤ x13 then (if x13 < (x0.length : Int) then (if x13 < (x1.length : Int) then (if (!(((rd_T121 x0 x13).f0) == ((rd_T121 x1 x13).f0)) || (!((((rd_T121 x0 x13).f1).toList) == (((rd_T121 x1 x13).f1).toList)))) = true then (some false) else (names_Name_72.l0 k x0 x1 x12 (wrap64 (x13 + 1)))) else (none)) else (none)) else (none)) else (some true)
def names_Name_72.f (k : Nat) (l0 : List (S121)) (l1 : List (S121)) : Option (Bool) := if (l0.length : Int) = (l1.length : Int) then (names_Name_72.l0 k l0 l1 (l0.length : Int) 0) else (some false)
theorem names_Name_72.mono_l : ∀ k, (∀ y0 y1 y2 y3, LeO (names_Name_72.l0 k y0 y1 y2 y3) (names_Name_72.l0 (k + 1) y0 y1 y2 y3))
  | 0 => fun _ _ _ _ r h => by simp [names_Name_72.l0] at h
  | k + 1 => by
    have ih0 := names_Name_72.mono_l k
    · intro y0 y1 y2 y3
      unfold names_Name_72.l0
      repeat' first
      | (with_reducible exact ih0 _ _ _ _)
      | (with_reducible exact LeO.refl _)
      | (with_reducible exact LeO.none _)
      | (with_reducible refine LeO.ite ?_ ?_)
      | (with_reducible refine LeO.bind ?_ (fun _ => ?_))
      | exact ih0 _ _ _ _
      | exact LeO.none _
      | refine LeO.ite ?_ ?_
      | refine LeO.bind ?_ (fun _ => ?_)
theorem names_Name_72.mono : ∀ a0 a1 k, LeO (names_Name_72.f k a0 a1) (names_Name_72.f (k + 1) a0 a1) := by
  intro a0 a1 k
  have ih0 := names_Name_72.mono_l k
  unfold names_Name_72.f
  repeat' first
      | (with_reducible exact ih0 _ _ _ _)
      | (with_reducible exact LeO.refl _)
      | (with_reducible exact LeO.none _)
      | (with_reducible refine LeO.ite ?_ ?_)
      | (with_reducible refine LeO.bind ?_ (fun _ => ?_))
      | exact ih0 _ _ _ _
      | exact LeO.none _
      | refine LeO.ite ?_ ?_
      | refine LeO.bind ?_ (fun _ => ?_)
set_option maxHeartbeats 8000000 in
set_option maxRecDepth 100000 in
theorem names_Name_72.calls (k : Nat) (A0 : Option Addr) (c0 : Nat) (l0 : List (S121)) (A1 : Option Addr) (c1 : Nat) (l1 : List (S121)) (r : Bool) (w : World) (hr0 : Kd.C k121 w A0 l0.length l0) (hc0 : l0.length ≤ c0) (hr1 : Kd.C k121 w A1 l1.length l1) (hc1 : l1.length ≤ c1) (h : names_Name_72.f k l0 l1 = some r) :
    Calls Tryd.prog 72 #[.slice A0 l0.length c0, .slice A1 l1.length c1] w fun e w' => e = .returned (.bool r) ∧ Drawn0 w w' := by
  have hu121 := Tryd.underlying121
  have HR0 := Aside0.mk hr0
  have HC0 := Aside0.mk hc0
  clear hr0 hc0
  have HR1 := Aside0.mk hr1
  have HC1 := Aside0.mk hc1
  clear hr1 hc1
  have H : (if (l0.length : Int) = (l1.length : Int) then (names_Name_72.l0 k l0 l1 (l0.length : Int) 0) else (some false)) = some r := h
  clear h
  by_cases c3 : (l0.length : Int) = (l1.length : Int)
  · rw [if_pos c3] at H
    have c3b0 : ((l0.length : Int) == (l1.length : Int)) = true := beq_iff_eq.mpr c3
    have c3b1 : ((l0.length : Int) != (l1.length : Int)) = false := bne_eq_false_iff_eq.mpr c3
    have c3b2 : (l0.length == l1.length) = true := by first | simpa using c3 | (simp at c3 ⊢; omega)
    clear c3
    have H' := Aside0.mk H
    clear H
    go_enter Tryd.func72, Tryd.ntmps72
    go_wp2
    repeat (go_quiet (fail); try go_wp2)
    go_loopg [13] k (fun kq v13 w' => ∃ (x13_1 : Int), v13 = .int .i64 x13_1 ∧ Aside0 (names_Name_72.l0 kq l0 l1 (l0.length : Int) x13_1 = some r) ∧ Aside0 (kq ≤ k) ∧ Drawn0 w w')
    case atStart => exact ⟨(0), (by first | rfl | (simp; done) | (simp [*]; done)), H', ⟨Nat.le_refl _⟩, by repeat (first | exact Drawn0.refl _ | apply Drawn0.step)⟩
    case round =>
      clear H'
      try clear c1
      try clear p2
      try clear c3
      try clear c3b0
      try clear c3b1
      try clear c3b2
      obtain ⟨x13_1, rfl, HA, HK1, ⟨m1, rfl⟩⟩ := hrel
      cases gk with
      | zero => exact absurd HA.out (by simp [names_Name_72.l0])
      | succ k1 =>
        have H := HA.out
        clear HA
        simp only [names_Name_72.l0] at H
        by_cases c4 : x13_1 < (l0.length : Int)
        · rw [if_pos c4] at H
          have c4b0 : decide (x13_1 < (l0.length : Int)) = true := decide_eq_true c4
          clear c4
          by_cases c5 : 0 ≤ x13_1
          · rw [if_pos c5] at H
            have c5b0 : decide (0 ≤ x13_1) = true := decide_eq_true c5
            clear c5
            by_cases c6 : x13_1 < (l0.length : Int)
            · rw [if_pos c6] at H
              have c6b0 : decide (x13_1 < (l0.length : Int)) = true := decide_eq_true c6
              clear c6
              by_cases c7 : x13_1 < (l1.length : Int)
              · rw [if_pos c7] at H
                have c7b0 : decide (x13_1 < (l1.length : Int)) = true := decide_eq_true c7
                clear c7
                by_cases c8 : (!(((rd_T121 l0 x13_1).f0) == ((rd_T121 l1 x13_1).f0)) || (!((((rd_T121 l0 x13_1).f1).toList) == (((rd_T121 l1 x13_1).f1).toList)))) = true
                · rw [if_pos c8] at H
                  have c8b0 : (!(((rd_T121 l0 x13_1).f0) == ((rd_T121 l1 x13_1).f0)) || (!((((rd_T121 l0 x13_1).f1).toList) == (((rd_T121 l1 x13_1).f1).toList)))) = true := c8
                  clear c8
                  obtain rfl := Option.some.inj H
                  have p271 : 0 ≤ (x13_1 : Int) := of_decide_eq_true (by first | (with_reducible assumption) | assumption)
                  have q271 : x13_1 < (l0.length : Int) := of_decide_eq_true (by first | (with_reducible assumption) | assumption)
                  obtain ⟨ad271, e271, hx271_0, hx271_1⟩ := at_T121 HR0.out x13_1 p271 q271
                  cases e271
                  replace p271 := eq_true p271
                  replace q271 := eq_true q271
                  have p272 : 0 ≤ (x13_1 : Int) := of_decide_eq_true (by first | (with_reducible assumption) | assumption)
                  have q272 : x13_1 < (l1.length : Int) := of_decide_eq_true (by first | (with_reducible assumption) | assumption)
                  obtain ⟨ad272, e272, hx272_0, hx272_1⟩ := at_T121 HR1.out x13_1 p272 q272
                  cases e272
                  replace p272 := eq_true p272
                  replace q272 := eq_true q272
                  go_wp2
                  repeat (go_quiet (fail); try go_wp2)
                  go_ret
                  exact ⟨by first | rfl | (simp; done) | (simp [*]; done), by repeat (first | exact Drawn0.refl _ | apply Drawn0.step)⟩
                · rw [if_neg c8] at H
                  have c8b0 : (!(((rd_T121 l0 x13_1).f0) == ((rd_T121 l1 x13_1).f0)) || (!((((rd_T121 l0 x13_1).f1).toList) == (((rd_T121 l1 x13_1).f1).toList)))) = false := by simpa using c8
                  clear c8
                  have H' := Aside0.mk H
                  clear H
                  have p271 : 0 ≤ (x13_1 : Int) := of_decide_eq_true (by first | (with_reducible assumption) | assumption)
                  have q271 : x13_1 < (l0.length : Int) := of_decide_eq_true (by first | (with_reducible assumption) | assumption)
                  obtain ⟨ad271, e271, hx271_0, hx271_1⟩ := at_T121 HR0.out x13_1 p271 q271
                  cases e271
                  replace p271 := eq_true p271
                  replace q271 := eq_true q271
                  have p272 : 0 ≤ (x13_1 : Int) := of_decide_eq_true (by first | (with_reducible assumption) | assumption)
                  have q272 : x13_1 < (l1.length : Int) := of_decide_eq_true (by first | (with_reducible assumption) | assumption)
                  obtain ⟨ad272, e272, hx272_0, hx272_1⟩ := at_T121 HR1.out x13_1 p272 q272
                  cases e272
                  replace p272 := eq_true p272
                  replace q272 := eq_true q272
                  go_wp2
                  repeat (go_quiet (fail); try go_wp2)
                  go_roundg k1
                  case measure => have := HK1.out; omega
                  case rel => exact ⟨(wrap64 (x13_1 + 1)), (by first | rfl | (simp; done) | (simp [*]; done)), H', ⟨by have := HK1.out; omega⟩, by repeat (first | exact Drawn0.refl _ | apply Drawn0.step)⟩
              · rw [if_neg c7] at H
                exact absurd H (by simp)
            · rw [if_neg c6] at H
              exact absurd H (by simp)
          · rw [if_neg c5] at H
            exact absurd H (by simp)
        · rw [if_neg c4] at H
          have c4b0 : decide (x13_1 < (l0.length : Int)) = false := decide_eq_false c4
          clear c4
          obtain rfl := Option.some.inj H
          go_wp2
          repeat (go_quiet (fail); try go_wp2)
          go_ret
          exact ⟨by first | rfl | (simp; done) | (simp [*]; done), by repeat (first | exact Drawn0.refl _ | apply Drawn0.step)⟩
  · rw [if_neg c3] at H
    have c3b0 : ((l0.length : Int) == (l1.length : Int)) = false := beq_eq_false_iff_ne.mpr c3
    have c3b1 : ((l0.length : Int) != (l1.length : Int)) = true := bne_iff_ne.mpr c3
    have c3b2 : (l0.length == l1.length) = false := by first | simpa using c3 | (simp at c3 ⊢; omega)
    obtain rfl := Option.some.inj H
    go_enter Tryd.func72, Tryd.ntmps72
    go_wp2
    repeat (go_quiet (fail); try go_wp2)
    go_ret
    exact ⟨by first | rfl | (simp; done) | (simp [*]; done), by repeat (first | exact Drawn0.refl _ | apply Drawn0.step)⟩
end Go.Proofs.YtiohiiekaofkbaaDoor.PNamesBack
/- Are locals right: slices.ContainsFunc and IndexFunc of locals; are locals the same: slices.EqualFunc. -/
namespace Go.Proofs.YtiohiiekaofkbaaDoor
set_option linter.unusedVariables false
set_option linter.unusedSimpArgs false
open Go.RowKit Go.Proofs.YtiohiiekaofkbaaDoor.PNamesBack Go.Proofs.YtiohiiekaofkbaaDoorW.PrintWords
set_option maxRecDepth 100000 in
set_option maxHeartbeats 4000000 in
theorem indexLocal_walk (A : Option Addr) (c : Nat) (l : List S109) (w : World) (hC : Kd.C k109 w A l.length l) (hlen : l.length ≤ 1000000000) (hs : Short l) :
    Calls Tryd.prog 129 #[.slice A l.length c, .func (.func 78) #[] #[]] w fun e w' => ∃ r, e = .returned (.int .i64 r) ∧ firstN (lNamed l) l.length r ∧ Below w.heap.size w w' := by
  have hu := Tryd.underlying109
  have HC := hid hC
  have HS := hid hs
  clear hC hs
  go_enter Tryd.func129, Tryd.ntmps129
  go_wp2
  go_loopw [5, 8] (fun _ v8 wr => ∃ i : Nat, v8 = .int .i64 i ∧ i ≤ l.length ∧ Hid (allB (lNamed l) i = true) ∧ w.heap.size ≤ wr.heap.size ∧ Hid (Below w.heap.size w wr)) (fun _ v8 _ => l.length - (intOf v8).toNat)
  case atStart => exact ⟨0, by go_num, by omega, hid rfl, Nat.le_refl _, Below.refl _ _⟩
  case round =>
    obtain ⟨i, rfl, hi1, HA, hsz, HB⟩ := hrel
    by_cases hlt : i < l.length
    · have hcr := Kd.C_below HC.out HB.out
      obtain ⟨ad, A1, c1, rfl, e1, e2, l1, g1⟩ := at_T109 hcr (i : Int) (by omega) (by omega)
      rw [Int.toNat_natCast] at e1 e2
      clear hcr
      have hR := right1_walk (rd_T109 l i).f0 A1 c1 (rd_T109 l i).f1 wr g1 (HS.out i hlt).1 (HS.out i hlt).2
      clear g1
      rcases hv : lNamed l i with _ | _
      · have HV := hid hv
        have hv2 : named (rd_T109 l i).f1 = false := hv
        rw [hv2] at hR
        have HR := hid hR
        clear hv hR hv2
        go_wp2_with (first | (go_at_call 78; refine HR.out.mono ?_; rintro e w' ⟨rfl, hb1⟩; (first | have hq1 := hz1 | have hq1 := True.intro); (first | have hq0 := hz0 | have hq0 := True.intro); obtain ⟨hcc, hff⟩ := bcell hb1; have hz1 := hb1.size; (try simp at hz1); (try have hy1 := Nat.lt_of_lt_of_le hq1 hz1); (try have hy0 := Nat.lt_of_lt_of_le hq0 hz1); (try replace hz1 := Nat.lt_of_succ_le hz1); (try have hz0 := Nat.lt_of_succ_lt hz1)))
        go_ret
        exact ⟨i, rfl, .inr ⟨allB_not hlt HV.out, by omega⟩, HB.out.trans (hb1.mono hsz)⟩
      · have HV := hid hv
        have hv2 : named (rd_T109 l i).f1 = true := hv
        rw [hv2] at hR
        have HR := hid hR
        clear hv hR hv2
        go_wp2_with (first | (go_at_call 78; refine HR.out.mono ?_; rintro e w' ⟨rfl, hb1⟩; (first | have hq1 := hz1 | have hq1 := True.intro); (first | have hq0 := hz0 | have hq0 := True.intro); obtain ⟨hcc, hff⟩ := bcell hb1; have hz1 := hb1.size; (try simp at hz1); (try have hy1 := Nat.lt_of_lt_of_le hq1 hz1); (try have hy0 := Nat.lt_of_lt_of_le hq0 hz1); (try replace hz1 := Nat.lt_of_succ_le hz1); (try have hz0 := Nat.lt_of_succ_lt hz1)))
        go_roundw
        case rel => exact ⟨i + 1, by go_num, by omega, hid (by rw [allB, HA.out, HV.out]; rfl), by omega, HB.out.trans (hb1.mono hsz)⟩
        case measure => simp [intOf]; omega
    · go_wp2
      go_ret
      exact ⟨-1, rfl, .inl ⟨by rw [show l.length = i by omega]; exact HA.out, rfl⟩, HB.out⟩
set_option maxRecDepth 100000 in
set_option maxHeartbeats 4000000 in
theorem containsLocal_walk (A : Option Addr) (c : Nat) (l : List S109) (w : World) (hC : Kd.C k109 w A l.length l) (hlen : l.length ≤ 1000000000) (hs : Short l) :
    Calls Tryd.prog 77 #[.slice A l.length c, .func (.func 78) #[] #[]] w fun e w' => e = .returned (.bool (!(allB (lNamed l) l.length))) ∧ Below w.heap.size w w' := by
  have HI := hid (fun W (h : Kd.C k109 W A l.length l) => indexLocal_walk A c l W h hlen hs)
  have HC := hid hC
  clear hC hs
  go_enter Tryd.func77, Tryd.ntmps77
  go_wp2_with (first | (go_at_call 129; refine (HI.out _ HC.out).mono ?_; rintro e w' ⟨r, rfl, hr, hb1⟩; have HR := hid hr; clear hr; (first | have hq1 := hz1 | have hq1 := True.intro); (first | have hq0 := hz0 | have hq0 := True.intro); obtain ⟨hcc, hff⟩ := bcell hb1; have hz1 := hb1.size; (try simp at hz1); (try have hy1 := Nat.lt_of_lt_of_le hq1 hz1); (try have hy0 := Nat.lt_of_lt_of_le hq0 hz1); (try replace hz1 := Nat.lt_of_succ_le hz1); (try have hz0 := Nat.lt_of_succ_lt hz1)))
  go_ret
  refine ⟨ret_bool ?_, hb1⟩
  rcases HR.out with ⟨h1, h2⟩ | ⟨h1, h2⟩
  · subst h2; rw [h1]; rfl
  · rw [h1]; simp; omega
def nEqAt (l o : List S121) (i : Nat) : Bool := ((rd_T121 l i).f0 == (rd_T121 o i).f0) && ((rd_T121 l i).f1.toList == (rd_T121 o i).f1.toList)
def nEq (l o : List S121) : Bool := decide (l.length = o.length) && allB (nEqAt l o) l.length
theorem nEq_loop (l o : List S121) (hl : l.length = o.length) (hm : l.length ≤ 1000000000) (d : Nat) : ∀ i : Nat, i + d = l.length → ∀ k, d < k → allB (nEqAt l o) i = true → names_Name_72.l0 k l o l.length i = some (allB (nEqAt l o) l.length) := by
  induction d with
  | zero =>
    intro i hi k hk hA
    obtain ⟨k, rfl⟩ : ∃ m, k = m + 1 := ⟨k - 1, by omega⟩
    simp only [names_Name_72.l0]
    rw [if_neg (by omega), ← hA, show i = l.length by omega]
  | succ d ih =>
    intro i hi k hk hA
    obtain ⟨k, rfl⟩ : ∃ m, k = m + 1 := ⟨k - 1, by omega⟩
    simp only [names_Name_72.l0]
    rw [if_pos (by omega), if_pos (by omega), if_pos (by omega), if_pos (by omega)]
    rcases hv : nEqAt l o i with _ | _
    · rw [allB_not (by omega : i < l.length) hv]
      have hv2 : (!((rd_T121 l i).f0 == (rd_T121 o i).f0) || !((rd_T121 l i).f1.toList == (rd_T121 o i).f1.toList)) = true := by
        rw [← Bool.not_and, Bool.not_eq_true']; exact hv
      rw [if_pos hv2]
    · have hv2 : ¬ (!((rd_T121 l i).f0 == (rd_T121 o i).f0) || !((rd_T121 l i).f1.toList == (rd_T121 o i).f1.toList)) = true := by
        rw [← Bool.not_and, Bool.not_eq_true', Bool.not_eq_false]; exact hv
      rw [if_neg hv2, show wrap64 ((i : Int) + 1) = ((i + 1 : Nat) : Int) by unfold wrap64; omega]
      exact ih (i + 1) (by omega) k (by omega) (by rw [allB, hA, hv]; rfl)
theorem nEq_some (l o : List S121) (hm : l.length ≤ 1000000000) : names_Name_72.f (l.length + 1) l o = some (nEq l o) := by
  unfold names_Name_72.f nEq
  by_cases h : l.length = o.length
  · rw [if_pos (by omega), decide_eq_true h, Bool.true_and]
    exact nEq_loop l o h hm l.length 0 (by omega) _ (by omega) rfl
  · rw [if_neg (by omega), decide_eq_false h, Bool.false_and]
theorem equalName_walk (A : Option Addr) (c : Nat) (l : List S121) (B : Option Addr) (d : Nat) (o : List S121) (w : World) (hA : Kd.C k121 w A l.length l) (hc : l.length ≤ c) (hB : Kd.C k121 w B o.length o) (hd : o.length ≤ d) (hm : l.length ≤ 1000000000) :
    Calls Tryd.prog 72 #[.slice A l.length c, .slice B o.length d] w fun e w' => e = .returned (.bool (nEq l o)) ∧ Below w.heap.size w w' :=
  (names_Name_72.calls _ A c l B d o _ w hA hc hB hd (nEq_some l o hm)).mono fun _ _ ⟨h1, h2⟩ => ⟨h1, h2.below⟩
def lEqAt (l o : List S109) (i : Nat) : Bool := ((rd_T109 l i).f0 == (rd_T109 o i).f0) && nEq (rd_T109 l i).f1 (rd_T109 o i).f1
def lEq (l o : List S109) : Bool := decide (l.length = o.length) && allB (lEqAt l o) l.length
set_option maxRecDepth 100000 in
set_option maxHeartbeats 4000000 in
theorem lsame_walk (a : Int) (A : Option Addr) (c : Nat) (l : List S121) (b : Int) (B : Option Addr) (d : Nat) (o : List S121) (w : World) (hA : Kd.C k121 w A l.length l) (hc : l.length ≤ c) (hB : Kd.C k121 w B o.length o) (hd : o.length ≤ d) (hm : l.length ≤ 1000000000) :
    Calls Tryd.prog 74 #[.agg #[.int .u32 a, .slice A l.length c], .agg #[.int .u32 b, .slice B o.length d]] w fun e w' => e = .returned (.bool ((a == b) && nEq l o)) ∧ Below w.heap.size w w' := by
  have hu := Tryd.underlying109
  have HI := hid (fun W (h : Below w.heap.size w W) => equalName_walk A c l B d o W (Kd.C_below hA h) hc (Kd.C_below hB h) hd hm)
  clear hA hB
  by_cases hab : a = b
  · subst hab
    go_enter Tryd.func74, Tryd.ntmps74
    go_wp2_with (first | (go_at_call 72; refine (HI.out _ bel).mono ?_; rintro e w' ⟨rfl, hb1⟩; (first | have hq1 := hz1 | have hq1 := True.intro); (first | have hq0 := hz0 | have hq0 := True.intro); obtain ⟨hcc, hff⟩ := bcell hb1; have hz1 := hb1.size; (try simp at hz1); (try have hy1 := Nat.lt_of_lt_of_le hq1 hz1); (try have hy0 := Nat.lt_of_lt_of_le hq0 hz1); (try replace hz1 := Nat.lt_of_succ_le hz1); (try have hz0 := Nat.lt_of_succ_lt hz1)))
    go_ret
    exact ⟨ret_bool (by simp), bel⟩
  · have hab2 : (a == b) = false := by simpa using hab
    go_enter Tryd.func74, Tryd.ntmps74
    go_wp2_with (first | (go_at_call 72; refine (HI.out _ bel).mono ?_; rintro e w' ⟨rfl, hb1⟩; (first | have hq1 := hz1 | have hq1 := True.intro); (first | have hq0 := hz0 | have hq0 := True.intro); obtain ⟨hcc, hff⟩ := bcell hb1; have hz1 := hb1.size; (try simp at hz1); (try have hy1 := Nat.lt_of_lt_of_le hq1 hz1); (try have hy0 := Nat.lt_of_lt_of_le hq0 hz1); (try replace hz1 := Nat.lt_of_succ_le hz1); (try have hz0 := Nat.lt_of_succ_lt hz1)))
    go_ret
    exact ⟨ret_bool (by simp [hab]), bel⟩
end Go.Proofs.YtiohiiekaofkbaaDoor
/- Are names the same: names.Same, slices.EqualFunc of locals. -/
namespace Go.Proofs.YtiohiiekaofkbaaDoor
set_option linter.unusedVariables false
set_option linter.unusedSimpArgs false
open Go.RowKit Go.Proofs.YtiohiiekaofkbaaDoor.PNamesBack Go.Proofs.YtiohiiekaofkbaaDoorW.PrintWords
theorem cell_ltM {w : World} {p : Addr} {v : Value} (h : w.cell? p = some v) : p.block < w.heap.size := World.block_lt_of_cell? w p h
set_option maxRecDepth 100000 in
set_option maxHeartbeats 4000000 in
theorem equalLocal_walk (A : Option Addr) (c : Nat) (l : List S109) (B : Option Addr) (d : Nat) (o : List S109) (w : World) (hA : Kd.C k109 w A l.length l) (hc : l.length ≤ c) (hB : Kd.C k109 w B o.length o) (hd : o.length ≤ d) (hm : l.length ≤ 1000000000) (hs : ∀ i : Nat, i < l.length → (rd_T109 l i).f1.length ≤ 1000000000) :
    Calls Tryd.prog 73 #[.slice A l.length c, .slice B o.length d, .func (.func 74) #[] #[]] w fun e w' => e = .returned (.bool (lEq l o)) ∧ Below w.heap.size w w' := by
  have hu := Tryd.underlying109
  have HA := hid hA
  have HB := hid hB
  have HS := hid hs
  have HCD := hid (And.intro hc hd)
  clear hA hB hs hc hd
  by_cases hn : l.length = o.length
  · rw [← hn] at HB HCD ⊢
    have HN := hid hn
    have hE : lEq l o = allB (lEqAt l o) l.length := by rw [lEq, decide_eq_true hn, Bool.true_and]
    rw [hE]
    clear hn hE
    go_enter Tryd.func73, Tryd.ntmps73
    go_wp2
    go_loopw [17] (fun v17 wr => ∃ i : Nat, v17 = .int .i64 i ∧ i ≤ l.length ∧ Hid (allB (lEqAt l o) i = true) ∧ w.heap.size ≤ wr.heap.size ∧ Hid (Below w.heap.size w wr)) (fun v17 _ => l.length - (intOf v17).toNat)
    case atStart => exact ⟨0, by go_num, by omega, hid rfl, Nat.le_refl _, Below.refl _ _⟩
    case round =>
      obtain ⟨i, rfl, hi1, HI, hsz, HW⟩ := hrel
      by_cases hlt : i < l.length
      · have hca := Kd.C_below HA.out HW.out
        have hcb := Kd.C_below HB.out HW.out
        obtain ⟨ad, A1, c1, rfl, e1, e2, l1, g1⟩ := at_T109 hca (i : Int) (by omega) (by omega)
        obtain ⟨bd, A2, c2, rfl, e3, e4, l2, g2⟩ := at_T109 hcb (i : Int) (by omega) (by omega)
        rw [Int.toNat_natCast] at e1 e2 e3 e4
        clear hca hcb
        have HR := hid (fun W (h : Below wr.heap.size wr W) => lsame_walk (rd_T109 l i).f0 A1 c1 (rd_T109 l i).f1 (rd_T109 o i).f0 A2 c2 (rd_T109 o i).f1 W (Kd.C_below g1 h) l1 (Kd.C_below g2 h) l2 (HS.out i hlt))
        clear g1 g2
        have q1 := cell_ltM e1
        have q3 := cell_ltM e3
        rcases hv : lEqAt l o i with _ | _
        · have HV := hid hv
          have hv2 : (((rd_T109 l i).f0 == (rd_T109 o i).f0) && nEq (rd_T109 l i).f1 (rd_T109 o i).f1) = false := hv
          rw [hv2] at HR
          clear hv hv2
          go_wp2_with (first | (go_at_call 74; refine (HR.out _ bel).mono ?_; rintro e w' ⟨rfl, hb1⟩; (first | have hq1 := hz1 | have hq1 := True.intro); (first | have hq0 := hz0 | have hq0 := True.intro); obtain ⟨hcc, hff⟩ := bcell hb1; have hz1 := hb1.size; (try simp at hz1); (try have hy1 := Nat.lt_of_lt_of_le hq1 hz1); (try have hy0 := Nat.lt_of_lt_of_le hq0 hz1); (try replace hz1 := Nat.lt_of_succ_le hz1); (try have hz0 := Nat.lt_of_succ_lt hz1)))
          go_ret
          exact ⟨ret_bool (allB_not hlt HV.out).symm, HW.out.trans ((bel : Below wr.heap.size wr _).mono hsz)⟩
        · have HV := hid hv
          have hv2 : (((rd_T109 l i).f0 == (rd_T109 o i).f0) && nEq (rd_T109 l i).f1 (rd_T109 o i).f1) = true := hv
          rw [hv2] at HR
          clear hv hv2
          go_wp2_with (first | (go_at_call 74; refine (HR.out _ bel).mono ?_; rintro e w' ⟨rfl, hb1⟩; (first | have hq1 := hz1 | have hq1 := True.intro); (first | have hq0 := hz0 | have hq0 := True.intro); obtain ⟨hcc, hff⟩ := bcell hb1; have hz1 := hb1.size; (try simp at hz1); (try have hy1 := Nat.lt_of_lt_of_le hq1 hz1); (try have hy0 := Nat.lt_of_lt_of_le hq0 hz1); (try replace hz1 := Nat.lt_of_succ_le hz1); (try have hz0 := Nat.lt_of_succ_lt hz1)))
          go_roundw
          case rel => exact ⟨i + 1, by go_num, by omega, hid (by rw [allB, HI.out, HV.out]; rfl), by omega, HW.out.trans ((bel : Below wr.heap.size wr _).mono hsz)⟩
          case measure => simp [intOf]; omega
      · go_wp2
        go_ret
        refine ⟨ret_bool ?_, HW.out⟩
        rw [show l.length = i by omega]; exact HI.out.symm
  · have hn3 : ¬ (l.length : Int) = (o.length : Int) := by omega
    go_enter Tryd.func73, Tryd.ntmps73
    go_wp2
    go_ret
    exact ⟨ret_bool (by simp [lEq, hn]), Below.refl _ _⟩
structure Ns where
  hm : Bool
  hf : Bool
  hl : Bool
  md : ByteArray
  fs : List S121
  ls : List S109
def Ns.small (x : Ns) : Prop := x.md.size ≤ 1000000000 ∧ x.fs.length ≤ 1000000000 ∧ x.ls.length ≤ 1000000000 ∧ (∀ i : Nat, i < x.fs.length → (rd_T121 x.fs i).f1.size ≤ 1000000000) ∧ Short x.ls
def Ns.at (x : Ns) (A : Option Addr) (c : Nat) (B : Option Addr) (d : Nat) (w : World) : Prop := Kd.C k121 w A x.fs.length x.fs ∧ x.fs.length ≤ c ∧ Kd.C k109 w B x.ls.length x.ls ∧ x.ls.length ≤ d
theorem Ns.at.below {x : Ns} {A : Option Addr} {c : Nat} {B : Option Addr} {d : Nat} {w W : World} (h : x.at A c B d w) (hb : Below w.heap.size w W) : x.at A c B d W := ⟨Kd.C_below h.1 hb, h.2.1, Kd.C_below h.2.2.1 hb, h.2.2.2⟩
def sameB (x y : Ns) : Bool := (x.hm == y.hm) && (x.hf == y.hf) && (x.hl == y.hl) && (x.md.toList == y.md.toList) && nEq x.fs y.fs && lEq x.ls y.ls
set_option maxRecDepth 100000 in
set_option maxHeartbeats 4000000 in
theorem same_walk (x y : Ns) (A : Option Addr) (c : Nat) (B : Option Addr) (d : Nat) (A' : Option Addr) (c' : Nat) (B' : Option Addr) (d' : Nat) (w : World) (hx : x.at A c B d w) (hy : y.at A' c' B' d' w) (hs : x.small) :
    Calls Tryd.prog 15 #[.agg #[.bool x.hm, .bool x.hf, .bool x.hl, .string x.md, .slice A x.fs.length c, .slice B x.ls.length d], .agg #[.bool y.hm, .bool y.hf, .bool y.hl, .string y.md, .slice A' y.fs.length c', .slice B' y.ls.length d']] w fun e w' => e = .returned (.bool (sameB x y)) ∧ Below w.heap.size w w' := by
  have hu := Tryd.underlying33
  have HE := hid (fun W (h : Below w.heap.size w W) => equalName_walk A c x.fs A' c' y.fs W (hx.below h).1 hx.2.1 (hy.below h).1 hy.2.1 hs.2.1)
  have HL := hid (fun W (h : Below w.heap.size w W) => equalLocal_walk B d x.ls B' d' y.ls W (hx.below h).2.2.1 hx.2.2.2 (hy.below h).2.2.1 hy.2.2.2 hs.2.2.1 (fun i hi => (hs.2.2.2.2 i hi).1))
  clear hx hy hs
  obtain ⟨b1, b2, b3, m, f, l⟩ := x
  obtain ⟨b1', b2', b3', m', f', l'⟩ := y
  dsimp only at HE HL ⊢
  have HS : Hid (sameB ⟨b1, b2, b3, m, f, l⟩ ⟨b1', b2', b3', m', f', l'⟩ = ((b1 == b1') && (b2 == b2') && (b3 == b3') && (m.toList == m'.toList) && nEq f f' && lEq l l')) := rfl
  go_enter Tryd.func15, Tryd.ntmps15
  go_upto_region 1 with (fail)
  go_cut [5] (fun s5 wx => s5 = .bool ((b1 == b1') && (b2 == b2') && (b3 == b3')) ∧ wx = (w.alloc (.cells #[.bool b1, .bool b2, .bool b3, .string m, .slice A f.length c, .slice B l.length d] 33)).alloc (.cells #[.bool b1', .bool b2', .bool b3', .string m', .slice A' f'.length c', .slice B' l'.length d'] 33))
  case first =>
    cases b1 <;> cases b1' <;> cases b2 <;> cases b2' <;> cases b3 <;> cases b3' <;> (go_wp2; go_meet; exact ⟨rfl, rfl⟩)
  case rest =>
    obtain ⟨rfl, rfl⟩ := hcut
    have hB1 : Below w.heap.size w ((w.alloc (.cells #[.bool b1, .bool b2, .bool b3, .string m, .slice A f.length c, .slice B l.length d] 33)).alloc (.cells #[.bool b1', .bool b2', .bool b3', .string m', .slice A' f'.length c', .slice B' l'.length d'] 33)) := bel
    have HB1 := hid hB1
    clear hB1
    rcases hp : ((b1 == b1') && (b2 == b2') && (b3 == b3')) with _ | _
    · rw [hp, Bool.false_and, Bool.false_and, Bool.false_and] at HS
      clear hp
      go_wp2
      go_ret
      exact ⟨ret_bool HS.out.symm, HB1.out⟩
    · rw [hp, Bool.true_and] at HS
      clear hp
      rcases hm : (m.toList == m'.toList) with _ | _
      · rw [hm, Bool.false_and, Bool.false_and] at HS
        go_wp2
        go_ret
        exact ⟨ret_bool HS.out.symm, HB1.out⟩
      · rw [hm, Bool.true_and] at HS
        rcases hn : nEq f f' with _ | _
        · rw [hn, Bool.false_and] at HS
          rw [hn] at HE
          clear hn
          go_wp2_with (first | (go_at_call 72; refine (HE.out _ HB1.out).mono ?_; rintro e w' ⟨rfl, hb1⟩))
          go_ret
          exact ⟨ret_bool HS.out.symm, HB1.out.trans (hb1.mono HB1.out.size)⟩
        · rw [hn, Bool.true_and] at HS
          rw [hn] at HE
          clear hn
          go_wp2_with (first | (go_at_call 72; refine (HE.out _ HB1.out).mono ?_; rintro e w' ⟨rfl, hb1⟩; have HB2 := hid (HB1.out.trans (hb1.mono HB1.out.size)); (first | have hq1 := hz1 | have hq1 := True.intro); (first | have hq0 := hz0 | have hq0 := True.intro); obtain ⟨hcc, hff⟩ := bcell hb1; have hz1 := hb1.size; (try simp at hz1); (try have hy1 := Nat.lt_of_lt_of_le hq1 hz1); (try have hy0 := Nat.lt_of_lt_of_le hq0 hz1); (try replace hz1 := Nat.lt_of_succ_le hz1); (try have hz0 := Nat.lt_of_succ_lt hz1)) | (go_at_call 73; refine (HL.out _ HB2.out).mono ?_; rintro e w' ⟨rfl, hb2⟩))
          go_ret
          exact ⟨ret_bool HS.out.symm, HB2.out.trans (hb2.mono HB2.out.size)⟩
end Go.Proofs.YtiohiiekaofkbaaDoor
