/- CursorPlaces: the law's walk. -/
import Derived.Test.YtiohiiekaofkbaaDoorF4
import Derived.Test.YtiohiiekaofkbaaDoorF3
import Derived.Test.YtiohiiekaofkbaaDoorG0
namespace Go.Proofs.YtiohiiekaofkbaaDoor
set_option linter.unusedVariables false
set_option linter.unusedSimpArgs false
open Go.RowKit Go.Proofs.YtiohiiekaofkbaaDoor.PCursorPlaces Go.Proofs.YtiohiiekaofkbaaDoorW.PrintWords

theorem own_bts {w : World} {base : Nat} {v : Value} {l : List Int} (h : Own w base v l) (hb : ∀ x ∈ l, 0 ≤ x ∧ x < 256) : ∃ A c, v = .slice A l.length c ∧ Bts w A c l := by
  have h2 := h.2
  rcases h2 with ⟨e, hn⟩ | ⟨g, cap, cur, e, hg, hh, hc, hm, hs, ht⟩
  · have hl : l = [] := List.eq_nil_of_length_eq_zero hn
    subst hl
    exact ⟨none, 0, e, .inl rfl, fun ad e => (by cases e), by simp, fun _ => rfl, hb⟩
  · refine ⟨some ⟨g, 0, none⟩, cap, e, .inr ⟨_, rfl, fun j x hj => ?_⟩, fun ad e => ?_, hc, fun e => (by cases e), hb⟩
    · exact World.ownsRow.cells h (by rw [e]; rfl) j (.int .u8 x) (by rw [bv, List.getElem?_map, hj]; rfl)
    · cases e
      exact (Array.getElem?_eq_some_iff.1 hh).1
theorem Bts.src {w : World} {A : Option Addr} {c : Nat} {l : List Int} (h : Bts w A c l) (B : Nat) (hB : ∀ ad, A = some ad → ad.block < B) : Src w B A c l := by
  rcases A with _ | ad
  · have hc := h.nil rfl
    have := h.cap
    exact .inl ⟨rfl, hc, List.eq_nil_of_length_eq_zero (by omega)⟩
  · refine .inr ⟨ad, rfl, fun _ => hB ad rfl, fun j u hj => ?_⟩
    rw [bv, List.getElem?_map] at hj
    rcases hx : l[j]? with _ | x
    · rw [hx] at hj; cases hj
    · rw [hx] at hj; cases hj
      rcases h.at_ with q | ⟨ad', e, q⟩
      · rw [q] at hx; simp at hx
      · cases e; exact q j x hx
theorem Bts.take {w : World} {A : Option Addr} {c : Nat} {l : List Int} (h : Bts w A c l) (n : Nat) : Bts w A c (l.take n) := by
  refine ⟨?_, h.lt, by rw [List.length_take]; have := h.cap; omega, h.nil, fun x hx => h.b8 x (List.mem_of_mem_take hx)⟩
  rcases h.at_ with q | ⟨ad, e, q⟩
  · exact .inl (by rw [q]; simp)
  · refine .inr ⟨ad, e, fun j x hj => q j x ?_⟩
    rw [List.getElem?_take] at hj
    split at hj
    · exact hj
    · cases hj
theorem wpList_append_srcN {P : Program} {w : World} {ops : Array Oper} {rest : List Oper} {o : Oper} {a : Act} {Q : Exit → Act → World → Prop} (hgd : o.guard = none) (s x : Operand) (t : TypeId)
    (ho : o.op = .call { callee := .builtin .append, args := #[s, x], argTypes := #[t, t] })
    (base : Nat) (e : TypeId) (i : TypeInfo) (z : Value) (ht : P.underlying t = some (.slice e)) (hi : P.info? e = some i) (hz : i.zero = some z)
    (hsize : i.size = 1) (hby : i.bytes = 1) (hzs : z.cells.size = 1)
    (v : Value) (n : Nat) (xs : List Value) (hs : a.eval s = v) (hown : w.ownsRow base e 1 v n xs)
    (B : Nat) (A : Option Addr) (c k : Nat) (l : List Int) (hk : l.length = k) (hx : a.eval x = .slice A k c) (hsrc : Src w B A c l)
    (hlen : n + l.length ≤ 1000000000) (hbase : base ≤ w.heap.size)
    (h : ∀ v' w', w'.ownsRow base e 1 v' (n + l.length) (xs ++ bv l) → w.grownBy w' v.ownBlock → wpList P ops Q rest (a.put o.dst v') w') : wpList P ops Q (o :: rest) a w := by
  subst hk
  exact wpList_append_src hgd s x t ho base e i z ht hi hz hsize hby hzs v n xs hs hown B A c l hx hsrc hlen hbase h
/-- the numbers are of their kinds -/
structure TypA (x : S154) : Prop where
  u8 : 0 ≤ x.f0 ∧ x.f0 < 256
  n : -9223372036854775808 ≤ x.f1 ∧ x.f1 ≤ 9223372036854775807
  lo : 0 ≤ x.f4.f1 ∧ x.f4.f1 ≤ 18446744073709551615
  hi : 0 ≤ x.f4.f2 ∧ x.f4.f2 ≤ 18446744073709551615
  mi : x.f4.f3.f1 ≤ 9223372036854775807
  mo : x.f4.f4.f1 ≤ 9223372036854775807
  mb : x.f4.f5.f1 ≤ 9223372036854775807
  pl : x.f4.f6.length ≤ 10000000000000
  pk : ∀ y ∈ x.f4.f6, 0 ≤ y.f0 ∧ y.f0 ≤ 18446744073709551615
theorem fine_of {x : S154} (h : CondA x) (t : TypA x) : FineA x :=
  ⟨t.u8, t.n, fun hq => ⟨t.lo, t.hi, (h.q hq).1, (h.q hq).2.1, h.b, t.mi, t.mo, t.mb, (h.q hq).2.2.1, fun y hy => ⟨(h.q hq).2.2.2 y hy, t.pk y hy⟩⟩, h.s, h.b, t.mb⟩
def PLaw (w : World) (e : Ending) (w' : World) : Prop := e = .returned (.bool true) ∧ Below w.heap.size w w'
set_option maxRecDepth 100000 in
set_option maxHeartbeats 8000000 in
theorem places_some (ad : Addr) (c : Nat) (l : List Int) (A1 : Option Addr) (c1 : Nat) (xs : List S154) (A2 : Option Addr) (c2 : Nat) (ml : List Int) (w : World) (hB : Bts w (some ad) c l) (hM : Bts w A2 c2 ml) (hA : AsksAt w A1 xs) (hc1 : xs.length ≤ c1) (hT : ∀ x ∈ xs, TypA x) (hxl : xs.length ≤ 10000000000000) (hl : l.length ≤ 1000000000000000) (hml : ml.length ≤ 1000000000000000) (hG : Glob w) :
    Calls Tryd.prog 6 #[.slice (some ad) l.length c, .slice A1 xs.length c1, .slice A2 ml.length c2] w (PLaw w) := by
  by_cases h600 : 600 < (l.length : Int)
  · go_enter Tryd.func6, Tryd.ntmps6
    go_wp2
    go_ret
    exact ⟨rfl, (by repeat (first | exact Below.refl _ _ | assumption | refine Below.alloc ?_ (by first | exact Nat.le_refl _ | (simp; done) | (simp; omega) | omega) _ | refine Below.drew ?_ | refine Below.setCell ?_ (by first | exact Nat.le_refl _ | (simp; done) | (simp; omega) | omega) _ | refine below_call ?_ (by assumption) (by first | exact Nat.le_refl _ | (simp; done) | (simp; omega) | omega)))⟩
  by_cases h60 : 60 < (ml.length : Int)
  · go_enter Tryd.func6, Tryd.ntmps6
    go_wp2
    go_ret
    exact ⟨rfl, (by repeat (first | exact Below.refl _ _ | assumption | refine Below.alloc ?_ (by first | exact Nat.le_refl _ | (simp; done) | (simp; omega) | omega) _ | refine Below.drew ?_ | refine Below.setCell ?_ (by first | exact Nat.le_refl _ | (simp; done) | (simp; omega) | omega) _ | refine below_call ?_ (by assumption) (by first | exact Nat.le_refl _ | (simp; done) | (simp; omega) | omega)))⟩
  have HFI := hid (fun W (hb : Below w.heap.size w W) => fine_walk A1 c1 xs W (hA.below hb) hxl (fun x hx => (hT x hx).u8.1) (fun x hx => (hT x hx).pl))
  have HB := hid hB
  have HM := hid hM
  have HA := hid hA
  have HT := hid hT
  have HG := hid hG
  have hmf : ∀ (fn : Fn) (first cap : Array Value) (w : World), (Instr.makeFunc fn first cap).run Tryd.prog w = .ok (.func fn first cap) w := fun _ _ _ _ => rfl
  have HE : Enters 54 := enters Tryd.func54 (by kernel_rfl) rfl
  have hPL := places_plain (xs.map askV) l ml
  clear hB hM hA hT hG
  go_enter Tryd.func6, Tryd.ntmps6
  go_upto_region 4 with (first | (go_at_call 53; (with_reducible refine (HFI.out _ (by repeat (first | exact Below.refl _ _ | assumption | refine Below.alloc ?_ (by first | exact Nat.le_refl _ | (simp; done) | (simp; omega) | omega) _ | refine Below.drew ?_ | refine Below.setCell ?_ (by first | exact Nat.le_refl _ | (simp; done) | (simp; omega) | omega) _ | refine below_call ?_ (by assumption) (by first | exact Nat.le_refl _ | (simp; done) | (simp; omega) | omega)))).mono ?_); rintro e w1 ⟨⟨b, rfl, hb⟩, hb1⟩; rcases b with _ | _))
  · go_ret
    exact ⟨rfl, Below.trans (by repeat (first | exact Below.refl _ _ | assumption | refine Below.alloc ?_ (by first | exact Nat.le_refl _ | (simp; done) | (simp; omega) | omega) _ | refine Below.drew ?_ | refine Below.setCell ?_ (by first | exact Nat.le_refl _ | (simp; done) | (simp; omega) | omega) _ | refine below_call ?_ (by assumption) (by first | exact Nat.le_refl _ | (simp; done) | (simp; omega) | omega))) (hb1.mono (by simp))⟩
  obtain ⟨hx30, hcond⟩ := hb (by first | rfl | trivial)
  obtain ⟨i0, hi0, hz0, hz1, hz2⟩ := info_parts info5
  have hbw : Below w.heap.size w w1 := Below.trans ((by repeat (first | exact Below.refl _ _ | assumption | refine Below.alloc ?_ (by first | exact Nat.le_refl _ | (simp; done) | (simp; omega) | omega) _ | refine Below.drew ?_ | refine Below.setCell ?_ (by first | exact Nat.le_refl _ | (simp; done) | (simp; omega) | omega) _ | refine below_call ?_ (by assumption) (by first | exact Nat.le_refl _ | (simp; done) | (simp; omega) | omega))) : Below w.heap.size w (w.alloc (.cells #[.slice A1 xs.length c1] 93))) (hb1.mono (by simp))
  have hLc : w1.cell? ⟨w.heap.size, 0, none⟩ = some (.slice A1 xs.length c1) := still hb1 (by go_simp)
  have HX1 := hid (show Asks w1 w.heap.size A1 c1 xs from ⟨hLc, hc1, HA.out.below hbw, fun x hx => fine_of (hcond x hx) (HT.out x hx), hx30⟩)
  have HB1 := hid (HB.out.below hbw)
  have HM1 := hid (HM.out.below hbw)
  have HG1 := hid (HG.out.of hbw)
  have hzw : w.heap.size ≤ w1.heap.size := hbw.size
  have HBW := hid hbw
  have HCP := hid (fun (W : World) (hb : Below w1.heap.size w1 W) A' c' l' (hB : Bts W A' c' l') (hl' : l'.length ≤ 1000) => cp1_walk A' c' l' w.heap.size A1 c1 xs W hB hl' (HX1.out.below hb) (HG1.out.of hb))
  have HAW := hid (fun (W : World) (hb : Below w1.heap.size w1 W) => awake04_walk W (HG1.out.of hb))
  have hl6 : l.length ≤ 600 := by omega
  have hm6 : ml.length ≤ 60 := by omega
  clear hb hcond hb1 hbw hLc HFI HB HM HA HT HG HX1
  have hPL' := hPL
  rw [show askM (xs.map askV) (-1) 0 l = askR xs l from rfl] at hPL'
  have HC1 := hid (HCP.out w1 (Below.refl _ _) (some ad) c l HB1.out (by omega))
  rcases hr : askR xs l with ⟨s, er⟩ | ⟨u, p⟩
  · rw [hr] at hPL' HC1
    rcases hPL' with ⟨rfl, rfl⟩ | ⟨rfl, s0, s1, h3, e', he', h4⟩
    · rw [show resR (Except.error ((l.length : Int), (1 : Int))) = ((l.length : Int), 1) from rfl] at HC1
      clear hr hPL
      go_wp2_with (first | ((with_reducible refine (HC1.out).mono ?_); rintro e w2 ⟨rfl, hb2⟩; have HB5 := hid hb2) | (go_at_call 57; (with_reducible refine (HAW.out _ HB5.out).mono ?_); rintro e w6 ⟨rfl, hb6⟩; have HB6 := hid (HB5.out.trans (hb6.mono HB5.out.size))))
      go_ret
      exact ⟨rfl, HBW.out.trans (HB6.out.mono HBW.out.size)⟩
    obtain ⟨n, rfl⟩ : ∃ n : Nat, s = n := ⟨s.toNat, by omega⟩
    rw [Int.toNat_natCast] at h4
    obtain ⟨L1, hL1, hn⟩ : ∃ L1, L1 = l.take n ∧ n = L1.length := ⟨_, rfl, by rw [List.length_take]; omega⟩
    rw [← hL1] at h4
    have hL2 : L1.length ≤ l.length := by omega
    have hLc : L1.length ≤ c := by have := HB1.out.cap; omega
    have hlc : l.length ≤ c := HB1.out.cap
    have HB2 := hid (show Bts w1 (some ad) c L1 by rw [hL1]; exact HB1.out.take n)
    subst hn
    have hRL := hid (show resR (askR xs L1) = ((L1.length : Int), e') by rw [show askR xs L1 = .error ((L1.length : Int), e') from h4]; rfl)
    rw [show resR (Except.error ((L1.length : Int), (2 : Int))) = ((L1.length : Int), 2) from rfl] at HC1
    have hw1 : IntKind.i64.wrap ((L1.length : Int) + 1) = (L1.length : Int) + 1 := by rw [IntKind.wrap_i64]; omega
    by_cases ha : (L1.length : Int) + 1 < (l.length : Int)
    · obtain ⟨L4, hL4d⟩ : ∃ L4, L4 = l.take (L1.length + 1) := ⟨_, rfl⟩
      have hL4 : L4.length = L1.length + 1 := by rw [hL4d, List.length_take]; omega
      have HB4b := hid (show Bts w1 (some ad) c L4 by rw [hL4d]; exact HB1.out.take _)
      have hR2 : resR (askR xs (L4 ++ ml)) = ((L1.length : Int), 2) := by
        have := h3 (by omega)
        rw [show ((L1.length : Int) + 1).toNat = L1.length + 1 by omega, ← hL4d] at this
        rw [show askR xs (L4 ++ ml) = .error ((L1.length : Int), 2) from this]; rfl
      have HL4 := hid hL4
      clear hr hL1 hPL s0 h3 h4 hL4d hL4
      go_upto_region 7 with (first | ((with_reducible refine (HC1.out).mono ?_); rintro e w2 ⟨rfl, hb2⟩))
      go_upto_region 12 with (fail)
      have hB3a : Below w1.heap.size w1 (w2.alloc (.cells #[] 5)) := hb2.alloc hb2.size _
      have HO0 := hid (show (w2.alloc (.cells #[] 5)).ownsRow w1.heap.size 5 1 (.slice (some ⟨w2.heap.size, 0, none⟩) 0 0) 0 [] from World.ownsRow_lit w2 #[] 0 hb2.size (by decide) rfl)
      have HS1 := hid ((HB4b.out.src w1.heap.size HB4b.out.lt).below hB3a (Nat.le_refl _))
      have HLN := hid (show L4.length ≤ 700 by have := HL4.out; omega)
      go_wp2_with (first | (at_builtin; refine wpList_append_srcN rfl _ _ 70 rfl w1.heap.size 5 i0 (.int .u8 0) Tryd.underlying70 hi0 hz0 hz1 hz2 rfl _ 0 [] rfl HO0.out w1.heap.size (some ad) c _ L4 HL4.out rfl HS1.out (by have := HLN.out; omega) (by simp; have := hb2.size; omega) ?_))
      intro v1 w3 hown1 hgrow1
      have hB3 : Below w1.heap.size w1 w3 := hB3a.grown hgrow1 hB3a.size (fun k hk => (HO0.out.lt k hk).1)
      have HO1 := hid (show Own w3 w1.heap.size v1 L4 by unfold Own; simpa [bv] using hown1)
      have HS2 := hid ((HM1.out.src w1.heap.size HM1.out.lt).below hB3 (Nat.le_refl _))
      clear hown1 hgrow1 HO0 HS1
      go_wp2_with (first | (at_builtin; refine wpList_append_src rfl _ _ 70 rfl w1.heap.size 5 i0 (.int .u8 0) Tryd.underlying70 hi0 hz0 hz1 hz2 rfl _ L4.length (bv L4) rfl HO1.out w1.heap.size A2 c2 ml rfl HS2.out (by have := HLN.out; omega) hB3.size ?_))
      intro v2 w4 hown2 hgrow2
      have hB4 : Below w1.heap.size w1 w4 := hB3.grown hgrow2 hB3.size (fun k hk => (HO1.out.lt k hk).1)
      have HB4 := hid hB4
      have HO2 := hid (show Own w4 w1.heap.size v2 (L4 ++ ml) by unfold Own; rw [bv_app, List.length_append]; exact hown2)
      obtain ⟨L3, hL3⟩ : ∃ L3, L3 = L4 ++ ml := ⟨_, rfl⟩
      rw [← hL3] at HO2 hR2
      have hL3l : L3.length ≤ 1000 := by rw [hL3, List.length_append]; have := HLN.out; omega
      obtain ⟨A3, c3, rfl, hbts⟩ := own_bts HO2.out (fun x hx => by
        rw [hL3] at hx
        rcases List.mem_append.1 hx with q | q
        · exact HB4b.out.b8 x q
        · exact HM1.out.b8 x q)
      have HC3 := hid (HCP.out w4 hB4 A3 c3 L3 hbts hL3l)
      rw [hR2] at HC3
      clear hown2 hgrow2 HO1 HO2 HS2 hL3 hbts hR2 hB3 hB3a hB4
      go_wp2_with (first | ((with_reducible refine (HC3.out).mono ?_); rintro e w5 ⟨rfl, hb5⟩; have HB5 := hid (HB4.out.trans (hb5.mono HB4.out.size)); have HCL := hid (HCP.out w5 HB5.out (some ad) c L1 (HB2.out.below HB5.out) (by omega)); have HCL := hid (show Calls _ _ _ _ _ from hRL.out ▸ HCL.out)) | (go_at_call 57; (with_reducible refine (HAW.out _ HB7.out).mono ?_); rintro e w6 ⟨rfl, hb6⟩; have HB6 := hid (HB7.out.trans (hb6.mono HB7.out.size))) | ((with_reducible refine (HCL.out).mono ?_); rintro e w7 ⟨rfl, hb7⟩; have HB7 := hid (HB5.out.trans (hb7.mono HB5.out.size))))
      all_goals
        go_ret
        exact ⟨rfl, HBW.out.trans (HB6.out.mono HBW.out.size)⟩
    by_cases hb : (L1.length : Int) + 1 = (l.length : Int)
    · have hR2 : resR (askR xs (l ++ ml)) = ((L1.length : Int), 2) := by
        have := h3 (by omega)
        rw [show ((L1.length : Int) + 1).toNat = l.length by omega, List.take_length] at this
        rw [show askR xs (l ++ ml) = .error ((L1.length : Int), 2) from this]; rfl
      clear hr hL1 hPL s0 h3 h4 ha hw1
      go_upto_region 7 with (first | ((with_reducible refine (HC1.out).mono ?_); rintro e w2 ⟨rfl, hb2⟩))
      go_upto_region 12 with (fail)
      have hB3a : Below w1.heap.size w1 (w2.alloc (.cells #[] 5)) := hb2.alloc hb2.size _
      have HO0 := hid (show (w2.alloc (.cells #[] 5)).ownsRow w1.heap.size 5 1 (.slice (some ⟨w2.heap.size, 0, none⟩) 0 0) 0 [] from World.ownsRow_lit w2 #[] 0 hb2.size (by decide) rfl)
      have HS1 := hid ((HB1.out.src w1.heap.size HB1.out.lt).below hB3a (Nat.le_refl _))
      have HLN := hid (show l.length ≤ 700 by have := (rfl : l.length = l.length); omega)
      go_wp2_with (first | (at_builtin; refine wpList_append_srcN rfl _ _ 70 rfl w1.heap.size 5 i0 (.int .u8 0) Tryd.underlying70 hi0 hz0 hz1 hz2 rfl _ 0 [] rfl HO0.out w1.heap.size (some ad) c _ l (rfl : l.length = l.length) rfl HS1.out (by have := HLN.out; omega) (by simp; have := hb2.size; omega) ?_))
      intro v1 w3 hown1 hgrow1
      have hB3 : Below w1.heap.size w1 w3 := hB3a.grown hgrow1 hB3a.size (fun k hk => (HO0.out.lt k hk).1)
      have HO1 := hid (show Own w3 w1.heap.size v1 l by unfold Own; simpa [bv] using hown1)
      have HS2 := hid ((HM1.out.src w1.heap.size HM1.out.lt).below hB3 (Nat.le_refl _))
      clear hown1 hgrow1 HO0 HS1
      go_wp2_with (first | (at_builtin; refine wpList_append_src rfl _ _ 70 rfl w1.heap.size 5 i0 (.int .u8 0) Tryd.underlying70 hi0 hz0 hz1 hz2 rfl _ l.length (bv l) rfl HO1.out w1.heap.size A2 c2 ml rfl HS2.out (by have := HLN.out; omega) hB3.size ?_))
      intro v2 w4 hown2 hgrow2
      have hB4 : Below w1.heap.size w1 w4 := hB3.grown hgrow2 hB3.size (fun k hk => (HO1.out.lt k hk).1)
      have HB4 := hid hB4
      have HO2 := hid (show Own w4 w1.heap.size v2 (l ++ ml) by unfold Own; rw [bv_app, List.length_append]; exact hown2)
      obtain ⟨L3, hL3⟩ : ∃ L3, L3 = l ++ ml := ⟨_, rfl⟩
      rw [← hL3] at HO2 hR2
      have hL3l : L3.length ≤ 1000 := by rw [hL3, List.length_append]; have := HLN.out; omega
      obtain ⟨A3, c3, rfl, hbts⟩ := own_bts HO2.out (fun x hx => by
        rw [hL3] at hx
        rcases List.mem_append.1 hx with q | q
        · exact HB1.out.b8 x q
        · exact HM1.out.b8 x q)
      have HC3 := hid (HCP.out w4 hB4 A3 c3 L3 hbts hL3l)
      rw [hR2] at HC3
      clear hown2 hgrow2 HO1 HO2 HS2 hL3 hbts hR2 hB3 hB3a hB4
      go_wp2_with (first | ((with_reducible refine (HC3.out).mono ?_); rintro e w5 ⟨rfl, hb5⟩; have HB5 := hid (HB4.out.trans (hb5.mono HB4.out.size)); have HCL := hid (HCP.out w5 HB5.out (some ad) c L1 (HB2.out.below HB5.out) (by omega)); have HCL := hid (show Calls _ _ _ _ _ from hRL.out ▸ HCL.out)) | (go_at_call 57; (with_reducible refine (HAW.out _ HB7.out).mono ?_); rintro e w6 ⟨rfl, hb6⟩; have HB6 := hid (HB7.out.trans (hb6.mono HB7.out.size))) | ((with_reducible refine (HCL.out).mono ?_); rintro e w7 ⟨rfl, hb7⟩; have HB7 := hid (HB5.out.trans (hb7.mono HB5.out.size))))
      all_goals
        go_ret
        exact ⟨rfl, HBW.out.trans (HB6.out.mono HBW.out.size)⟩
    · obtain ⟨x, y, hR2⟩ : ∃ x y, resR (askR xs (l ++ ml)) = (x, y) := ⟨_, _, rfl⟩
      have hle : (L1.length : Int) = (l.length : Int) := by omega
      clear hRL
      have hRL := hid (show resR (askR xs l) = ((l.length : Int), 2) by rw [hr, hle]; rfl)
      rw [hle] at HC1
      have hw1 : IntKind.i64.wrap ((l.length : Int) + 1) = (l.length : Int) + 1 := by rw [IntKind.wrap_i64]; omega
      clear hr hL1 hPL s0 s1 h3 h4 ha hb hle hL2 hLc HB2
      go_upto_region 7 with (first | ((with_reducible refine (HC1.out).mono ?_); rintro e w2 ⟨rfl, hb2⟩))
      go_upto_region 12 with (fail)
      have hB3a : Below w1.heap.size w1 (w2.alloc (.cells #[] 5)) := hb2.alloc hb2.size _
      have HO0 := hid (show (w2.alloc (.cells #[] 5)).ownsRow w1.heap.size 5 1 (.slice (some ⟨w2.heap.size, 0, none⟩) 0 0) 0 [] from World.ownsRow_lit w2 #[] 0 hb2.size (by decide) rfl)
      have HS1 := hid ((HB1.out.src w1.heap.size HB1.out.lt).below hB3a (Nat.le_refl _))
      have HLN := hid (show l.length ≤ 700 by have := (rfl : l.length = l.length); omega)
      go_wp2_with (first | (at_builtin; refine wpList_append_srcN rfl _ _ 70 rfl w1.heap.size 5 i0 (.int .u8 0) Tryd.underlying70 hi0 hz0 hz1 hz2 rfl _ 0 [] rfl HO0.out w1.heap.size (some ad) c _ l (rfl : l.length = l.length) rfl HS1.out (by have := HLN.out; omega) (by simp; have := hb2.size; omega) ?_))
      intro v1 w3 hown1 hgrow1
      have hB3 : Below w1.heap.size w1 w3 := hB3a.grown hgrow1 hB3a.size (fun k hk => (HO0.out.lt k hk).1)
      have HO1 := hid (show Own w3 w1.heap.size v1 l by unfold Own; simpa [bv] using hown1)
      have HS2 := hid ((HM1.out.src w1.heap.size HM1.out.lt).below hB3 (Nat.le_refl _))
      clear hown1 hgrow1 HO0 HS1
      go_wp2_with (first | (at_builtin; refine wpList_append_src rfl _ _ 70 rfl w1.heap.size 5 i0 (.int .u8 0) Tryd.underlying70 hi0 hz0 hz1 hz2 rfl _ l.length (bv l) rfl HO1.out w1.heap.size A2 c2 ml rfl HS2.out (by have := HLN.out; omega) hB3.size ?_))
      intro v2 w4 hown2 hgrow2
      have hB4 : Below w1.heap.size w1 w4 := hB3.grown hgrow2 hB3.size (fun k hk => (HO1.out.lt k hk).1)
      have HB4 := hid hB4
      have HO2 := hid (show Own w4 w1.heap.size v2 (l ++ ml) by unfold Own; rw [bv_app, List.length_append]; exact hown2)
      obtain ⟨L3, hL3⟩ : ∃ L3, L3 = l ++ ml := ⟨_, rfl⟩
      rw [← hL3] at HO2 hR2
      have hL3l : L3.length ≤ 1000 := by rw [hL3, List.length_append]; have := HLN.out; omega
      obtain ⟨A3, c3, rfl, hbts⟩ := own_bts HO2.out (fun x hx => by
        rw [hL3] at hx
        rcases List.mem_append.1 hx with q | q
        · exact HB1.out.b8 x q
        · exact HM1.out.b8 x q)
      have HC3 := hid (HCP.out w4 hB4 A3 c3 L3 hbts hL3l)
      rw [hR2] at HC3
      clear hown2 hgrow2 HO1 HO2 HS2 hL3 hbts hR2 hB3 hB3a hB4
      go_wp2_with (first | ((with_reducible refine (HC3.out).mono ?_); rintro e w5 ⟨rfl, hb5⟩; have HB5 := hid (HB4.out.trans (hb5.mono HB4.out.size)); have HCL := hid (HCP.out w5 HB5.out (some ad) c l (HB1.out.below HB5.out) (by omega)); have HCL := hid (show Calls _ _ _ _ _ from hRL.out ▸ HCL.out)) | (go_at_call 57; (with_reducible refine (HAW.out _ HB7.out).mono ?_); rintro e w6 ⟨rfl, hb6⟩; have HB6 := hid (HB7.out.trans (hb6.mono HB7.out.size))) | ((with_reducible refine (HCL.out).mono ?_); rintro e w7 ⟨rfl, hb7⟩; have HB7 := hid (HB5.out.trans (hb7.mono HB5.out.size))))
      all_goals
        go_ret
        exact ⟨rfl, HBW.out.trans (HB6.out.mono HBW.out.size)⟩
  · rw [hr] at hPL' HC1
    obtain ⟨p0, p1, h2⟩ := hPL'
    obtain ⟨n, rfl⟩ : ∃ n : Nat, p = n := ⟨p.toNat, by omega⟩
    rw [Int.toNat_natCast] at h2
    obtain ⟨L1, hL1, hn⟩ : ∃ L1, L1 = l.take n ∧ n = L1.length := ⟨_, rfl, by rw [List.length_take]; omega⟩
    rw [← hL1] at h2
    have hL2 : L1.length ≤ l.length := by omega
    have hLc : L1.length ≤ c := by have := HB1.out.cap; omega
    have HB2 := hid (show Bts w1 (some ad) c L1 by rw [hL1]; exact HB1.out.take n)
    subst hn
    have hR2 : resR (askR xs (L1 ++ ml)) = ((L1.length : Int), 0) := by rw [show askR xs (L1 ++ ml) = .ok ((), (L1.length : Int)) from h2]; rfl
    rw [show resR (Except.ok (u, (L1.length : Int))) = ((L1.length : Int), 0) from rfl] at HC1
    clear hr hL1 hPL p0 h2
    go_upto_region 7 with (first | ((with_reducible refine (HC1.out).mono ?_); rintro e w2 ⟨rfl, hb2⟩))
    go_upto_region 8 with (fail)
    have hB3a : Below w1.heap.size w1 (w2.alloc (.cells #[] 5)) := hb2.alloc hb2.size _
    have HO0 := hid (show (w2.alloc (.cells #[] 5)).ownsRow w1.heap.size 5 1 (.slice (some ⟨w2.heap.size, 0, none⟩) 0 0) 0 [] from World.ownsRow_lit w2 #[] 0 hb2.size (by decide) rfl)
    have HS1 := hid ((HB2.out.src w1.heap.size HB2.out.lt).below hB3a (Nat.le_refl _))
    have HLN := hid (show L1.length ≤ 700 by have := (rfl : L1.length = L1.length); omega)
    go_wp2_with (first | (at_builtin; refine wpList_append_srcN rfl _ _ 70 rfl w1.heap.size 5 i0 (.int .u8 0) Tryd.underlying70 hi0 hz0 hz1 hz2 rfl _ 0 [] rfl HO0.out w1.heap.size (some ad) c _ L1 (rfl : L1.length = L1.length) rfl HS1.out (by have := HLN.out; omega) (by simp; have := hb2.size; omega) ?_))
    intro v1 w3 hown1 hgrow1
    have hB3 : Below w1.heap.size w1 w3 := hB3a.grown hgrow1 hB3a.size (fun k hk => (HO0.out.lt k hk).1)
    have HO1 := hid (show Own w3 w1.heap.size v1 L1 by unfold Own; simpa [bv] using hown1)
    have HS2 := hid ((HM1.out.src w1.heap.size HM1.out.lt).below hB3 (Nat.le_refl _))
    clear hown1 hgrow1 HO0 HS1
    go_wp2_with (first | (at_builtin; refine wpList_append_src rfl _ _ 70 rfl w1.heap.size 5 i0 (.int .u8 0) Tryd.underlying70 hi0 hz0 hz1 hz2 rfl _ L1.length (bv L1) rfl HO1.out w1.heap.size A2 c2 ml rfl HS2.out (by have := HLN.out; omega) hB3.size ?_))
    intro v2 w4 hown2 hgrow2
    have hB4 : Below w1.heap.size w1 w4 := hB3.grown hgrow2 hB3.size (fun k hk => (HO1.out.lt k hk).1)
    have HB4 := hid hB4
    have HO2 := hid (show Own w4 w1.heap.size v2 (L1 ++ ml) by unfold Own; rw [bv_app, List.length_append]; exact hown2)
    obtain ⟨L3, hL3⟩ : ∃ L3, L3 = L1 ++ ml := ⟨_, rfl⟩
    rw [← hL3] at HO2 hR2
    have hL3l : L3.length ≤ 1000 := by rw [hL3, List.length_append]; have := HLN.out; omega
    obtain ⟨A3, c3, rfl, hbts⟩ := own_bts HO2.out (fun x hx => by
      rw [hL3] at hx
      rcases List.mem_append.1 hx with q | q
      · exact HB2.out.b8 x q
      · exact HM1.out.b8 x q)
    have HC3 := hid (HCP.out w4 hB4 A3 c3 L3 hbts hL3l)
    rw [hR2] at HC3
    clear hown2 hgrow2 HO1 HO2 HS2 hL3 hbts hR2 hB3 hB3a hB4
    go_wp2_with (first | ((with_reducible refine (HC3.out).mono ?_); rintro e w5 ⟨rfl, hb5⟩; have HB5 := hid (HB4.out.trans (hb5.mono HB4.out.size))) | (go_at_call 57; (with_reducible refine (HAW.out _ HB5.out).mono ?_); rintro e w6 ⟨rfl, hb6⟩; have HB6 := hid (HB5.out.trans (hb6.mono HB5.out.size))))
    go_ret
    exact ⟨rfl, HBW.out.trans (HB6.out.mono HBW.out.size)⟩
set_option maxRecDepth 100000 in
set_option maxHeartbeats 8000000 in
theorem places_none (c : Nat) (l : List Int) (A1 : Option Addr) (c1 : Nat) (xs : List S154) (A2 : Option Addr) (c2 : Nat) (ml : List Int) (w : World) (hB : Bts w none c l) (hM : Bts w A2 c2 ml) (hA : AsksAt w A1 xs) (hc1 : xs.length ≤ c1) (hT : ∀ x ∈ xs, TypA x) (hxl : xs.length ≤ 10000000000000) (hl : l.length ≤ 1000000000000000) (hml : ml.length ≤ 1000000000000000) (hG : Glob w) :
    Calls Tryd.prog 6 #[.slice none l.length c, .slice A1 xs.length c1, .slice A2 ml.length c2] w (PLaw w) := by
  by_cases h600 : 600 < (l.length : Int)
  · go_enter Tryd.func6, Tryd.ntmps6
    go_wp2
    go_ret
    exact ⟨rfl, (by repeat (first | exact Below.refl _ _ | assumption | refine Below.alloc ?_ (by first | exact Nat.le_refl _ | (simp; done) | (simp; omega) | omega) _ | refine Below.drew ?_ | refine Below.setCell ?_ (by first | exact Nat.le_refl _ | (simp; done) | (simp; omega) | omega) _ | refine below_call ?_ (by assumption) (by first | exact Nat.le_refl _ | (simp; done) | (simp; omega) | omega)))⟩
  by_cases h60 : 60 < (ml.length : Int)
  · go_enter Tryd.func6, Tryd.ntmps6
    go_wp2
    go_ret
    exact ⟨rfl, (by repeat (first | exact Below.refl _ _ | assumption | refine Below.alloc ?_ (by first | exact Nat.le_refl _ | (simp; done) | (simp; omega) | omega) _ | refine Below.drew ?_ | refine Below.setCell ?_ (by first | exact Nat.le_refl _ | (simp; done) | (simp; omega) | omega) _ | refine below_call ?_ (by assumption) (by first | exact Nat.le_refl _ | (simp; done) | (simp; omega) | omega)))⟩
  have HFI := hid (fun W (hb : Below w.heap.size w W) => fine_walk A1 c1 xs W (hA.below hb) hxl (fun x hx => (hT x hx).u8.1) (fun x hx => (hT x hx).pl))
  have HB := hid hB
  have HM := hid hM
  have HA := hid hA
  have HT := hid hT
  have HG := hid hG
  have hmf : ∀ (fn : Fn) (first cap : Array Value) (w : World), (Instr.makeFunc fn first cap).run Tryd.prog w = .ok (.func fn first cap) w := fun _ _ _ _ => rfl
  have HE : Enters 54 := enters Tryd.func54 (by kernel_rfl) rfl
  have hPL := places_plain (xs.map askV) l ml
  clear hB hM hA hT hG
  go_enter Tryd.func6, Tryd.ntmps6
  go_upto_region 4 with (first | (go_at_call 53; (with_reducible refine (HFI.out _ (by repeat (first | exact Below.refl _ _ | assumption | refine Below.alloc ?_ (by first | exact Nat.le_refl _ | (simp; done) | (simp; omega) | omega) _ | refine Below.drew ?_ | refine Below.setCell ?_ (by first | exact Nat.le_refl _ | (simp; done) | (simp; omega) | omega) _ | refine below_call ?_ (by assumption) (by first | exact Nat.le_refl _ | (simp; done) | (simp; omega) | omega)))).mono ?_); rintro e w1 ⟨⟨b, rfl, hb⟩, hb1⟩; rcases b with _ | _))
  · go_ret
    exact ⟨rfl, Below.trans (by repeat (first | exact Below.refl _ _ | assumption | refine Below.alloc ?_ (by first | exact Nat.le_refl _ | (simp; done) | (simp; omega) | omega) _ | refine Below.drew ?_ | refine Below.setCell ?_ (by first | exact Nat.le_refl _ | (simp; done) | (simp; omega) | omega) _ | refine below_call ?_ (by assumption) (by first | exact Nat.le_refl _ | (simp; done) | (simp; omega) | omega))) (hb1.mono (by simp))⟩
  obtain ⟨hx30, hcond⟩ := hb (by first | rfl | trivial)
  obtain ⟨i0, hi0, hz0, hz1, hz2⟩ := info_parts info5
  have hbw : Below w.heap.size w w1 := Below.trans ((by repeat (first | exact Below.refl _ _ | assumption | refine Below.alloc ?_ (by first | exact Nat.le_refl _ | (simp; done) | (simp; omega) | omega) _ | refine Below.drew ?_ | refine Below.setCell ?_ (by first | exact Nat.le_refl _ | (simp; done) | (simp; omega) | omega) _ | refine below_call ?_ (by assumption) (by first | exact Nat.le_refl _ | (simp; done) | (simp; omega) | omega))) : Below w.heap.size w (w.alloc (.cells #[.slice A1 xs.length c1] 93))) (hb1.mono (by simp))
  have hLc : w1.cell? ⟨w.heap.size, 0, none⟩ = some (.slice A1 xs.length c1) := still hb1 (by go_simp)
  have HX1 := hid (show Asks w1 w.heap.size A1 c1 xs from ⟨hLc, hc1, HA.out.below hbw, fun x hx => fine_of (hcond x hx) (HT.out x hx), hx30⟩)
  have HB1 := hid (HB.out.below hbw)
  have HM1 := hid (HM.out.below hbw)
  have HG1 := hid (HG.out.of hbw)
  have hzw : w.heap.size ≤ w1.heap.size := hbw.size
  have HBW := hid hbw
  have HCP := hid (fun (W : World) (hb : Below w1.heap.size w1 W) A' c' l' (hB : Bts W A' c' l') (hl' : l'.length ≤ 1000) => cp1_walk A' c' l' w.heap.size A1 c1 xs W hB hl' (HX1.out.below hb) (HG1.out.of hb))
  have HAW := hid (fun (W : World) (hb : Below w1.heap.size w1 W) => awake04_walk W (HG1.out.of hb))
  have hl6 : l.length ≤ 600 := by omega
  have hm6 : ml.length ≤ 60 := by omega
  clear hb hcond hb1 hbw hLc HFI HB HM HA HT HG HX1
  have hPL' := hPL
  rw [show askM (xs.map askV) (-1) 0 l = askR xs l from rfl] at hPL'
  have HC1 := hid (HCP.out w1 (Below.refl _ _) none c l HB1.out (by omega))
  rcases hr : askR xs l with ⟨s, er⟩ | ⟨u, p⟩
  · rw [hr] at hPL' HC1
    rcases hPL' with ⟨rfl, rfl⟩ | ⟨rfl, s0, s1, h3, e', he', h4⟩
    · rw [show resR (Except.error ((l.length : Int), (1 : Int))) = ((l.length : Int), 1) from rfl] at HC1
      clear hr hPL
      go_wp2_with (first | ((with_reducible refine (HC1.out).mono ?_); rintro e w2 ⟨rfl, hb2⟩; have HB5 := hid hb2) | (go_at_call 57; (with_reducible refine (HAW.out _ HB5.out).mono ?_); rintro e w6 ⟨rfl, hb6⟩; have HB6 := hid (HB5.out.trans (hb6.mono HB5.out.size))))
      go_ret
      exact ⟨rfl, HBW.out.trans (HB6.out.mono HBW.out.size)⟩
    obtain ⟨n, rfl⟩ : ∃ n : Nat, s = n := ⟨s.toNat, by omega⟩
    rw [Int.toNat_natCast] at h4
    obtain ⟨L1, hL1, hn⟩ : ∃ L1, L1 = l.take n ∧ n = L1.length := ⟨_, rfl, by rw [List.length_take]; omega⟩
    rw [← hL1] at h4
    have hL2 : L1.length ≤ l.length := by omega
    have hLc : L1.length ≤ c := by have := HB1.out.cap; omega
    have hlc : l.length ≤ c := HB1.out.cap
    have HB2 := hid (show Bts w1 none c L1 by rw [hL1]; exact HB1.out.take n)
    subst hn
    have hRL := hid (show resR (askR xs L1) = ((L1.length : Int), e') by rw [show askR xs L1 = .error ((L1.length : Int), e') from h4]; rfl)
    rw [show resR (Except.error ((L1.length : Int), (2 : Int))) = ((L1.length : Int), 2) from rfl] at HC1
    have hw1 : IntKind.i64.wrap ((L1.length : Int) + 1) = (L1.length : Int) + 1 := by rw [IntKind.wrap_i64]; omega
    by_cases ha : (L1.length : Int) + 1 < (l.length : Int)
    · obtain ⟨L4, hL4d⟩ : ∃ L4, L4 = l.take (L1.length + 1) := ⟨_, rfl⟩
      have hL4 : L4.length = L1.length + 1 := by rw [hL4d, List.length_take]; omega
      have HB4b := hid (show Bts w1 none c L4 by rw [hL4d]; exact HB1.out.take _)
      have hR2 : resR (askR xs (L4 ++ ml)) = ((L1.length : Int), 2) := by
        have := h3 (by omega)
        rw [show ((L1.length : Int) + 1).toNat = L1.length + 1 by omega, ← hL4d] at this
        rw [show askR xs (L4 ++ ml) = .error ((L1.length : Int), 2) from this]; rfl
      have HL4 := hid hL4
      clear hr hL1 hPL s0 h3 h4 hL4d hL4
      go_upto_region 7 with (first | ((with_reducible refine (HC1.out).mono ?_); rintro e w2 ⟨rfl, hb2⟩))
      go_upto_region 12 with (fail)
      have hB3a : Below w1.heap.size w1 (w2.alloc (.cells #[] 5)) := hb2.alloc hb2.size _
      have HO0 := hid (show (w2.alloc (.cells #[] 5)).ownsRow w1.heap.size 5 1 (.slice (some ⟨w2.heap.size, 0, none⟩) 0 0) 0 [] from World.ownsRow_lit w2 #[] 0 hb2.size (by decide) rfl)
      have HS1 := hid ((HB4b.out.src w1.heap.size HB4b.out.lt).below hB3a (Nat.le_refl _))
      have HLN := hid (show L4.length ≤ 700 by have := HL4.out; omega)
      go_wp2_with (first | (at_builtin; refine wpList_append_srcN rfl _ _ 70 rfl w1.heap.size 5 i0 (.int .u8 0) Tryd.underlying70 hi0 hz0 hz1 hz2 rfl _ 0 [] rfl HO0.out w1.heap.size none c _ L4 HL4.out rfl HS1.out (by have := HLN.out; omega) (by simp; have := hb2.size; omega) ?_))
      intro v1 w3 hown1 hgrow1
      have hB3 : Below w1.heap.size w1 w3 := hB3a.grown hgrow1 hB3a.size (fun k hk => (HO0.out.lt k hk).1)
      have HO1 := hid (show Own w3 w1.heap.size v1 L4 by unfold Own; simpa [bv] using hown1)
      have HS2 := hid ((HM1.out.src w1.heap.size HM1.out.lt).below hB3 (Nat.le_refl _))
      clear hown1 hgrow1 HO0 HS1
      go_wp2_with (first | (at_builtin; refine wpList_append_src rfl _ _ 70 rfl w1.heap.size 5 i0 (.int .u8 0) Tryd.underlying70 hi0 hz0 hz1 hz2 rfl _ L4.length (bv L4) rfl HO1.out w1.heap.size A2 c2 ml rfl HS2.out (by have := HLN.out; omega) hB3.size ?_))
      intro v2 w4 hown2 hgrow2
      have hB4 : Below w1.heap.size w1 w4 := hB3.grown hgrow2 hB3.size (fun k hk => (HO1.out.lt k hk).1)
      have HB4 := hid hB4
      have HO2 := hid (show Own w4 w1.heap.size v2 (L4 ++ ml) by unfold Own; rw [bv_app, List.length_append]; exact hown2)
      obtain ⟨L3, hL3⟩ : ∃ L3, L3 = L4 ++ ml := ⟨_, rfl⟩
      rw [← hL3] at HO2 hR2
      have hL3l : L3.length ≤ 1000 := by rw [hL3, List.length_append]; have := HLN.out; omega
      obtain ⟨A3, c3, rfl, hbts⟩ := own_bts HO2.out (fun x hx => by
        rw [hL3] at hx
        rcases List.mem_append.1 hx with q | q
        · exact HB4b.out.b8 x q
        · exact HM1.out.b8 x q)
      have HC3 := hid (HCP.out w4 hB4 A3 c3 L3 hbts hL3l)
      rw [hR2] at HC3
      clear hown2 hgrow2 HO1 HO2 HS2 hL3 hbts hR2 hB3 hB3a hB4
      go_wp2_with (first | ((with_reducible refine (HC3.out).mono ?_); rintro e w5 ⟨rfl, hb5⟩; have HB5 := hid (HB4.out.trans (hb5.mono HB4.out.size)); have HCL := hid (HCP.out w5 HB5.out none c L1 (HB2.out.below HB5.out) (by omega)); have HCL := hid (show Calls _ _ _ _ _ from hRL.out ▸ HCL.out)) | (go_at_call 57; (with_reducible refine (HAW.out _ HB7.out).mono ?_); rintro e w6 ⟨rfl, hb6⟩; have HB6 := hid (HB7.out.trans (hb6.mono HB7.out.size))) | ((with_reducible refine (HCL.out).mono ?_); rintro e w7 ⟨rfl, hb7⟩; have HB7 := hid (HB5.out.trans (hb7.mono HB5.out.size))))
      all_goals
        go_ret
        exact ⟨rfl, HBW.out.trans (HB6.out.mono HBW.out.size)⟩
    by_cases hb : (L1.length : Int) + 1 = (l.length : Int)
    · have hR2 : resR (askR xs (l ++ ml)) = ((L1.length : Int), 2) := by
        have := h3 (by omega)
        rw [show ((L1.length : Int) + 1).toNat = l.length by omega, List.take_length] at this
        rw [show askR xs (l ++ ml) = .error ((L1.length : Int), 2) from this]; rfl
      clear hr hL1 hPL s0 h3 h4 ha hw1
      go_upto_region 7 with (first | ((with_reducible refine (HC1.out).mono ?_); rintro e w2 ⟨rfl, hb2⟩))
      go_upto_region 12 with (fail)
      have hB3a : Below w1.heap.size w1 (w2.alloc (.cells #[] 5)) := hb2.alloc hb2.size _
      have HO0 := hid (show (w2.alloc (.cells #[] 5)).ownsRow w1.heap.size 5 1 (.slice (some ⟨w2.heap.size, 0, none⟩) 0 0) 0 [] from World.ownsRow_lit w2 #[] 0 hb2.size (by decide) rfl)
      have HS1 := hid ((HB1.out.src w1.heap.size HB1.out.lt).below hB3a (Nat.le_refl _))
      have HLN := hid (show l.length ≤ 700 by have := (rfl : l.length = l.length); omega)
      go_wp2_with (first | (at_builtin; refine wpList_append_srcN rfl _ _ 70 rfl w1.heap.size 5 i0 (.int .u8 0) Tryd.underlying70 hi0 hz0 hz1 hz2 rfl _ 0 [] rfl HO0.out w1.heap.size none c _ l (rfl : l.length = l.length) rfl HS1.out (by have := HLN.out; omega) (by simp; have := hb2.size; omega) ?_))
      intro v1 w3 hown1 hgrow1
      have hB3 : Below w1.heap.size w1 w3 := hB3a.grown hgrow1 hB3a.size (fun k hk => (HO0.out.lt k hk).1)
      have HO1 := hid (show Own w3 w1.heap.size v1 l by unfold Own; simpa [bv] using hown1)
      have HS2 := hid ((HM1.out.src w1.heap.size HM1.out.lt).below hB3 (Nat.le_refl _))
      clear hown1 hgrow1 HO0 HS1
      go_wp2_with (first | (at_builtin; refine wpList_append_src rfl _ _ 70 rfl w1.heap.size 5 i0 (.int .u8 0) Tryd.underlying70 hi0 hz0 hz1 hz2 rfl _ l.length (bv l) rfl HO1.out w1.heap.size A2 c2 ml rfl HS2.out (by have := HLN.out; omega) hB3.size ?_))
      intro v2 w4 hown2 hgrow2
      have hB4 : Below w1.heap.size w1 w4 := hB3.grown hgrow2 hB3.size (fun k hk => (HO1.out.lt k hk).1)
      have HB4 := hid hB4
      have HO2 := hid (show Own w4 w1.heap.size v2 (l ++ ml) by unfold Own; rw [bv_app, List.length_append]; exact hown2)
      obtain ⟨L3, hL3⟩ : ∃ L3, L3 = l ++ ml := ⟨_, rfl⟩
      rw [← hL3] at HO2 hR2
      have hL3l : L3.length ≤ 1000 := by rw [hL3, List.length_append]; have := HLN.out; omega
      obtain ⟨A3, c3, rfl, hbts⟩ := own_bts HO2.out (fun x hx => by
        rw [hL3] at hx
        rcases List.mem_append.1 hx with q | q
        · exact HB1.out.b8 x q
        · exact HM1.out.b8 x q)
      have HC3 := hid (HCP.out w4 hB4 A3 c3 L3 hbts hL3l)
      rw [hR2] at HC3
      clear hown2 hgrow2 HO1 HO2 HS2 hL3 hbts hR2 hB3 hB3a hB4
      go_wp2_with (first | ((with_reducible refine (HC3.out).mono ?_); rintro e w5 ⟨rfl, hb5⟩; have HB5 := hid (HB4.out.trans (hb5.mono HB4.out.size)); have HCL := hid (HCP.out w5 HB5.out none c L1 (HB2.out.below HB5.out) (by omega)); have HCL := hid (show Calls _ _ _ _ _ from hRL.out ▸ HCL.out)) | (go_at_call 57; (with_reducible refine (HAW.out _ HB7.out).mono ?_); rintro e w6 ⟨rfl, hb6⟩; have HB6 := hid (HB7.out.trans (hb6.mono HB7.out.size))) | ((with_reducible refine (HCL.out).mono ?_); rintro e w7 ⟨rfl, hb7⟩; have HB7 := hid (HB5.out.trans (hb7.mono HB5.out.size))))
      all_goals
        go_ret
        exact ⟨rfl, HBW.out.trans (HB6.out.mono HBW.out.size)⟩
    · obtain ⟨x, y, hR2⟩ : ∃ x y, resR (askR xs (l ++ ml)) = (x, y) := ⟨_, _, rfl⟩
      have hle : (L1.length : Int) = (l.length : Int) := by omega
      clear hRL
      have hRL := hid (show resR (askR xs l) = ((l.length : Int), 2) by rw [hr, hle]; rfl)
      rw [hle] at HC1
      have hw1 : IntKind.i64.wrap ((l.length : Int) + 1) = (l.length : Int) + 1 := by rw [IntKind.wrap_i64]; omega
      clear hr hL1 hPL s0 s1 h3 h4 ha hb hle hL2 hLc HB2
      go_upto_region 7 with (first | ((with_reducible refine (HC1.out).mono ?_); rintro e w2 ⟨rfl, hb2⟩))
      go_upto_region 12 with (fail)
      have hB3a : Below w1.heap.size w1 (w2.alloc (.cells #[] 5)) := hb2.alloc hb2.size _
      have HO0 := hid (show (w2.alloc (.cells #[] 5)).ownsRow w1.heap.size 5 1 (.slice (some ⟨w2.heap.size, 0, none⟩) 0 0) 0 [] from World.ownsRow_lit w2 #[] 0 hb2.size (by decide) rfl)
      have HS1 := hid ((HB1.out.src w1.heap.size HB1.out.lt).below hB3a (Nat.le_refl _))
      have HLN := hid (show l.length ≤ 700 by have := (rfl : l.length = l.length); omega)
      go_wp2_with (first | (at_builtin; refine wpList_append_srcN rfl _ _ 70 rfl w1.heap.size 5 i0 (.int .u8 0) Tryd.underlying70 hi0 hz0 hz1 hz2 rfl _ 0 [] rfl HO0.out w1.heap.size none c _ l (rfl : l.length = l.length) rfl HS1.out (by have := HLN.out; omega) (by simp; have := hb2.size; omega) ?_))
      intro v1 w3 hown1 hgrow1
      have hB3 : Below w1.heap.size w1 w3 := hB3a.grown hgrow1 hB3a.size (fun k hk => (HO0.out.lt k hk).1)
      have HO1 := hid (show Own w3 w1.heap.size v1 l by unfold Own; simpa [bv] using hown1)
      have HS2 := hid ((HM1.out.src w1.heap.size HM1.out.lt).below hB3 (Nat.le_refl _))
      clear hown1 hgrow1 HO0 HS1
      go_wp2_with (first | (at_builtin; refine wpList_append_src rfl _ _ 70 rfl w1.heap.size 5 i0 (.int .u8 0) Tryd.underlying70 hi0 hz0 hz1 hz2 rfl _ l.length (bv l) rfl HO1.out w1.heap.size A2 c2 ml rfl HS2.out (by have := HLN.out; omega) hB3.size ?_))
      intro v2 w4 hown2 hgrow2
      have hB4 : Below w1.heap.size w1 w4 := hB3.grown hgrow2 hB3.size (fun k hk => (HO1.out.lt k hk).1)
      have HB4 := hid hB4
      have HO2 := hid (show Own w4 w1.heap.size v2 (l ++ ml) by unfold Own; rw [bv_app, List.length_append]; exact hown2)
      obtain ⟨L3, hL3⟩ : ∃ L3, L3 = l ++ ml := ⟨_, rfl⟩
      rw [← hL3] at HO2 hR2
      have hL3l : L3.length ≤ 1000 := by rw [hL3, List.length_append]; have := HLN.out; omega
      obtain ⟨A3, c3, rfl, hbts⟩ := own_bts HO2.out (fun x hx => by
        rw [hL3] at hx
        rcases List.mem_append.1 hx with q | q
        · exact HB1.out.b8 x q
        · exact HM1.out.b8 x q)
      have HC3 := hid (HCP.out w4 hB4 A3 c3 L3 hbts hL3l)
      rw [hR2] at HC3
      clear hown2 hgrow2 HO1 HO2 HS2 hL3 hbts hR2 hB3 hB3a hB4
      go_wp2_with (first | ((with_reducible refine (HC3.out).mono ?_); rintro e w5 ⟨rfl, hb5⟩; have HB5 := hid (HB4.out.trans (hb5.mono HB4.out.size)); have HCL := hid (HCP.out w5 HB5.out none c l (HB1.out.below HB5.out) (by omega)); have HCL := hid (show Calls _ _ _ _ _ from hRL.out ▸ HCL.out)) | (go_at_call 57; (with_reducible refine (HAW.out _ HB7.out).mono ?_); rintro e w6 ⟨rfl, hb6⟩; have HB6 := hid (HB7.out.trans (hb6.mono HB7.out.size))) | ((with_reducible refine (HCL.out).mono ?_); rintro e w7 ⟨rfl, hb7⟩; have HB7 := hid (HB5.out.trans (hb7.mono HB5.out.size))))
      all_goals
        go_ret
        exact ⟨rfl, HBW.out.trans (HB6.out.mono HBW.out.size)⟩
  · rw [hr] at hPL' HC1
    obtain ⟨p0, p1, h2⟩ := hPL'
    obtain ⟨n, rfl⟩ : ∃ n : Nat, p = n := ⟨p.toNat, by omega⟩
    rw [Int.toNat_natCast] at h2
    obtain ⟨L1, hL1, hn⟩ : ∃ L1, L1 = l.take n ∧ n = L1.length := ⟨_, rfl, by rw [List.length_take]; omega⟩
    rw [← hL1] at h2
    have hL2 : L1.length ≤ l.length := by omega
    have hLc : L1.length ≤ c := by have := HB1.out.cap; omega
    have HB2 := hid (show Bts w1 none c L1 by rw [hL1]; exact HB1.out.take n)
    subst hn
    have hR2 : resR (askR xs (L1 ++ ml)) = ((L1.length : Int), 0) := by rw [show askR xs (L1 ++ ml) = .ok ((), (L1.length : Int)) from h2]; rfl
    rw [show resR (Except.ok (u, (L1.length : Int))) = ((L1.length : Int), 0) from rfl] at HC1
    clear hr hL1 hPL p0 h2
    go_upto_region 7 with (first | ((with_reducible refine (HC1.out).mono ?_); rintro e w2 ⟨rfl, hb2⟩))
    go_upto_region 8 with (fail)
    have hB3a : Below w1.heap.size w1 (w2.alloc (.cells #[] 5)) := hb2.alloc hb2.size _
    have HO0 := hid (show (w2.alloc (.cells #[] 5)).ownsRow w1.heap.size 5 1 (.slice (some ⟨w2.heap.size, 0, none⟩) 0 0) 0 [] from World.ownsRow_lit w2 #[] 0 hb2.size (by decide) rfl)
    have HS1 := hid ((HB2.out.src w1.heap.size HB2.out.lt).below hB3a (Nat.le_refl _))
    have HLN := hid (show L1.length ≤ 700 by have := (rfl : L1.length = L1.length); omega)
    go_wp2_with (first | (at_builtin; refine wpList_append_srcN rfl _ _ 70 rfl w1.heap.size 5 i0 (.int .u8 0) Tryd.underlying70 hi0 hz0 hz1 hz2 rfl _ 0 [] rfl HO0.out w1.heap.size none c _ L1 (rfl : L1.length = L1.length) rfl HS1.out (by have := HLN.out; omega) (by simp; have := hb2.size; omega) ?_))
    intro v1 w3 hown1 hgrow1
    have hB3 : Below w1.heap.size w1 w3 := hB3a.grown hgrow1 hB3a.size (fun k hk => (HO0.out.lt k hk).1)
    have HO1 := hid (show Own w3 w1.heap.size v1 L1 by unfold Own; simpa [bv] using hown1)
    have HS2 := hid ((HM1.out.src w1.heap.size HM1.out.lt).below hB3 (Nat.le_refl _))
    clear hown1 hgrow1 HO0 HS1
    go_wp2_with (first | (at_builtin; refine wpList_append_src rfl _ _ 70 rfl w1.heap.size 5 i0 (.int .u8 0) Tryd.underlying70 hi0 hz0 hz1 hz2 rfl _ L1.length (bv L1) rfl HO1.out w1.heap.size A2 c2 ml rfl HS2.out (by have := HLN.out; omega) hB3.size ?_))
    intro v2 w4 hown2 hgrow2
    have hB4 : Below w1.heap.size w1 w4 := hB3.grown hgrow2 hB3.size (fun k hk => (HO1.out.lt k hk).1)
    have HB4 := hid hB4
    have HO2 := hid (show Own w4 w1.heap.size v2 (L1 ++ ml) by unfold Own; rw [bv_app, List.length_append]; exact hown2)
    obtain ⟨L3, hL3⟩ : ∃ L3, L3 = L1 ++ ml := ⟨_, rfl⟩
    rw [← hL3] at HO2 hR2
    have hL3l : L3.length ≤ 1000 := by rw [hL3, List.length_append]; have := HLN.out; omega
    obtain ⟨A3, c3, rfl, hbts⟩ := own_bts HO2.out (fun x hx => by
      rw [hL3] at hx
      rcases List.mem_append.1 hx with q | q
      · exact HB2.out.b8 x q
      · exact HM1.out.b8 x q)
    have HC3 := hid (HCP.out w4 hB4 A3 c3 L3 hbts hL3l)
    rw [hR2] at HC3
    clear hown2 hgrow2 HO1 HO2 HS2 hL3 hbts hR2 hB3 hB3a hB4
    go_wp2_with (first | ((with_reducible refine (HC3.out).mono ?_); rintro e w5 ⟨rfl, hb5⟩; have HB5 := hid (HB4.out.trans (hb5.mono HB4.out.size))) | (go_at_call 57; (with_reducible refine (HAW.out _ HB5.out).mono ?_); rintro e w6 ⟨rfl, hb6⟩; have HB6 := hid (HB5.out.trans (hb6.mono HB5.out.size))))
    go_ret
    exact ⟨rfl, HBW.out.trans (HB6.out.mono HBW.out.size)⟩
theorem places_walk (A : Option Addr) (c : Nat) (l : List Int) (A1 : Option Addr) (c1 : Nat) (xs : List S154) (A2 : Option Addr) (c2 : Nat) (ml : List Int) (w : World) (hB : Bts w A c l) (hM : Bts w A2 c2 ml) (hA : AsksAt w A1 xs) (hc1 : xs.length ≤ c1) (hT : ∀ x ∈ xs, TypA x) (hxl : xs.length ≤ 10000000000000) (hl : l.length ≤ 1000000000000000) (hml : ml.length ≤ 1000000000000000) (hG : Glob w) :
    Calls Tryd.prog 6 #[.slice A l.length c, .slice A1 xs.length c1, .slice A2 ml.length c2] w (PLaw w) := by
  rcases A with _ | ad
  · exact places_none c l A1 c1 xs A2 c2 ml w hB hM hA hc1 hT hxl hl hml hG
  · exact places_some ad c l A1 c1 xs A2 c2 ml w hB hM hA hc1 hT hxl hl hml hG
end Go.Proofs.YtiohiiekaofkbaaDoor
