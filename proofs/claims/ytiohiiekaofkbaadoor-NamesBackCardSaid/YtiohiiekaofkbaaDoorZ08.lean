/- Texts of this claim, as far as they are used here: M4, Y0, Q10, M5, R1, R2. -/
import Derived.Test.YtiohiiekaofkbaaDoorZ07
import Derived.Test.YtiohiiekaofkbaaDoorZ04
import Derived.Room.AppendFits
import Derived.Test.YtiohiiekaofkbaaDoorZ01
/- May names be: names.Right. -/
namespace Go.Proofs.YtiohiiekaofkbaaDoor
set_option linter.unusedVariables false
set_option linter.unusedSimpArgs false
open Go.RowKit Go.Proofs.YtiohiiekaofkbaaDoor.PNamesBack Go.Proofs.YtiohiiekaofkbaaDoorW.PrintWords
def thereB (b1 b2 b3 : Bool) (m : ByteArray) (f l : Nat) : Bool := (b1 || m.toList.isEmpty) && (b2 || decide (f = 0)) && (b3 || decide (l = 0))
def localsB (l : List S109) : Bool := allB (upB (lIdx l)) l.length && allB (lNamed l) l.length
def nrightB (x : Ns) : Bool := thereB x.hm x.hf x.hl x.md x.fs.length x.ls.length && vld x.md && named x.fs && localsB x.ls
set_option maxRecDepth 100000 in
set_option maxHeartbeats 8000000 in
theorem right_walk (x : Ns) (A : Option Addr) (c : Nat) (B : Option Addr) (d : Nat) (w : World) (hx : x.at A c B d w) (hs : x.small) :
    Calls Tryd.prog 17 #[.agg #[.bool x.hm, .bool x.hf, .bool x.hl, .string x.md, .slice A x.fs.length c, .slice B x.ls.length d]] w fun e w' => e = .returned (.bool (nrightB x)) ∧ Below w.heap.size w w' := by
  have hu := Tryd.underlying33
  have HN := hid (fun W (h : Below w.heap.size w W) => named_walk A c x.fs W (hx.below h).1 hs.2.1 hs.2.2.2.1)
  have HR := hid (fun W (h : Below w.heap.size w W) => risesLocal_walk B d x.ls W (hx.below h).2.2.1 hs.2.2.1)
  have HL := hid (fun W (h : Below w.heap.size w W) => containsLocal_walk B d x.ls W (hx.below h).2.2.1 hs.2.2.1 hs.2.2.2.2)
  have HV := hid (fun W => vld_walk x.md W (by have := hs.1; omega))
  have h1 := hs.2.1
  have h2 := hs.2.2.1
  clear hx hs
  obtain ⟨b1, b2, b3, m, f, l⟩ := x
  dsimp only at HN HR HL HV h1 h2 ⊢
  have HS : Hid (nrightB ⟨b1, b2, b3, m, f, l⟩ = (thereB b1 b2 b3 m f.length l.length && vld m && named f && localsB l)) := rfl
  obtain ⟨nf, hnf⟩ : ∃ n, f.length = n := ⟨_, rfl⟩
  obtain ⟨nl, hnl⟩ : ∃ n, l.length = n := ⟨_, rfl⟩
  rw [hnf] at HN HS h1 ⊢
  rw [hnl] at HR HL HS h2 ⊢
  have hR2 : allB (upB (lIdx l)) nl = false → localsB l = false := fun h => by rw [localsB, hnl, h]; rfl
  have hR3 : allB (upB (lIdx l)) nl = true → localsB l = allB (lNamed l) nl := fun h => by rw [localsB, hnl, h, Bool.true_and]
  have HLo := hid hR2
  have HLo2 := hid hR3
  clear hnf hnl hR2 hR3
  go_enter Tryd.func17, Tryd.ntmps17
  go_upto_region 1 with (fail)
  go_cut [3] (fun s3 wx => s3 = .bool (thereB b1 b2 b3 m nf nl) ∧ wx = w.alloc (.cells #[.bool b1, .bool b2, .bool b3, .string m, .slice A nf c, .slice B nl d] 33))
  case first =>
    have HT : Hid (thereB b1 b2 b3 m nf nl = ((b1 || m.toList.isEmpty) && (b2 || decide (nf = 0)) && (b3 || decide (nl = 0)))) := rfl
    clear HS HN HR HL HV HLo HLo2
    rcases nf with _ | nf <;> rcases nl with _ | nl <;> cases b1 <;> cases b2 <;> cases b3 <;> (go_wp2; all_goals (go_meet; refine ⟨?_, rfl⟩; rw [HT.out]; first | (simp [*]; done) | (simp [*]; omega)))
  case rest =>
    obtain ⟨rfl, rfl⟩ := hcut
    have hB1 : Below w.heap.size w (w.alloc (.cells #[.bool b1, .bool b2, .bool b3, .string m, .slice A nf c, .slice B nl d] 33)) := bel
    have HB1 := hid hB1
    clear hB1
    go_upto_region 2 with (fail)
    go_cut [4] (fun s4 wx => s4 = .bool (localsB l) ∧ wx.cell? ⟨w.heap.size, 3, none⟩ = some (.string m) ∧ wx.cell? ⟨w.heap.size, 4, none⟩ = some (.slice A nf c) ∧ Hid (Below w.heap.size w wx))
    case first =>
      rcases hr : allB (upB (lIdx l)) nl with _ | _
      · have hl2 := HLo.out hr
        rw [hr] at HR
        have HL2 := hid hl2
        clear hr hl2
        go_wp2_with (first | (go_at_call 75; refine (HR.out _ HB1.out).mono ?_; rintro e w' ⟨rfl, hb1⟩; (first | have hq1 := hz1 | have hq1 := True.intro); (first | have hq0 := hz0 | have hq0 := True.intro); obtain ⟨hcc, hff⟩ := bcell hb1; have hz1 := hb1.size; (try simp at hz1); (try have hy1 := Nat.lt_of_lt_of_le hq1 hz1); (try have hy0 := Nat.lt_of_lt_of_le hq0 hz1); (try replace hz1 := Nat.lt_of_succ_le hz1); (try have hz0 := Nat.lt_of_succ_lt hz1)))
        go_meet
        exact ⟨by rw [HL2.out], by rw [hcc _ _ (by simp)]; simp [World.cell?_alloc_new], by rw [hcc _ _ (by simp)]; simp [World.cell?_alloc_new], hid (HB1.out.trans (hb1.mono HB1.out.size))⟩
      · have hl2 := HLo2.out hr
        rw [hr] at HR
        have HL2 := hid hl2
        clear hr hl2
        go_wp2_with (first | (go_at_call 75; refine (HR.out _ HB1.out).mono ?_; rintro e w' ⟨rfl, hb1⟩; (first | have hq1 := hz1 | have hq1 := True.intro); (first | have hq0 := hz0 | have hq0 := True.intro); obtain ⟨hcc, hff⟩ := bcell hb1; have hz1 := hb1.size; (try simp at hz1); (try have hy1 := Nat.lt_of_lt_of_le hq1 hz1); (try have hy0 := Nat.lt_of_lt_of_le hq0 hz1); (try replace hz1 := Nat.lt_of_succ_le hz1); (try have hz0 := Nat.lt_of_succ_lt hz1); have HB2 := hid (HB1.out.trans (hb1.mono HB1.out.size))) | (go_at_call 77; refine (HL.out _ HB2.out).mono ?_; rintro e w' ⟨rfl, hb2⟩))
        go_meet
        have hz := hb1.size
        simp at hz
        obtain ⟨hcc2, _⟩ := bcell hb2
        exact ⟨by rw [HL2.out], by rw [hcc2 _ _ (by omega), hcc _ _ (by simp)]; simp [World.cell?_alloc_new], by rw [hcc2 _ _ (by omega), hcc _ _ (by simp)]; simp [World.cell?_alloc_new], hid (HB2.out.trans (hb2.mono HB2.out.size))⟩
    case rest =>
      obtain ⟨rfl, k1, k2, HB2⟩ := hcut
      have hz := cell_lt k1
      rcases ht : thereB b1 b2 b3 m nf nl with _ | _
      · rw [ht, Bool.false_and, Bool.false_and, Bool.false_and] at HS
        clear ht
        go_wp2
        go_ret
        exact ⟨ret_bool HS.out.symm, HB2.out⟩
      · rw [ht, Bool.true_and] at HS
        clear ht
        rcases hv : vld m with _ | _
        · rw [hv, Bool.false_and, Bool.false_and] at HS
          rw [hv] at HV
          clear hv
          go_wp2_with (first | (go_at_call 80; refine (HV.out _).mono ?_; rintro e w' ⟨rfl, rfl⟩))
          go_ret
          exact ⟨ret_bool HS.out.symm, HB2.out⟩
        · rw [hv, Bool.true_and] at HS
          rw [hv] at HV
          clear hv
          rcases hn : named f with _ | _
          · rw [hn, Bool.false_and] at HS
            rw [hn] at HN
            clear hn
            go_wp2_with (first | (go_at_call 80; refine (HV.out _).mono ?_; rintro e w' ⟨rfl, rfl⟩) | (go_at_call 79; refine (HN.out _ HB2.out).mono ?_; rintro e w' ⟨rfl, hb1⟩))
            go_ret
            exact ⟨ret_bool HS.out.symm, HB2.out.trans (hb1.mono HB2.out.size)⟩
          · rw [hn, Bool.true_and] at HS
            rw [hn] at HN
            clear hn
            go_wp2_with (first | (go_at_call 80; refine (HV.out _).mono ?_; rintro e w' ⟨rfl, rfl⟩) | (go_at_call 79; refine (HN.out _ HB2.out).mono ?_; rintro e w' ⟨rfl, hb1⟩))
            go_ret
            exact ⟨ret_bool HS.out.symm, HB2.out.trans (hb1.mono HB2.out.size)⟩
end Go.Proofs.YtiohiiekaofkbaaDoor
/- append([]byte, s...), s a string, with a word on where the new row lies. -/
namespace Go.Proofs.YtiohiiekaofkbaaDoor.PNamesBack
open Go.RowKit Go.Proofs.YtiohiiekaofkbaaDoorW.PrintWords Go.Lib
section
variable {P : Program} {ops : Array Oper} {rest : List Oper} {o : Oper} {a : Act} {Q : Exit → Act → World → Prop}
theorem append_str_at {w0 W : World} (base : Nat) (hgd : o.guard = none) (s x : Operand) (t u e : TypeId)
    (ho : o.op = .call { callee := .builtin .append, args := #[s, x], argTypes := #[t, u] })
    (ht : P.underlying t = some (.slice e)) (hu : P.underlying u = some .string) (hinfo : (P.info? e).map (fun i => (i.zero, i.size, i.bytes)) = some (some (.int .u8 0), 1, 1))
    (v : Value) (xs : List Int) (y : ByteArray) (hs : a.eval s = v) (hx : a.eval x = .string y)
    (HO : W.ownsRow base e 1 v xs.length (nums .u8 xs)) (HB : Below base w0 W) (hbase : base ≤ W.heap.size) (hl : xs.length + y.size ≤ 140737488355328)
    (h : ∀ v1 w1, w1.ownsRow base e 1 v1 (xs ++ bytesOf y).length (nums .u8 (xs ++ bytesOf y)) → Below base w0 w1 → W.grownBy w1 v.ownBlock → (∀ k, v1.ownBlock = some k → v.ownBlock = some k ∨ W.heap.size ≤ k) → wpList P ops Q rest (a.put o.dst v1) w1) :
    wpList P ops Q (o :: rest) a W := by
  obtain ⟨i0, hi, hzz⟩ := Option.map_eq_some_iff.1 hinfo
  simp only [Prod.mk.injEq] at hzz
  obtain ⟨hz0, hz1, hz2⟩ := hzz
  refine wpList_plain hgd fun K hK => ?_
  have hm : xs.length + y.size ≤ maxLen := by simp only [maxLen]; omega
  obtain ⟨v', w', hr, h2, h3, h4⟩ := run_append_own_string (P := P) W base t u o.type e i0 ht hu hi hz0 hz1 hz2 v xs.length (nums .u8 xs) HO y hm hl hbase
  have key : ∀ k, v'.ownBlock = some k → v.ownBlock = some k ∨ W.heap.size ≤ k := by
    intro k hk
    rcases HO.2 with ⟨rfl, hn⟩ | ⟨g, cap, cur, rfl, hbg, hg, hnc, hcm, hcs, htake⟩
    · rcases Nat.eq_zero_or_pos y.size with h0 | h0
      · rw [h4.2 ⟨rfl, h0⟩] at hk
        cases hk
      · have hr' := run_append_nil_string (P := P) W t u o.type e i0 (.int .u8 0) ht hu hi hz0 y h0 (by omega) (by rw [hz2]; omega)
        rw [hr] at hr'
        injection hr' with e1 e2
        rw [e1] at hk
        simp [Value.ownBlock] at hk
        exact .inr (by omega)
    · by_cases hroom : xs.length + y.size ≤ cap
      · rcases Nat.eq_zero_or_pos cap with hc | hc
        · have hy : y.size = 0 := by omega
          have hx0 : xs.length = 0 := by omega
          have hr' := run_append_room_string (P := P) W t u o.type e i0 ht hu hi hz1 g xs.length cap cur hg y hroom (by have := hcs; simp at this; omega)
          rw [hr] at hr'
          injection hr' with e1 e2
          rw [e1] at hk
          exact .inl hk
        · obtain ⟨w2, hr', _⟩ := run_append_fits_string (P := P) W base t u o.type e i0 ht hu hi hz1 (some ⟨g, 0, none⟩) xs.length cap (nums .u8 xs) HO y hc hroom
          rw [hr] at hr'
          injection hr' with e1 e2
          rw [e1] at hk
          exact .inl hk
      · have holds : ∀ j u, (nums .u8 xs)[j]? = some u → W.cell? ((⟨g, 0, none⟩ : Addr).add j) = some u := HO.cells (g := g) rfl
        have hr' := run_append_grow_string (P := P) W t u o.type e i0 (.int .u8 0) ht hu hi hz0 ⟨g, 0, none⟩ xs.length cap (nums .u8 xs) (by rw [hz1]; simp [nums]) holds y (by omega) (by omega) (by rw [hz2]; exact growslice_fits (by omega) (by omega))
        rw [hr] at hr'
        injection hr' with e1 e2
        rw [e1] at hk
        simp [Value.ownBlock] at hk
        exact .inr (by omega)
  have hl2 : (xs ++ bytesOf y).length = xs.length + y.size := by rw [List.length_append, bytesOf_length]
  have hc : nums .u8 (xs ++ bytesOf y) = nums .u8 xs ++ Lib.strCells y := by
    rw [nums_append]
    congr 1
    simp [nums, bytesOf, Lib.strCells]
  unfold Oper.wp execOp
  simp only [ho, resolve, invoke, builtin, Sem.run_bind, Sem.run_pure, Result.andThen_ok, List.map_toArray, List.map_cons, List.map_nil, hs, hx, hr]
  exact hK _ _ (h v' w' (by rw [hl2, hc]; exact h2) (HB.grown h3 hbase (own_base HO)) h3 key)
end
end Go.Proofs.YtiohiiekaofkbaaDoor.PNamesBack
/- Printed for this claim. -/
namespace Go.Proofs.YtiohiiekaofkbaaDoor.PNamesBack
open Go.RowKit Go.Proofs.YtiohiiekaofkbaaDoorW.PrintWords Go.Proofs.YtiohiiekaofkbaaDoorW.PrintLast Go.Proofs.YtiohiiekaofkbaaDoorW.PrintMore
attribute [local go_sem] max2_int min2_int max_two min_two max_three min_three max_four min_four
set_option linter.unusedVariables false
set_option linter.unusedSimpArgs false
mutual
def utf_lead.j0 : Nat → Int → Bool → Option (Int × Int × Int × Bool)
  | 0, _, _ => none
  | k + 1, x0, x9 => if x9 = true then (some (1, 128, 191, true)) else (if x0 = 224 then (some (2, 160, 191, true)) else (if x0 = 237 then (some (2, 128, 159, true)) else (if x0 ≥ 225 then (utf_lead.j1 k x0 (decide (x0 ≤ 239))) else (utf_lead.j1 k x0 false))))
def utf_lead.j1 : Nat → Int → Bool → Option (Int × Int × Int × Bool)
  | 0, _, _ => none
  | k + 1, x0, x22 => if x22 = true then (some (2, 128, 191, true)) else (if x0 = 240 then (some (3, 144, 191, true)) else (if x0 ≥ 241 then (utf_lead.j2 k x0 (decide (x0 ≤ 243))) else (utf_lead.j2 k x0 false)))
def utf_lead.j2 : Nat → Int → Bool → Option (Int × Int × Int × Bool)
  | 0, _, _ => none
  | k + 1, x0, x32 => if x32 = true then (some (3, 128, 191, true)) else (if x0 = 244 then (some (3, 128, 143, true)) else (some (0, 0, 0, false)))
end
def utf_lead.f (k : Nat) (a0 : Int) : Option (Int × Int × Int × Bool) := if a0 < 128 then (some (0, 0, 0, true)) else (if a0 ≥ 194 then (utf_lead.j0 k a0 (decide (a0 ≤ 223))) else (utf_lead.j0 k a0 false))
theorem utf_lead.mono_l : ∀ k, (∀ y0 y1, LeO (utf_lead.j0 k y0 y1) (utf_lead.j0 (k + 1) y0 y1)) ∧ (∀ y0 y1, LeO (utf_lead.j1 k y0 y1) (utf_lead.j1 (k + 1) y0 y1)) ∧ (∀ y0 y1, LeO (utf_lead.j2 k y0 y1) (utf_lead.j2 (k + 1) y0 y1))
  | 0 => ⟨fun _ _ r h => by simp [utf_lead.j0] at h, fun _ _ r h => by simp [utf_lead.j1] at h, fun _ _ r h => by simp [utf_lead.j2] at h⟩
  | k + 1 => by
    obtain ⟨ih0, ih1, ih2⟩ := utf_lead.mono_l k
    refine ⟨?_, ?_, ?_⟩
    · intro y0 y1
      unfold utf_lead.j0
      repeat' first
      | (with_reducible exact ih0 _ _)
      | (with_reducible exact ih1 _ _)
      | (with_reducible exact ih2 _ _)
      | (with_reducible exact LeO.refl _)
      | (with_reducible exact LeO.none _)
      | (with_reducible refine LeO.ite ?_ ?_)
      | (with_reducible refine LeO.bind ?_ (fun _ => ?_))
      | exact ih0 _ _
      | exact ih1 _ _
      | exact ih2 _ _
      | exact LeO.none _
      | refine LeO.ite ?_ ?_
      | refine LeO.bind ?_ (fun _ => ?_)
    · intro y0 y1
      unfold utf_lead.j1
      repeat' first
      | (with_reducible exact ih0 _ _)
      | (with_reducible exact ih1 _ _)
      | (with_reducible exact ih2 _ _)
      | (with_reducible exact LeO.refl _)
      | (with_reducible exact LeO.none _)
      | (with_reducible refine LeO.ite ?_ ?_)
      | (with_reducible refine LeO.bind ?_ (fun _ => ?_))
      | exact ih0 _ _
      | exact ih1 _ _
      | exact ih2 _ _
      | exact LeO.none _
      | refine LeO.ite ?_ ?_
      | refine LeO.bind ?_ (fun _ => ?_)
    · intro y0 y1
      unfold utf_lead.j2
      repeat' first
      | (with_reducible exact ih0 _ _)
      | (with_reducible exact ih1 _ _)
      | (with_reducible exact ih2 _ _)
      | (with_reducible exact LeO.refl _)
      | (with_reducible exact LeO.none _)
      | (with_reducible refine LeO.ite ?_ ?_)
      | (with_reducible refine LeO.bind ?_ (fun _ => ?_))
      | exact ih0 _ _
      | exact ih1 _ _
      | exact ih2 _ _
      | exact LeO.none _
      | refine LeO.ite ?_ ?_
      | refine LeO.bind ?_ (fun _ => ?_)
theorem utf_lead.mono : ∀ a0 k, LeO (utf_lead.f k a0) (utf_lead.f (k + 1) a0) := by
  intro a0 k
  obtain ⟨ih0, ih1, ih2⟩ := utf_lead.mono_l k
  unfold utf_lead.f
  repeat' first
      | (with_reducible exact ih0 _ _)
      | (with_reducible exact ih1 _ _)
      | (with_reducible exact ih2 _ _)
      | (with_reducible exact LeO.refl _)
      | (with_reducible exact LeO.none _)
      | (with_reducible refine LeO.ite ?_ ?_)
      | (with_reducible refine LeO.bind ?_ (fun _ => ?_))
      | exact ih0 _ _
      | exact ih1 _ _
      | exact ih2 _ _
      | exact LeO.none _
      | refine LeO.ite ?_ ?_
      | refine LeO.bind ?_ (fun _ => ?_)
set_option maxHeartbeats 8000000 in
set_option maxRecDepth 100000 in
theorem utf_lead.calls (k : Nat) (a0 : Int) (r1 : Int) (r2 : Int) (r3 : Int) (r4 : Bool) (w : World) (h : utf_lead.f k a0 = some (r1, r2, r3, r4)) :
    Calls Tryd.prog 169 #[.int .u8 a0] w fun e w' => e = .returned (.tuple #[.int .i64 r1, .int .u8 r2, .int .u8 r3, .bool r4]) ∧ Drawn0 w w' := by
  have H : (if a0 < 128 then (some (0, 0, 0, true)) else (if a0 ≥ 194 then (utf_lead.j0 k a0 (decide (a0 ≤ 223))) else (utf_lead.j0 k a0 false))) = some (r1, r2, r3, r4) := h
  clear h
  by_cases c2 : a0 < 128
  · rw [if_pos c2] at H
    have c2b0 : decide (a0 < 128) = true := decide_eq_true c2
    clear c2
    simp only [Option.some.injEq, Prod.mk.injEq] at H
    obtain ⟨rfl, rfl, rfl, rfl⟩ := H
    go_enter Tryd.func169, Tryd.ntmps169
    go_wp2
    refine bodyPost_ret (results_list (rs := [.tmp 2, .tmp 3, .tmp 4, .tmp 5]) rfl (by simp) (.tmp (.tmp (.tmp (.tmp .nil))))) rfl ?_
    exact ⟨by first | rfl | (simp; done) | (simp [*]; done), by repeat (first | exact Drawn0.refl _ | apply Drawn0.step)⟩
  · rw [if_neg c2] at H
    have c2b0 : decide (a0 < 128) = false := decide_eq_false c2
    clear c2
    have HC3 := Aside0.mk H
    clear H
    go_enter Tryd.func169, Tryd.ntmps169
    go_upto_region 3 with (fail)
    go_cut [9] (fun v9 wc => ∃ (kq : Nat) (x9_2 : Bool), v9 = .bool x9_2 ∧ Aside0 (utf_lead.j0 kq a0 x9_2 = some (r1, r2, r3, r4)) ∧ Aside0 (kq ≤ k) ∧ Drawn0 w wc)
    case first =>
      have H := HC3.out
      clear HC3
      by_cases c4 : a0 ≥ 194
      · rw [if_pos c4] at H
        have c4b0 : decide (194 ≤ a0) = true := decide_eq_true c4
        clear c4
        (first | rw [c4b0] | (simp only [i64_w, i32_w]; rw [c4b0]) | skip)
        have H' := Aside0.mk H
        clear H
        go_wp2
        go_meet
        case rel => exact ⟨_, (decide (a0 ≤ 223)), (by first | rfl | (simp; done) | (simp [*]; done)), H', ⟨by first | omega | exact Nat.le_refl _⟩, by repeat (first | exact Drawn0.refl _ | apply Drawn0.step)⟩
      · rw [if_neg c4] at H
        have c4b0 : decide (194 ≤ a0) = false := decide_eq_false c4
        clear c4
        (first | rw [c4b0] | (simp only [i64_w, i32_w]; rw [c4b0]) | skip)
        have H' := Aside0.mk H
        clear H
        go_wp2
        go_meet
        case rel => exact ⟨_, (false), (by first | rfl | (simp; done) | (simp [*]; done)), H', ⟨by first | omega | exact Nat.le_refl _⟩, by repeat (first | exact Drawn0.refl _ | apply Drawn0.step)⟩
    case rest =>
      clear HC3
      try clear c1
      try clear c2
      try clear c2b0
      try clear p2
      try clear c4
      try clear c4b0
      obtain ⟨kq, x9_2, rfl, HA, HJ2, ⟨mc2, rfl⟩⟩ := hcut
      cases kq with
      | zero => exact absurd HA.out (by simp [utf_lead.j0])
      | succ kj2 =>
        have H := HA.out
        clear HA
        simp only [utf_lead.j0] at H
        by_cases c5 : x9_2 = true
        · subst c5
          have H1 : (some (1, 128, 191, true)) = some (r1, r2, r3, r4) := by rw [if_pos rfl] at H; exact H
          clear H
          have H := H1
          clear H1
          simp only [Option.some.injEq, Prod.mk.injEq] at H
          obtain ⟨rfl, rfl, rfl, rfl⟩ := H
          go_wp2
          refine bodyPost_ret (results_list (rs := [.tmp 2, .tmp 3, .tmp 4, .tmp 5]) rfl (by simp) (.tmp (.tmp (.tmp (.tmp .nil))))) rfl ?_
          exact ⟨by first | rfl | (simp; done) | (simp [*]; done), by repeat (first | exact Drawn0.refl _ | apply Drawn0.step)⟩
        · replace c5 := Bool.eq_false_iff.mpr c5
          subst c5
          have H1 : (if a0 = 224 then (some (2, 160, 191, true)) else (if a0 = 237 then (some (2, 128, 159, true)) else (if a0 ≥ 225 then (utf_lead.j1 kj2 a0 (decide (a0 ≤ 239))) else (utf_lead.j1 kj2 a0 false)))) = some (r1, r2, r3, r4) := by rw [if_neg (show ¬ (false = true) by decide)] at H; exact H
          clear H
          have H := H1
          clear H1
          by_cases c6 : a0 = 224
          · rw [if_pos c6] at H
            have c6b0 : (a0 == 224) = true := beq_iff_eq.mpr c6
            have c6b1 : (a0 != 224) = false := bne_eq_false_iff_eq.mpr c6
            clear c6
            simp only [Option.some.injEq, Prod.mk.injEq] at H
            obtain ⟨rfl, rfl, rfl, rfl⟩ := H
            go_wp2
            refine bodyPost_ret (results_list (rs := [.tmp 2, .tmp 3, .tmp 4, .tmp 5]) rfl (by simp) (.tmp (.tmp (.tmp (.tmp .nil))))) rfl ?_
            exact ⟨by first | rfl | (simp; done) | (simp [*]; done), by repeat (first | exact Drawn0.refl _ | apply Drawn0.step)⟩
          · rw [if_neg c6] at H
            have c6b0 : (a0 == 224) = false := beq_eq_false_iff_ne.mpr c6
            have c6b1 : (a0 != 224) = true := bne_iff_ne.mpr c6
            by_cases c7 : a0 = 237
            · rw [if_pos c7] at H
              have c7b0 : (a0 == 237) = true := beq_iff_eq.mpr c7
              have c7b1 : (a0 != 237) = false := bne_eq_false_iff_eq.mpr c7
              clear c7
              simp only [Option.some.injEq, Prod.mk.injEq] at H
              obtain ⟨rfl, rfl, rfl, rfl⟩ := H
              go_wp2
              refine bodyPost_ret (results_list (rs := [.tmp 2, .tmp 3, .tmp 4, .tmp 5]) rfl (by simp) (.tmp (.tmp (.tmp (.tmp .nil))))) rfl ?_
              exact ⟨by first | rfl | (simp; done) | (simp [*]; done), by repeat (first | exact Drawn0.refl _ | apply Drawn0.step)⟩
            · rw [if_neg c7] at H
              have c7b0 : (a0 == 237) = false := beq_eq_false_iff_ne.mpr c7
              have c7b1 : (a0 != 237) = true := bne_iff_ne.mpr c7
              have HC8 := Aside0.mk H
              clear H
              go_upto_region 9 with (fail)
              go_cut [22] (fun v22 wc => ∃ (kq : Nat) (x22_7 : Bool), v22 = .bool x22_7 ∧ Aside0 (utf_lead.j1 kq a0 x22_7 = some (r1, r2, r3, r4)) ∧ Aside0 (kq ≤ kj2) ∧ Drawn0 w wc)
              case first =>
                have H := HC8.out
                clear HC8
                by_cases c9 : a0 ≥ 225
                · rw [if_pos c9] at H
                  have c9b0 : decide (225 ≤ a0) = true := decide_eq_true c9
                  clear c9
                  (first | rw [c9b0] | (simp only [i64_w, i32_w]; rw [c9b0]) | skip)
                  have H' := Aside0.mk H
                  clear H
                  go_wp2
                  go_meet
                  case rel => exact ⟨_, (decide (a0 ≤ 239)), (by first | rfl | (simp; done) | (simp [*]; done)), H', ⟨by have := HJ2.out; first | omega | exact Nat.le_refl _⟩, by repeat (first | exact Drawn0.refl _ | apply Drawn0.step)⟩
                · rw [if_neg c9] at H
                  have c9b0 : decide (225 ≤ a0) = false := decide_eq_false c9
                  clear c9
                  (first | rw [c9b0] | (simp only [i64_w, i32_w]; rw [c9b0]) | skip)
                  have H' := Aside0.mk H
                  clear H
                  go_wp2
                  go_meet
                  case rel => exact ⟨_, (false), (by first | rfl | (simp; done) | (simp [*]; done)), H', ⟨by have := HJ2.out; first | omega | exact Nat.le_refl _⟩, by repeat (first | exact Drawn0.refl _ | apply Drawn0.step)⟩
              case rest =>
                clear HC8
                try clear c1
                try clear c2
                try clear c2b0
                try clear p2
                try clear c4
                try clear c4b0
                try clear c5
                try clear c6
                try clear c6b0
                try clear c6b1
                try clear c7
                try clear c7b0
                try clear c7b1
                try clear c9
                try clear c9b0
                try clear p2
                obtain ⟨kq, x22_7, rfl, HA, HJ7, ⟨mc7, rfl⟩⟩ := hcut
                cases kq with
                | zero => exact absurd HA.out (by simp [utf_lead.j1])
                | succ kj7 =>
                  have H := HA.out
                  clear HA
                  simp only [utf_lead.j1] at H
                  by_cases c10 : x22_7 = true
                  · subst c10
                    have H1 : (some (2, 128, 191, true)) = some (r1, r2, r3, r4) := by rw [if_pos rfl] at H; exact H
                    clear H
                    have H := H1
                    clear H1
                    simp only [Option.some.injEq, Prod.mk.injEq] at H
                    obtain ⟨rfl, rfl, rfl, rfl⟩ := H
                    go_wp2
                    refine bodyPost_ret (results_list (rs := [.tmp 2, .tmp 3, .tmp 4, .tmp 5]) rfl (by simp) (.tmp (.tmp (.tmp (.tmp .nil))))) rfl ?_
                    exact ⟨by first | rfl | (simp; done) | (simp [*]; done), by repeat (first | exact Drawn0.refl _ | apply Drawn0.step)⟩
                  · replace c10 := Bool.eq_false_iff.mpr c10
                    subst c10
                    have H1 : (if a0 = 240 then (some (3, 144, 191, true)) else (if a0 ≥ 241 then (utf_lead.j2 kj7 a0 (decide (a0 ≤ 243))) else (utf_lead.j2 kj7 a0 false))) = some (r1, r2, r3, r4) := by rw [if_neg (show ¬ (false = true) by decide)] at H; exact H
                    clear H
                    have H := H1
                    clear H1
                    by_cases c11 : a0 = 240
                    · rw [if_pos c11] at H
                      have c11b0 : (a0 == 240) = true := beq_iff_eq.mpr c11
                      have c11b1 : (a0 != 240) = false := bne_eq_false_iff_eq.mpr c11
                      clear c11
                      simp only [Option.some.injEq, Prod.mk.injEq] at H
                      obtain ⟨rfl, rfl, rfl, rfl⟩ := H
                      go_wp2
                      refine bodyPost_ret (results_list (rs := [.tmp 2, .tmp 3, .tmp 4, .tmp 5]) rfl (by simp) (.tmp (.tmp (.tmp (.tmp .nil))))) rfl ?_
                      exact ⟨by first | rfl | (simp; done) | (simp [*]; done), by repeat (first | exact Drawn0.refl _ | apply Drawn0.step)⟩
                    · rw [if_neg c11] at H
                      have c11b0 : (a0 == 240) = false := beq_eq_false_iff_ne.mpr c11
                      have c11b1 : (a0 != 240) = true := bne_iff_ne.mpr c11
                      have HC12 := Aside0.mk H
                      clear H
                      go_upto_region 13 with (fail)
                      go_cut [32] (fun v32 wc => ∃ (kq : Nat) (x32_11 : Bool), v32 = .bool x32_11 ∧ Aside0 (utf_lead.j2 kq a0 x32_11 = some (r1, r2, r3, r4)) ∧ Aside0 (kq ≤ kj7) ∧ Drawn0 w wc)
                      case first =>
                        have H := HC12.out
                        clear HC12
                        by_cases c13 : a0 ≥ 241
                        · rw [if_pos c13] at H
                          have c13b0 : decide (241 ≤ a0) = true := decide_eq_true c13
                          clear c13
                          (first | rw [c13b0] | (simp only [i64_w, i32_w]; rw [c13b0]) | skip)
                          have H' := Aside0.mk H
                          clear H
                          go_wp2
                          go_meet
                          case rel => exact ⟨_, (decide (a0 ≤ 243)), (by first | rfl | (simp; done) | (simp [*]; done)), H', ⟨by have := HJ2.out; have := HJ7.out; first | omega | exact Nat.le_refl _⟩, by repeat (first | exact Drawn0.refl _ | apply Drawn0.step)⟩
                        · rw [if_neg c13] at H
                          have c13b0 : decide (241 ≤ a0) = false := decide_eq_false c13
                          clear c13
                          (first | rw [c13b0] | (simp only [i64_w, i32_w]; rw [c13b0]) | skip)
                          have H' := Aside0.mk H
                          clear H
                          go_wp2
                          go_meet
                          case rel => exact ⟨_, (false), (by first | rfl | (simp; done) | (simp [*]; done)), H', ⟨by have := HJ2.out; have := HJ7.out; first | omega | exact Nat.le_refl _⟩, by repeat (first | exact Drawn0.refl _ | apply Drawn0.step)⟩
                      case rest =>
                        clear HC12
                        try clear c1
                        try clear c2
                        try clear c2b0
                        try clear p2
                        try clear c4
                        try clear c4b0
                        try clear c5
                        try clear c6
                        try clear c6b0
                        try clear c6b1
                        try clear c7
                        try clear c7b0
                        try clear c7b1
                        try clear c9
                        try clear c9b0
                        try clear c10
                        try clear c11
                        try clear c11b0
                        try clear c11b1
                        try clear c13
                        try clear c13b0
                        try clear p2
                        obtain ⟨kq, x32_11, rfl, HA, HJ11, ⟨mc11, rfl⟩⟩ := hcut
                        cases kq with
                        | zero => exact absurd HA.out (by simp [utf_lead.j2])
                        | succ kj11 =>
                          have H := HA.out
                          clear HA
                          simp only [utf_lead.j2] at H
                          by_cases c14 : x32_11 = true
                          · subst c14
                            have H1 : (some (3, 128, 191, true)) = some (r1, r2, r3, r4) := by rw [if_pos rfl] at H; exact H
                            clear H
                            have H := H1
                            clear H1
                            simp only [Option.some.injEq, Prod.mk.injEq] at H
                            obtain ⟨rfl, rfl, rfl, rfl⟩ := H
                            go_wp2
                            refine bodyPost_ret (results_list (rs := [.tmp 2, .tmp 3, .tmp 4, .tmp 5]) rfl (by simp) (.tmp (.tmp (.tmp (.tmp .nil))))) rfl ?_
                            exact ⟨by first | rfl | (simp; done) | (simp [*]; done), by repeat (first | exact Drawn0.refl _ | apply Drawn0.step)⟩
                          · replace c14 := Bool.eq_false_iff.mpr c14
                            subst c14
                            have H1 : (if a0 = 244 then (some (3, 128, 143, true)) else (some (0, 0, 0, false))) = some (r1, r2, r3, r4) := by rw [if_neg (show ¬ (false = true) by decide)] at H; exact H
                            clear H
                            have H := H1
                            clear H1
                            by_cases c15 : a0 = 244
                            · rw [if_pos c15] at H
                              have c15b0 : (a0 == 244) = true := beq_iff_eq.mpr c15
                              have c15b1 : (a0 != 244) = false := bne_eq_false_iff_eq.mpr c15
                              clear c15
                              simp only [Option.some.injEq, Prod.mk.injEq] at H
                              obtain ⟨rfl, rfl, rfl, rfl⟩ := H
                              go_wp2
                              refine bodyPost_ret (results_list (rs := [.tmp 2, .tmp 3, .tmp 4, .tmp 5]) rfl (by simp) (.tmp (.tmp (.tmp (.tmp .nil))))) rfl ?_
                              exact ⟨by first | rfl | (simp; done) | (simp [*]; done), by repeat (first | exact Drawn0.refl _ | apply Drawn0.step)⟩
                            · rw [if_neg c15] at H
                              have c15b0 : (a0 == 244) = false := beq_eq_false_iff_ne.mpr c15
                              have c15b1 : (a0 != 244) = true := bne_iff_ne.mpr c15
                              simp only [Option.some.injEq, Prod.mk.injEq] at H
                              obtain ⟨rfl, rfl, rfl, rfl⟩ := H
                              go_wp2
                              refine bodyPost_ret (results_list (rs := [.tmp 2, .tmp 3, .tmp 4, .tmp 5]) rfl (by simp) (.tmp (.tmp (.tmp (.tmp .nil))))) rfl ?_
                              exact ⟨by first | rfl | (simp; done) | (simp [*]; done), by repeat (first | exact Drawn0.refl _ | apply Drawn0.step)⟩
def leb_PutU.l0 : Nat → List Int → Int → Option (List Int)
  | 0, _, _ => none
  | k + 1, x0, x1 => if x1 ≥ 128 then (if x0.length < 140737488355328 then (leb_PutU.l0 k (x0 ++ [Go.bits .or .u8 ((x1) % 256) 128]) (x1 / 128)) else (none)) else (if x0.length < 140737488355328 then (some (x0 ++ [(x1) % 256])) else (none))
def leb_PutU.f (k : Nat) (l0 : List Int) (a1 : Int) : Option (List Int) := leb_PutU.l0 k l0 a1
theorem leb_PutU.mono_l : ∀ k, (∀ y0 y1, LeO (leb_PutU.l0 k y0 y1) (leb_PutU.l0 (k + 1) y0 y1))
  | 0 => fun _ _ r h => by simp [leb_PutU.l0] at h
  | k + 1 => by
    have ih0 := leb_PutU.mono_l k
    · intro y0 y1
      unfold leb_PutU.l0
      repeat' first
      | (with_reducible exact ih0 _ _)
      | (with_reducible exact LeO.refl _)
      | (with_reducible exact LeO.none _)
      | (with_reducible refine LeO.ite ?_ ?_)
      | (with_reducible refine LeO.bind ?_ (fun _ => ?_))
      | exact ih0 _ _
      | exact LeO.none _
      | refine LeO.ite ?_ ?_
      | refine LeO.bind ?_ (fun _ => ?_)
theorem leb_PutU.mono : ∀ a0 a1 k, LeO (leb_PutU.f k a0 a1) (leb_PutU.f (k + 1) a0 a1) := by
  intro a0 a1 k
  have ih0 := leb_PutU.mono_l k
  unfold leb_PutU.f
  repeat' first
      | (with_reducible exact ih0 _ _)
      | (with_reducible exact LeO.refl _)
      | (with_reducible exact LeO.none _)
      | (with_reducible refine LeO.ite ?_ ?_)
      | (with_reducible refine LeO.bind ?_ (fun _ => ?_))
      | exact ih0 _ _
      | exact LeO.none _
      | refine LeO.ite ?_ ?_
      | refine LeO.bind ?_ (fun _ => ?_)
set_option maxHeartbeats 8000000 in
set_option maxRecDepth 100000 in
theorem leb_PutU.calls (k : Nat) (P0_ : Nat → Prop) (u9000_ : Value) (l0 : List Int) (a1 : Int) (r : List Int) (w0 w : World) (hB : Below w0.heap.size w0 w) (ho0 : Kd.R (Kd.int .u8) 5 w w0.heap.size P0_ u9000_ l0) (h : leb_PutU.f k l0 a1 = some r) :
    Calls Tryd.prog 63 #[u9000_, .int .u64 a1] w fun e w' => ∃ v0_ : Value, e = .returned (v0_) ∧ Kd.R (Kd.int .u8) 5 w' w0.heap.size (fun k_ => (P0_ k_ ∨ w.heap.size ≤ k_)) v0_ r ∧ Below w0.heap.size w0 w' ∧ Kept w w' (fun k_ => P0_ k_) := by
  have HO0 := Aside0.mk (show Kd.R (Kd.int .u8) 5 w w0.heap.size (fun k_ => (P0_ k_ ∨ w.heap.size ≤ k_)) u9000_ l0 from Kd.R_mono ho0 (fun k_ hk => (.inl hk)))
  have HK := Aside0.mk (Kept.refl w (fun k_ => P0_ k_))
  have HW0 := Aside0.mk hB.size
  have HB := Aside0.mk hB
  clear hB
  have H : (leb_PutU.l0 k l0 a1) = some r := h
  clear h
  have H' := Aside0.mk H
  clear H
  go_enter Tryd.func63, Tryd.ntmps63
  go_wp2
  go_loopg [0, 1] k (fun kq v0 v1 w' => ∃ (x0_1 : List Int) (x1_1 : Int), v1 = .int .u64 x1_1 ∧ Aside0 (leb_PutU.l0 kq x0_1 x1_1 = some r) ∧ Aside0 (kq ≤ k) ∧ Aside0 (Kd.R (Kd.int .u8) 5 w' w0.heap.size (fun k_ => (P0_ k_ ∨ w.heap.size ≤ k_)) v0 x0_1) ∧ Aside0 (Kept w w' (fun k_ => P0_ k_)) ∧ Aside0 (Below w0.heap.size w0 w'))
  case atStart => exact ⟨(l0), (a1), (by first | rfl | (simp; done) | (simp [*]; done)), H', ⟨Nat.le_refl _⟩, ⟨by (with_reducible repeat (first | apply Kd.R_alloc | apply Kd.R_drewN | apply Kd.R_drew)); exact HO0.out⟩, ⟨by repeat (first | (with_reducible first | exact HK.out | apply Kept.alloc | apply Kept.drewN | apply Kept.drew) | exact HK.out)⟩, ⟨by repeat (first | (with_reducible first | exact HB.out | apply below_alloc | apply pw_below_drewN | apply below_drew1) | exact HB.out)⟩⟩
  case round =>
    clear H'
    try clear p2
    obtain ⟨x0_1, x1_1, rfl, HA, HK1, HO_0, HK, HB⟩ := hrel
    cases gk with
    | zero => exact absurd HA.out (by simp [leb_PutU.l0])
    | succ k1 =>
      have H := HA.out
      clear HA
      simp only [leb_PutU.l0] at H
      by_cases c3 : x1_1 ≥ 128
      · rw [if_pos c3] at H
        have c3b0 : decide (128 ≤ x1_1) = true := decide_eq_true c3
        clear c3
        by_cases c4 : x0_1.length < 140737488355328
        · rw [if_pos c4] at H
          have LMc4 := Aside0.mk c4
          clear c4
          obtain ⟨y218, hy218⟩ : ∃ y_ : List Int, y_ = (x0_1 ++ [Go.bits .or .u8 ((x1_1) % 256) 128]) := ⟨_, rfl⟩
          replace H : (leb_PutU.l0 k1 y218 (x1_1 / 128)) = some r := by first | (rw [hy218]; with_reducible exact H) | (have H2_ := (Option.bind_some _ _).symm.trans H; rw [hy218]; with_reducible exact H2_) | (have H2_ := (Option.bind_some _ _).symm.trans H; with_reducible exact H2_) | with_reducible exact H | (rw [hy218]; exact H) | exact H
          have Ny218 := Aside0.mk hy218
          clear hy218
          have H' := Aside0.mk H
          clear H
          go_wp2_with (first | ((with_reducible refine gate_builtin (b := .append) (xs := #[.tmp 7, .tmp 11]) rfl ?_); at_builtin; refine Kd.R_append (Kd.int .u8) (w0 := w0) w0.heap.size rfl (.tmp 7) (.tmp 11) 70 5 (.int .u8 0) 1 rfl Tryd.underlying70 info5 rfl (by decide) (by omega) u0 x0_1 (Go.bits .or .u8 ((x1_1) % 256) 128) [.int .u8 (Go.bits .or .u8 ((x1_1) % 256) 128)] (fun k_ => (P0_ k_ ∨ w.heap.size ≤ k_)) (fun _ => False) rfl rfl ?aP (fun _ hk => hk.elim) ?aF ?aO ?aB ?aS ?aL ?_; (case aP => exact rfl); (case aB => exact (by repeat (first | (with_reducible first | exact HB.out | apply below_alloc | apply pw_below_drewN | apply below_drew1) | exact HB.out))); (case aF => exact (fun k_ hk => (.inr (Nat.le_trans (by first | exact HK.out.1 | exact (show Kept w _ (fun k_ => P0_ k_) from by repeat (first | (with_reducible first | exact HK.out | apply Kept.alloc | apply Kept.drewN | apply Kept.drew) | exact HK.out)).1) hk)))); (case aO => exact (by (with_reducible repeat (first | apply Kd.R_alloc | apply Kd.R_drewN | apply Kd.R_drew)); exact HO_0.out)); (case aS => exact (below_size (by repeat (first | (with_reducible first | exact HB.out | apply below_alloc | apply pw_below_drewN | apply below_drew1) | exact HB.out)))); (case aL => have := LMc4.out; omega); intro v219 w5 ho hb hg hat; rw [← Ny218.out] at ho; have n0_ := Aside0.mk (hb); have n1_ := Aside0.mk (Kept.of_grown (S := (fun k_ => P0_ k_)) hg (by repeat (first | (with_reducible first | exact HK.out | apply Kept.alloc | apply Kept.drewN | apply Kept.drew) | exact HK.out)) (fun k_ e_ => (HO_0.out.1 k_ e_))); have n2_ := Aside0.mk (ho); clear HB; clear HK; clear HO_0; have HB := n0_; have HK := n1_; have HO220 := n2_; clear n0_ n1_ n2_; clear ho hb hg hat))
          go_roundg k1
          case measure => have := HK1.out; omega
          case rel => exact ⟨(y218), (x1_1 / 128), (by first | rfl | (simp; done) | (simp [*]; done)), H', ⟨by have := HK1.out; omega⟩, ⟨by (with_reducible repeat (first | apply Kd.R_alloc | apply Kd.R_drewN | apply Kd.R_drew)); exact HO220.out⟩, ⟨by repeat (first | (with_reducible first | exact HK.out | apply Kept.alloc | apply Kept.drewN | apply Kept.drew) | exact HK.out)⟩, ⟨by repeat (first | (with_reducible first | exact HB.out | apply below_alloc | apply pw_below_drewN | apply below_drew1) | exact HB.out)⟩⟩
        · rw [if_neg c4] at H
          exact absurd H (by simp)
      · rw [if_neg c3] at H
        have c3b0 : decide (128 ≤ x1_1) = false := decide_eq_false c3
        clear c3
        by_cases c6 : x0_1.length < 140737488355328
        · rw [if_pos c6] at H
          have LMc6 := Aside0.mk c6
          clear c6
          obtain ⟨y221, hy221⟩ : ∃ y_ : List Int, y_ = (x0_1 ++ [(x1_1) % 256]) := ⟨_, rfl⟩
          replace H : (some y221) = some r := by first | (rw [hy221]; with_reducible exact H) | (have H2_ := (Option.bind_some _ _).symm.trans H; rw [hy221]; with_reducible exact H2_) | (have H2_ := (Option.bind_some _ _).symm.trans H; with_reducible exact H2_) | with_reducible exact H | (rw [hy221]; exact H) | exact H
          have Ny221 := Aside0.mk hy221
          clear hy221
          obtain rfl := Option.some.inj H
          go_wp2_with (first | ((with_reducible refine gate_builtin (b := .append) (xs := #[.tmp 15, .tmp 18]) rfl ?_); at_builtin; refine Kd.R_append (Kd.int .u8) (w0 := w0) w0.heap.size rfl (.tmp 15) (.tmp 18) 70 5 (.int .u8 0) 1 rfl Tryd.underlying70 info5 rfl (by decide) (by omega) u0 x0_1 ((x1_1) % 256) [.int .u8 ((x1_1) % 256)] (fun k_ => (P0_ k_ ∨ w.heap.size ≤ k_)) (fun _ => False) rfl rfl ?aP (fun _ hk => hk.elim) ?aF ?aO ?aB ?aS ?aL ?_; (case aP => exact rfl); (case aB => exact (by repeat (first | (with_reducible first | exact HB.out | apply below_alloc | apply pw_below_drewN | apply below_drew1) | exact HB.out))); (case aF => exact (fun k_ hk => (.inr (Nat.le_trans (by first | exact HK.out.1 | exact (show Kept w _ (fun k_ => P0_ k_) from by repeat (first | (with_reducible first | exact HK.out | apply Kept.alloc | apply Kept.drewN | apply Kept.drew) | exact HK.out)).1) hk)))); (case aO => exact (by (with_reducible repeat (first | apply Kd.R_alloc | apply Kd.R_drewN | apply Kd.R_drew)); exact HO_0.out)); (case aS => exact (below_size (by repeat (first | (with_reducible first | exact HB.out | apply below_alloc | apply pw_below_drewN | apply below_drew1) | exact HB.out)))); (case aL => have := LMc6.out; omega); intro v222 w7 ho hb hg hat; rw [← Ny221.out] at ho; have n0_ := Aside0.mk (hb); have n1_ := Aside0.mk (Kept.of_grown (S := (fun k_ => P0_ k_)) hg (by repeat (first | (with_reducible first | exact HK.out | apply Kept.alloc | apply Kept.drewN | apply Kept.drew) | exact HK.out)) (fun k_ e_ => (HO_0.out.1 k_ e_))); have n2_ := Aside0.mk (ho); clear HB; clear HK; clear HO_0; have HB := n0_; have HK := n1_; have HO223 := n2_; clear n0_ n1_ n2_; clear ho hb hg hat))
          go_ret
          exact ⟨_, by first | rfl | (simp [errW_none, errW_some] <;> rfl) | (simp [*, errW_none, errW_some] <;> rfl), by (with_reducible repeat (first | apply Kd.R_alloc | apply Kd.R_drewN | apply Kd.R_drew)); exact HO223.out, by repeat (first | (with_reducible first | exact HB.out | apply below_alloc | apply pw_below_drewN | apply below_drew1) | exact HB.out), by repeat (first | (with_reducible first | exact HK.out | apply Kept.alloc | apply Kept.drewN | apply Kept.drew) | exact HK.out)⟩
        · rw [if_neg c6] at H
          exact absurd H (by simp)
def entry_PutText.f (k : Nat) (l0 : List Int) (a1 : ByteArray) : Option (List Int) := (leb_PutU.f k l0 (IntKind.u64.wrap ((a1.size : Int)))).bind fun t224 => (if t224.length + a1.size < 140737488355328 then (some (t224 ++ bytesOf a1)) else (none))
theorem entry_PutText.mono : ∀ a0 a1 k, LeO (entry_PutText.f k a0 a1) (entry_PutText.f (k + 1) a0 a1) := by
  intro a0 a1 k
  unfold entry_PutText.f
  repeat' first
      | (with_reducible exact leb_PutU.mono _ _ _)
      | (with_reducible exact LeO.refl _)
      | (with_reducible exact LeO.none _)
      | (with_reducible refine LeO.ite ?_ ?_)
      | (with_reducible refine LeO.bind ?_ (fun _ => ?_))
      | exact leb_PutU.mono _ _ _
      | exact LeO.none _
      | refine LeO.ite ?_ ?_
      | refine LeO.bind ?_ (fun _ => ?_)
set_option maxHeartbeats 8000000 in
set_option maxRecDepth 100000 in
theorem entry_PutText.calls (k : Nat) (P0_ : Nat → Prop) (u9000_ : Value) (l0 : List Int) (a1 : ByteArray) (r : List Int) (w0 w : World) (hB : Below w0.heap.size w0 w) (ho0 : Kd.R (Kd.int .u8) 5 w w0.heap.size P0_ u9000_ l0) (h : entry_PutText.f k l0 a1 = some r) :
    Calls Tryd.prog 65 #[u9000_, .string a1] w fun e w' => ∃ v0_ : Value, e = .returned (v0_) ∧ Kd.R (Kd.int .u8) 5 w' w0.heap.size (fun k_ => (P0_ k_ ∨ w.heap.size ≤ k_)) v0_ r ∧ Below w0.heap.size w0 w' ∧ Kept w w' (fun k_ => P0_ k_) := by
  have HO0 := Aside0.mk (show Kd.R (Kd.int .u8) 5 w w0.heap.size (fun k_ => (P0_ k_ ∨ w.heap.size ≤ k_)) u9000_ l0 from Kd.R_mono ho0 (fun k_ hk => (.inl hk)))
  have HK := Aside0.mk (Kept.refl w (fun k_ => P0_ k_))
  have HW0 := Aside0.mk hB.size
  have HB := Aside0.mk hB
  clear hB
  have H : ((leb_PutU.f k l0 (IntKind.u64.wrap ((a1.size : Int)))).bind fun t224 => (if t224.length + a1.size < 140737488355328 then (some (t224 ++ bytesOf a1)) else (none))) = some r := h
  clear h
  replace H := Option.bind_eq_some_iff.mp H
  obtain ⟨t224, A30, H⟩ := H
  replace H : (if t224.length + a1.size < 140737488355328 then (some (t224 ++ bytesOf a1)) else (none)) = some r := H
  have A3 := Aside0.mk A30
  clear A30
  by_cases c4 : t224.length + a1.size < 140737488355328
  · rw [if_pos c4] at H
    have LMc4 := Aside0.mk c4
    clear c4
    obtain ⟨y227, hy227⟩ : ∃ y_ : List Int, y_ = (t224 ++ bytesOf a1) := ⟨_, rfl⟩
    replace H : (some y227) = some r := by first | (rw [hy227]; with_reducible exact H) | (have H2_ := (Option.bind_some _ _).symm.trans H; rw [hy227]; with_reducible exact H2_) | (have H2_ := (Option.bind_some _ _).symm.trans H; with_reducible exact H2_) | with_reducible exact H | (rw [hy227]; exact H) | exact H
    have Ny227 := Aside0.mk hy227
    clear hy227
    obtain rfl := Option.some.inj H
    obtain ⟨Ao5, co5, eo5⟩ := Kd.R_slice HO0.out
    subst eo5
    go_enter Tryd.func65, Tryd.ntmps65
    go_wp2_with (first | ((with_reducible refine gate_callee (f := 63) rfl ?_); refine goesL_ (some 9) rfl rfl Tryd.func63 (by kernel_rfl) rfl #[.slice Ao5 l0.length co5, .int .u64 (IntKind.u64.wrap ((a1.size : Int)))] rfl (by (try simp only [List.map_toArray, List.map_cons, List.map_nil]); first | done | rfl | (simp only [List.length_drop, List.length_take]; rfl)) ?_; (with_reducible refine (leb_PutU.calls k (fun k_ => some k_ = (.slice Ao5 l0.length co5 : Value).ownBlock) (.slice Ao5 l0.length co5) l0 (IntKind.u64.wrap ((a1.size : Int))) t224 w0 _ ?side1 ?side2 A3.out).mono ?_); (case side1 => repeat (first | (with_reducible first | exact HB.out | apply below_alloc | apply pw_below_drewN | apply below_drew1) | exact HB.out)); (case side2 => exact Kd.R_tight rfl HO0.out); rintro e w6 ⟨v225, rfl, ho0, hb, hkp⟩; refine ⟨_, rfl, ?_⟩; have n0_ := Aside0.mk (Kd.R_mono (ok' := fun k_ => (P0_ k_ ∨ w.heap.size ≤ k_)) ho0 (fun k_ hk_ => Or.elim hk_ (fun hs_ => (HO0.out.1 k_ (hs_).symm)) (fun hn_ => (.inr (Nat.le_trans (by first | exact HK.out.1 | exact (show Kept w _ (fun k_ => P0_ k_) from by repeat (first | (with_reducible first | exact HK.out | apply Kept.alloc | apply Kept.drewN | apply Kept.drew) | exact HK.out)).1) hn_))))); have n1_ := Aside0.mk (Kept.then_ (S := (fun k_ => P0_ k_)) (by repeat (first | (with_reducible first | exact HK.out | apply Kept.alloc | apply Kept.drewN | apply Kept.drew) | exact HK.out)) hkp (fun k_ hs_ => (fun e_ => (HO0.out.1 k_ e_.symm)) hs_)); have n2_ := Aside0.mk (hb); clear HK; clear HB; clear HO0; have HO226 := n0_; have HK := n1_; have HB := n2_; clear n0_ n1_ n2_; (try clear hb); (try clear hkp); (try clear ho0)) | (at_builtin; refine append_str_at (w0 := w0) w0.heap.size rfl (.tmp 9) _ 70 9 5 rfl Tryd.underlying70 Tryd.underlying9 info5 v225 t224 a1 rfl rfl ?aO ?aB ?aS ?aL ?_; (case aB => exact (by repeat (first | (with_reducible first | exact HB.out | apply below_alloc | apply pw_below_drewN | apply below_drew1) | exact HB.out))); (case aO => exact (Kd.own_of_R (by (with_reducible repeat (first | apply Kd.R_alloc | apply Kd.R_drewN | apply Kd.R_drew)); exact HO226.out))); (case aS => exact (below_size (by repeat (first | (with_reducible first | exact HB.out | apply below_alloc | apply pw_below_drewN | apply below_drew1) | exact HB.out)))); (case aL => have := LMc4.out; omega); intro v228 w7 ho0 hb hg hnew; have ho := Kd.R_of_own (h1 := fun _ => rfl) (ok := fun k_ => (P0_ k_ ∨ w.heap.size ≤ k_)) ho0 (fun k_ e_ => Or.elim (hnew k_ e_) (fun o_ => HO226.out.1 k_ o_) (fun n_ => .inr (Nat.le_trans (show Kept w _ (fun k_ => P0_ k_) from by repeat (first | (with_reducible first | exact HK.out | apply Kept.alloc | apply Kept.drewN | apply Kept.drew) | exact HK.out)).1 n_))); clear hnew; clear ho0; have hat := True.intro; rw [← Ny227.out] at ho; change Kd.R (Kd.int .u8) 5 w7 w0.heap.size (fun k_ => (P0_ k_ ∨ w.heap.size ≤ k_)) v228 y227 at ho; have n0_ := Aside0.mk (hb); have n1_ := Aside0.mk (Kept.of_grown (S := (fun k_ => P0_ k_)) hg (by repeat (first | (with_reducible first | exact HK.out | apply Kept.alloc | apply Kept.drewN | apply Kept.drew) | exact HK.out)) (fun k_ e_ => (HO226.out.1 k_ e_))); have n2_ := Aside0.mk (ho); clear HB; clear HK; clear HO226; have HB := n0_; have HK := n1_; have HO229 := n2_; clear n0_ n1_ n2_; clear ho hb hg hat))
    go_ret
    exact ⟨_, by first | rfl | (simp [errW_none, errW_some] <;> rfl) | (simp [*, errW_none, errW_some] <;> rfl), by (with_reducible repeat (first | apply Kd.R_alloc | apply Kd.R_drewN | apply Kd.R_drew)); exact HO229.out, by repeat (first | (with_reducible first | exact HB.out | apply below_alloc | apply pw_below_drewN | apply below_drew1) | exact HB.out), by repeat (first | (with_reducible first | exact HK.out | apply Kept.alloc | apply Kept.drewN | apply Kept.drew) | exact HK.out)⟩
  · rw [if_neg c4] at H
    exact absurd H (by simp)
def names_list.l0 : Nat → List Int → List (S121) → Int → Int → Option (List Int)
  | 0, _, _, _, _ => none
  | k + 1, x0, x12, x13, x14 => if x14 < x13 then (if 0 ≤ x14 then (if x14 < (x12.length : Int) then ((leb_PutU.f k x0 (IntKind.u64.wrap ((rd_T121 x12 x14).f0))).bind fun t235 => ((entry_PutText.f k t235 ((rd_T121 x12 x14).f1)).bind fun t238 => (names_list.l0 k t238 x12 x13 (wrap64 (x14 + 1))))) else (none)) else (none)) else (some x0)
def names_list.f (k : Nat) (l0 : List Int) (l1 : List (S121)) : Option (List Int) := (leb_PutU.f k l0 (IntKind.u64.wrap ((l1.length : Int)))).bind fun t230 => (names_list.l0 k t230 l1 (l1.length : Int) 0)
theorem names_list.mono_l : ∀ k, (∀ y0 y1 y2 y3, LeO (names_list.l0 k y0 y1 y2 y3) (names_list.l0 (k + 1) y0 y1 y2 y3))
  | 0 => fun _ _ _ _ r h => by simp [names_list.l0] at h
  | k + 1 => by
    have ih0 := names_list.mono_l k
    · intro y0 y1 y2 y3
      unfold names_list.l0
      repeat' first
      | (with_reducible exact ih0 _ _ _ _)
      | (with_reducible exact entry_PutText.mono _ _ _)
      | (with_reducible exact leb_PutU.mono _ _ _)
      | (with_reducible exact LeO.refl _)
      | (with_reducible exact LeO.none _)
      | (with_reducible refine LeO.ite ?_ ?_)
      | (with_reducible refine LeO.bind ?_ (fun _ => ?_))
      | exact ih0 _ _ _ _
      | exact entry_PutText.mono _ _ _
      | exact leb_PutU.mono _ _ _
      | exact LeO.none _
      | refine LeO.ite ?_ ?_
      | refine LeO.bind ?_ (fun _ => ?_)
theorem names_list.mono : ∀ a0 a1 k, LeO (names_list.f k a0 a1) (names_list.f (k + 1) a0 a1) := by
  intro a0 a1 k
  have ih0 := names_list.mono_l k
  unfold names_list.f
  repeat' first
      | (with_reducible exact ih0 _ _ _ _)
      | (with_reducible exact entry_PutText.mono _ _ _)
      | (with_reducible exact leb_PutU.mono _ _ _)
      | (with_reducible exact LeO.refl _)
      | (with_reducible exact LeO.none _)
      | (with_reducible refine LeO.ite ?_ ?_)
      | (with_reducible refine LeO.bind ?_ (fun _ => ?_))
      | exact ih0 _ _ _ _
      | exact entry_PutText.mono _ _ _
      | exact leb_PutU.mono _ _ _
      | exact LeO.none _
      | refine LeO.ite ?_ ?_
      | refine LeO.bind ?_ (fun _ => ?_)
def names_list.T5 : Bool × List (List Nat × List Nat) := (true, [([], []), ([], []), ([1], [1]), ([2], [2]), ([0, 3], [0, 3]), ([], []), ([5], [5]), ([4, 6, 4], [4, 6]), ([7, 7, 0, 1, 2, 3, 4, 5, 6, 7], [0, 7])])
def names_list.B5 : List Nat := [0, 0, 2, 6, 15, 0, 32, 127, 255]
theorem names_list.tab5 : rtab .any (opsOf Tryd.f64 5) = names_list.T5 := by kernel_rfl
theorem names_list.bits5 : waitsOk names_list.T5.2 names_list.B5 = true := by kernel_rfl
set_option maxHeartbeats 8000000 in
set_option maxRecDepth 100000 in
theorem names_list.calls (k : Nat) (P0_ : Nat → Prop) (u9000_ : Value) (l0 : List Int) (A1 : Option Addr) (c1 : Nat) (l1 : List (S121)) (r : List Int) (w0 w : World) (hB : Below w0.heap.size w0 w) (ho0 : Kd.R (Kd.int .u8) 5 w w0.heap.size P0_ u9000_ l0) (hr1 : ∀ W_, Kept w W_ (fun k_ => P0_ k_) → Kd.C k121 W_ A1 l1.length l1) (hc1 : l1.length ≤ c1) (h : names_list.f k l0 l1 = some r) :
    Calls Tryd.prog 64 #[u9000_, .slice A1 l1.length c1] w fun e w' => ∃ v0_ : Value, e = .returned (v0_) ∧ Kd.R (Kd.int .u8) 5 w' w0.heap.size (fun k_ => (P0_ k_ ∨ w.heap.size ≤ k_)) v0_ r ∧ Below w0.heap.size w0 w' ∧ Kept w w' (fun k_ => P0_ k_) := by
  have hu121 := Tryd.underlying121
  have HO0 := Aside0.mk (show Kd.R (Kd.int .u8) 5 w w0.heap.size (fun k_ => (P0_ k_ ∨ w.heap.size ≤ k_)) u9000_ l0 from Kd.R_mono ho0 (fun k_ hk => (.inl hk)))
  have HR1 := Aside0.mk hr1
  have HC1 := Aside0.mk hc1
  clear hr1 hc1
  have HK := Aside0.mk (Kept.refl w (fun k_ => P0_ k_))
  have HW0 := Aside0.mk hB.size
  have HB := Aside0.mk hB
  clear hB
  have H : ((leb_PutU.f k l0 (IntKind.u64.wrap ((l1.length : Int)))).bind fun t230 => (names_list.l0 k t230 l1 (l1.length : Int) 0)) = some r := h
  clear h
  replace H := Option.bind_eq_some_iff.mp H
  obtain ⟨t230, A30, H⟩ := H
  replace H : (names_list.l0 k t230 l1 (l1.length : Int) 0) = some r := H
  have A3 := Aside0.mk A30
  clear A30
  have H' := Aside0.mk H
  clear H
  obtain ⟨Ao4, co4, eo4⟩ := Kd.R_slice HO0.out
  subst eo4
  go_enter Tryd.func64, Tryd.ntmps64
  go_wp2_with (first | ((with_reducible refine gate_callee (f := 63) rfl ?_); refine goesL_ (some 11) rfl rfl Tryd.func63 (by kernel_rfl) rfl #[.slice Ao4 l0.length co4, .int .u64 (IntKind.u64.wrap ((l1.length : Int)))] rfl (by (try simp only [List.map_toArray, List.map_cons, List.map_nil]); first | done | rfl | (simp only [List.length_drop, List.length_take]; rfl)) ?_; (with_reducible refine (leb_PutU.calls k (fun k_ => some k_ = (.slice Ao4 l0.length co4 : Value).ownBlock) (.slice Ao4 l0.length co4) l0 (IntKind.u64.wrap ((l1.length : Int))) t230 w0 _ ?side1 ?side2 A3.out).mono ?_); (case side1 => repeat (first | (with_reducible first | exact HB.out | apply below_alloc | apply pw_below_drewN | apply below_drew1) | exact HB.out)); (case side2 => exact Kd.R_tight rfl HO0.out); rintro e w5 ⟨v231, rfl, ho0, hb, hkp⟩; refine ⟨_, rfl, ?_⟩; have n0_ := Aside0.mk (Kd.R_mono (ok' := fun k_ => (P0_ k_ ∨ w.heap.size ≤ k_)) ho0 (fun k_ hk_ => Or.elim hk_ (fun hs_ => (HO0.out.1 k_ (hs_).symm)) (fun hn_ => (.inr (Nat.le_trans (by first | exact HK.out.1 | exact (show Kept w _ (fun k_ => P0_ k_) from by repeat (first | (with_reducible first | exact HK.out | apply Kept.alloc | apply Kept.drewN | apply Kept.drew) | exact HK.out)).1) hn_))))); have n1_ := Aside0.mk (Kept.then_ (S := (fun k_ => P0_ k_)) (by repeat (first | (with_reducible first | exact HK.out | apply Kept.alloc | apply Kept.drewN | apply Kept.drew) | exact HK.out)) hkp (fun k_ hs_ => (fun e_ => (HO0.out.1 k_ e_.symm)) hs_)); have n2_ := Aside0.mk (hb); clear HK; clear HB; clear HO0; have HO232 := n0_; have HK := n1_; have HB := n2_; clear n0_ n1_ n2_; (try clear hb); (try clear hkp); (try clear ho0)))
  go_loopg [0, 14] k (fun kq v0 v14 w' => ∃ (x0_1 : List Int) (x14_1 : Int), v14 = .int .i64 x14_1 ∧ Aside0 (names_list.l0 kq x0_1 l1 (l1.length : Int) x14_1 = some r) ∧ Aside0 (kq ≤ k) ∧ Aside0 (Kd.R (Kd.int .u8) 5 w' w0.heap.size (fun k_ => (P0_ k_ ∨ w.heap.size ≤ k_)) v0 x0_1) ∧ Aside0 (Kept w w' (fun k_ => P0_ k_)) ∧ Aside0 (Below w0.heap.size w0 w'))
  case atStart => exact ⟨(t230), (0), (by first | rfl | (simp; done) | (simp [*]; done)), H', ⟨Nat.le_refl _⟩, ⟨by (with_reducible repeat (first | apply Kd.R_alloc | apply Kd.R_drewN | apply Kd.R_drew)); exact HO232.out⟩, ⟨by repeat (first | (with_reducible first | exact HK.out | apply Kept.alloc | apply Kept.drewN | apply Kept.drew) | exact HK.out)⟩, ⟨by repeat (first | (with_reducible first | exact HB.out | apply below_alloc | apply pw_below_drewN | apply below_drew1) | exact HB.out)⟩⟩
  case round =>
    clear H'
    try clear c1
    try clear p2
    obtain ⟨x0_1, x14_1, rfl, HA, HK1, HO_0, HK, HB⟩ := hrel
    cases gk with
    | zero => exact absurd HA.out (by simp [names_list.l0])
    | succ k1 =>
      have H := HA.out
      clear HA
      simp only [names_list.l0] at H
      by_cases c6 : x14_1 < (l1.length : Int)
      · rw [if_pos c6] at H
        have c6b0 : decide (x14_1 < (l1.length : Int)) = true := decide_eq_true c6
        clear c6
        by_cases c7 : 0 ≤ x14_1
        · rw [if_pos c7] at H
          have c7b0 : decide (0 ≤ x14_1) = true := decide_eq_true c7
          clear c7
          by_cases c8 : x14_1 < (l1.length : Int)
          · rw [if_pos c8] at H
            have c8b0 : decide (x14_1 < (l1.length : Int)) = true := decide_eq_true c8
            clear c8
            replace H := Option.bind_eq_some_iff.mp H
            obtain ⟨t235, A90, H⟩ := H
            replace H : ((entry_PutText.f k1 t235 ((rd_T121 l1 x14_1).f1)).bind fun t238 => (names_list.l0 k1 t238 l1 (l1.length : Int) (wrap64 (x14_1 + 1)))) = some r := H
            have A9 := Aside0.mk A90
            clear A90
            replace H := Option.bind_eq_some_iff.mp H
            obtain ⟨t238, A100, H⟩ := H
            replace H : (names_list.l0 k1 t238 l1 (l1.length : Int) (wrap64 (x14_1 + 1))) = some r := H
            have A10 := Aside0.mk A100
            clear A100
            have H' := Aside0.mk H
            clear H
            have p233 : 0 ≤ (x14_1 : Int) := of_decide_eq_true (by first | (with_reducible assumption) | assumption)
            have q233 : x14_1 < (l1.length : Int) := of_decide_eq_true (by first | (with_reducible assumption) | assumption)
            obtain ⟨ad233, e233, hx233_0, hx233_1⟩ := at_T121 (Kd.C_kept_now HR1.out HK.out) x14_1 p233 q233
            cases e233
            replace p233 := eq_true p233
            replace q233 := eq_true q233
            try go_wp2_with (first | ((with_reducible refine gate_dst (N := 6) rfl ?_); refine box_event ?hg (N := 6) ?hd (cs := #[.int .u32 0, .string (⟨#[]⟩ : ByteArray)]) (t := 121) ?hr ?_; (case hd => rfl); (case hg => rfl); (case hr => first | (go_simp; done) | (go_simp; rfl)); intro gb234 hg w11 hbox hb; have n0_ := Aside0.mk (Kd.R_below (by (with_reducible repeat (first | apply Kd.R_alloc | apply Kd.R_drewN | apply Kd.R_drew)); exact HO_0.out) hb); have n1_ := Aside0.mk (Kept.below (S := (fun k_ => P0_ k_)) (by repeat (first | (with_reducible first | exact HK.out | apply Kept.alloc | apply Kept.drewN | apply Kept.drew) | exact HK.out)) hb); have n2_ := Aside0.mk (below_step (by repeat (first | (with_reducible first | exact HB.out | apply below_alloc | apply pw_below_drewN | apply below_drew1) | exact HB.out)) hb); have n3_ := Aside0.mk (hbox); have n4_ := Aside0.mk ((by rw [hg]; exact (by first | exact HK.out.1 | exact (show Kept w _ (fun k_ => P0_ k_) from by repeat (first | (with_reducible first | exact HK.out | apply Kept.alloc | apply Kept.drewN | apply Kept.drew) | exact HK.out)).1) : w.heap.size ≤ gb234)); have n5_ := Aside0.mk ((by rw [hg]; exact (below_size (by repeat (first | (with_reducible first | exact HB.out | apply below_alloc | apply pw_below_drewN | apply below_drew1) | exact HB.out))) : w0.heap.size ≤ gb234)); clear HO_0; clear HK; clear HB; have HO_0 := n0_; have HK := n1_; have HB := n2_; have BK234 := n3_; have GW234 := n4_; have GE234 := n5_; clear n0_ n1_ n2_ n3_ n4_ n5_; clear hb hbox hg; have hcz12_0 : w11.cell? ⟨gb234, 0, none⟩ = some (.int .u32 0) := (blk_cell BK234.out 0).trans rfl; have hcz12_1 : w11.cell? ⟨gb234, 1, none⟩ = some (.string (⟨#[]⟩ : ByteArray)) := (blk_cell BK234.out 1).trans rfl; have hfz12_0 := blk_frozen BK234.out 0; have hfz12_1 := blk_frozen BK234.out 1))
            have n0_ : Aside0 (Kd.R (Kd.int .u8) 5 ((w11.setCell ⟨gb234, 0, none⟩ (.int .u32 ((rd_T121 l1 x14_1).f0))).setCell ⟨gb234, 1, none⟩ (.string ((rd_T121 l1 x14_1).f1))) w0.heap.size (fun k_ => (P0_ k_ ∨ w.heap.size ≤ k_)) u0 x0_1) := ⟨by (with_reducible repeat (first | apply Kd.R_alloc | apply Kd.R_drewN | apply Kd.R_drew)); exact Kd.R_mono (Kd.R_far (p := ⟨gb234, 1, none⟩) (Kd.R_far (p := ⟨gb234, 0, none⟩) (Kd.R_types HO_0.out BK234.out (by decide)) (fun _ hk => hk.2) (.int .u32 ((rd_T121 l1 x14_1).f0))) (fun _ hk => hk.2) (.string ((rd_T121 l1 x14_1).f1))) (fun _ hk => hk.1)⟩
            have n1_ : Aside0 (((w11.setCell ⟨gb234, 0, none⟩ (.int .u32 ((rd_T121 l1 x14_1).f0))).setCell ⟨gb234, 1, none⟩ (.string ((rd_T121 l1 x14_1).f1))).heap[gb234]? = some (.cells #[.int .u32 ((rd_T121 l1 x14_1).f0), .string ((rd_T121 l1 x14_1).f1)] 121 (0, 0))) := ⟨by (with_reducible repeat (first | refine blk_drewN ?_ _ | refine blk_drew ?_ | refine blk_alloc ?_ _)); refine blk_put (cs := #[.int .u32 ((rd_T121 l1 x14_1).f0), .string (⟨#[]⟩ : ByteArray)]) ?_ 1 _ rfl; (with_reducible repeat (first | refine blk_drewN ?_ _ | refine blk_drew ?_ | refine blk_alloc ?_ _)); refine blk_put (cs := #[.int .u32 0, .string (⟨#[]⟩ : ByteArray)]) ?_ 0 _ rfl; (with_reducible repeat (first | refine blk_drewN ?_ _ | refine blk_drew ?_ | refine blk_alloc ?_ _)); exact BK234.out⟩
            have n2_ : Aside0 (Kept w ((w11.setCell ⟨gb234, 0, none⟩ (.int .u32 ((rd_T121 l1 x14_1).f0))).setCell ⟨gb234, 1, none⟩ (.string ((rd_T121 l1 x14_1).f1))) (fun k_ => P0_ k_)) := ⟨by repeat (first | (with_reducible first | exact HK.out | apply Kept.alloc | apply Kept.drewN | apply Kept.drew | refine Kept.setCell ?_ (.inr GW234.out) _) | exact HK.out)⟩
            have n3_ : Aside0 (Below w0.heap.size w0 ((w11.setCell ⟨gb234, 0, none⟩ (.int .u32 ((rd_T121 l1 x14_1).f0))).setCell ⟨gb234, 1, none⟩ (.string ((rd_T121 l1 x14_1).f1)))) := ⟨by repeat (first | (with_reducible first | exact HB.out | apply below_alloc | apply pw_below_drewN | apply below_drew1 | refine below_set ?_ GE234.out) | exact HB.out)⟩
            (try clear HO_0)
            (try clear BK234)
            (try clear HK)
            (try clear HB)
            generalize ((w11.setCell ⟨gb234, 0, none⟩ (.int .u32 ((rd_T121 l1 x14_1).f0))).setCell ⟨gb234, 1, none⟩ (.string ((rd_T121 l1 x14_1).f1))) = w13 at n0_ n1_ n2_ n3_ ⊢
            have HO_0 := n0_
            have BK234 := n1_
            have HK := n2_
            have HB := n3_
            clear n0_ n1_ n2_ n3_
            have n0_ := Aside0.mk (Kd.R_drew HO_0.out)
            have n1_ := Aside0.mk (blk_drew BK234.out)
            have n2_ := Aside0.mk (Kept.drew HK.out)
            have n3_ := Aside0.mk (below_drew1 HB.out)
            clear HO_0
            clear BK234
            clear HK
            clear HB
            have HO_0 := n0_
            have BK234 := n1_
            have HK := n2_
            have HB := n3_
            clear n0_ n1_ n2_ n3_
            obtain ⟨Ao15, co15, eo15⟩ := Kd.R_slice HO_0.out
            (first | subst eo15 | (injection eo15 with f1_ f2_ f3_; have f4_ := f1_.symm; have f5_ := f3_.symm; clear f1_ f2_ f3_; subst f4_; subst f5_))
            refine start_ (n := 9) (S := fun w' => w'.cell? ⟨gb234, 0, none⟩ = some (.int .u32 ((rd_T121 l1 x14_1).f0)) ∧ w'.cell? ⟨gb234, 1, none⟩ = some (.string ((rd_T121 l1 x14_1).f1))) (ds := []) #[false, false, false, false, false, false, false, false, false] (by kernel_rfl) rfl rfl ⟨(blk_cell BK234.out 0).trans rfl, (blk_cell BK234.out 1).trans rfl⟩ (fun hHeld => ?_); refine with_tabW names_list.tab5 names_list.bits5 (fun HT_ HW_ => ?_)
            generalize w13.drew = w14 at HO_0 BK234 HK HB hHeld ⊢
            refine pure_ (i := 0) (N := some 18) (v := ?_) (a' := ?_) #[true, false, false, false, false, false, false, false, false] rfl rfl (any_of HT_.out (by kernel_rfl)) (fun _ _ _ h => h) (Or.inl ⟨by rfl, ?_⟩) ?_ ?_
            rotate_left
            · intro w'
              go_simp
              with_reducible rfl
            rotate_left
            · simp only [Act.put, List.setIfInBounds_toArray, List.set_cons_zero, List.set_cons_succ, i64_w, i32_w]
              rfl
            refine pure_ (i := 1) (N := some 19) (v := ?_) (a' := ?_) #[true, true, false, false, false, false, false, false, false] rfl rfl (any_of HT_.out (by kernel_rfl)) (fun _ _ _ h => h) (Or.inl ⟨by rfl, ?_⟩) ?_ ?_
            rotate_left
            · intro w'
              go_simp
              with_reducible rfl
            rotate_left
            · simp only [Act.put, List.setIfInBounds_toArray, List.set_cons_zero, List.set_cons_succ, i64_w, i32_w]
              rfl
            refine pure_ (i := 5) (N := some 23) (v := ?_) (a' := ?_) #[true, true, false, false, false, true, false, false, false] rfl rfl (any_of HT_.out (by kernel_rfl)) (fun _ _ _ h => h) (Or.inl ⟨by rfl, ?_⟩) ?_ ?_
            rotate_left
            · intro w'
              go_simp
              with_reducible rfl
            rotate_left
            · simp only [Act.put, List.setIfInBounds_toArray, List.set_cons_zero, List.set_cons_succ, i64_w, i32_w]
              rfl
            refine take_ (i := 2) (N := some 20) (v := ?_) (a' := ?_) #[true, true, true, false, false, true, false, false, false] rfl rfl (take_ofW HT_.out HW_.out (by kernel_rfl)) (fun _ _ _ h => h) (Or.inl ⟨by rfl, ?_⟩) hHeld ?_ ?_
            rotate_left
            · rintro w' ⟨s0, s1⟩
              go_simp
              with_reducible rfl
            rotate_left
            · simp only [Act.put, List.setIfInBounds_toArray, List.set_cons_zero, List.set_cons_succ, i64_w, i32_w]
              rfl
            refine pure_ (i := 3) (N := some 21) (v := ?_) (a' := ?_) #[true, true, true, true, false, true, false, false, false] rfl rfl (any_of HT_.out (by kernel_rfl)) (fun _ _ _ h => h) (Or.inl ⟨by rfl, ?_⟩) ?_ ?_
            rotate_left
            · intro w'
              go_simp
              with_reducible rfl
            rotate_left
            · simp only [Act.put, List.setIfInBounds_toArray, List.set_cons_zero, List.set_cons_succ, i64_w, i32_w]
              rfl
            refine take_ (i := 6) (N := some 24) (v := ?_) (a' := ?_) #[true, true, true, true, false, true, true, false, false] rfl rfl (take_ofW HT_.out HW_.out (by kernel_rfl)) (fun _ _ _ h => h) (Or.inl ⟨by rfl, ?_⟩) hHeld ?_ ?_
            rotate_left
            · rintro w' ⟨s0, s1⟩
              go_simp
              with_reducible rfl
            rotate_left
            · simp only [Act.put, List.setIfInBounds_toArray, List.set_cons_zero, List.set_cons_succ, i64_w, i32_w]
              rfl
            refine one_ (i := 4) (N := some 22) #[true, true, true, true, true, true, true, false, false] rfl rfl (one_of HT_.out (by kernel_rfl)) (by decide) (fun K hK => ?_)
            refine goes_ Tryd.func63 (by kernel_rfl) rfl #[.slice Ao15 x0_1.length co15, .int .u64 (IntKind.u64.wrap ((rd_T121 l1 x14_1).f0))] (by rfl) rfl rfl (by (try simp only [List.map_toArray, List.map_cons, List.map_nil]); first | done | rfl | (simp only [List.length_drop, List.length_take]; rfl)) ?_
            with_reducible refine (leb_PutU.calls k1 (fun k_ => some k_ = (.slice Ao15 x0_1.length co15 : Value).ownBlock) (.slice Ao15 x0_1.length co15) x0_1 (IntKind.u64.wrap ((rd_T121 l1 x14_1).f0)) t235 w0 _ ?side1 ?side2 A9.out).mono ?_
            (case side1 => repeat (first | (with_reducible first | exact HB.out | apply below_alloc | apply pw_below_drewN | apply below_drew1 | refine below_set ?_ GE234.out) | exact HB.out))
            (case side2 => exact Kd.R_tight rfl HO_0.out)
            rintro e w16 ⟨v236, rfl, ho0, hb, hkp⟩
            refine ⟨_, rfl, ?_⟩
            have n0_ := Aside0.mk (blk_kept (by (with_reducible repeat (first | refine blk_drewN ?_ _ | refine blk_drew ?_ | refine blk_alloc ?_ _)); exact BK234.out) hkp (fun hs_ => (fun e_ => (Kd.R_ne HO_0.out BK234.out (by decide)) e_) hs_))
            have n1_ := Aside0.mk (Kd.R_mono (ok' := fun k_ => (P0_ k_ ∨ w.heap.size ≤ k_)) ho0 (fun k_ hk_ => Or.elim hk_ (fun hs_ => (HO_0.out.1 k_ (hs_).symm)) (fun hn_ => (.inr (Nat.le_trans (by first | exact HK.out.1 | exact (show Kept w _ (fun k_ => P0_ k_) from by repeat (first | (with_reducible first | exact HK.out | apply Kept.alloc | apply Kept.drewN | apply Kept.drew | refine Kept.setCell ?_ (.inr GW234.out) _) | exact HK.out)).1) hn_)))))
            have n2_ := Aside0.mk (Kept.then_ (S := (fun k_ => P0_ k_)) (by repeat (first | (with_reducible first | exact HK.out | apply Kept.alloc | apply Kept.drewN | apply Kept.drew | refine Kept.setCell ?_ (.inr GW234.out) _) | exact HK.out)) hkp (fun k_ hs_ => (fun e_ => (HO_0.out.1 k_ e_.symm)) hs_))
            have n3_ := Aside0.mk (hb)
            clear BK234
            clear HK
            clear HB
            clear HO_0
            have BK234 := n0_
            have HO237 := n1_
            have HK := n2_
            have HB := n3_
            clear n0_ n1_ n2_ n3_
            (try clear hb)
            (try clear hkp)
            (try clear ho0)
            obtain ⟨Ao17, co17, eo17⟩ := Kd.R_slice HO237.out
            (first | subst eo17 | (injection eo17 with f1_ f2_ f3_; have f4_ := f1_.symm; have f5_ := f3_.symm; clear f1_ f2_ f3_; subst f4_; subst f5_))
            refine hK.out _ _ ⟨(blk_cell BK234.out 0).trans rfl, (blk_cell BK234.out 1).trans rfl⟩ (fun hHeld => ?_)
            clear hK K
            refine norm_ (a' := ?_) ?_ ?_
            rotate_left
            · show Act.put _ (some 22) _ = _
              simp only [Act.put, List.setIfInBounds_toArray, List.set_cons_zero, List.set_cons_succ, i64_w, i32_w]
              rfl
            refine one_ (i := 7) (N := some 25) #[true, true, true, true, true, true, true, true, false] rfl rfl (one_of HT_.out (by kernel_rfl)) (by decide) (fun K hK => ?_)
            refine goes_ Tryd.func65 (by kernel_rfl) rfl #[.slice Ao17 t235.length co17, .string ((rd_T121 l1 x14_1).f1)] (by rfl) rfl rfl (by (try simp only [List.map_toArray, List.map_cons, List.map_nil]); first | done | rfl | (simp only [List.length_drop, List.length_take]; rfl)) ?_
            with_reducible refine (entry_PutText.calls k1 (fun k_ => some k_ = (.slice Ao17 t235.length co17 : Value).ownBlock) (.slice Ao17 t235.length co17) t235 ((rd_T121 l1 x14_1).f1) t238 w0 _ ?side1 ?side2 A10.out).mono ?_
            (case side1 => repeat (first | (with_reducible first | exact HB.out | apply below_alloc | apply pw_below_drewN | apply below_drew1 | refine below_set ?_ GE234.out) | exact HB.out))
            (case side2 => exact Kd.R_tight rfl HO237.out)
            rintro e w18 ⟨v239, rfl, ho0, hb, hkp⟩
            refine ⟨_, rfl, ?_⟩
            have n0_ := Aside0.mk (blk_kept (by (with_reducible repeat (first | refine blk_drewN ?_ _ | refine blk_drew ?_ | refine blk_alloc ?_ _)); exact BK234.out) hkp (fun hs_ => (fun e_ => (Kd.R_ne HO237.out BK234.out (by decide)) e_) hs_))
            have n1_ := Aside0.mk (Kd.R_mono (ok' := fun k_ => (P0_ k_ ∨ w.heap.size ≤ k_)) ho0 (fun k_ hk_ => Or.elim hk_ (fun hs_ => (HO237.out.1 k_ (hs_).symm)) (fun hn_ => (.inr (Nat.le_trans (by first | exact HK.out.1 | exact (show Kept w _ (fun k_ => P0_ k_) from by repeat (first | (with_reducible first | exact HK.out | apply Kept.alloc | apply Kept.drewN | apply Kept.drew | refine Kept.setCell ?_ (.inr GW234.out) _) | exact HK.out)).1) hn_)))))
            have n2_ := Aside0.mk (Kept.then_ (S := (fun k_ => P0_ k_)) (by repeat (first | (with_reducible first | exact HK.out | apply Kept.alloc | apply Kept.drewN | apply Kept.drew | refine Kept.setCell ?_ (.inr GW234.out) _) | exact HK.out)) hkp (fun k_ hs_ => (fun e_ => (HO237.out.1 k_ e_.symm)) hs_))
            have n3_ := Aside0.mk (hb)
            clear BK234
            clear HK
            clear HB
            clear HO237
            have BK234 := n0_
            have HO240 := n1_
            have HK := n2_
            have HB := n3_
            clear n0_ n1_ n2_ n3_
            (try clear hb)
            (try clear hkp)
            (try clear ho0)
            refine hK.out _ _ ⟨(blk_cell BK234.out 0).trans rfl, (blk_cell BK234.out 1).trans rfl⟩ (fun hHeld => ?_)
            clear hK K
            refine norm_ (a' := ?_) ?_ ?_
            rotate_left
            · show Act.put _ (some 25) _ = _
              simp only [Act.put, List.setIfInBounds_toArray, List.set_cons_zero, List.set_cons_succ, i64_w, i32_w]
              rfl
            refine pure_ (i := 8) (N := some 0) (v := ?_) (a' := ?_) #[true, true, true, true, true, true, true, true, true] rfl rfl (any_of HT_.out (by kernel_rfl)) (fun _ _ _ h => h) (Or.inl ⟨by rfl, ?_⟩) ?_ ?_
            rotate_left
            · intro w'
              go_simp
              with_reducible rfl
            rotate_left
            · simp only [Act.put, List.setIfInBounds_toArray, List.set_cons_zero, List.set_cons_succ, i64_w, i32_w]
              rfl
            refine done_ (done_of HT_.out (by kernel_rfl)) ?_
            try go_wp2
            go_roundg k1
            case measure => have := HK1.out; omega
            case rel => exact ⟨(t238), (wrap64 (x14_1 + 1)), (by first | rfl | (simp; done) | (simp [*]; done)), H', ⟨by have := HK1.out; omega⟩, ⟨by (with_reducible repeat (first | apply Kd.R_alloc | apply Kd.R_drewN | apply Kd.R_drew)); exact HO240.out⟩, ⟨by repeat (first | (with_reducible first | exact HK.out | apply Kept.alloc | apply Kept.drewN | apply Kept.drew | refine Kept.setCell ?_ (.inr GW234.out) _) | exact HK.out)⟩, ⟨by repeat (first | (with_reducible first | exact HB.out | apply below_alloc | apply pw_below_drewN | apply below_drew1 | refine below_set ?_ GE234.out) | exact HB.out)⟩⟩
          · rw [if_neg c8] at H
            exact absurd H (by simp)
        · rw [if_neg c7] at H
          exact absurd H (by simp)
      · rw [if_neg c6] at H
        have c6b0 : decide (x14_1 < (l1.length : Int)) = false := decide_eq_false c6
        clear c6
        obtain rfl := Option.some.inj H
        go_wp2
        go_ret
        exact ⟨_, by first | rfl | (simp [errW_none, errW_some] <;> rfl) | (simp [*, errW_none, errW_some] <;> rfl), by (with_reducible repeat (first | apply Kd.R_alloc | apply Kd.R_drewN | apply Kd.R_drew)); exact HO_0.out, by repeat (first | (with_reducible first | exact HB.out | apply below_alloc | apply pw_below_drewN | apply below_drew1) | exact HB.out), by repeat (first | (with_reducible first | exact HK.out | apply Kept.alloc | apply Kept.drewN | apply Kept.drew) | exact HK.out)⟩
end Go.Proofs.YtiohiiekaofkbaaDoor.PNamesBack
/- What is put: numbers, texts, lists of names, as lists of bytes. -/
namespace Go.Proofs.YtiohiiekaofkbaaDoor
set_option linter.unusedVariables false
set_option linter.unusedSimpArgs false
open Go.RowKit Go.Proofs.YtiohiiekaofkbaaDoor.PNamesBack Go.Proofs.YtiohiiekaofkbaaDoorW.PrintWords
theorem or128' (x : Int) (h0 : 0 ≤ x) (h : x < 256) : bits .or .u8 x 128 = x % 128 + 128 := by
  obtain ⟨n, rfl⟩ : ∃ n : Nat, x = n := ⟨x.toNat, by omega⟩
  have hn : n < 256 := by omega
  have key : ∀ m : Fin 256, bits .or .u8 ((m.val : Nat) : Int) 128 = ((m.val : Nat) : Int) % 128 + 128 := by decide +kernel
  exact key ⟨n, hn⟩
theorem putU_loop (k : Nat) : ∀ (l : List Int) (x : Int), 0 ≤ x → (uL x).length ≤ k → l.length + (uL x).length ≤ 1000000000 → leb_PutU.l0 k l x = some (l ++ uL x) := by
  induction k with
  | zero => intro l x _ h _; have := uL_pos x; omega
  | succ k ih =>
    intro l x h0 hk hl
    simp only [leb_PutU.l0]
    by_cases h : x < 128
    · rw [uL_small h] at hl ⊢
      simp only [List.length_singleton] at hl
      rw [if_neg (by omega), if_pos (by omega), show x % 256 = x by omega]
    · rw [uL_big (by omega)] at hk hl ⊢
      simp only [List.length_cons] at hk hl
      rw [if_pos (by omega), if_pos (by omega), or128' _ (by omega) (by omega), show x % 256 % 128 + 128 = x % 128 + 128 by omega]
      rw [ih _ _ (by omega) (by omega) (by simp; omega)]
      simp
theorem uL_max (x : Int) (h0 : 0 ≤ x) (h : x ≤ 18446744073709551615) : (uL x).length ≤ 10 := uL_len10 h0 h
theorem uL_le5 (x : Int) (h0 : 0 ≤ x) (h : x ≤ 4294967295) : (uL x).length ≤ 5 := uL_len 4 x h0 (by omega)
theorem putU_some {l : List Int} {x : Int} {k : Nat} (h0 : 0 ≤ x) (h : x ≤ 18446744073709551615) (hk : 10 ≤ k) (hl : l.length ≤ 900000000) : leb_PutU.f k l x = some (l ++ uL x) := by
  have := uL_max x h0 h
  exact putU_loop k l x h0 (by omega) (by omega)
def txt (s : ByteArray) : List Int := uL s.size ++ bytesOf s
theorem txt_len (s : ByteArray) (h : s.size ≤ 1000000000) : (txt s).length ≤ s.size + 10 := by
  have := uL_max s.size (by omega) (by omega)
  rw [txt, List.length_append, bytesOf_length]; omega
theorem putText_some {l : List Int} {s : ByteArray} {k : Nat} (hs : s.size ≤ 1000000000) (hk : 10 ≤ k) (hl : l.length ≤ 900000000) : entry_PutText.f k l s = some (l ++ txt s) := by
  unfold entry_PutText.f
  have hm := uL_max s.size (by omega) (by omega)
  rw [wu, show ((s.size : Int)) % 18446744073709551616 = s.size by omega, putU_some (by omega) (by omega) hk hl, Option.bind_some, if_pos (by rw [List.length_append]; omega), txt, List.append_assoc]
def nmB (x : S121) : List Int := uL x.f0 ++ txt x.f1
def nmsB (l : List S121) : List Int := l.flatMap nmB
def nlB (l : List S121) : List Int := uL l.length ++ nmsB l
def U32s (l : List S121) : Prop := ∀ x ∈ l, 0 ≤ x.f0 ∧ x.f0 ≤ 4294967295
theorem rd_Name (l : List S121) (i : Nat) (h : i < l.length) : rd_T121 l i = l[i] := by
  simp [rd_T121, List.getD_eq_getElem?_getD, List.getElem?_eq_getElem h]
theorem list_loop (l : List S121) (hU : U32s l) (hl : l.length ≤ 1000000000) (d : Nat) : ∀ (i : Nat) (b : List Int) (k : Nat), i + d = l.length → d + 10 < k → b.length + (nmsB (l.drop i)).length ≤ 800000000 →
    names_list.l0 k b l l.length i = some (b ++ nmsB (l.drop i)) := by
  induction d with
  | zero =>
    intro i b k hi hk _
    obtain ⟨k, rfl⟩ : ∃ m, k = m + 1 := ⟨k - 1, by omega⟩
    simp only [names_list.l0]
    rw [if_neg (by omega), List.drop_eq_nil_of_le (by omega)]; simp [nmsB]
  | succ d ih =>
    intro i b k hi hk hb
    obtain ⟨k, rfl⟩ : ∃ m, k = m + 1 := ⟨k - 1, by omega⟩
    have hlt : i < l.length := by omega
    obtain ⟨u0, u1⟩ := hU _ (List.getElem_mem hlt)
    have hd : nmsB (l.drop i) = nmB l[i] ++ nmsB (l.drop (i + 1)) := by rw [List.drop_eq_getElem_cons hlt]; rfl
    rw [hd] at hb ⊢
    have hn : (nmB l[i]).length = (uL l[i].f0).length + ((uL (l[i].f1.size : Int)).length + l[i].f1.size) := by simp [nmB, txt, bytesOf_length]
    rw [List.length_append, hn] at hb
    simp only [names_list.l0]
    rw [if_pos (by omega), if_pos (by omega), if_pos (by omega), rd_Name l i hlt, wu, show l[i].f0 % 18446744073709551616 = l[i].f0 by omega, putU_some u0 (by omega) (by omega) (by omega), Option.bind_some,
      putText_some (by omega) (by omega) (by rw [List.length_append]; omega), Option.bind_some, show wrap64 ((i : Int) + 1) = ((i + 1 : Nat) : Int) by unfold wrap64; omega, ih (i + 1) _ k (by omega) (by omega) (by simp only [List.length_append, txt, bytesOf_length]; omega)]
    simp [nmB]
theorem list_some {l : List S121} {b : List Int} (hU : U32s l) (hb : b.length + (nlB l).length ≤ 800000000) (hl : l.length ≤ 1000000000) : names_list.f (l.length + 11) b l = some (b ++ nlB l) := by
  unfold names_list.f
  have e : (nlB l).length = (uL (l.length : Int)).length + (nmsB l).length := by rw [nlB, List.length_append]
  rw [wu, show ((l.length : Int)) % 18446744073709551616 = l.length by omega, putU_some (by omega) (by omega) (by omega) (by omega), Option.bind_some]
  have := list_loop l hU hl l.length 0 (b ++ uL (l.length : Int)) (l.length + 11) (by omega) (by omega) (by simp only [List.length_append, List.drop_zero]; omega)
  rw [show ((0 : Nat) : Int) = 0 from rfl] at this
  rw [this]; simp [nlB]
def Rw (w : World) (base : Nat) (ok : Nat → Prop) (v : Value) (l : List Int) : Prop := Kd.R (Kd.int .u8) 5 w base ok v l
def PK (w0 w : World) (P : Nat → Prop) (l : List Int) (e : Ending) (w' : World) : Prop := ∃ v, e = .returned v ∧ Rw w' w0.heap.size (fun k => P k ∨ w.heap.size ≤ k) v l ∧ Below w0.heap.size w0 w' ∧ Kept w w' P
theorem putU_kept (P : Nat → Prop) (v : Value) (l : List Int) (x : Int) (w0 w : World) (hB : Below w0.heap.size w0 w) (ho : Rw w w0.heap.size P v l) (h0 : 0 ≤ x) (h : x ≤ 18446744073709551615) (hl : l.length ≤ 900000000) :
    Calls Tryd.prog 63 #[v, .int .u64 x] w (PK w0 w P (l ++ uL x)) :=
  (leb_PutU.calls 10 P v l x _ w0 w hB ho (putU_some h0 h (by omega) hl)).mono fun _ _ ⟨v0, h1, h2, h3, h4⟩ => ⟨v0, h1, h2, h3, h4.mono fun _ hk => hk⟩
theorem putText_kept (P : Nat → Prop) (v : Value) (l : List Int) (s : ByteArray) (w0 w : World) (hB : Below w0.heap.size w0 w) (ho : Rw w w0.heap.size P v l) (hs : s.size ≤ 1000000000) (hl : l.length ≤ 900000000) :
    Calls Tryd.prog 65 #[v, .string s] w (PK w0 w P (l ++ txt s)) :=
  (entry_PutText.calls 10 P v l s _ w0 w hB ho (putText_some hs (by omega) hl)).mono fun _ _ ⟨v0, h1, h2, h3, h4⟩ => ⟨v0, h1, h2, h3, h4⟩
theorem list_kept (P : Nat → Prop) (v : Value) (b : List Int) (A : Option Addr) (c : Nat) (l : List S121) (w0 w : World) (hB : Below w0.heap.size w0 w) (ho : Rw w w0.heap.size P v b) (hr : ∀ W, Kept w W P → Kd.C k121 W A l.length l) (hc : l.length ≤ c) (hU : U32s l) (hb : b.length + (nlB l).length ≤ 800000000) (hl : l.length ≤ 1000000000) :
    Calls Tryd.prog 64 #[v, .slice A l.length c] w (PK w0 w P (b ++ nlB l)) :=
  (names_list.calls _ P v b A c l _ w0 w hB ho hr hc (list_some hU hb hl)).mono fun _ _ ⟨v0, h1, h2, h3, h4⟩ => ⟨v0, h1, h2, h3, h4⟩
end Go.Proofs.YtiohiiekaofkbaaDoor
/- Numbers and texts as the reference puts them: dobbyref05.Num, PutVals. -/
namespace Go.Proofs.YtiohiiekaofkbaaDoor
set_option linter.unusedVariables false
set_option linter.unusedSimpArgs false
open Go.RowKit Go.Proofs.YtiohiiekaofkbaaDoor.PNamesBack Go.Proofs.YtiohiiekaofkbaaDoorW.PrintWords
def numB (v m : Int) : List Int := if 5 < (rU v m).length then rU v (5 - (uL v).length) else rU v m
theorem rU_len {v m : Int} (h0 : 0 ≤ v) (h1 : v ≤ 4294967295) (hm : 0 ≤ m) : ((rU v m).length : Int) = (uL v).length + m := by
  obtain ⟨D, y, _, _, e⟩ := rU_digits v m h0 hm
  omega
theorem numB_zero {v : Int} (h0 : 0 ≤ v) (h1 : v ≤ 4294967295) : numB v 0 = uL v := by
  have := uL_le5 v h0 h1
  rw [numB, rU_zero v h0, if_neg (by omega)]
theorem numB_len {v m : Int} (h0 : 0 ≤ v) (h1 : v ≤ 4294967295) (hm : 0 ≤ m) : (numB v m).length ≤ 5 := by
  unfold numB
  split
  · have q := uL_le5 v h0 h1
    have := rU_len (v := v) (m := 5 - (uL v).length) h0 h1 (by omega)
    omega
  · omega
theorem own_conv {W : World} {base : Nat} {v : Value} {l : List Int} (h : Own W base v l) : (convert 70 9 v).run Tryd.prog W = .ok (.string (strOfNums l)) W :=
  own_string (e := 5) Tryd.underlying70 Tryd.underlying5 Tryd.underlying9 h
theorem rPutU_nil (w : World) (v m : Int) (h0 : 0 ≤ v) (h1 : v ≤ 4294967295) (hm : 0 ≤ m) (hm2 : m ≤ 10) :
    Calls Tryd.prog 120 #[.slice none 0 0, .int .u64 v, .int .i64 m] w (fun e w' => ∃ A c, e = .returned (.slice A (rU v m).length c) ∧ Hid (Own w' w.heap.size (.slice A (rU v m).length c) (rU v m)) ∧ Below w.heap.size w w') := by
  have hl := rU_len h0 h1 hm
  have := uL_le5 v h0 h1
  refine (refPutU w none 0 [] v m h0 (by omega) hm (by omega) (.inl ⟨rfl, rfl, rfl⟩) (by simp; omega)).mono ?_
  rintro e w' ⟨x, rfl, ho, hb, hz⟩
  rw [List.nil_append] at ho
  obtain ⟨A, c, rfl⟩ := own_slice ho
  exact ⟨A, c, rfl, ho, hb⟩
set_option maxRecDepth 100000 in
set_option maxHeartbeats 4000000 in
theorem num_walk (v m : Int) (w : World) (h0 : 0 ≤ v) (h1 : v ≤ 4294967295) (hm : 0 ≤ m) (hm2 : m ≤ 10) :
    Calls Tryd.prog 61 #[.int .u32 v, .int .i64 m] w (fun e w' => e = .returned (.string (strOfNums (numB v m))) ∧ Below w.heap.size w w') := by
  have hl := rU_len h0 h1 hm
  have h5 := uL_le5 v h0 h1
  have hp := uL_pos v
  have h1' : v ≤ 18446744073709551615 := by omega
  have HP := hid (fun W => rPutU_nil W v m h0 h1 hm hm2)
  have HP0 := hid (fun W => rPutU_nil W v 0 h0 h1 (by omega) (by omega))
  rw [rU_zero v h0] at HP0
  by_cases hbig : 5 < (rU v m).length
  · have hn : numB v m = rU v (5 - (uL v).length) := by rw [numB, if_pos hbig]
    have HP5 := hid (fun W => rPutU_nil W v (5 - (uL v).length) h0 h1 (by omega) (by omega))
    rw [hn]
    clear hn
    have hl2 := rU_len (v := v) (m := 5 - (uL v).length) h0 h1 (by omega)
    have hw5 : IntKind.i64.wrap (5 - ((uL v).length : Int)) = 5 - ((uL v).length : Int) := by rw [IntKind.wrap_i64]; omega
    clear hl hl2
    go_enter Tryd.func61, Tryd.ntmps61
    go_upto_region 3 with (first | (go_at_call 120; (with_reducible refine (HP.out _).mono ?_); rintro e w1 ⟨A1, c1, rfl, ho1, hb1⟩))
    clear HP
    go_wp2_with (first | (go_at_call 120; (with_reducible refine (HP0.out _).mono ?_); rintro e w2 ⟨A2, c2, rfl, ho2, hb2⟩) | (go_at_call 120; (with_reducible refine (HP5.out _).mono ?_); rintro e w3 ⟨A3, c3, rfl, ho3, hb3⟩; have hcv := own_conv ho3.out))
    go_ret
    exact ⟨rfl, (hb1.trans (hb2.mono hb1.size)).trans (hb3.mono (Nat.le_trans hb1.size hb2.size))⟩
  · have hn : numB v m = rU v m := by rw [numB, if_neg hbig]
    rw [hn]
    clear hn
    have hbig2 : ((rU v m).length : Int) ≤ 5 := by omega
    clear hl
    go_enter Tryd.func61, Tryd.ntmps61
    go_wp2_with (first | (go_at_call 120; (with_reducible refine (HP.out _).mono ?_); rintro e w1 ⟨A1, c1, rfl, ho1, hb1⟩; have hcv := own_conv ho1.out))
    go_ret
    exact ⟨rfl, hb1⟩
theorem str_app (a b : List Int) : strOfNums a ++ strOfNums b = strOfNums (a ++ b) := by
  apply ByteArray.ext
  simp [strOfNums, ByteArray.data_append]
theorem str_bytes (s : ByteArray) : strOfNums (bytesOf s) = s := by
  apply ByteArray.ext
  simp only [strOfNums, bytesOf, List.map_map]
  have : ∀ l : List UInt8, l.map ((fun n : Int => UInt8.ofNat n.toNat) ∘ fun b : UInt8 => (b.toNat : Int)) = l := by
    intro l
    conv => rhs; rw [← List.map_id l]
    exact List.map_congr_left fun x _ => by simp
  rw [this]
def txtM (s : ByteArray) (m : Int) : List Int := numB s.size m ++ bytesOf s
theorem txtM_zero (s : ByteArray) (h : s.size ≤ 4294967295) : txtM s 0 = txt s := by rw [txtM, numB_zero (by omega) (by omega), txt]
set_option maxRecDepth 100000 in
set_option maxHeartbeats 4000000 in
theorem putVals_walk (s : ByteArray) (m : Int) (w : World) (hs : s.size ≤ 1000000000) (hm : 0 ≤ m) (hm2 : m ≤ 10) :
    Calls Tryd.prog 35 #[.string s, .int .i64 m] w (fun e w' => e = .returned (.string (strOfNums (txtM s m))) ∧ Below w.heap.size w w') := by
  have e1 : strOfNums (txtM s m) = strOfNums (numB s.size m) ++ s := by rw [txtM, ← str_app, str_bytes]
  have h0 : (0 : Int) ≤ s.size := by omega
  have h1 : (s.size : Int) ≤ 4294967295 := by omega
  have hn := numB_len h0 h1 hm
  have hsz : (strOfNums (numB s.size m)).size + s.size ≤ 9223372036854775807 := by
    rw [strOfNums_size]; omega
  have HN := hid (fun W => num_walk s.size m W h0 h1 hm hm2)
  rw [e1]
  clear e1 hn
  go_enter Tryd.func35, Tryd.ntmps35
  go_wp2_with (first | (go_at_call 61; (with_reducible refine (HN.out _).mono ?_); rintro e w1 ⟨rfl, hb1⟩))
  go_ret
  exact ⟨rfl, hb1⟩
end Go.Proofs.YtiohiiekaofkbaaDoor
/- Lists of names as the reference puts them: dobbyref14.putList. -/
namespace Go.Proofs.YtiohiiekaofkbaaDoor
set_option linter.unusedVariables false
set_option linter.unusedSimpArgs false
open Go.RowKit Go.Proofs.YtiohiiekaofkbaaDoor.PNamesBack Go.Proofs.YtiohiiekaofkbaaDoorW.PrintWords
def rnB (m : Int) (x : S101) : List Int := numB x.f0 m ++ txtM x.f1 m
def rnsB (m : Int) (l : List S101) : List Int := l.flatMap (rnB m)
def rlB (l : List S101) (m : Int) : List Int := numB l.length m ++ rnsB m l
def rU32s (l : List S101) : Prop := ∀ x ∈ l, 0 ≤ x.f0 ∧ x.f0 ≤ 4294967295 ∧ x.f1.size ≤ 1000000
theorem rd_rName (l : List S101) (i : Nat) (h : i < l.length) : rd_T101 l i = l[i] := by
  simp [rd_T101, List.getD_eq_getElem?_getD, List.getElem?_eq_getElem h]
theorem rnsB_take (m : Int) (l : List S101) (i : Nat) (h : i < l.length) : rnsB m (l.take (i + 1)) = rnsB m (l.take i) ++ rnB m l[i] := by
  rw [List.take_succ_eq_append_getElem h]; unfold rnsB; rw [List.flatMap_append]; simp
theorem rnsB_le (m : Int) (l : List S101) (i : Nat) : (rnsB m (l.take i)).length ≤ (rnsB m l).length := by
  have e : rnsB m l = rnsB m (l.take i) ++ rnsB m (l.drop i) := by unfold rnsB; rw [← List.flatMap_append, List.take_append_drop]
  rw [e, List.length_append]; omega
theorem keepH3 {p1 p2 : Addr} {a b : Value} {w W W' : World} {B : Nat} (h : W.cell? p1 = some a ∧ W.cell? p2 = some b ∧ Below B w W ∧ B ≤ W.heap.size) (hb : Below W.heap.size W W') : W'.cell? p1 = some a ∧ W'.cell? p2 = some b ∧ Below B w W' ∧ B ≤ W'.heap.size :=
  ⟨pw_cell_below hb h.1, pw_cell_below hb h.2.1, h.2.2.1.trans (hb.mono h.2.2.2), Nat.le_trans h.2.2.2 hb.size⟩
set_option maxRecDepth 100000 in
set_option maxHeartbeats 8000000 in
theorem rputList_walk (A : Option Addr) (c : Nat) (l : List S101) (m : Int) (w : World) (hC : Kd.C k101 w A l.length l) (hl : l.length ≤ 1000000) (hU : rU32s l) (hm : 0 ≤ m) (hm2 : m ≤ 10) (hb : (rlB l m).length ≤ 1000000000) :
    Calls Tryd.prog 60 #[.slice A l.length c, .int .i64 m] w (fun e w' => e = .returned (.string (strOfNums (rlB l m))) ∧ Below w.heap.size w w') := by
  have hu := Tryd.underlying101
  have HC := hid hC
  have HU := hid hU
  have HL := hid hb
  have h0 : (0 : Int) ≤ l.length := by omega
  have h1 : (l.length : Int) ≤ 4294967295 := by omega
  have HN := hid (fun W => num_walk l.length m W h0 h1 hm hm2)
  clear hC hU hb
  go_enter Tryd.func60, Tryd.ntmps60
  go_wp2_with (first | (go_at_call 61; (with_reducible refine (HN.out _).mono ?_); rintro e w1 ⟨rfl, hb1⟩))
  have HB1 := hid hb1
  have hz1 := hb1.size
  clear hb1
  go_loopw [5, 6] (fun v5 v6 wr => ∃ i : Nat, v6 = .int .i64 i ∧ v5 = .string (strOfNums (numB l.length m ++ rnsB m (l.take i))) ∧ i ≤ l.length ∧ w.heap.size ≤ wr.heap.size ∧ Hid (Below w.heap.size w wr)) (fun _ v6 _ => l.length - (intOf v6).toNat)
  case atStart => exact ⟨0, by go_num, by simp [rnsB], by omega, hz1, HB1⟩
  case round =>
    obtain ⟨i, rfl, rfl, hi1, hz, HB⟩ := hrel
    by_cases hlt : i < l.length
    · have hcr := Kd.C_below HC.out HB.out
      obtain ⟨ad, rfl, e1, e2⟩ := at_T101 hcr (i : Int) (by omega) (by omega)
      rw [Int.toNat_natCast] at e1 e2
      have hgi := rd_rName l i hlt
      obtain ⟨u0, u1, u2⟩ : 0 ≤ (rd_T101 l i).f0 ∧ (rd_T101 l i).f0 ≤ 4294967295 ∧ (rd_T101 l i).f1.size ≤ 1000000 := by rw [hgi]; exact HU.out _ (List.getElem_mem hlt)
      have hlen : (numB l.length m ++ rnsB m (l.take i)).length + ((numB (rd_T101 l i).f0 m).length + (txtM (rd_T101 l i).f1 m).length) ≤ 1000000000 := by
        have q1 := HL.out
        have q2 := rnsB_le m l (i + 1)
        rw [rnsB_take m l i hlt, ← hgi] at q2
        simp only [rlB, rnB, List.length_append] at q1 q2 ⊢
        omega
      have hs1 : (strOfNums (numB l.length m ++ rnsB m (l.take i))).size + (strOfNums (numB (rd_T101 l i).f0 m)).size ≤ 9223372036854775807 := by rw [strOfNums_size, strOfNums_size]; omega
      have hs2 : (strOfNums (numB l.length m ++ rnsB m (l.take i))).size + (strOfNums (numB (rd_T101 l i).f0 m)).size + (strOfNums (txtM (rd_T101 l i).f1 m)).size ≤ 9223372036854775807 := by rw [strOfNums_size, strOfNums_size, strOfNums_size]; omega
      have HNi := hid (fun W => num_walk (rd_T101 l i).f0 m W u0 u1 hm hm2)
      have HTi := hid (fun W => putVals_walk (rd_T101 l i).f1 m W (by omega) hm hm2)
      have HG := hid hgi
      have hi3 : (i : Int) < (l.length : Int) := by omega
      have S0 : wr.cell? (ad.add (i * 2)) = some (.int .u32 (rd_T101 l i).f0) ∧ wr.cell? ⟨(ad.add (i * 2)).block, (ad.add (i * 2)).off + 1, none⟩ = some (.string (rd_T101 l i).f1) ∧ Below w.heap.size w wr ∧ w.heap.size ≤ wr.heap.size := ⟨e1, e2, HB.out, hz⟩
      clear hcr e1 e2 hgi hlen
      go_upto_region 5 with (fail)
      refine wp_region_noPanic ?_
      refine wp_region_held_drew (S := (fun W => W.cell? (ad.add (i * 2)) = some (.int .u32 (rd_T101 l i).f0) ∧ W.cell? ⟨(ad.add (i * 2)).block, (ad.add (i * 2)).off + 1, none⟩ = some (.string (rd_T101 l i).f1) ∧ Below w.heap.size w W ∧ w.heap.size ≤ W.heap.size)) (by kernel_rfl) ?hSr1 (fun hHeld => ?gor1)
      case hSr1 => first | exact S0 | assumption | exact keepH3 (by assumption) (by assumption) | exact keepH3 S0 (below_drew (Below.refl _ _))
      refine tk 0 ⟨some 18, .move (.tmp 5), 9, "ref.go:89", #[], none⟩ rfl ?_
      refine tk 1 ⟨some 19, .move (.tmp 0), 22, "ref.go:89", #[], none⟩ rfl ?_
      refine tk 2 ⟨some 20, .move (.tmp 6), 3, "ref.go:89", #[], none⟩ rfl ?_
      refine tk 3 ⟨some 21, .indexAddr 22 (.tmp 19) (.tmp 20), 0, "ref.go:89", #[⟨1, .data⟩, ⟨2, .data⟩], none⟩ rfl ?_
      refine tk 4 ⟨some 22, .fieldAddr 101 (.tmp 21) 0, 0, "ref.go:89", #[⟨3, .data⟩], none⟩ rfl ?_
      refine tk 5 ⟨some 23, .load 45 (.tmp 22), 45, "ref.go:89", #[⟨4, .data⟩], none⟩ rfl ?_
      refine tk 6 ⟨some 24, .move (.tmp 1), 3, "ref.go:89", #[], none⟩ rfl ?_
      refine tk 9 ⟨some 27, .move (.tmp 0), 22, "ref.go:89", #[], none⟩ rfl ?_
      refine tk 10 ⟨some 28, .move (.tmp 6), 3, "ref.go:89", #[], none⟩ rfl ?_
      refine tk 11 ⟨some 29, .indexAddr 22 (.tmp 27) (.tmp 28), 0, "ref.go:89", #[⟨9, .data⟩, ⟨10, .data⟩], none⟩ rfl ?_
      refine tk 12 ⟨some 30, .fieldAddr 101 (.tmp 29) 1, 0, "ref.go:89", #[⟨11, .data⟩], none⟩ rfl ?_
      refine tk 13 ⟨some 31, .load 9 (.tmp 30), 9, "ref.go:89", #[⟨12, .data⟩], none⟩ rfl ?_
      refine tk 14 ⟨some 32, .move (.tmp 1), 3, "ref.go:89", #[], none⟩ rfl ?_
      refine wpAnyH_ready (rs := [7]) (by kernel_rfl) (by simp) ?_
      refine AllReadyH.cons (o := ⟨some 25, .call { callee := .value (.func 61), args := #[.tmp 23, .tmp 24], argTypes := #[45, 3] }, 9, "ref.go:89", #[⟨5, .data⟩, ⟨6, .data⟩], none⟩) rfl (fun K hK => ?_) AllReadyH.nil
      go_simp
      go_at_call 61; (with_reducible refine (HNi.out _).mono ?_); rintro e w' ⟨rfl, hb1⟩
      refine hK.out _ _ ?_ (fun hHeld => ?_)
      · (try dsimp only); first | exact S0 | assumption | exact keepH3 (by assumption) (by assumption) | exact keepH3 S0 (below_drew (Below.refl _ _))
      clear hK K
      try simp only [Act.put, List.setIfInBounds_toArray, List.set_cons_zero, List.set_cons_succ]
      refine tk 8 ⟨some 26, .binOp .add 9 (.tmp 18) (.tmp 25) 9, 9, "ref.go:89", #[⟨0, .data⟩, ⟨7, .data⟩], none⟩ rfl ?_
      refine wpAnyH_ready (rs := [15]) (by kernel_rfl) (by simp) ?_
      refine AllReadyH.cons (o := ⟨some 33, .call { callee := .value (.func 35), args := #[.tmp 31, .tmp 32], argTypes := #[9, 3] }, 9, "ref.go:89", #[⟨13, .data⟩, ⟨14, .data⟩, ⟨7, .chain⟩], none⟩) rfl (fun K hK => ?_) AllReadyH.nil
      go_simp
      go_at_call 35; (with_reducible refine (HTi.out _).mono ?_); rintro e w' ⟨rfl, hb1⟩
      refine hK.out _ _ ?_ (fun hHeld => ?_)
      · (try dsimp only); first | exact S0 | assumption | exact keepH3 (by assumption) (by assumption) | exact keepH3 S0 (below_drew (Below.refl _ _))
      clear hK K
      try simp only [Act.put, List.setIfInBounds_toArray, List.set_cons_zero, List.set_cons_succ]
      refine tk 16 ⟨some 34, .binOp .add 9 (.tmp 26) (.tmp 33) 9, 9, "ref.go:89", #[⟨8, .data⟩, ⟨15, .data⟩], none⟩ rfl ?_
      refine tk 17 ⟨some 5, .assign (.tmp 34), 9, "ref.go:89", #[⟨16, .data⟩, ⟨15, .chain⟩, ⟨0, .phase⟩, ⟨1, .phase⟩, ⟨2, .phase⟩, ⟨3, .phase⟩, ⟨4, .phase⟩, ⟨5, .phase⟩, ⟨6, .phase⟩, ⟨7, .phase⟩, ⟨8, .phase⟩, ⟨9, .phase⟩, ⟨10, .phase⟩, ⟨11, .phase⟩, ⟨12, .phase⟩, ⟨13, .phase⟩, ⟨14, .phase⟩, ⟨15, .phase⟩, ⟨16, .phase⟩], none⟩ rfl ?_
      refine wpAnyH_done (by kernel_rfl) ?_ _
      refine NoPanic.normal ?_
      all_goals (go_wp2_with fail)
      all_goals
        have hH := (‹_ ∧ _ ∧ Below w.heap.size w w' ∧ _›).2.2
        refine ⟨⟨i + 1, by go_num, ?_, by omega, hH.2, hid hH.1⟩, by simp [intOf]; omega⟩
        rw [rnsB_take m l i hlt, ← HG.out, str_app, str_app]; simp [rnB, List.append_assoc]
    · obtain rfl : i = l.length := by omega
      have hE : strOfNums (numB l.length m ++ rnsB m (l.take l.length)) = strOfNums (rlB l m) := by rw [List.take_length]; rfl
      have HE := hid hE
      clear hE
      go_wp2
      go_ret
      exact ⟨congrArg (fun x => Ending.returned (.string x)) HE.out, HB.out⟩
def rloB (m : Int) (x : S103) : List Int := numB x.f0 m ++ rlB x.f1 m
def rlosB (m : Int) (l : List S103) : List Int := l.flatMap (rloB m)
def rllB (l : List S103) (m : Int) : List Int := numB l.length m ++ rlosB m l
theorem rd_rLocal (l : List S103) (i : Nat) (h : i < l.length) : rd_T103 l i = l[i] := by
  simp [rd_T103, List.getD_eq_getElem?_getD, List.getElem?_eq_getElem h]
theorem rlosB_take (m : Int) (l : List S103) (i : Nat) (h : i < l.length) : rlosB m (l.take (i + 1)) = rlosB m (l.take i) ++ rloB m l[i] := by
  rw [List.take_succ_eq_append_getElem h]; unfold rlosB; rw [List.flatMap_append]; simp
theorem rlosB_le (m : Int) (l : List S103) (i : Nat) : (rlosB m (l.take i)).length ≤ (rlosB m l).length := by
  have e : rlosB m l = rlosB m (l.take i) ++ rlosB m (l.drop i) := by unfold rlosB; rw [← List.flatMap_append, List.take_append_drop]
  rw [e, List.length_append]; omega
def rU32l (l : List S103) : Prop := ∀ x ∈ l, 0 ≤ x.f0 ∧ x.f0 ≤ 4294967295 ∧ rU32s x.f1 ∧ x.f1.length ≤ 1000000
structure rNs where
  hm : Bool
  hf : Bool
  hl : Bool
  md : ByteArray
  fs : List S101
  ls : List S103
def rNs.at (x : rNs) (A : Option Addr) (c : Nat) (B : Option Addr) (d : Nat) (w : World) : Prop := Kd.C k101 w A x.fs.length x.fs ∧ x.fs.length ≤ c ∧ Kd.C k103 w B x.ls.length x.ls ∧ x.ls.length ≤ d
theorem rNs.at.below {x : rNs} {A : Option Addr} {c : Nat} {B : Option Addr} {d : Nat} {w W : World} (h : x.at A c B d w) (hb : Below w.heap.size w W) : x.at A c B d W := ⟨Kd.C_below h.1 hb, h.2.1, Kd.C_below h.2.2.1 hb, h.2.2.2⟩
def rNs.small (x : rNs) : Prop := x.md.size ≤ 1000000 ∧ x.fs.length ≤ 1000000 ∧ x.ls.length ≤ 1000000 ∧ rU32s x.fs ∧ rU32l x.ls
def secM (i m : Int) (b : List Int) : List Int := i :: (numB b.length m ++ b)
def rputB (x : rNs) (m : Int) : List Int := (if x.hm then secM 0 m (txtM x.md m) else []) ++ (if x.hf then secM 1 m (rlB x.fs m) else []) ++ (if x.hl then secM 2 m (rllB x.ls m) else [])
end Go.Proofs.YtiohiiekaofkbaaDoor
