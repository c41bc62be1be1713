/- Plain: where readers give up does not hang on what stands behind. -/
import Derived.Test.YtiohiiekaofkbaaDoorD3
import Derived.Test.YtiohiiekaofkbaaDoorD4
import Derived.Test.YtiohiiekaofkbaaDoorC6
import Derived.Test.YtiohiiekaofkbaaDoorC9
namespace Go.Proofs.YtiohiiekaofkbaaDoor
set_option linter.unusedVariables false
set_option linter.unusedSimpArgs false
open Go.RowKit

/-- l2 has n elements at least, and the first n are those of l -/
def Agree (l l2 : List Int) (n : Int) : Prop := n ≤ l2.length ∧ l2.take n.toNat = l.take n.toNat
theorem Agree.mono {l l2 : List Int} {n m : Int} (h : Agree l l2 n) (hm : m ≤ n) : Agree l l2 m := by
  refine ⟨by have := h.1; omega, ?_⟩
  have e : ∀ x : List Int, x.take m.toNat = (x.take n.toNat).take m.toNat := fun x => by rw [List.take_take]; congr 1; omega
  rw [e l2, e l, h.2]
theorem Agree.get {l l2 : List Int} {n i : Int} (h : Agree l l2 n) (h0 : 0 ≤ i) (hi : i < n) : l2[i.toNat]? = l[i.toNat]? := by
  have e : ∀ x : List Int, x[i.toNat]? = (x.take n.toNat)[i.toNat]? := fun x => by rw [List.getElem?_take, if_pos (by omega)]
  rw [e l2, e l, h.2]
theorem Agree.self_take {l : List Int} {n m : Int} (hm : m ≤ n) (hn : n ≤ l.length) : Agree l (l.take n.toNat) m := by
  refine ⟨by rw [List.length_take]; omega, ?_⟩
  rw [List.take_take]; congr 1; omega
theorem Agree.app {l more : List Int} {n : Int} (hn : n ≤ l.length) : Agree l (l.take n.toNat ++ more) n := by
  refine ⟨by rw [List.length_append, List.length_take]; omega, ?_⟩
  rw [List.take_append_of_le_length (by rw [List.length_take]; omega), List.take_take, Nat.min_self]

structure Loc {α : Type} (lim p : Int) (f : List Int → Except (Int × Int) (α × Int)) : Prop where
  ok : ∀ l v p', p ≤ l.length → f l = .ok (v, p') → p ≤ p' ∧ p' ≤ l.length ∧ 0 ≤ rest p' lim ∧ ∀ l2, Agree l l2 p' → f l2 = .ok (v, p')
  er : ∀ l s e, p ≤ l.length → f l = .error (s, e) → (e = 1 ∧ s = l.length) ∨ (e = 2 ∧ p ≤ s ∧ s ≤ l.length ∧ (s < l.length → ∀ l2, Agree l l2 (s + 1) → f l2 = .error (s, 2)) ∧ ∃ e', (e' = 1 ∨ e' = 2) ∧ f (l.take s.toNat) = .error (s, e'))
theorem Loc.ret {α : Type} {lim p : Int} (v : α) (hr : 0 ≤ rest p lim) : Loc lim p (fun _ => .ok (v, p)) :=
  ⟨fun l v' p' hl h => by
    simp only [Except.ok.injEq, Prod.mk.injEq] at h
    obtain ⟨rfl, rfl⟩ := h
    exact ⟨Int.le_refl _, hl, hr, fun _ _ => rfl⟩, fun l s e _ h => by cases h⟩
def andThen {α β : Type} (f : List Int → Except (Int × Int) (α × Int)) (g : α → Int → List Int → Except (Int × Int) (β × Int)) (l : List Int) : Except (Int × Int) (β × Int) :=
  match f l with | .error s => .error s | .ok (v, p') => g v p' l
theorem Loc.bind {α β : Type} {lim p : Int} {f : List Int → Except (Int × Int) (α × Int)} {g : α → Int → List Int → Except (Int × Int) (β × Int)} (hf : Loc lim p f)
    (hg : ∀ v p', p ≤ p' → 0 ≤ rest p' lim → Loc lim p' (g v p')) : Loc lim p (andThen f g) := by
  constructor
  · intro l v p' hl h
    unfold andThen at h
    rcases hfl : f l with s | ⟨u, p1⟩
    · rw [hfl] at h; cases h
    · rw [hfl] at h
      obtain ⟨a1, a2, a3, a4⟩ := hf.ok l u p1 hl hfl
      obtain ⟨b1, b2, b3, b4⟩ := (hg u p1 a1 a3).ok l v p' a2 h
      refine ⟨by omega, b2, b3, fun l2 h2 => ?_⟩
      unfold andThen
      rw [a4 l2 (h2.mono b1)]
      exact b4 l2 h2
  · intro l s e hl h
    unfold andThen at h
    rcases hfl : f l with ⟨s1, e1⟩ | ⟨u, p1⟩
    · rw [hfl] at h
      simp only [Except.error.injEq, Prod.mk.injEq] at h
      obtain ⟨rfl, rfl⟩ := h
      rcases hf.er l s1 e1 hl hfl with q | ⟨q1, q2, q3, q4, e', q5, q6⟩
      · exact .inl q
      · refine .inr ⟨q1, q2, q3, fun hs l2 h2 => ?_, e', q5, ?_⟩
        · unfold andThen; rw [q4 hs l2 h2]
        · unfold andThen; rw [q6]
    · rw [hfl] at h
      obtain ⟨a1, a2, a3, a4⟩ := hf.ok l u p1 hl hfl
      rcases (hg u p1 a1 a3).er l s e a2 h with q | ⟨q1, q2, q3, q4, e', q5, q6⟩
      · exact .inl q
      · refine .inr ⟨q1, by omega, q3, fun hs l2 h2 => ?_, e', q5, ?_⟩
        · unfold andThen; rw [a4 l2 (h2.mono (by omega))]; exact q4 hs l2 h2
        · unfold andThen; rw [a4 _ (Agree.self_take q2 q3)]; exact q6
/-- the next byte, looked at -/
def nc {α : Type} (lim p : Int) (h : List Int → Int → Option α) (l : List Int) : Except (Int × Int) (α × Int) :=
  match nextR l p lim with | .error s => .error s | .ok x => match h l x with | some v => .ok (v, p + 1) | none => .error (p, 2)
theorem nextR_ok {l : List Int} {p lim x : Int} (p0 : 0 ≤ p) (h : nextR l p lim = .ok x) : 0 < rest p lim ∧ l[p.toNat]? = some x ∧ p < l.length := by
  unfold nextR at h
  split at h
  · cases h
  · rename_i hr
    split at h
    · rename_i y hy
      cases h
      exact ⟨by omega, hy, by have := (List.getElem?_eq_some_iff.1 hy).1; omega⟩
    · cases h
theorem nextR_of {l : List Int} {p lim x : Int} (hr : 0 < rest p lim) (h : l[p.toNat]? = some x) : nextR l p lim = .ok x := by
  unfold nextR; rw [if_neg (by omega), h]
theorem nextR_end {l : List Int} {p lim : Int} (hr : 0 < rest p lim) (h : l.length ≤ p) (p0 : 0 ≤ p) : nextR l p lim = .error (l.length, 1) := by
  unfold nextR; rw [if_neg (by omega), List.getElem?_eq_none (by omega)]
theorem nextR_er {l : List Int} {p lim s e : Int} (h : nextR l p lim = .error (s, e)) : (s = p ∧ e = 2 ∧ rest p lim ≤ 0) ∨ (s = l.length ∧ e = 1) := by
  unfold nextR at h
  split at h
  · cases h; exact .inl ⟨rfl, rfl, by assumption⟩
  · split at h
    · cases h
    · cases h; exact .inr ⟨rfl, rfl⟩
theorem rest_next {p lim : Int} (h : 0 < rest p lim) : 0 ≤ rest (p + 1) lim := by unfold rest at h ⊢; split at h <;> rename_i q <;> simp only [q, if_true, if_false] <;> omega
theorem nc_loc {α : Type} {lim p : Int} {h : List Int → Int → Option α} (p0 : 0 ≤ p) (hh : ∀ l l2 x, Agree l l2 (p + 1) → h l2 x = h l x) : Loc lim p (nc lim p h) := by
  constructor
  · intro l v p' hl hf
    unfold nc at hf
    rcases hx : nextR l p lim with s | x
    · rw [hx] at hf; cases hf
    · rw [hx] at hf
      obtain ⟨r0, hg, hlt⟩ := nextR_ok p0 hx
      simp only at hf
      rcases hv : h l x with _ | v'
      · rw [hv] at hf; cases hf
      · rw [hv] at hf
        simp only [Except.ok.injEq, Prod.mk.injEq] at hf
        obtain ⟨rfl, rfl⟩ := hf
        refine ⟨by omega, by omega, rest_next r0, fun l2 h2 => ?_⟩
        unfold nc
        rw [nextR_of r0 ((h2.get p0 (by omega)).trans hg)]
        simp only [hh l l2 x h2, hv]
  · intro l s e hl hf
    unfold nc at hf
    rcases hx : nextR l p lim with ⟨s1, e1⟩ | x
    · rw [hx] at hf
      simp only [Except.error.injEq, Prod.mk.injEq] at hf
      obtain ⟨rfl, rfl⟩ := hf
      rcases nextR_er hx with ⟨rfl, rfl, hr⟩ | ⟨rfl, rfl⟩
      · have all : ∀ l2, nextR l2 s1 lim = .error (s1, 2) := fun l2 => by unfold nextR; rw [if_pos hr]
        refine .inr ⟨rfl, Int.le_refl _, hl, fun _ l2 _ => ?_, 2, .inr rfl, ?_⟩
        · unfold nc; rw [all]
        · unfold nc; rw [all]
      · exact .inl ⟨rfl, rfl⟩
    · rw [hx] at hf
      obtain ⟨r0, hg, hlt⟩ := nextR_ok p0 hx
      simp only at hf
      rcases hv : h l x with _ | v'
      · rw [hv] at hf
        simp only [Except.error.injEq, Prod.mk.injEq] at hf
        obtain ⟨rfl, rfl⟩ := hf
        refine .inr ⟨rfl, Int.le_refl _, hl, fun _ l2 h2 => ?_, 1, .inl rfl, ?_⟩
        · unfold nc
          rw [nextR_of r0 ((h2.get p0 (by omega)).trans hg)]
          simp only [hh l l2 x h2, hv]
        · unfold nc
          rw [nextR_end r0 (by rw [List.length_take]; omega) p0]
          simp only [List.length_take, Except.error.injEq, Prod.mk.injEq, and_true]
          omega
      · rw [hv] at hf; cases hf
theorem Loc.congr {α : Type} {lim p : Int} {f g : List Int → Except (Int × Int) (α × Int)} (h : Loc lim p f) (e : ∀ l, g l = f l) : Loc lim p g := by
  rw [show g = f from funext e]; exact h

/-- the number without a sign -/
theorem uM_loc {rg : Int → List (Int × Int)} {lim : Int} : ∀ (k : Nat) (v p : Int), 0 ≤ p → 0 ≤ rest p lim → Loc lim p (fun l => uM rg l lim k v p) := by
  intro k
  induction k with
  | zero => intro v p p0 hr; exact (Loc.ret v hr).congr (fun l => rfl)
  | succ k ih =>
    intro v p p0 hr
    refine (Loc.bind (nc_loc (lim := lim) (h := fun _ x => if 128 ≤ x then (if k ≠ 0 ∧ openN rg (p + 1) lim (v + x % 128 * 128 ^ (4 - k)) (7 * (5 - (k : Int))) k = true then some (true, v + x % 128 * 128 ^ (4 - k)) else none) else (if (k ≠ 0 ∨ x ≤ 15) ∧ fitsI (v + x % 128 * 128 ^ (4 - k)) 32 0 32 (rg (rest (p + 1) lim)) = true then some (false, v + x % 128 * 128 ^ (4 - k)) else none)) p0 (fun _ _ _ _ => rfl))
      (g := fun (u : Bool × Int) p' l => if u.1 = true then uM rg l lim k u.2 p' else .ok (u.2, p')) (fun u p' hp hr' => ?_)).congr (fun l => ?_)
    · rcases u with ⟨_ | _, u⟩
      · exact (Loc.ret u hr').congr (fun l => rfl)
      · exact (ih u p' (by omega) hr').congr (fun l => rfl)
    · rw [uM, andThen, nc]
      rcases nextR l p lim with s | x
      · rfl
      · simp only
        split
        · split <;> simp
        · split <;> simp
def unitR (r : Except (Int × Int) Int) : Except (Int × Int) (Unit × Int) := match r with | .ok p => .ok ((), p) | .error s => .error s
theorem sM_loc {n a b : Int} {m : Nat} {lim : Int} : ∀ (k : Nat) (p : Int), 0 ≤ p → 0 ≤ rest p lim → Loc lim p (fun l => unitR (sM n a b m l lim k p)) := by
  intro k
  induction k with
  | zero => intro p p0 hr; exact (Loc.ret () hr).congr (fun l => rfl)
  | succ k ih =>
    intro p p0 hr
    refine (Loc.bind (nc_loc (lim := lim) (h := fun _ x => if 128 ≤ x then (if k ≠ 0 ∧ reachN a b (p + 1) lim k = true then some true else none) else (if (k ≠ 0 ∨ sgB x (n - 7 * (m : Int)) = true) ∧ chB a b (rest (p + 1) lim) = true then some false else none)) p0 (fun _ _ _ _ => rfl))
      (g := fun (u : Bool) p' l => if u = true then unitR (sM n a b m l lim k p') else .ok ((), p')) (fun u p' hp hr' => ?_)).congr (fun l => ?_)
    · rcases u with _ | _
      · exact (Loc.ret () hr').congr (fun l => rfl)
      · exact (ih p' (by omega) hr').congr (fun l => rfl)
    · rw [sM, andThen, nc]
      rcases nextR l p lim with s | x
      · rfl
      · simp only
        split
        · split <;> simp [unitR]
        · split <;> simp [unitR]
theorem take_same {l l2 : List Int} {b n : Int} (h : Agree l l2 n) (b0 : 0 ≤ b) : (l2.drop b.toNat).take (n - b).toNat = (l.drop b.toNat).take (n - b).toNat := by
  rcases Int.lt_or_le n b with q | q
  · rw [show (n - b).toNat = 0 by omega, List.take_zero, List.take_zero]
  · have e : ∀ x : List Int, (x.drop b.toNat).take (n - b).toNat = (x.take n.toNat).drop b.toNat := fun x => by rw [List.drop_take]; congr 1; omega
    rw [e, e, h.2]
theorem nmM_loc {lim : Int} : ∀ (k : Nat) (b p : Int), 0 ≤ b → 0 ≤ p → 0 ≤ rest p lim → Loc lim p (fun l => unitR (nmM l lim k b p)) := by
  intro k
  induction k with
  | zero => intro b p b0 p0 hr; exact (Loc.ret () hr).congr (fun l => rfl)
  | succ k ih =>
    intro b p b0 p0 hr
    refine (Loc.bind (nc_loc (lim := lim) (h := fun l _ => if (need ((l.drop b.toNat).take (p + 1 - b).toNat)).2 = true ∧ (need ((l.drop b.toNat).take (p + 1 - b).toNat)).1 ≤ (k : Int) then some (decide ((need ((l.drop b.toNat).take (p + 1 - b).toNat)).1 = 0)) else none) p0 (fun l l2 _ h2 => by simp only [take_same h2 b0]))
      (g := fun (u : Bool) p' l => unitR (nmM l lim k (if u = true then p' else b) p')) (fun u p' hp hr' => ?_)).congr (fun l => ?_)
    · rcases u with _ | _
      · exact (ih b p' b0 (by omega) hr').congr (fun l => rfl)
      · exact (ih p' p' (by omega) (by omega) hr').congr (fun l => rfl)
    · rw [nmM, andThen, nc]
      rcases nextR l p lim with s | x
      · rfl
      · simp only
        split
        · simp
        · simp [unitR]
def nameU (a b : Int) (l : List Int) (p lim : Int) : Except (Int × Int) (Unit × Int) := match nameM a b l p lim with | .ok (_, p') => .ok ((), p') | .error s => .error s
theorem name_loc {a b lim p : Int} (p0 : 0 ≤ p) (hr : 0 ≤ rest p lim) : Loc lim p (fun l => nameU a b l p lim) := by
  refine (Loc.bind (uM_loc (rg := rgL 1 1 a b) (lim := lim) 5 0 p p0 hr) (g := fun n p1 l => unitR (nmM l lim n.toNat p1 p1)) (fun n p1 h1 hr1 => nmM_loc n.toNat p1 p1 (by omega) (by omega) hr1)).congr (fun l => ?_)
  rw [nameU, nameM, andThen]
  rcases uM (rgL 1 1 a b) l lim 5 0 p with s | ⟨n, p1⟩
  · rfl
  · simp only
    rcases nmM l lim n.toNat p1 p1 with s | q <;> rfl
def rawU (l : List Int) (p lim n : Int) : Except (Int × Int) (Unit × Int) := match rawM l p lim n with | .ok (_, p') => .ok ((), p') | .error s => .error s
theorem rawU_eq (l : List Int) (p lim n : Int) : rawU l p lim n = if n ≤ 0 then .ok ((), p) else if rest p lim < n ∧ rest p lim ≤ l.length - p then .error (p + rest p lim, 2) else if l.length - p < n then .error (l.length, 1) else .ok ((), p + n) := by
  by_cases h1 : n ≤ 0
  · rw [rawU, rawM, if_pos h1, if_pos h1]
  by_cases h2 : rest p lim < n ∧ rest p lim ≤ l.length - p
  · rw [rawU, rawM, if_neg h1, if_pos h2, if_neg h1, if_pos h2]
  by_cases h3 : l.length - p < n
  · rw [rawU, rawM, if_neg h1, if_neg h2, if_pos h3, if_neg h1, if_neg h2, if_pos h3]
  · rw [rawU, rawM, if_neg h1, if_neg h2, if_neg h3, if_neg h1, if_neg h2, if_neg h3]
theorem raw_loc {lim p n : Int} (p0 : 0 ≤ p) (hr : 0 ≤ rest p lim) : Loc lim p (fun l => rawU l p lim n) := by
  by_cases hn : n ≤ 0
  · exact (Loc.ret () hr).congr (fun l => by rw [rawU_eq, if_pos hn])
  refine Loc.congr (f := fun l => if rest p lim < n ∧ rest p lim ≤ l.length - p then .error (p + rest p lim, 2) else if l.length - p < n then .error (l.length, 1) else .ok ((), p + n)) ?_ (fun l => by rw [rawU_eq, if_neg hn])
  constructor
  · intro l v p' hl h
    (try simp only at h)
    split at h
    · cases h
    · rename_i h1
      split at h
      · cases h
      · rename_i h2
        simp only [Except.ok.injEq, Prod.mk.injEq] at h
        obtain ⟨_, rfl⟩ := h
        refine ⟨by omega, by omega, by unfold rest at h1 hr ⊢; split <;> rename_i q <;> simp only [q, if_true, if_false] at h1 hr <;> omega, fun l2 h2 => ?_⟩
        have := h2.1
        rw [if_neg (by omega), if_neg (by omega)]
  · intro l s e hl h
    (try simp only at h)
    split at h
    · rename_i h1
      simp only [Except.error.injEq, Prod.mk.injEq] at h
      obtain ⟨rfl, rfl⟩ := h
      refine .inr ⟨rfl, by omega, by omega, fun hs l2 h2 => ?_, 2, .inr rfl, ?_⟩
      · have := h2.1
        (try simp only)
        rw [if_pos (by omega)]
      · (try simp only)
        rw [if_pos (by rw [List.length_take]; omega)]
    · split at h
      · simp only [Except.error.injEq, Prod.mk.injEq] at h
        obtain ⟨rfl, rfl⟩ := h
        exact .inl ⟨rfl, rfl⟩
      · cases h

/-- something asked, by its kind -/
structure AskV where
  d : Int
  n : Int
  lo : Int
  hi : Int
  rg : Int → List (Int × Int)
  a : Int
  b : Int
def byteU (lo hi lim p : Int) (l : List Int) : Except (Int × Int) (Unit × Int) := nc lim p (fun _ y => if lo ≤ y ∧ y ≤ hi then some () else none) l
def uintU (rg : Int → List (Int × Int)) (lim p : Int) (l : List Int) : Except (Int × Int) (Unit × Int) := andThen (fun l => uM rg l lim 5 0 p) (fun _ p' _ => .ok ((), p')) l
def sintU (n a b lim p : Int) (l : List Int) : Except (Int × Int) (Unit × Int) := unitR (sM n a b ((n - 1) / 7).toNat l lim (((n - 1) / 7).toNat + 1) p)
/-- one thing asked, that is no limit -/
def stepM (x : AskV) (lim p : Int) (l : List Int) : Except (Int × Int) (Unit × Int) :=
  if x.d = 0 then byteU x.lo x.hi lim p l else if x.d = 1 then uintU x.rg lim p l else if x.d = 2 then sintU x.n x.a x.b lim p l else if x.d = 3 then rawU l p lim x.n else nameU x.a x.b l p lim
def askM : List AskV → Int → Int → List Int → Except (Int × Int) (Unit × Int)
  | [], _, p, _ => .ok ((), p)
  | x :: r, lim, p, l => if x.d = 5 then (match askM r (inLim p lim x.n) p l with | .error s => .error s | .ok (_, p') => if p' = inLim p lim x.n then .ok ((), p') else .error (p', 2))
    else andThen (stepM x lim p) (fun _ p' l => askM r lim p' l) l
theorem step_loc {x : AskV} {lim p : Int} (p0 : 0 ≤ p) (hr : 0 ≤ rest p lim) : Loc lim p (stepM x lim p) := by
  by_cases h0 : x.d = 0
  · exact (nc_loc p0 (fun _ _ _ _ => rfl)).congr (fun l => by rw [stepM, if_pos h0]; rfl)
  by_cases h1 : x.d = 1
  · exact (Loc.bind (uM_loc (rg := x.rg) 5 0 p p0 hr) (g := fun _ p' _ => .ok ((), p')) (fun _ p' _ hr' => Loc.ret () hr')).congr (fun l => by rw [stepM, if_neg h0, if_pos h1]; rfl)
  by_cases h2 : x.d = 2
  · exact (sM_loc _ p p0 hr).congr (fun l => by rw [stepM, if_neg h0, if_neg h1, if_pos h2]; rfl)
  by_cases h3 : x.d = 3
  · exact (raw_loc (n := x.n) p0 hr).congr (fun l => by rw [stepM, if_neg h0, if_neg h1, if_neg h2, if_pos h3])
  · exact (name_loc (a := x.a) (b := x.b) p0 hr).congr (fun l => by rw [stepM, if_neg h0, if_neg h1, if_neg h2, if_neg h3])
theorem inLim_ge {p lim n : Int} (hr : 0 ≤ rest p lim) : p ≤ inLim p lim n ∧ (lim < 0 ∨ inLim p lim n ≤ lim) := by
  by_cases q : lim < 0
  · refine ⟨?_, .inl q⟩
    unfold inLim rest
    rw [if_pos q]; omega
  · unfold rest at hr
    rw [if_neg q] at hr
    unfold inLim rest
    rw [if_neg q]; omega
theorem ask_loc : ∀ (r : List AskV) (lim p : Int), 0 ≤ p → 0 ≤ rest p lim → Loc lim p (askM r lim p) := by
  intro r
  induction r with
  | nil => intro lim p p0 hr; exact (Loc.ret () hr).congr (fun l => rfl)
  | cons x r ih =>
    intro lim p p0 hr
    by_cases h5 : x.d = 5
    · obtain ⟨g1, g2⟩ := inLim_ge (n := x.n) hr
      have hin := ih (inLim p lim x.n) p p0 (by unfold rest; rw [if_neg (by omega)]; omega)
      refine Loc.congr (f := fun l => match askM r (inLim p lim x.n) p l with | .error s => .error s | .ok (_, p') => if p' = inLim p lim x.n then .ok ((), p') else .error (p', 2)) ?_ (fun l => by rw [askM, if_pos h5])
      generalize inLim p lim x.n = L at *
      constructor
      · intro l v p' hl h
        (try simp only at h)
        rcases hf : askM r L p l with s | ⟨u, p1⟩
        · rw [hf] at h; cases h
        · rw [hf] at h
          (try simp only at h)
          split at h
          · rename_i he
            simp only [Except.ok.injEq, Prod.mk.injEq] at h
            obtain ⟨_, rfl⟩ := h
            obtain ⟨a1, a2, a3, a4⟩ := hin.ok l u p1 hl hf
            refine ⟨a1, a2, by unfold rest; split <;> omega, fun l2 h2 => ?_⟩
            simp only [a4 l2 h2, if_pos he]
          · cases h
      · intro l s e hl h
        (try simp only at h)
        rcases hf : askM r L p l with ⟨s1, e1⟩ | ⟨u, p1⟩
        · rw [hf] at h
          simp only [Except.error.injEq, Prod.mk.injEq] at h
          obtain ⟨rfl, rfl⟩ := h
          rcases hin.er l s1 e1 hl hf with q | ⟨q1, q2, q3, q4, e', q5, q6⟩
          · exact .inl q
          · refine .inr ⟨q1, q2, q3, fun hs l2 h2 => ?_, e', q5, ?_⟩
            · simp only [q4 hs l2 h2]
            · simp only [q6]
        · rw [hf] at h
          (try simp only at h)
          split at h
          · cases h
          · rename_i he
            simp only [Except.error.injEq, Prod.mk.injEq] at h
            obtain ⟨rfl, rfl⟩ := h
            obtain ⟨a1, a2, a3, a4⟩ := hin.ok l u p1 hl hf
            refine .inr ⟨rfl, a1, a2, fun hs l2 h2 => ?_, 2, .inr rfl, ?_⟩
            · simp only [a4 l2 (h2.mono (by omega)), if_neg he]
            · simp only [a4 _ (Agree.self_take (Int.le_refl _) a2), if_neg he]
    · exact (Loc.bind (step_loc p0 hr) (g := fun _ p' l => askM r lim p' l) (fun _ p' hp hr' => ih lim p' (by omega) hr')).congr (fun l => by rw [askM, if_neg h5])
/-- THE PLAIN LAW -/
theorem places_plain (r : List AskV) (l more : List Int) :
    match askM r (-1) 0 l with
    | .ok (_, p) => 0 ≤ p ∧ p ≤ l.length ∧ askM r (-1) 0 (l.take p.toNat ++ more) = .ok ((), p)
    | .error (s, e) => (e = 1 ∧ s = l.length) ∨ (e = 2 ∧ 0 ≤ s ∧ s ≤ l.length ∧ (s < l.length → askM r (-1) 0 (l.take (s + 1).toNat ++ more) = .error (s, 2)) ∧ ∃ e', (e' = 1 ∨ e' = 2) ∧ askM r (-1) 0 (l.take s.toNat) = .error (s, e')) := by
  have hL := ask_loc r (-1) 0 (by decide) (by decide)
  rcases hf : askM r (-1) 0 l with ⟨s, e⟩ | ⟨u, p⟩
  · rcases hL.er l s e (by omega) hf with q | ⟨q1, q2, q3, q4, q5⟩
    · exact .inl q
    · exact .inr ⟨q1, q2, q3, fun hs => q4 hs _ (Agree.app (by omega)), q5⟩
  · obtain ⟨a1, a2, a3, a4⟩ := hL.ok l u p (by omega) hf
    exact ⟨a1, a2, a4 _ (Agree.app a2)⟩
end Go.Proofs.YtiohiiekaofkbaaDoor
