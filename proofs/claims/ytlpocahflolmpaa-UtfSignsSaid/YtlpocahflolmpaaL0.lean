/- Plain laws of numbers by sevens with a sign. -/
import Derived.Test.YtlpocahflolmpaaB9
namespace Go.Proofs.Ytlpocahflolmpaa
set_option linter.unusedVariables false
set_option linter.unusedSimpArgs false
open Go.RowKit

/-- the last digit with its sign -/
def sd (x : Int) : Int := if 64 ≤ x then x - 128 else x
/-- a number with a sign by sevens, the lowest first -/
def sv : List Int → Int
  | [] => 0
  | [x] => sd x
  | x :: y :: t => x % 128 + 128 * sv (y :: t)
theorem sv_one (x : Int) : sv [x] = sd x := rfl
theorem sv_cons {x : Int} {t : List Int} (h : t ≠ []) : sv (x :: t) = x % 128 + 128 * sv t := by
  match t, h with
  | y :: t, _ => rfl
theorem sv_app (D : List Int) (x : Int) : sv (D ++ [x]) = val D + sd x * 128 ^ D.length := by
  induction D with
  | nil => simp [sv, val]
  | cons a D ih =>
    rw [List.cons_append, sv_cons (by simp), ih]
    simp only [val, List.length_cons, Int.pow_succ, Int.mul_add]
    rw [Int.add_assoc, Int.mul_left_comm, Int.mul_comm 128 (128 ^ _)]
theorem sv_drop {l : List Int} {j : Nat} {x : Int} (h : l[j]? = some x) (h2 : j + 1 < l.length) : sv (l.drop j) = x % 128 + 128 * sv (l.drop (j + 1)) := by
  obtain ⟨hj, rfl⟩ := List.getElem?_eq_some_iff.1 h
  rw [List.drop_eq_getElem_cons hj, sv_cons]
  intro e
  have := congrArg List.length e
  simp at this
  omega

/-- a list whose last is known -/
theorem split_last {l : List Int} {j : Nat} {x : Int} (h : l[j]? = some x) : l.take (j + 1) = l.take j ++ [x] := by
  rw [List.take_add_one, h]; rfl

theorem ten {k : Nat} (h : k ≤ 9) : k = 0 ∨ k = 1 ∨ k = 2 ∨ k = 3 ∨ k = 4 ∨ k = 5 ∨ k = 6 ∨ k = 7 ∨ k = 8 ∨ k = 9 := by omega

theorem sgn_sv (D : List Int) (x : Int) (hx0 : 0 ≤ x) (hx1 : x < 128) (hn : D.length ≤ 8 ∨ (D.length = 9 ∧ (x = 0 ∨ x = 127))) :
    sgn (val (D ++ [x]) % 18446744073709551616) (D.length + 1) = sv (D ++ [x]) := by
  rw [sv_app, val_app]
  have hd := val_lt D
  have hk : D.length ≤ 9 := by omega
  generalize val D = d at *
  generalize D.length = k at *
  have e : (64 - min 64 (7 * ((k : Int) + 1))).toNat = 64 - min 64 (7 * (k + 1)) := by omega
  unfold sgn
  rw [e]
  clear e
  rcases ten hk with rfl | rfl | rfl | rfl | rfl | rfl | rfl | rfl | rfl | rfl
  all_goals
    simp only [wu, wrap64, sd, Nat.min_def] at *
    simp at *
    try (split <;> omega)

/-- the bounds of what is reckoned on the way -/
theorem sv_bd (D : List Int) (x : Int) (hx0 : 0 ≤ x) (hx1 : x < 128) (hn : D.length ≤ 7 ∨ (D.length ≤ 8 ∧ (x = 0 ∨ x = 127))) :
    -9223372036854775808 ≤ sv (D ++ [x]) * 128 ∧ sv (D ++ [x]) * 128 ≤ 9223372036854775680 := by
  rw [sv_app]
  have hd := val_lt D
  have hk : D.length ≤ 9 := by omega
  generalize val D = d at *
  generalize D.length = k at *
  unfold sd
  rcases ten hk with rfl | rfl | rfl | rfl | rfl | rfl | rfl | rfl | rfl | rfl
  all_goals
    first | (simp at hd hn; done) | (simp at hd hn; split <;> omega)

/-- the reference's look at the bits beyond -/
theorem ok32 (x c : Int) (h0 : 0 ≤ x) (h1 : x < 128) (hc0 : 1 ≤ c) (hc1 : c ≤ 7) :
    okF 32 x c = true ↔ ∀ i : Int, c ≤ i → i < 7 → x / 2 ^ i.toNat % 2 = x / 2 ^ (c - 1).toNat % 2 := by
  obtain ⟨n, rfl⟩ : ∃ n : Nat, x = n := ⟨x.toNat, by omega⟩
  obtain ⟨k, rfl⟩ : ∃ n : Nat, c = n + 1 := ⟨(c - 1).toNat, by omega⟩
  have key : ∀ (a : Fin 128) (b : Fin 7), (okF 32 ((a.val : Nat) : Int) ((b.val : Nat) + 1) = true ↔ ∀ i : Fin 7, b.val + 1 ≤ i.val → ((a.val : Nat) : Int) / 2 ^ i.val % 2 = ((a.val : Nat) : Int) / 2 ^ b.val % 2) := by decide +kernel
  have h := key ⟨n, by omega⟩ ⟨k, by omega⟩
  simp only at h
  rw [h]
  have e : ((k : Int) + 1 - 1).toNat = k := by omega
  rw [e]
  constructor
  · intro g i hi hi7
    exact g ⟨i.toNat, by omega⟩ (by simp; omega)
  · intro g i hi
    have := g (i.val : Int) (by omega) (by omega)
    simpa using this

end Go.Proofs.Ytlpocahflolmpaa
