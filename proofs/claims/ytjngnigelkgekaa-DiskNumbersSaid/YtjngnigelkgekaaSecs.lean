/- Rows of bytes, sector by sector: plain lists. -/
import Derived.Test.YtjngnigelkgekaaCopy
namespace Go.Proofs.Ytjngnigelkgekaa.Kit
set_option linter.unusedVariables false
/-- The bytes of one sector. -/
def sec (l : List Int) (i : Nat) : List Int := (l.drop (64 * i)).take 64
theorem sec_len {l : List Int} {i : Nat} (h : 64 * (i + 1) ≤ l.length) : (sec l i).length = 64 := by
  unfold sec; rw [List.length_take, List.length_drop]; omega
theorem sec_get (l : List Int) (i j : Nat) (hj : j < 64) : (sec l i)[j]? = l[64 * i + j]? := by
  unfold sec; rw [List.getElem?_take, if_pos hj, List.getElem?_drop]
/-- n sectors in a row. -/
def secs (n : Nat) (f : Nat → List Int) : List Int := (List.range n).flatMap f
theorem secs_succ (n : Nat) (f : Nat → List Int) : secs (n + 1) f = secs n f ++ f n := by
  unfold secs; rw [List.range_succ, List.flatMap_append]; simp
theorem secs_len {f : Nat → List Int} : ∀ {n : Nat}, (∀ i, i < n → (f i).length = 64) → (secs n f).length = 64 * n
  | 0, _ => rfl
  | n + 1, h => by rw [secs_succ, List.length_append, secs_len (fun i hi => h i (by omega)), h n (by omega)]; omega
theorem secs_get {f : Nat → List Int} : ∀ {n : Nat}, (∀ i, i < n → (f i).length = 64) → ∀ p, (secs n f)[p]? = if p < 64 * n then (f (p / 64))[p % 64]? else none
  | 0, _, p => by simp [secs]
  | n + 1, h, p => by
    have hl := secs_len (n := n) (f := f) (fun i hi => h i (by omega))
    rw [secs_succ]
    by_cases h1 : p < 64 * n
    · rw [List.getElem?_append_left (by omega), secs_get (fun i hi => h i (by omega)), if_pos h1, if_pos (by omega)]
    · rw [List.getElem?_append_right (by omega), hl]
      by_cases h2 : p < 64 * (n + 1)
      · rw [if_pos h2, show p / 64 = n by omega, show p - 64 * n = p % 64 by omega]
      · rw [if_neg h2, List.getElem?_eq_none (by have := h n (by omega); omega)]
theorem secs_congr {n : Nat} {f g : Nat → List Int} (h : ∀ i, i < n → f i = g i) : secs n f = secs n g := by
  unfold secs
  rw [List.flatMap_def, List.flatMap_def]
  congr 1
  exact List.map_congr_left (fun i hi => h i (List.mem_range.1 hi))
theorem secs_self {l : List Int} {n : Nat} (h : l.length = 64 * n) : secs n (sec l) = l := by
  apply List.ext_getElem?
  intro p
  rw [secs_get (fun i hi => sec_len (by omega))]
  by_cases hp : p < 64 * n
  · rw [if_pos hp, sec_get _ _ _ (by omega), show 64 * (p / 64) + p % 64 = p by omega]
  · rw [if_neg hp, List.getElem?_eq_none (by omega)]
theorem sec_secs {f : Nat → List Int} {n i : Nat} (h : ∀ i, i < n → (f i).length = 64) (hi : i < n) : sec (secs n f) i = f i := by
  apply List.ext_getElem?
  intro j
  by_cases hj : j < 64
  · rw [sec_get _ _ _ hj, secs_get h, if_pos (by omega), show (64 * i + j) / 64 = i by omega, show (64 * i + j) % 64 = j by omega]
  · rw [List.getElem?_eq_none (by rw [sec_len]; omega; rw [secs_len h]; omega), List.getElem?_eq_none (by rw [h i hi]; omega)]
/-- A sector, or its beginning, laid anew. -/
theorem over_secs {f : Nat → List Int} {n i : Nat} {b : List Int} (h : ∀ i, i < n → (f i).length = 64) (hi : i < n) (hb : b.length ≤ 64) :
    over (secs n f) (64 * i) b = secs n (fun k => if k = i then b ++ (f k).drop b.length else f k) := by
  have hl := secs_len h
  have h' : ∀ k, k < n → ((fun k => if k = i then b ++ (f k).drop b.length else f k) k).length = 64 := fun k hk => by
    have := h k hk
    dsimp only
    split
    · rw [List.length_append, List.length_drop]; omega
    · exact this
  apply List.ext_getElem?
  intro p
  rw [over_get (by omega), secs_get h, secs_get h']
  by_cases hp : p < 64 * n
  · rw [if_pos hp, if_pos hp]
    by_cases hk : p / 64 = i
    · rw [if_pos hk]
      by_cases h1 : p < 64 * i + b.length
      · rw [if_pos (by omega), List.getElem?_append_left (by omega)]; congr 1; omega
      · rw [if_neg (by omega), List.getElem?_append_right (by omega), List.getElem?_drop]; congr 1; omega
    · rw [if_neg hk, if_neg (by omega)]
  · rw [if_neg hp, if_neg hp, if_neg (by omega)]
end Go.Proofs.Ytjngnigelkgekaa.Kit
