/- Plain law: tokens of a row of runes, as a machine that goes rune by rune. -/
import Derived.Test.YtkkgfpdjlohojaaSep
namespace Go.Proofs.Ytkkgfpdjlohojaa.TokP
set_option linter.unusedVariables false
set_option linter.unusedSimpArgs false
structure Tok where
  sign : Int
  num : Int
  name : Int
deriving DecidableEq
def nameB (r : Int) : Bool := (decide (97 ≤ r) && decide (r ≤ 122)) || (decide (255 < r) && decide (r ≠ 65533) && decide (r ≤ 1114111) && (decide (r < 55296) || decide (57343 < r)))
def signsL : List Int := [43,45,42,47,37,38,124,94,60,61,33,46,44,64,36,35,63,58,59,91,93,126,171,187,169,174,164,161,955,960]
def knownB (r : Int) : Bool := (decide (97 ≤ r) && decide (r ≤ 122)) || (decide (65 ≤ r) && decide (r ≤ 90)) || signsL.contains r
def namedB (r : Int) : Bool := decide (r = 955) || decide (r = 960)
inductive Md where
  | idle
  | num (n : Nat)
  | nm (s : Int)
def top : Nat := 9223372036854775807
def stepI (acc : List Tok) (r : Int) : Option (List Tok × Md) :=
  if r = 32 then some (acc, .idle) else if 48 ≤ r ∧ r ≤ 57 then some (acc, .num (r - 48).toNat) else if namedB r = true then some (acc, .nm r) else if knownB r = true then some (acc ++ [⟨r, 0, 0⟩], .idle) else none
def step (acc : List Tok) (r : Int) : Md → Option (List Tok × Md)
  | .idle => stepI acc r
  | .num n => if 48 ≤ r ∧ r ≤ 57 then (if (top - (r - 48).toNat) / 10 < n then none else some (acc, .num (n * 10 + (r - 48).toNat))) else stepI (acc ++ [⟨48, n, 0⟩]) r
  | .nm s => if nameB r = true then some (acc ++ [⟨s, 0, r⟩], .idle) else none
def run (acc : List Tok) (m : Md) : List Int → Option (List Tok)
  | [] => match m with
    | .idle => some acc
    | .num n => some (acc ++ [⟨48, n, 0⟩])
    | .nm _ => none
  | r :: t => match step acc r m with
    | none => none
    | some (a, m2) => run a m2 t
def tokens (rs : List Int) : Option (List Tok) := run [] .idle rs
/-- A token as tokens gives it. -/
def Good (t : Tok) : Prop := (t.sign = 48 ∧ 0 ≤ t.num ∧ t.num ≤ top ∧ t.name = 0) ∨ (namedB t.sign = true ∧ nameB t.name = true ∧ t.num = 0) ∨ (knownB t.sign = true ∧ namedB t.sign = false ∧ t.num = 0 ∧ t.name = 0)
def okM : Md → Prop
  | .idle => True
  | .num n => n ≤ top
  | .nm s => namedB s = true
theorem stepI_good {acc a : List Tok} {r : Int} {m : Md} (h : ∀ t ∈ acc, Good t) (e : stepI acc r = some (a, m)) : (∀ t ∈ a, Good t) ∧ okM m := by
  unfold stepI at e
  split at e
  · cases e; exact ⟨h, trivial⟩
  · split at e
    · rename_i h1
      cases e; exact ⟨h, by show (r - 48).toNat ≤ top; unfold top; omega⟩
    · split at e
      · rename_i h2
        cases e; exact ⟨h, h2⟩
      · split at e
        · rename_i h1 h2 h3
          cases e
          refine ⟨fun t ht => ?_, trivial⟩
          rcases List.mem_append.1 ht with ht | ht
          · exact h t ht
          · rw [List.mem_singleton.1 ht]
            exact .inr (.inr ⟨h3, by simpa using h2, rfl, rfl⟩)
        · cases e
theorem good_num {acc : List Tok} {n : Nat} (h : ∀ t ∈ acc, Good t) (hn : n ≤ top) : ∀ t ∈ acc ++ [(⟨48, n, 0⟩ : Tok)], Good t := fun t ht => by
  rcases List.mem_append.1 ht with ht | ht
  · exact h t ht
  · rw [List.mem_singleton.1 ht]
    exact .inl ⟨rfl, Int.natCast_nonneg _, by simpa using hn, rfl⟩
theorem step_good {acc a : List Tok} {r : Int} {m m2 : Md} (h : ∀ t ∈ acc, Good t) (hm : okM m) (e : step acc r m = some (a, m2)) : (∀ t ∈ a, Good t) ∧ okM m2 := by
  cases m with
  | idle => exact stepI_good h e
  | num n =>
    have hn : n ≤ top := hm
    unfold step at e
    dsimp only at e
    split at e
    · rename_i h1
      split at e
      · cases e
      · rename_i h2
        cases e
        refine ⟨h, ?_⟩
        show n * 10 + (r - 48).toNat ≤ top
        unfold top at *
        omega
    · exact stepI_good (good_num h hn) e
  | nm s =>
    unfold step at e
    dsimp only at e
    split at e
    · rename_i h1
      cases e
      refine ⟨fun t ht => ?_, trivial⟩
      rcases List.mem_append.1 ht with ht | ht
      · exact h t ht
      · rw [List.mem_singleton.1 ht]
        exact .inr (.inl ⟨hm, h1, rfl⟩)
    · cases e
theorem run_good : ∀ (rs : List Int) {acc a : List Tok} {m : Md}, (∀ t ∈ acc, Good t) → okM m → run acc m rs = some a → ∀ t ∈ a, Good t
  | [], acc, a, .idle, h, hm, e => by cases e; exact h
  | [], acc, a, .num n, h, hm, e => by cases e; exact good_num h hm
  | [], acc, a, .nm s, h, hm, e => by cases e
  | r :: t, acc, a, m, h, hm, e => by
    unfold run at e
    cases hs : step acc r m with
    | none => rw [hs] at e; cases e
    | some q =>
      obtain ⟨b, m2⟩ := q
      rw [hs] at e
      obtain ⟨h1, h2⟩ := step_good h hm hs
      exact run_good t h1 h2 e
theorem tokens_good {rs : List Int} {l : List Tok} (h : tokens rs = some l) : ∀ t ∈ l, Good t := run_good (m := .idle) rs (fun _ ht => by cases ht) trivial h
/-- No token that came of a row without nothing: what it sees is no U+FFFD. -/
theorem stepI_ne {acc : List Tok} {r : Int} (h : r = 65533) : stepI acc r = none := by subst h; rfl
theorem step_ne {acc : List Tok} {m : Md} {r : Int} (h : r = 65533) : step acc r m = none := by
  subst h
  cases m <;> rfl
theorem run_ne : ∀ (rs : List Int) {acc a : List Tok} {m : Md}, run acc m rs = some a → ∀ r ∈ rs, r ≠ 65533
  | [], _, _, _, _, r, hr => by cases hr
  | q :: t, acc, a, m, e, r, hr => by
    unfold run at e
    cases hs : step acc q m with
    | none => rw [hs] at e; cases e
    | some p =>
      obtain ⟨b, m2⟩ := p
      rw [hs] at e
      rcases List.mem_cons.1 hr with rfl | hr
      · intro h; rw [step_ne h] at hs; cases hs
      · exact run_ne t e r hr
/-! ### as runes again -/
def digitsL (n : Nat) : List Int := if h : n < 10 then [48 + (n : Int)] else digitsL (n / 10) ++ [48 + (n % 10 : Int)]
termination_by n
def textF : Bool → List Tok → List Int
  | _, [] => []
  | b, t :: r => if t.sign = 48 then (if b = true then [32] else []) ++ digitsL t.num.toNat ++ textF true r
    else if namedB t.sign = true then (if nameB t.name = true then t.sign :: t.name :: textF false r else textF b r)
    else if knownB t.sign = true then t.sign :: textF false r else textF b r
def flush (acc : List Tok) : Md → List Tok
  | .idle => acc
  | .num n => acc ++ [⟨48, n, 0⟩]
  | .nm _ => acc
def isNum : Md → Bool
  | .num _ => true
  | _ => false
def noNm : Md → Prop
  | .nm _ => False
  | _ => True
theorem textF_cons (b : Bool) (t : Tok) (r : List Tok) : textF b (t :: r) = if t.sign = 48 then (if b = true then [32] else []) ++ digitsL t.num.toNat ++ textF true r
    else if namedB t.sign = true then (if nameB t.name = true then t.sign :: t.name :: textF false r else textF b r)
    else if knownB t.sign = true then t.sign :: textF false r else textF b r := rfl
theorem run_cons (acc : List Tok) (m : Md) (r : Int) (t : List Int) : run acc m (r :: t) = match step acc r m with
    | none => none
    | some (a, m2) => run a m2 t := rfl
theorem run_digits (acc : List Tok) (rest : List Int) : ∀ n : Nat, n ≤ top → run acc .idle (digitsL n ++ rest) = run acc (.num n) rest
  | n, hn => by
    rw [digitsL]
    split
    · rename_i h
      show run acc .idle ((48 + (n : Int)) :: rest) = _
      rw [run_cons]
      unfold step stepI
      dsimp only
      rw [if_neg (by omega), if_pos (by omega)]
      have : (48 + (n : Int) - 48).toNat = n := by omega
      rw [this]
    · rename_i h
      have hlt : n / 10 < n := by omega
      rw [List.append_assoc, run_digits acc _ (n / 10) (by unfold top at *; omega)]
      show run acc (.num (n / 10)) ((48 + (n % 10 : Int)) :: rest) = _
      rw [run_cons]
      unfold step
      dsimp only
      have e : (48 + (n % 10 : Int) - 48).toNat = n % 10 := by omega
      rw [e, if_pos (by omega), if_neg (by unfold top at *; omega)]
      have e2 : n / 10 * 10 + n % 10 = n := by omega
      rw [e2]
theorem step_flush {acc : List Tok} {m : Md} {r : Int} (hm : noNm m) (hr : ¬ (48 ≤ r ∧ r ≤ 57)) : step acc r m = stepI (flush acc m) r := by
  cases m with
  | idle => rfl
  | num n => unfold step; dsimp only; rw [if_neg hr]; rfl
  | nm s => exact hm.elim
theorem flush_noNm {acc : List Tok} {m : Md} (hm : noNm m) {a : List Tok} (h : flush acc m = a) : run acc m [] = some a := by
  cases m with
  | idle => subst h; rfl
  | num n => subst h; rfl
  | nm s => exact hm.elim
theorem named_not_digit {r : Int} (h : namedB r = true) : r ≠ 32 ∧ ¬ (48 ≤ r ∧ r ≤ 57) := by
  unfold namedB at h
  simp only [Bool.or_eq_true, decide_eq_true_eq] at h
  omega
theorem known_not_digit {r : Int} (h : knownB r = true) : r ≠ 32 ∧ ¬ (48 ≤ r ∧ r ≤ 57) := by
  unfold knownB signsL at h
  simp only [Bool.or_eq_true, Bool.and_eq_true, decide_eq_true_eq, List.contains_eq_mem, List.mem_cons, List.not_mem_nil, or_false] at h
  omega
/-- What is written is read. -/
theorem run_text (rest : List Int) : ∀ (l : List Tok) (acc : List Tok) (m : Md), (∀ t ∈ l, Good t) → noNm m → ∃ (a : List Tok) (m2 : Md), noNm m2 ∧ flush a m2 = flush acc m ++ l ∧ run acc m (textF (isNum m) l ++ rest) = run a m2 rest
  | [], acc, m, _, hm => ⟨acc, m, hm, by simp, rfl⟩
  | t :: l, acc, m, hg, hm => by
    have hl : ∀ t ∈ l, Good t := fun x hx => hg x (List.mem_cons_of_mem _ hx)
    rcases hg t (List.mem_cons_self ..) with ⟨h1, h2, h3, h4⟩ | ⟨h1, h2, h3⟩ | ⟨h1, h2, h3, h4⟩
    · obtain ⟨a, m2, q1, q2, q3⟩ := run_text rest l (flush acc m) (.num t.num.toNat) hl trivial
      refine ⟨a, m2, q1, ?_, ?_⟩
      · rw [q2]
        show (flush acc m ++ [⟨48, (t.num.toNat : Int), 0⟩]) ++ l = _
        rw [List.append_assoc, Int.toNat_of_nonneg h2, ← h1, ← h4]; rfl
      · rw [← q3, textF_cons, if_pos h1]
        have ht : t.num.toNat ≤ top := by omega
        cases m with
        | idle =>
          show run acc .idle (([] ++ digitsL t.num.toNat ++ textF true l) ++ rest) = _
          rw [List.nil_append, List.append_assoc, run_digits acc _ _ ht]; rfl
        | num n =>
          have hs := step_flush (acc := acc) (m := .num n) (r := 32) trivial (by omega)
          show run acc (.num n) (([32] ++ digitsL t.num.toNat ++ textF true l) ++ rest) = _
          rw [List.append_assoc, List.append_assoc]
          show run acc (.num n) (32 :: (digitsL t.num.toNat ++ (textF true l ++ rest))) = _
          rw [run_cons, hs]
          show run (flush acc (.num n)) .idle _ = _
          rw [run_digits _ _ _ ht]; rfl
        | nm s => exact hm.elim
    · have hd := named_not_digit h1
      obtain ⟨a, m2, q1, q2, q3⟩ := run_text rest l (flush acc m ++ [⟨t.sign, 0, t.name⟩]) .idle hl trivial
      refine ⟨a, m2, q1, ?_, ?_⟩
      · rw [q2]
        show (flush acc m ++ [⟨t.sign, 0, t.name⟩]) ++ l = _
        rw [List.append_assoc, ← h3]; rfl
      · rw [← q3, textF_cons, if_neg (by omega), if_pos h1, if_pos h2]
        show run acc m (t.sign :: t.name :: (textF false l ++ rest)) = _
        rw [run_cons, step_flush hm hd.2]
        unfold stepI
        rw [if_neg hd.1, if_neg hd.2, if_pos h1]
        dsimp only
        rw [run_cons]
        unfold step
        dsimp only
        rw [if_pos h2]
        rfl
    · have hd := known_not_digit h1
      obtain ⟨a, m2, q1, q2, q3⟩ := run_text rest l (flush acc m ++ [⟨t.sign, 0, 0⟩]) .idle hl trivial
      refine ⟨a, m2, q1, ?_, ?_⟩
      · rw [q2]
        show (flush acc m ++ [⟨t.sign, 0, 0⟩]) ++ l = _
        rw [List.append_assoc]
        congr 1
        show (⟨t.sign, 0, 0⟩ : Tok) :: l = _
        cases t
        simp only at h3 h4
        subst h3 h4
        rfl
      · rw [← q3, textF_cons, if_neg (by omega), if_neg (by rw [h2]; decide), if_pos h1]
        show run acc m (t.sign :: (textF false l ++ rest)) = _
        rw [run_cons, step_flush hm hd.2]
        unfold stepI
        rw [if_neg hd.1, if_neg hd.2, if_neg (by rw [h2]; decide), if_pos h1]
        rfl
theorem tokens_text {l : List Tok} (h : ∀ t ∈ l, Good t) : tokens (textF false l) = some l := by
  obtain ⟨a, m2, q1, q2, q3⟩ := run_text [] l [] .idle h trivial
  rw [List.append_nil] at q3
  show run [] .idle (textF (isNum .idle) l) = _
  rw [q3]
  exact flush_noNm q1 (by rw [q2]; rfl)
/-- Blanks make no difference. -/
theorem tokens_blank {l k : List Tok} (hl : ∀ t ∈ l, Good t) (hk : ∀ t ∈ k, Good t) : tokens (textF false l ++ ([32, 32] ++ (textF false k ++ [32]))) = some (l ++ k) := by
  obtain ⟨a, m2, q1, q2, q3⟩ := run_text ([32, 32] ++ (textF false k ++ [32])) l [] .idle hl trivial
  show run [] .idle (textF (isNum .idle) l ++ _) = _
  rw [q3]
  show run a m2 (32 :: 32 :: (textF false k ++ [32])) = _
  rw [run_cons, step_flush q1 (by omega)]
  show run (flush a m2) .idle (32 :: (textF false k ++ [32])) = _
  rw [run_cons]
  show run (flush a m2) .idle (textF false k ++ [32]) = _
  obtain ⟨b, m3, p1, p2, p3⟩ := run_text [32] k (flush a m2) .idle hk trivial
  show run (flush a m2) .idle (textF (isNum .idle) k ++ _) = _
  rw [p3, run_cons, step_flush p1 (by omega)]
  show some (flush b m3) = _
  rw [p2, q2]
  rfl
theorem run_num (acc : List Tok) (t : List Int) (r : Int) (h : 48 ≤ r ∧ r ≤ 57) : run acc .idle (r :: t) = run acc (.num 0) (r :: t) := by
  rw [run_cons, run_cons]
  unfold step stepI
  dsimp only
  rw [if_neg (by omega), if_pos h, if_pos h, if_neg (by omega)]
  simp
theorem run_flush (acc : List Tok) (k : Nat) (r : Int) (t : List Int) (h : ¬ (48 ≤ r ∧ r ≤ 57)) : run acc (.num k) (r :: t) = run (acc ++ [⟨48, k, 0⟩]) .idle (r :: t) := by
  have h1 := step_flush (acc := acc) (m := .num k) (r := r) trivial h
  rw [run_cons, run_cons, h1]
  rfl
theorem run_digit (acc : List Tok) (k : Nat) (r : Int) (t : List Int) (h : 48 ≤ r ∧ r ≤ 57) : run acc (.num k) (r :: t) = if (top - (r - 48).toNat) / 10 < k then none else run acc (.num (k * 10 + (r - 48).toNat)) t := by
  rw [run_cons]
  unfold step
  dsimp only
  rw [if_pos h]
  by_cases hx : (top - (r - 48).toNat) / 10 < k
  · rw [if_pos hx, if_pos hx]
  · rw [if_neg hx, if_neg hx]
theorem run_blank (acc : List Tok) (t : List Int) : run acc .idle (32 :: t) = run acc .idle t := rfl
theorem run_named (acc : List Tok) (r x : Int) (t : List Int) (h : namedB r = true) : run acc .idle (r :: x :: t) = if nameB x = true then run (acc ++ [⟨r, 0, x⟩]) .idle t else none := by
  have hd := named_not_digit h
  rw [run_cons]
  unfold step stepI
  dsimp only
  rw [if_neg hd.1, if_neg hd.2, if_pos h]
  dsimp only
  rw [run_cons]
  unfold step
  dsimp only
  by_cases hx : nameB x = true
  · rw [if_pos hx, if_pos hx]
  · rw [if_neg hx, if_neg hx]
theorem run_namedE (acc : List Tok) (r : Int) (h : namedB r = true) : run acc .idle [r] = none := by
  have hd := named_not_digit h
  rw [run_cons]
  unfold step stepI
  dsimp only
  rw [if_neg hd.1, if_neg hd.2, if_pos h]
  rfl
theorem run_else (acc : List Tok) (r : Int) (t : List Int) (h1 : r ≠ 32) (h2 : ¬ (48 ≤ r ∧ r ≤ 57)) (h3 : namedB r = false) : run acc .idle (r :: t) = if knownB r = true then run (acc ++ [⟨r, 0, 0⟩]) .idle t else none := by
  rw [run_cons]
  unfold step stepI
  dsimp only
  rw [if_neg h1, if_neg h2, if_neg (by rw [h3]; decide)]
  by_cases hx : knownB r = true
  · rw [if_pos hx, if_pos hx]
  · rw [if_neg hx, if_neg hx]
end Go.Proofs.Ytkkgfpdjlohojaa.TokP
