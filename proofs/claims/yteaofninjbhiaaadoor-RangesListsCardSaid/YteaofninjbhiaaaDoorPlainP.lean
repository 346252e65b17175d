/- Plain functions on the texts of sets: what Parse computes. No program in sight. -/
import Derived.Test.YteaofninjbhiaaaDoorPlain
namespace Go.Proofs.YteaofninjbhiaaaDoor

abbrev BS := List UInt8
/-- how many blanks a text begins with -/
def nb : BS → Nat
  | [] => 0
  | c :: t => if c = 32 then nb t + 1 else 0
def skipAt (S : BS) (at_ : Nat) : Nat := at_ + nb (S.drop at_)
theorem nb_le (t : BS) : nb t ≤ t.length := by
  induction t with
  | nil => simp [nb]
  | cons c t ih => simp only [nb]; split <;> simp <;> omega
theorem skipAt_le {S : BS} {k : Nat} (h : k ≤ S.length) : k ≤ skipAt S k ∧ skipAt S k ≤ S.length := by
  have := nb_le (S.drop k)
  rw [List.length_drop] at this
  unfold skipAt; omega
theorem skipAt_end {S : BS} {k : Nat} (h : S.length ≤ k) : skipAt S k = k := by
  unfold skipAt; rw [List.drop_eq_nil_of_le h]; rfl
theorem skipAt_yes {S : BS} {k : Nat} (h : k < S.length) (hc : S[k] = 32) : skipAt S k = skipAt S (k + 1) := by
  unfold skipAt; rw [List.drop_eq_getElem_cons h, nb, if_pos hc]; omega
theorem skipAt_no {S : BS} {k : Nat} (h : k < S.length) (hc : ¬ S[k] = 32) : skipAt S k = k := by
  unfold skipAt; rw [List.drop_eq_getElem_cons h, nb, if_neg hc]; omega

def isD (c : UInt8) : Bool := decide (48 ≤ (c.toNat : Int) ∧ (c.toNat : Int) ≤ 57)
def isL (c : UInt8) : Bool := decide (97 ≤ ((c ||| 32).toNat : Int) ∧ ((c ||| 32).toNat : Int) ≤ 122)
/-- where the digits end that begin at a place, and their value -/
def dgo (n : Nat) (k : Nat) : BS → Nat × Nat
  | [] => (n, k)
  | c :: t => if isD c then dgo (min (10 * n + (c.toNat - 48)) 1000) (k + 1) t else (n, k)
theorem dgo_ge (t : BS) : ∀ n k, k ≤ (dgo n k t).2 ∧ (dgo n k t).2 ≤ k + t.length ∧ (n ≤ 1000 → (dgo n k t).1 ≤ 1000) := by
  induction t with
  | nil => intro n k; simp [dgo]
  | cons c t ih =>
    intro n k
    simp only [dgo]
    split
    · have := ih (min (10 * n + (c.toNat - 48)) 1000) (k + 1)
      refine ⟨by omega, by simp only [List.length_cons]; omega, fun _ => this.2.2 (by omega)⟩
    · exact ⟨by omega, by simp only [List.length_cons]; omega, fun h => h⟩
/-- channel: the number, the offset, the error -/
def chan (S : BS) (at_ : Nat) : Nat × Nat × Int :=
  let d := dgo 0 at_ (S.drop at_)
  if d.2 = at_ then (d.1, at_, 4) else if rightB d.1 d.1 then (d.1, skipAt S d.2, 0) else (d.1, at_, 2)
theorem chan_le {S : BS} {k : Nat} (h : k ≤ S.length) : k ≤ (chan S k).2.1 ∧ (chan S k).2.1 ≤ S.length ∧ (chan S k).1 ≤ 1000 ∧ ((chan S k).2.2 = 0 → k < (chan S k).2.1 ∧ 1 ≤ (chan S k).1 ∧ (chan S k).1 ≤ 999) := by
  have h1 := dgo_ge (S.drop k) 0 k
  rw [List.length_drop] at h1
  unfold chan
  dsimp only
  split
  · exact ⟨by simp, by simpa using h, by simpa using h1.2.2 (by omega), by simp⟩
  · split
    · rename_i hr
      have hr := rightB_iff.1 hr
      have := skipAt_le (S := S) (k := (dgo 0 k (S.drop k)).2) (by omega)
      refine ⟨by simp; omega, by simp; omega, by simp; omega, fun _ => ⟨by simp; omega, by simp; omega, by simp; omega⟩⟩
    · exact ⟨by simp, by simpa using h, by simpa using h1.2.2 (by omega), by simp⟩
/-- thru: the offset behind the word and the blanks, if the word stands there -/
def thruAt (S : BS) (at_ : Nat) : Option Nat :=
  match S.drop at_ with
  | 116 :: 104 :: 114 :: 117 :: r => match r with
    | [] => some (skipAt S (at_ + 4))
    | c :: _ => if isD c || isL c then none else some (skipAt S (at_ + 4))
  | _ => none
/-- term: the range, the offset, the error -/
def term (S : BS) (at_ : Nat) : (Int × Int) × Nat × Int :=
  let a := chan S at_
  if a.2.2 = 0 then
    match thruAt S a.2.1 with
    | none => (((a.1 : Int), (a.1 : Int)), a.2.1, 0)
    | some k => let b := chan S k; (((min a.1 b.1 : Nat), (max a.1 b.1 : Nat)), b.2.1, b.2.2)
  else (((a.1 : Int), (a.1 : Int)), a.2.1, a.2.2)
def parseGo (S : BS) : Nat → Bool → Nat → (Nat → Bool) → RL × Int × Int
  | 0, _, _, _ => ([], 0, 0)
  | f + 1, q, k, m =>
    let t := term S k
    if t.2.2 = 0 then
      let m' := fun c : Nat => if inB [t.1] c then q else m c
      if t.2.1 = S.length then (rangesOf m', 0, 0)
      else if S[t.2.1]? = some 43 ∨ S[t.2.1]? = some 45 then parseGo S f (S[t.2.1]? == some 43) (skipAt S (t.2.1 + 1)) m'
      else ([], (t.2.1 : Int), 4)
    else ([], (t.2.1 : Int), t.2.2)
def parseL (S : BS) : RL × Int × Int :=
  if 4096 < S.length then ([], 0, 13) else if skipAt S 0 = S.length then ([], 0, 0) else parseGo S (S.length + 1) true (skipAt S 0) (fun _ => false)
example : parseL [49, 32, 116, 104, 114, 117, 32, 53, 32, 43, 32, 57, 32, 45, 32, 51] = ([(1, 2), (4, 5), (9, 9)], 0, 0) := by decide +kernel
example : parseL [55, 32, 116, 104, 114, 117, 32, 53] = ([(5, 7)], 0, 0) := by decide +kernel
example : parseL [49, 32, 43, 32, 49, 48, 48, 48] = ([], 4, 2) := by decide +kernel
theorem thruAt_le {S : BS} {k k' : Nat} (h : k ≤ S.length) (ht : thruAt S k = some k') : k ≤ k' ∧ k' ≤ S.length := by
  unfold thruAt at ht
  split at ht
  · rename_i r hd
    have hlen : S.length - k = r.length + 4 := by rw [← List.length_drop, hd]; simp
    have hs := skipAt_le (S := S) (k := k + 4) (by omega)
    split at ht
    · injection ht with ht; omega
    · split at ht
      · cases ht
      · injection ht with ht; omega
  · cases ht
theorem term_le {S : BS} {k : Nat} (h : k ≤ S.length) : k ≤ (term S k).2.1 ∧ (term S k).2.1 ≤ S.length ∧ ((term S k).2.2 = 0 → k < (term S k).2.1 ∧ 1 ≤ (term S k).1.1 ∧ (term S k).1.1 ≤ (term S k).1.2 ∧ (term S k).1.2 ≤ 999) := by
  have ha := chan_le h
  unfold term
  dsimp only
  split
  · rename_i e0
    have ha' := ha.2.2.2 e0
    split
    · exact ⟨by simp; omega, by simp; omega, fun _ => ⟨by simp; omega, by simp; omega, by simp, by simp; omega⟩⟩
    · rename_i k' hk'
      have ht := thruAt_le ha.2.1 hk'
      have hb := chan_le ht.2
      refine ⟨by simp; omega, by simp; omega, fun e => ?_⟩
      have hb' := hb.2.2.2 e
      refine ⟨by simp; omega, by simp; omega, by simp; omega, by simp; omega⟩
  · rename_i e0
    exact ⟨by simp; omega, by simp; omega, fun e => absurd e e0⟩
end Go.Proofs.YteaofninjbhiaaaDoor
