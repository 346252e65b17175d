/- The contract of awake: the chapter's examples hold. -/
import Derived.Test.YteaofninjbhiaaaDoorList
namespace Go.Proofs.YteaofninjbhiaaaDoor
open Go.RowKit

theorem Rs.lit (w : World) (l : RL) (t : TypeId) (b : Nat) (hb : b = w.heap.size) : Rs (w.alloc (.cells (rv l).toArray t)) (some ⟨b, 0, none⟩) l.length l := by
  subst hb
  refine ⟨rfl, rv_length l, fun _ => ⟨w.heap.size, 0, rfl, by simp, fun j u hu => ?_⟩⟩
  rw [Nat.zero_add, World.cell?_alloc_new]
  simpa using hu
theorem Is.lit (w : World) (l : List Int) (t : TypeId) (b : Nat) (hb : b = w.heap.size) : Is (w.alloc (.cells (iv l).toArray t)) (some ⟨b, 0, none⟩) l.length l := by
  subst hb
  refine ⟨rfl, by simp [iv], fun _ => ⟨w.heap.size, 0, rfl, by simp, fun j u hu => ?_⟩⟩
  rw [Nat.zero_add, World.cell?_alloc_new]
  simpa using hu

def ex1 : ByteArray := ⟨#[49, 32, 116, 104, 114, 117, 32, 53, 32, 43, 32, 57, 32, 45, 32, 51]⟩
def ex2 : ByteArray := ⟨#[55, 32, 116, 104, 114, 117, 32, 53]⟩
def ex3 : ByteArray := ⟨#[49, 32, 43, 32, 49, 48, 48, 48]⟩
def L1 : RL := [(1, 2), (4, 5), (9, 9)]
theorem pex1 : parseL ex1.data.toList = (L1, 0, 0) := by decide +kernel
theorem pex2 : parseL ex2.data.toList = ([(5, 7)], 0, 0) := by decide +kernel
theorem pex3 : parseL ex3.data.toList = ([], 4, 2) := by decide +kernel
theorem lex : listL L1 = ([1, 2, 4, 5, 9], 0) := by decide +kernel
theorem fex : formatL L1 = ([49, 32, 116, 104, 114, 117, 32, 50, 32, 43, 32, 52, 32, 116, 104, 114, 117, 32, 53, 32, 43, 32, 57], 0) := by decide +kernel
theorem uex : combL or [(1, 3)] [(4, 6)] = ([(1, 6)], 0) := by decide +kernel
theorem mex : combL (fun x y => x && !y) [(1, 6)] [(2, 5)] = ([(1, 1), (6, 6)], 0) := by decide +kernel
theorem parse_ex1 (w : World) : Calls Tryd.prog 15 #[.string ⟨#[49, 32, 116, 104, 114, 117, 32, 53, 32, 43, 32, 57, 32, 45, 32, 51]⟩] w fun e w' => ∃ A c, e = .returned (.tuple #[.slice A 3 c, .int .i64 0, .int .i64 0]) ∧ Rs w' A 3 L1 ∧ Below w.heap.size w w' := by
  have := parse_any ex1 w
  rw [pex1] at this
  exact this.mono fun e w' ⟨r, he, A, c, hr, ho, hb⟩ => ⟨A, c, by rw [he, hr]; rfl, OutR.rs ho rfl, hb⟩
theorem parse_ex2 (w : World) : Calls Tryd.prog 15 #[.string ⟨#[55, 32, 116, 104, 114, 117, 32, 53]⟩] w fun e w' => ∃ A c, e = .returned (.tuple #[.slice A 1 c, .int .i64 0, .int .i64 0]) ∧ Rs w' A 1 [(5, 7)] ∧ Below w.heap.size w w' := by
  have := parse_any ex2 w
  rw [pex2] at this
  exact this.mono fun e w' ⟨r, he, A, c, hr, ho, hb⟩ => ⟨A, c, by rw [he, hr]; rfl, OutR.rs ho rfl, hb⟩
theorem parse_ex3 (w : World) : Calls Tryd.prog 15 #[.string ⟨#[49, 32, 43, 32, 49, 48, 48, 48]⟩] w fun e w' => ∃ A c, e = .returned (.tuple #[.slice A 0 c, .int .i64 4, .int .i64 2]) ∧ Below w.heap.size w w' := by
  have := parse_any ex3 w
  rw [pex3] at this
  exact this.mono fun e w' ⟨r, he, A, c, hr, ho, hb⟩ => ⟨A, c, by rw [he, hr]; rfl, hb⟩
theorem list_ex (A : Option Addr) (c : Nat) (w : World) (h : Rs w A 3 L1) : Calls Tryd.prog 29 #[.slice A 3 c] w fun e w' => ∃ A' c', e = .returned (.tuple #[.slice A' 5 c', .int .i64 0]) ∧ Is w' A' 5 [1, 2, 4, 5, 9] ∧ Below w.heap.size w w' := by
  have := list_any A 3 c L1 w h (by omega)
  rw [lex] at this
  exact this.mono fun e w' ⟨r, he, A', c', hr, ho, hb⟩ => ⟨A', c', by rw [he, hr]; rfl, ⟨rfl, Sl.of_own ho⟩, hb⟩
theorem format_ex (A : Option Addr) (c : Nat) (w : World) (h : Rs w A 3 L1) (hT : Tab w) : Calls Tryd.prog 11 #[.slice A 3 c] w fun e w' => e = .returned (.tuple #[.string ⟨#[49, 32, 116, 104, 114, 117, 32, 50, 32, 43, 32, 52, 32, 116, 104, 114, 117, 32, 53, 32, 43, 32, 57]⟩, .int .i64 0]) ∧ Below w.heap.size w w' := by
  have := format_any A 3 c L1 w h (by omega) hT
  rw [fex] at this
  exact this
theorem union_ex (A : Option Addr) (c : Nat) (B : Option Addr) (c' : Nat) (w : World) (h : Rs w A 1 [(1, 3)]) (h' : Rs w B 1 [(4, 6)]) : Calls Tryd.prog 17 #[.slice A 1 c, .slice B 1 c'] w fun e w' => ∃ A' c', e = .returned (.tuple #[.slice A' 1 c', .int .i64 0]) ∧ Rs w' A' 1 [(1, 6)] ∧ Below w.heap.size w w' := by
  have := unionP_any A 1 c _ B 1 c' _ w h h' (by omega) (by omega)
  rw [uex] at this
  exact this.mono fun e w' ⟨r, he, A, c, hr, ho, hb⟩ => ⟨A, c, by rw [he, hr]; rfl, OutR.rs ho rfl, hb⟩
theorem minus_ex (A : Option Addr) (c : Nat) (B : Option Addr) (c' : Nat) (w : World) (h : Rs w A 1 [(1, 6)]) (h' : Rs w B 1 [(2, 5)]) : Calls Tryd.prog 19 #[.slice A 1 c, .slice B 1 c'] w fun e w' => ∃ A' c', e = .returned (.tuple #[.slice A' 2 c', .int .i64 0]) ∧ Rs w' A' 2 [(1, 1), (6, 6)] ∧ Below w.heap.size w w' := by
  have := minusP_any A 1 c _ B 1 c' _ w h h' (by omega) (by omega)
  rw [mex] at this
  exact this.mono fun e w' ⟨r, he, A, c, hr, ho, hb⟩ => ⟨A, c, by rw [he, hr]; rfl, OutR.rs ho rfl, hb⟩

theorem equalI_same (A : Option Addr) (n c : Nat) (l : List Int) (B : Option Addr) (n' c' : Nat) (w : World) (hl : Is w A n l) (hm : Is w B n' l) (hn : n ≤ 1000) :
    Calls Tryd.prog 32 #[.slice A n c, .slice B n' c'] w fun e w' => e = .returned (.bool true) ∧ Below w.heap.size w w' :=
  (equalI_any A n c l B n' c' l w hl hm (by omega) (by have := hl.1; have := hm.1; omega)).mono fun e w' ⟨he, hb⟩ => ⟨by rw [he, decide_eq_true rfl], hb⟩
theorem equalR_same (A : Option Addr) (n c : Nat) (l : RL) (B : Option Addr) (n' c' : Nat) (w : World) (hl : Rs w A n l) (hm : Rs w B n' l) (hn : n ≤ 1000) :
    Calls Tryd.prog 16 #[.slice A n c, .slice B n' c'] w fun e w' => e = .returned (.bool true) ∧ Below w.heap.size w w' :=
  (equalR_any A n c l B n' c' l w hl hm (by omega) (by have := hl.1; have := hm.1; omega)).mono fun e w' ⟨he, hb⟩ => ⟨by rw [he, decide_eq_true rfl], hb⟩

set_option maxRecDepth 100000 in
set_option maxHeartbeats 4000000 in
theorem awake_any (w : World) (hT : Tab w) : Calls Tryd.prog 10 #[] w fun e w' => e = .returned (.bool true) ∧ Below w.heap.size w w' := by
  go_enter Tryd.func10, Tryd.ntmps10
  go_wp2_with fail
  refine (parse_ex1 _).mono ?_
  rintro e w1 ⟨A1, c1, rfl, hR1, hb1⟩
  go_wp2_with fail
  refine (list_ex _ _ _ hR1).mono ?_
  rintro e w2 ⟨A2, c2, rfl, hI2, hb2⟩
  have hR2 := hR1.below hb2
  have hb02 := hb1.trans (hb2.mono hb1.size)
  clear hR1 hb1 hb2
  go_wp2_with fail
  refine (format_ex _ _ _ hR2 (hT.below hb02)).mono ?_
  rintro e w3 ⟨rfl, hb3⟩
  have hI3 := hI2.below hb3
  have hb03 := hb02.trans (hb3.mono hb02.size)
  clear hR2 hI2 hb02 hb3
  go_wp2_with fail
  have hz3 := hb03.size
  refine (union_ex _ _ _ _ _ ((Rs.lit w3 [(1, 3)] _ _ rfl).below ((Below.refl _ _).alloc (Nat.le_refl _) _)) (Rs.lit _ [(4, 6)] _ _ (by simp))).mono ?_
  rintro e w4 ⟨A4, c4, rfl, hR4, hb4⟩
  have hb34 : Below w3.heap.size w3 w4 := by (repeat (first | exact Below.refl _ _ | assumption | apply Below.drew | apply below_drewN | (refine Below.alloc ?_ (by first | omega | (simp; omega) | simp) _) | (refine Below.setCell ?_ (by first | omega | (simp; omega) | simp) _) | (refine Below.trans ?_ (Below.mono (by assumption) (by first | omega | (simp; omega) | simp)))))
  have hI4 := hI3.below hb34
  have hb04 := hb03.trans (hb34.mono hz3)
  have hz4 := hb04.size
  clear hI3 hb03 hb34 hb4 hz3
  go_wp2_with fail
  refine (minus_ex _ _ _ _ _ (hR4.below ((Below.refl _ _).alloc (Nat.le_refl _) _)) (Rs.lit w4 [(2, 5)] _ _ rfl)).mono ?_
  rintro e w5 ⟨A5, c5, rfl, hR5, hb5⟩
  have hb45 : Below w4.heap.size w4 w5 := by (repeat (first | exact Below.refl _ _ | assumption | apply Below.drew | apply below_drewN | (refine Below.alloc ?_ (by first | omega | (simp; omega) | simp) _) | (refine Below.setCell ?_ (by first | omega | (simp; omega) | simp) _) | (refine Below.trans ?_ (Below.mono (by assumption) (by first | omega | (simp; omega) | simp)))))
  have hI5 := hI4.below hb45
  have hU5 := hR4.below hb45
  have hb05 := hb04.trans (hb45.mono hz4)
  have hz5 := hb05.size
  clear hI4 hR4 hb04 hb45 hb5 hz4
  go_wp2_with fail
  refine (parse_ex2 _).mono ?_
  rintro e w6 ⟨A6, c6, rfl, hR6, hb6⟩
  have hI6 := hI5.below hb6
  have hU6 := hU5.below hb6
  have hM6 := hR5.below hb6
  have hb06 := hb05.trans (hb6.mono hz5)
  have hz6 := hb06.size
  clear hI5 hU5 hR5 hb05 hb6 hz5
  go_wp2_with fail
  refine (parse_ex3 _).mono ?_
  rintro e w7 ⟨A7, c7, rfl, hb7⟩
  have hI7 := hI6.below hb7
  have hU7 := hU6.below hb7
  have hM7 := hM6.below hb7
  have hP7 := hR6.below hb7
  have hb07 := hb06.trans (hb7.mono hz6)
  have hz7 := hb07.size
  clear hI6 hU6 hM6 hR6 hb06 hb7 hz6
  go_wp2_with fail
  refine (equalI_same _ _ _ [1, 2, 4, 5, 9] _ _ _ _ (hI7.below ((Below.refl _ _).alloc (Nat.le_refl _) _)) (Is.lit w7 [1, 2, 4, 5, 9] _ _ rfl) (by omega)).mono ?_
  rintro e w8 ⟨rfl, hb8⟩
  have hbs8 : Below w7.heap.size w7 w8 := by (repeat (first | exact Below.refl _ _ | assumption | apply Below.drew | apply below_drewN | (refine Below.alloc ?_ (by first | omega | (simp; omega) | simp) _) | (refine Below.setCell ?_ (by first | omega | (simp; omega) | simp) _) | (refine Below.trans ?_ (Below.mono (by assumption) (by first | omega | (simp; omega) | simp)))))
  have hU8 := hU7.below hbs8
  have hM8 := hM7.below hbs8
  have hP8 := hP7.below hbs8
  have hb08 := hb07.trans (hbs8.mono hz7)
  have hz8 := hb08.size
  clear hb8 hbs8 hb07 hz7
  go_wp2_with fail
  refine (equalR_same _ _ _ [(1, 6)] _ _ _ _ (hU8.below ((Below.refl _ _).alloc (Nat.le_refl _) _)) (Rs.lit w8 [(1, 6)] _ _ rfl) (by omega)).mono ?_
  rintro e w9 ⟨rfl, hb9⟩
  have hbs9 : Below w8.heap.size w8 w9 := by (repeat (first | exact Below.refl _ _ | assumption | apply Below.drew | apply below_drewN | (refine Below.alloc ?_ (by first | omega | (simp; omega) | simp) _) | (refine Below.setCell ?_ (by first | omega | (simp; omega) | simp) _) | (refine Below.trans ?_ (Below.mono (by assumption) (by first | omega | (simp; omega) | simp)))))
  have hM9 := hM8.below hbs9
  have hP9 := hP8.below hbs9
  have hb09 := hb08.trans (hbs9.mono hz8)
  have hz9 := hb09.size
  clear hb9 hbs9 hb08 hz8
  go_wp2_with fail
  refine (equalR_same _ _ _ [(1, 1), (6, 6)] _ _ _ _ (hM9.below ((Below.refl _ _).alloc (Nat.le_refl _) _)) (Rs.lit w9 [(1, 1), (6, 6)] _ _ rfl) (by omega)).mono ?_
  rintro e w10 ⟨rfl, hb10⟩
  have hbs10 : Below w9.heap.size w9 w10 := by (repeat (first | exact Below.refl _ _ | assumption | apply Below.drew | apply below_drewN | (refine Below.alloc ?_ (by first | omega | (simp; omega) | simp) _) | (refine Below.setCell ?_ (by first | omega | (simp; omega) | simp) _) | (refine Below.trans ?_ (Below.mono (by assumption) (by first | omega | (simp; omega) | simp)))))
  have hP10 := hP9.below hbs10
  have hb010 := hb09.trans (hbs10.mono hz9)
  have hz10 := hb010.size
  clear hb10 hbs10 hb09 hz9
  go_wp2_with fail
  refine (equalR_same _ _ _ [(5, 7)] _ _ _ _ (hP10.below ((Below.refl _ _).alloc (Nat.le_refl _) _)) (Rs.lit w10 [(5, 7)] _ _ rfl) (by omega)).mono ?_
  rintro e w11 ⟨rfl, hb11⟩
  have hbs11 : Below w10.heap.size w10 w11 := by (repeat (first | exact Below.refl _ _ | assumption | apply Below.drew | apply below_drewN | (refine Below.alloc ?_ (by first | omega | (simp; omega) | simp) _) | (refine Below.setCell ?_ (by first | omega | (simp; omega) | simp) _) | (refine Below.trans ?_ (Below.mono (by assumption) (by first | omega | (simp; omega) | simp)))))
  have hb011 := hb010.trans (hbs11.mono hz10)
  have hz11 := hb011.size
  clear hb11 hbs11 hb010 hz10
  go_wp2_with fail
  go_ret
  exact ⟨rfl, hb011⟩
end Go.Proofs.YteaofninjbhiaaaDoor
