/- The contract of Parse. -/
import Derived.Test.YteaofninjbhiaaaDoorTerm
namespace Go.Proofs.YteaofninjbhiaaaDoor
open Go.RowKit

def nextM (r : Int × Int) (q : Bool) (m : Nat → Bool) : Nat → Bool := fun c => if inB [r] c then q else m c
theorem parseGo_err {S : BS} {f : Nat} {q : Bool} {k : Nat} {m : Nat → Bool} {r : Int × Int} {a : Nat} {e : Int} (ht : term S k = (r, a, e)) (he : ¬ e = 0) : parseGo S (f + 1) q k m = ([], (a : Int), e) := by
  simp only [parseGo, ht]; rw [if_neg he]
theorem parseGo_end {S : BS} {f : Nat} {q : Bool} {k : Nat} {m : Nat → Bool} {r : Int × Int} {a : Nat} (ht : term S k = (r, a, 0)) (ha : a = S.length) : parseGo S (f + 1) q k m = (rangesOf (nextM r q m), 0, 0) := by
  simp only [parseGo, ht]; rw [if_pos trivial, if_pos ha]; rfl
theorem parseGo_bad {S : BS} {f : Nat} {q : Bool} {k : Nat} {m : Nat → Bool} {r : Int × Int} {a : Nat} {c : UInt8} (ht : term S k = (r, a, 0)) (ha : ¬ a = S.length) (hc : S[a]? = some c) (h1 : ¬ c = 43) (h2 : ¬ c = 45) :
    parseGo S (f + 1) q k m = ([], (a : Int), 4) := by
  simp only [parseGo, ht]; rw [if_pos trivial, if_neg ha, hc, if_neg (by simp [h1, h2])]
theorem parseGo_plus {S : BS} {f : Nat} {q : Bool} {k : Nat} {m : Nat → Bool} {r : Int × Int} {a : Nat} (ht : term S k = (r, a, 0)) (ha : ¬ a = S.length) (hc : S[a]? = some 43) :
    parseGo S (f + 1) q k m = parseGo S f true (skipAt S (a + 1)) (nextM r q m) := by
  simp only [parseGo, ht]; rw [if_pos trivial, if_neg ha, hc, if_pos (by simp)]; rfl
theorem parseGo_minus {S : BS} {f : Nat} {q : Bool} {k : Nat} {m : Nat → Bool} {r : Int × Int} {a : Nat} (ht : term S k = (r, a, 0)) (ha : ¬ a = S.length) (hc : S[a]? = some 45) :
    parseGo S (f + 1) q k m = parseGo S f false (skipAt S (a + 1)) (nextM r q m) := by
  simp only [parseGo, ht]; rw [if_pos trivial, if_neg ha, hc, if_pos (by simp)]; rfl
theorem parse_long {S : BS} (h : 4096 < S.length) : parseL S = ([], 0, 13) := if_pos h
theorem parse_none {S : BS} (h : S.length ≤ 4096) (h' : skipAt S 0 = S.length) : parseL S = ([], 0, 0) := by rw [parseL, if_neg (by omega), if_pos h']
theorem parse_some {S : BS} (h : S.length ≤ 4096) (h' : ¬ skipAt S 0 = S.length) : parseL S = parseGo S (S.length + 1) true (skipAt S 0) (fun _ => false) := by rw [parseL, if_neg (by omega), if_neg h']
theorem byte_is {s : ByteArray} {a : Nat} (h : a < s.size) {n : Nat} (hn : n < 256) (hc : (s[a].toNat : Int) = n) : s.data.toList[a]? = some (UInt8.ofNat n) := by
  rw [bytes_at s h]
  congr 1
  apply UInt8.toNat_inj.1
  rw [UInt8.toNat_ofNat']
  omega

set_option maxRecDepth 100000 in
set_option maxHeartbeats 4000000 in
theorem parse_any (s : ByteArray) (w : World) : 
    Calls Tryd.prog 15 #[.string s] w fun e w' => ∃ r, e = .returned (.tuple #[r, .int .i64 (parseL s.data.toList).2.1, .int .i64 (parseL s.data.toList).2.2]) ∧ OutR 37 (parseL s.data.toList).1 w r w' := by
  by_cases hlong : 4096 < s.size
  · have hfin := Lib.hid (parse_long (S := s.data.toList) (by rw [bytes_len]; exact hlong))
    have hl' : (4096 : Int) < (s.size : Int) := by omega
    go_enter Tryd.func15, Tryd.ntmps15
    go_wp2_with fail
    go_ret3
    rw [hfin.out]
    exact ⟨_, rfl, OutR.nil (Below.refl _ _)⟩
  · have hsm : s.size ≤ 4096 := by omega
    clear hlong
    obtain ⟨w1, hw1⟩ : ∃ w1, (w.alloc (.cells #[.string s, .int .i64 0, .int .i64 0] 76)).alloc (.cells Tryd.zeroCells78 78) = w1 := ⟨_, rfl⟩
    have hR1 : Rd w1 w.heap.size s 0 0 := by rw [← hw1]; exact Rd.alloc (heap_alloc_new w _) _
    have hB1 : Bits w1 (w.heap.size + 1) 78 (fun _ => false) := by rw [← hw1]; have := bits_alloc (w.alloc (.cells #[.string s, .int .i64 0, .int .i64 0] 76)); rwa [World.size_alloc] at this
    have hb1 : Below w.heap.size w w1 := by rw [← hw1]; (repeat (first | exact Below.refl _ _ | assumption | apply Below.drew | apply below_drewN | (refine Below.alloc ?_ (by first | omega | (simp; omega) | simp) _) | (refine Below.setCell ?_ (by first | omega | (simp; omega) | simp) _) | (refine Below.trans ?_ (Below.mono (by assumption) (by first | omega | (simp; omega) | simp)))))
    have Hw1 := Lib.hid hw1
    clear hw1
    have hk0 := skipAt_le (S := s.data.toList) (k := 0) (by omega)
    rw [bytes_len] at hk0
    go_enter Tryd.func15, Tryd.ntmps15
    go_wp2_with fail
    rw [Hw1.out]
    clear Hw1
    refine (blanks_any w.heap.size s 0 0 _ hR1 (by omega) (by omega)).mono ?_
    rintro r w2 ⟨rfl, hR2, hg2⟩
    have hB2 := hB1.grown hg2 (by omega)
    have hb2 : Below w.heap.size w w2 := hb1.grown hg2 hb1.size (by simp)
    clear hR1 hB1 hb1 hg2
    by_cases hz : skipAt s.data.toList 0 = s.size
    · have hfin := Lib.hid (parse_none (S := s.data.toList) (by rw [bytes_len]; exact hsm) (by rw [bytes_len]; exact hz))
      rw [hz] at hR2
      clear hz
      obtain ⟨hc0, hc1, hc2⟩ := hR2.cells
      go_wp2_with fail
      go_ret3
      rw [hfin.out]
      exact ⟨_, rfl, OutR.nil hb2⟩
    · have hfin := Lib.hid (parse_some (S := s.data.toList) (by rw [bytes_len]; exact hsm) (by rw [bytes_len]; exact hz))
      generalize hk : skipAt s.data.toList 0 = k0 at *
      have Hk := Lib.hid hk
      clear hk
      have hzb : ((k0 : Int) == (s.size : Int)) = false := by simp; omega
      obtain ⟨hc0, hc1, hc2⟩ := hR2.cells
      go_wp2_with fail
      go_loopw [7] (fun v wr => ∃ (q : Bool) (k : Nat) (m : Nat → Bool) (f : Nat), v = .bool q ∧ k ≤ s.size ∧ s.size + 1 ≤ f + k ∧ Rd wr w.heap.size s k 0 ∧ Bits wr (w.heap.size + 1) 78 m ∧ m 0 = false ∧ Below w.heap.size w wr ∧ parseL s.data.toList = parseGo s.data.toList f q k m)
        (fun _ wr => s.size - atOf w.heap.size wr)
      case atStart => exact ⟨true, k0, fun _ => false, s.size + 1, rfl, by omega, by omega, hR2, hB2, rfl, hb2, by rw [hfin.out, bytes_len]⟩
      case round =>
        clear hR2 hB2 hb2 hc0 hc1 hc2 hfin hzb hk0 Hk hz
        obtain ⟨q, k, m, f, rfl, hk, hfk, hR, hB, hm0, hb, hpar⟩ := hrel
        have hsz := hb.size
        obtain ⟨f, rfl⟩ : ∃ f', f = f' + 1 := ⟨f - 1, by omega⟩
        have hle := term_le (S := s.data.toList) (k := k) (by rw [bytes_len]; omega)
        rw [bytes_len] at hle
        have Hpar := Lib.hid hpar
        have Hm0 := Lib.hid hm0
        clear hpar hm0
        generalize ht : term s.data.toList k = T at *
        have Ht := Lib.hid ht
        obtain ⟨⟨x, y⟩, a, e⟩ := T
        dsimp only at hle
        obtain ⟨hka, has, hok⟩ := hle
        have hHok := Lib.hid hok
        clear hok
        obtain ⟨wo, rfl⟩ : ∃ wo : World, wo = wr := ⟨_, rfl⟩
        have hRlt := hR.lt
        have HatO := Lib.hid hR.atOf
        by_cases he : e = 0
        · subst he
          obtain ⟨hkl, hx1, hxy, hy9⟩ := hHok.out rfl
          go_wp2_with fail
          refine (term_any w.heap.size s k _ hR hk (by omega)).mono ?_
          rw [Ht.out]
          rintro r w3 ⟨rfl, hR3, hg3⟩
          have hB3 := hB.grown hg3 (by omega)
          have hb3 : Below w.heap.size w w3 := hb.grown hg3 hsz (by simp)
          clear hR hB hb hg3 ht
          have hR4 := hR3.alloc (.cells #[.int .i64 x, .int .i64 y] 37)
          obtain ⟨hc0, hc1, hc2⟩ := hR4.cells
          go_wp2_with fail
          refine (put_any (w.heap.size + 1) q m _ 1 1 [(x, y)] _ ((hB3.alloc _).alloc _) (Rs.single _ x y _ _ (by simp)) (by omega) (by intro r hr; rw [List.mem_singleton] at hr; subst hr; exact ⟨hx1, hxy, hy9⟩)).mono ?_
          rintro r w5 ⟨rfl, hB5, hg5⟩
          have hR5 : Rd w5 w.heap.size s a 0 := ((hR4.alloc _).of_block (hg5.block _ (hR4.alloc _).lt (by simp)))
          have hz3 := hb3.size
          have hb5 : Below w.heap.size w w5 := Below.grown (w := (w3.alloc (.cells #[.int .i64 x, .int .i64 y] 37)).alloc (.cells #[.int .i64 x, .int .i64 y] 37)) (by (repeat (first | exact Below.refl _ _ | assumption | apply Below.drew | apply below_drewN | (refine Below.alloc ?_ (by first | omega | (simp; omega) | simp) _) | (refine Below.setCell ?_ (by first | omega | (simp; omega) | simp) _) | (refine Below.trans ?_ (Below.mono (by assumption) (by first | omega | (simp; omega) | simp)))))) hg5 (by have := hb3.size; simp; omega) (by simp)
          have hB6 : Bits w5 (w.heap.size + 1) 78 (nextM (x, y) q m) := hB5
          have hm6 : Hid (nextM (x, y) q m 0 = false) := by
            show (if inB [(x, y)] ((0 : Nat) : Int) then q else m 0) = false
            rw [inB_zero (by intro r hr; rw [List.mem_singleton] at hr; subst hr; exact ⟨hx1, hxy, hy9⟩), Hm0.out]; rfl
          clear hB5 hg5 hc0 hc1 hc2 hR4 hB3 hb3
          obtain ⟨hc0, hc1, hc2⟩ := hR5.cells
          have hf1 := hR5.frozen 1
          by_cases hae : a = s.size
          · have hres := Lib.hid (parseGo_end (f := f) (q := q) (m := m) Ht.out (by rw [bytes_len]; exact hae))
            have hab : ((a : Int) == (s.size : Int)) = true := by simp [hae]
            clear hae
            go_wp2_with (go_at_call 46; refine (ranges_any _ _ _ hB6 hm6.out).mono ?_; rintro r w7 ⟨r, rfl, ho⟩)
            go_ret3
            rw [Hpar.out, hres.out]
            exact ⟨_, rfl, ho.up hb5⟩
          · have hab : ((a : Int) == (s.size : Int)) = false := by simp; omega
            have hal : a < s.size := by omega
            by_cases h43 : (s[a].toNat : Int) = 43
            · have hres := Lib.hid (parseGo_plus (f := f) (q := q) (m := m) Ht.out (by rw [bytes_len]; exact hae) (byte_is (n := 43) hal (by omega) h43))
              have hc43 : ((s[a].toNat : Int) == 43) = true := by simpa using h43
              have hn43 : ((s[a].toNat : Int) != 43) = false := by simpa using h43
              have hsk := skipAt_le (S := s.data.toList) (k := a + 1) (by rw [bytes_len]; omega)
              rw [bytes_len] at hsk
              have hR6 := hR5.at_ (a + 1)
              clear hae h43
              go_wp2_with fail
              refine (blanks_any w.heap.size s (a + 1) 0 _ hR6 (by omega) (by omega)).mono ?_
              rintro r w8 ⟨rfl, hR8, hg8⟩
              have hB8 := (hB6.far (g := w.heap.size) (by omega) 1 (.int .i64 ((a + 1 : Nat) : Int))).grown hg8 (by omega)
              have hb8 : Below w.heap.size w w8 := (hb5.setCell (p := ⟨w.heap.size, 1, none⟩) (Nat.le_refl _) _).grown hg8 (by have := hb5.size; simp; omega) (by simp)
              clear hR5 hR6 hB6 hb5 hg8 hc0 hc1 hc2
              go_wp2_with fail
              go_roundw
              case rel => exact ⟨true, skipAt s.data.toList (a + 1), nextM (x, y) q m, f, rfl, by omega, by omega, hR8, hB8, hm6.out, hb8, by rw [Hpar.out, hres.out]⟩
              case measure => rw [hR8.atOf, HatO.out]; omega
            · by_cases h45 : (s[a].toNat : Int) = 45
              · have hres := Lib.hid (parseGo_minus (f := f) (q := q) (m := m) Ht.out (by rw [bytes_len]; exact hae) (byte_is (n := 45) hal (by omega) h45))
                have hc43 : ((s[a].toNat : Int) == 43) = false := by simp; omega
                have hn43 : ((s[a].toNat : Int) != 43) = true := by simp; omega
                have hn45 : ((s[a].toNat : Int) != 45) = false := by simpa using h45
                have hsk := skipAt_le (S := s.data.toList) (k := a + 1) (by rw [bytes_len]; omega)
                rw [bytes_len] at hsk
                have hR6 := hR5.at_ (a + 1)
                clear hae h43 h45
                go_wp2_with fail
                refine (blanks_any w.heap.size s (a + 1) 0 _ hR6 (by omega) (by omega)).mono ?_
                rintro r w8 ⟨rfl, hR8, hg8⟩
                have hB8 := (hB6.far (g := w.heap.size) (by omega) 1 (.int .i64 ((a + 1 : Nat) : Int))).grown hg8 (by omega)
                have hb8 : Below w.heap.size w w8 := (hb5.setCell (p := ⟨w.heap.size, 1, none⟩) (Nat.le_refl _) _).grown hg8 (by have := hb5.size; simp; omega) (by simp)
                clear hR5 hR6 hB6 hb5 hg8 hc0 hc1 hc2
                go_wp2_with fail
                go_roundw
                case rel => exact ⟨false, skipAt s.data.toList (a + 1), nextM (x, y) q m, f, rfl, by omega, by omega, hR8, hB8, hm6.out, hb8, by rw [Hpar.out, hres.out]⟩
                case measure => rw [hR8.atOf, HatO.out]; omega
              · have hres := Lib.hid (parseGo_bad (f := f) (q := q) (m := m) Ht.out (by rw [bytes_len]; exact hae) (bytes_at s hal) (fun h => h43 (by rw [h]; rfl)) (fun h => h45 (by rw [h]; rfl)))
                have hn43 : ((s[a].toNat : Int) != 43) = true := by simp; omega
                have hn45 : ((s[a].toNat : Int) != 45) = true := by simp; omega
                clear hae h43 h45
                go_wp2_with fail
                go_quiet (fail)
                go_wp2_with fail
                go_ret3
                rw [Hpar.out, hres.out]
                exact ⟨_, rfl, OutR.nil (below_drewN hb5 _)⟩
        · have hres := Lib.hid (parseGo_err (f := f) (q := q) (m := m) Ht.out he)
          have heb : (e != 0) = true := by simpa using he
          have He := Lib.hid he
          clear he
          go_wp2_with fail
          refine (term_any w.heap.size s k _ hR hk (by omega)).mono ?_
          rw [Ht.out]
          rintro r w3 ⟨rfl, hR3, hg3⟩
          have hb3 : Below w.heap.size w w3 := hb.grown hg3 hsz (by simp)
          have hz3 := hb3.size
          clear hR hB hb hg3 ht
          have hR4 := hR3.alloc (.cells #[.int .i64 x, .int .i64 y] 37)
          obtain ⟨hc0, hc1, hc2⟩ := hR4.cells
          go_wp2_with fail
          go_quiet (fail)
          go_wp2_with fail
          go_ret3
          rw [Hpar.out, hres.out]
          exact ⟨_, rfl, OutR.nil (by (repeat (first | exact Below.refl _ _ | assumption | apply Below.drew | apply below_drewN | (refine Below.alloc ?_ (by first | omega | (simp; omega) | simp) _) | (refine Below.setCell ?_ (by first | omega | (simp; omega) | simp) _) | (refine Below.trans ?_ (Below.mono (by assumption) (by first | omega | (simp; omega) | simp))))))⟩
end Go.Proofs.YteaofninjbhiaaaDoor
