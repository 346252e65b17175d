/- Lemmas and contracts of functions, joined for the claim: LiFi, LiBe, LiLa. -/
import Derived.Test.YtbhkfemebionnaaGreatDoorMLiC
import Derived.Test.YtbhkfemebionnaaGreatDoorMPmB
import Derived.Test.YtbhkfemebionnaaGreatDoorMLiB
import Derived.Test.YtbhkfemebionnaaGreatDoorMLiA
namespace Go.Proofs.YtbhkfemebionnaaGreatDoor
open Go.RowKit Go.Shelf
attribute [local go_sem] Oper.semAt_some

theorem res_cell3 {fn : Func} {p q r : Tmp} {t u v : TypeId} (h : fn.results = #[.cell p t, .cell q u, .cell r v]) (tmps : Array Value) (P : Program) (w : World) :
    (results fn tmps).run P w = ((asAddr (tmps.getD p undef)).run P w).andThen fun a w₁ => ((loadVar t a).run P w₁).andThen fun x w₂ => ((asAddr (tmps.getD q undef)).run P w₂).andThen fun b w₃ => ((loadVar u b).run P w₃).andThen fun y w₄ => ((asAddr (tmps.getD r undef)).run P w₄).andThen fun c w₅ => ((loadVar v c).run P w₅).andThen fun z w₆ => .ok (.tuple #[x, y, z]) w₆ := by
  simp only [results, h]
  simp [Sem.run_bind, Result.andThen]
  repeat' (split <;> simp_all)
set_option maxHeartbeats 8000000 in
theorem nbef1_any (s num : ByteArray) (Bn : Nat) (w : World) (hs : s.size ≤ 9223372036854775807) (hn : numE s.data.toList = 0) (ht : num.size ≤ 9223372036854775807) (hm : numE num.data.toList = 0) (hB : RowAt w Bn #[.string num] 9) :
    Calls Tryz.prog 41 #[.string s, .pointer (some ⟨Bn, 0, none⟩)] w fun e w' => e = .returned (.bool (decide (ordI (numV s.data.toList) (numV num.data.toList) < 0))) ∧ Below w.heap.size w w' := by
  have HS := Lib.hid (ccompare_any s num w hs hn ht hm)
  generalize ordI (numV s.data.toList) (numV num.data.toList) = E at *
  have b0 := hB.cell (j := 0) (u := .string num) rfl
  clear hs hn ht hm hB
  go_enter Tryz.func41, Tryz.ntmps41
  go_wp2_with (go_at_call 42; refine HS.out.mono ?_; rintro e w1 ⟨rfl, hb1⟩)
  go_ret
  exact ⟨rfl, hb1⟩

def tstB (X : List CV) (num : ByteArray) (k : Nat) : Bool := decide (ordI (numV (cvB X k).c.num.data.toList) (numV num.data.toList) < 0)

set_option maxRecDepth 100000 in
set_option maxHeartbeats 16000000 in
theorem nfirst_any (no pri : Int) (A : Option Addr) (c : Nat) (X : List CV) (num : ByteArray) (Bl Bn : Nat) (w : World) (hX : InC w A X.length X) (hlen : X.length ≤ 1000000) (hs : ∀ x ∈ X, x.c.num.size ≤ 9223372036854775807) (hn : ∀ x ∈ X, numE x.c.num.data.toList = 0) (ht : num.size ≤ 9223372036854775807) (hm : numE num.data.toList = 0)
    (hBl : RowAt w Bl #[.int .i64 no, .int .i64 pri, .slice A X.length c] 80) (hBn : RowAt w Bn #[.string num] 9) :
    Calls Tryz.prog 39 #[.func (.func 67) #[] #[.pointer (some ⟨Bl, 0, none⟩)], .func (.func 41) #[] #[.pointer (some ⟨Bn, 0, none⟩)]] w fun e w' =>
      ((∃ k, k < X.length ∧ tstB X num k = true ∧ (∀ y, k < y → y < X.length → tstB X num y = false) ∧ e = .returned (.tuple #[.string (cvB X k).c.num, .bool true, .int .i64 0])) ∨ ((∀ y, y < X.length → tstB X num y = false) ∧ e = .returned (.tuple #[.string ⟨#[]⟩, .bool false, .int .i64 0]))) ∧ Below w.heap.size w w' := by
  have HSeq := Lib.hid (cbw_seq no pri A c X hlen w w Bl w.heap.size (Nat.le_refl _) rfl hX (Below.refl _ _) hBl)
  have HN := Lib.hid (And.intro (And.intro hs hn) (And.intro ht hm))
  clear hs hn ht hm hX hBl
  refine (callsIn_wide (n := 6)).1 ?_
  refine callsIn_of_wp_marks Tryz.func39 rfl trivial ?_ rfl
  simp only [Tryz.ntmps39, List.size_toArray, List.length_cons, List.length_nil, Nat.reduceAdd, Nat.reduceSub, Array.replicate_succ, Array.replicate_zero, List.push_toArray, List.append_toArray, List.nil_append, List.cons_append]
  gi_wp2_with fail
  try simp only [World.size_alloc]
  have kA : ∀ (V : World) (o : Obj), Below V.heap.size V (V.alloc o) := fun V o => (Below.refl _ _).alloc (Nat.le_refl _) _
  have q3 := RowAt.fresh w #[.func (.func 41) #[] #[.pointer (some ⟨Bn, 0, none⟩)]] 78
  have q4 := RowAt.fresh (w.alloc (.cells #[.func (.func 41) #[] #[.pointer (some ⟨Bn, 0, none⟩)]] 78)) #[.string ⟨#[]⟩] 9
  have q5 := RowAt.fresh ((w.alloc (.cells #[.func (.func 41) #[] #[.pointer (some ⟨Bn, 0, none⟩)]] 78)).alloc (.cells #[.string ⟨#[]⟩] 9)) #[.bool false] 4
  have q6 := RowAt.fresh (((w.alloc (.cells #[.func (.func 41) #[] #[.pointer (some ⟨Bn, 0, none⟩)]] 78)).alloc (.cells #[.string ⟨#[]⟩] 9)).alloc (.cells #[.bool false] 4)) #[.int .i64 0] 35
  simp only [World.size_alloc] at q4 q5 q6
  have q3 : RowAt ((((w.alloc (.cells #[.func (.func 41) #[] #[.pointer (some ⟨Bn, 0, none⟩)]] 78)).alloc (.cells #[.string ⟨#[]⟩] 9)).alloc (.cells #[.bool false] 4)).alloc (.cells #[.int .i64 0] 35)) w.heap.size #[.func (.func 41) #[] #[.pointer (some ⟨Bn, 0, none⟩)]] 78 := by
    have h1 := q3.below (kA _ (.cells #[.string ⟨#[]⟩] 9)) q3.lt
    have h2 := h1.below (kA _ (.cells #[.bool false] 4)) h1.lt
    exact h2.below (kA _ _) h2.lt
  have q4 : RowAt ((((w.alloc (.cells #[.func (.func 41) #[] #[.pointer (some ⟨Bn, 0, none⟩)]] 78)).alloc (.cells #[.string ⟨#[]⟩] 9)).alloc (.cells #[.bool false] 4)).alloc (.cells #[.int .i64 0] 35)) (w.heap.size + 1) #[.string ⟨#[]⟩] 9 := by
    have h1 := q4.below (kA _ (.cells #[.bool false] 4)) q4.lt
    exact h1.below (kA _ _) h1.lt
  have q5 : RowAt ((((w.alloc (.cells #[.func (.func 41) #[] #[.pointer (some ⟨Bn, 0, none⟩)]] 78)).alloc (.cells #[.string ⟨#[]⟩] 9)).alloc (.cells #[.bool false] 4)).alloc (.cells #[.int .i64 0] 35)) (w.heap.size + 1 + 1) #[.bool false] 4 := q5.below (kA _ _) q5.lt
  have hbV : Below w.heap.size w ((((w.alloc (.cells #[.func (.func 41) #[] #[.pointer (some ⟨Bn, 0, none⟩)]] 78)).alloc (.cells #[.string ⟨#[]⟩] 9)).alloc (.cells #[.bool false] 4)).alloc (.cells #[.int .i64 0] 35)) := ((((Below.refl _ w).alloc (Nat.le_refl _) _).alloc (by simp) _).alloc (by simp; omega) _).alloc (by simp; omega) _
  have hsV : ((((w.alloc (.cells #[.func (.func 41) #[] #[.pointer (some ⟨Bn, 0, none⟩)]] 78)).alloc (.cells #[.string ⟨#[]⟩] 9)).alloc (.cells #[.bool false] 4)).alloc (.cells #[.int .i64 0] 35)).heap.size = w.heap.size + 4 := by simp
  have q1 := hBn.below hbV hBn.lt
  generalize hV : ((((w.alloc (.cells #[.func (.func 41) #[] #[.pointer (some ⟨Bn, 0, none⟩)]] 78)).alloc (.cells #[.string ⟨#[]⟩] 9)).alloc (.cells #[.bool false] 4)).alloc (.cells #[.int .i64 0] 35)) = V at *
  clear hV kA hBn
  refine rf_law rfl (by omega) (gf := 67) (lb := #[.pointer (some ⟨Bl, 0, none⟩)]) rfl trivial (enters_of Tryz.func67 (by kernel_rfl) rfl) hbV.size HSeq.out hbV (fun _ => rfl)
    (fun pre U => ((∀ y ∈ pre, tstB X num y = false) ∧ RowAt U w.heap.size #[.func (.func 41) #[] #[.pointer (some ⟨Bn, 0, none⟩)]] 78 ∧ RowAt U (w.heap.size + 1) #[.string ⟨#[]⟩] 9 ∧ RowAt U (w.heap.size + 1 + 1) #[.bool false] 4 ∧ RowAt U (w.heap.size + 1 + 1 + 1) #[.int .i64 0] 35 ∧ RowAt U Bn #[.string num] 9) ∧ Below w.heap.size w U)
    (fun pre U => (∃ (pre0 : List Nat) (x : Nat), pre = pre0 ++ [x] ∧ tstB X num x = true ∧ (∀ y ∈ pre0, tstB X num y = false) ∧ RowAt U (w.heap.size + 1) #[.string (cvB X x).c.num] 9 ∧ RowAt U (w.heap.size + 1 + 1) #[.bool true] 4 ∧ RowAt U (w.heap.size + 1 + 1 + 1) #[.int .i64 0] 35) ∧ Below w.heap.size w U)
    (OwnFrom.and (Own.from (fun (s : List Nat) A B row hs hg hr => ⟨hs.1, hs.2.1.own hg hr, hs.2.2.1.own hg hr, hs.2.2.2.1.own hg hr, hs.2.2.2.2.1.own hg hr, hs.2.2.2.2.2.own hg hr⟩) _) (ownFrom_below (Nat.le_refl _) hbV.size))
    (OwnFrom.and (Own.from (fun (s : List Nat) A B row hs hg hr => hs.imp fun p h => h.imp fun x h => ⟨h.1, h.2.1, h.2.2.1, h.2.2.2.1.own hg hr, h.2.2.2.2.1.own hg hr, h.2.2.2.2.2.own hg hr⟩) _) (ownFrom_below (Nat.le_refl _) hbV.size))
    ⟨⟨fun y hy => (by cases hy), q3, q4, q5, q6, q1⟩, hbV⟩
    (fun x => { tmps := #[.func (.func 67) #[] #[.pointer (some ⟨Bl, 0, none⟩)], .func (.func 41) #[] #[.pointer (some ⟨Bn, 0, none⟩)], undef, .pointer (some ⟨w.heap.size, 0, none⟩), .pointer (some ⟨w.heap.size + 1, 0, none⟩), .pointer (some ⟨w.heap.size + 1 + 1, 0, none⟩), .pointer (some ⟨w.heap.size + 1 + 1 + 1, 0, none⟩), .string (cvB X x).c.num, .func (.func 67) #[] #[.pointer (some ⟨Bl, 0, none⟩)], .string (cvB X x).c.num, undef, undef, undef, undef], defers := [] })
    ?assign ?body ?done ?stop
  case assign =>
    intro l x U K hK
    have HK := Lib.hid hK
    clear hK q1 q3 q4 q5 q6
    generalize (cvB X x).c.num = s at *
    gi_wp2
    exact HK.out
  case body =>
    clear q1 q3 q4 q5 q6
    rintro lp pre x U ⟨⟨hno, h3, h4, h5, h6, h1⟩, hB⟩ hlt
    have hxm := cvB_mem (X := X) (by omega) x
    have HT := Lib.hid (nbef1_any (cvB X x).c.num num Bn U (HN.out.1.1 _ hxm) (HN.out.1.2 _ hxm) HN.out.2.1 HN.out.2.2 h1)
    have hte : decide (ordI (numV (cvB X x).c.num.data.toList) (numV num.data.toList) < 0) = tstB X num x := rfl
    rw [hte] at HT
    have c3 := h3.cell (j := 0) (u := .func (.func 41) #[] #[.pointer (some ⟨Bn, 0, none⟩)]) rfl
    have HI := Lib.hid (And.intro hno (And.intro h3 (And.intro h4 (And.intro h5 (And.intro h6 h1)))))
    have HB := Lib.hid hB
    have HX := Lib.hid (show ∃ s, s = (cvB X x).c.num from ⟨_, rfl⟩)
    generalize hsx : (cvB X x).c.num = s at *
    have HSx := Lib.hid hsx
    generalize htx : tstB X num x = t at *
    have HTx := Lib.hid htx
    clear hno h3 h4 h5 h6 h1 hB hxm hte hsx htx
    gi_wp2_with fail
    refine ⟨trivial, ?_⟩
    gi_at_call 41
    refine (callsIn_wide.2 HT.out).mono ?_
    clear c3
    rintro e w7 ⟨rfl, hb7⟩
    have h4 := HI.out.2.2.1.below hb7 HI.out.2.2.1.lt
    have h5 := HI.out.2.2.2.1.below hb7 HI.out.2.2.2.1.lt
    have h6 := HI.out.2.2.2.2.1.below hb7 HI.out.2.2.2.2.1.lt
    have HB7 := Lib.hid hb7
    have HBw := Lib.hid (HB.out.trans (hb7.mono HB.out.size))
    have hsU := HB.out.size
    clear hb7
    cases t with
    | false =>
      have H4 := Lib.hid h4
      have H5 := Lib.hid h5
      have H6 := Lib.hid h6
      clear h4 h5 h6
      gi_wp2
      refine ⟨HB7.out, ⟨fun y hy => ?_, HI.out.2.1.below HB7.out HI.out.2.1.lt, H4.out, H5.out, H6.out, HI.out.2.2.2.2.2.below HB7.out HI.out.2.2.2.2.2.lt⟩, HBw.out⟩
      rcases List.mem_append.1 hy with hy | hy
      · exact HI.out.1 y hy
      · obtain rfl : y = x := by simpa using hy
        exact HTx.out
    | true =>
      have f4 := h4.fr 0
      have f5 := h5.fr 0
      have f6 := h6.fr 0
      have k4 := h4.cell (j := 0) (u := .string ⟨#[]⟩) rfl
      have k5 := h5.cell (j := 0) (u := .bool false) rfl
      have k6 := h6.cell (j := 0) (u := .int .i64 0) rfl
      have H4 := Lib.hid h4
      have H5 := Lib.hid h5
      have H6 := Lib.hid h6
      clear h4 h5 h6
      gi_wp2
      have n45 : w.heap.size + 1 ≠ w.heap.size + 1 + 1 := by omega
      have n46 : w.heap.size + 1 ≠ w.heap.size + 1 + 1 + 1 := by omega
      have n56 : w.heap.size + 1 + 1 ≠ w.heap.size + 1 + 1 + 1 := by omega
      refine ⟨(((KeepsFrom.of_below HB7.out).trans ((KeepsOthers.setCell _ _ _).from _)).trans ((KeepsOthers.setCell _ _ _).from _)).trans ((KeepsOthers.setCell _ _ _).from _), ⟨pre, x, rfl, HTx.out, HI.out.1, ?_, ?_, ?_⟩, ((HBw.out.setCell (p := ⟨w.heap.size + 1, 0, none⟩) (by show w.heap.size ≤ w.heap.size + 1; omega) _).setCell (p := ⟨w.heap.size + 1 + 1, 0, none⟩) (by show w.heap.size ≤ w.heap.size + 1 + 1; omega) _).setCell (p := ⟨w.heap.size + 1 + 1 + 1, 0, none⟩) (by show w.heap.size ≤ w.heap.size + 1 + 1 + 1; omega) _⟩
      · rw [HSx.out]
        exact ((H4.out.set 0 (.string s)).far 0 _ n45.symm).far 0 _ n46.symm
      · exact ((H5.out.far 0 _ n45).set 0 (.bool true)).far 0 _ n56.symm
      · exact ((H6.out.far 0 _ n46).far 0 _ n56).set 0 (.int .i64 0)
  case done =>
    rintro D ys U hD hS ⟨⟨hno, h3, h4, h5, h6, h1⟩, hB⟩ hK
    have f4 := h4.fr 0
    have f5 := h5.fr 0
    have f6 := h6.fr 0
    have k4 := h4.cell (j := 0) (u := .string ⟨#[]⟩) rfl
    have k5 := h5.cell (j := 0) (u := .bool false) rfl
    have k6 := h6.cell (j := 0) (u := .int .i64 0) rfl
    have H4 := Lib.hid h4
    have H5 := Lib.hid h5
    have H6 := Lib.hid h6
    have HNo := Lib.hid hno
    have HB := Lib.hid hB
    have HS := Lib.hid hS
    have HK := Lib.hid hK
    clear hno h3 h4 h5 h6 h1 hB hS hK q1 q3 q4 q5 q6
    gi_wp2
    have n45 : w.heap.size + 1 ≠ w.heap.size + 1 + 1 := by omega
    have n46 : w.heap.size + 1 ≠ w.heap.size + 1 + 1 + 1 := by omega
    have n56 : w.heap.size + 1 + 1 ≠ w.heap.size + 1 + 1 + 1 := by omega
    have hK' := (((KeepsOthers.setCell U ⟨w.heap.size + 1, 0, none⟩ (.string ⟨#[]⟩)).trans (KeepsOthers.setCell _ ⟨w.heap.size + 1 + 1, 0, none⟩ (.bool false))).trans (KeepsOthers.setCell _ ⟨w.heap.size + 1 + 1 + 1, 0, none⟩ (.int .i64 0))).same D _ HK.out rfl
    have r4 := ((H4.out.set 0 (.string ⟨#[]⟩)).far 0 (.bool false) n45.symm).far 0 (.int .i64 0) n46.symm
    have r5 := ((H5.out.far 0 (.string ⟨#[]⟩) n45).set 0 (.bool false)).far 0 (.int .i64 0) n56.symm
    have r6 := ((H6.out.far 0 (.string ⟨#[]⟩) n46).far 0 (.bool false) n56).set 0 (.int .i64 0)
    have hB3 := ((HB.out.setCell (p := ⟨w.heap.size + 1, 0, none⟩) (by show w.heap.size ≤ w.heap.size + 1; omega) (.string ⟨#[]⟩)).setCell (p := ⟨w.heap.size + 1 + 1, 0, none⟩) (by show w.heap.size ≤ w.heap.size + 1 + 1; omega) (.bool false)).setCell (p := ⟨w.heap.size + 1 + 1 + 1, 0, none⟩) (by show w.heap.size ≤ w.heap.size + 1 + 1 + 1; omega) (.int .i64 0)
    refine ⟨by simp, .inl ⟨_, _, rfl, run_takeDeferred hK', ?_⟩⟩
    have k4 := (r4.own (grownBy_putObj' _ D (.deferred none)) (fun r e => by cases e; exact ⟨_, hK', rfl⟩)).cell (j := 0) (u := .string ⟨#[]⟩) rfl
    have k5 := (r5.own (grownBy_putObj' _ D (.deferred none)) (fun r e => by cases e; exact ⟨_, hK', rfl⟩)).cell (j := 0) (u := .bool false) rfl
    have k6 := (r6.own (grownBy_putObj' _ D (.deferred none)) (fun r e => by cases e; exact ⟨_, hK', rfl⟩)).cell (j := 0) (u := .int .i64 0) rfl
    refine ⟨.tuple #[.string ⟨#[]⟩, .bool false, .int .i64 0], ?_, .inr ⟨fun y hy => HNo.out y (by rw [HS.out]; exact dnN_mem.2 ⟨Nat.zero_le _, hy⟩), rfl⟩, ?_⟩
    · rw [res_cell3 rfl]
      go_simp
    · exact hB3.trans (belowK_b (w := w) (Nat.le_refl _) _ D _ (.deferred none) (by have := hbV.size; omega) hK' rfl rfl)
  case stop =>
    rintro D pre U hD ⟨j, hj, hpre⟩ ⟨⟨pre0, x, hp, ht, hno, r4, r5, r6⟩, hB⟩ hK
    have HU := Lib.hid (And.intro hp (And.intro ht (And.intro hno (And.intro hpre hj))))
    have HR := Lib.hid (And.intro r4 (And.intro r5 r6))
    have HB := Lib.hid hB
    clear hp ht hno hpre hj r4 r5 r6 hB q1 q3 q4 q5 q6
    gi_wp2
    refine ⟨by simp, .inl ⟨_, _, rfl, run_takeDeferred hK, ?_⟩⟩
    have k4 := (HR.out.1.own (grownBy_putObj' _ D (.deferred none)) (fun r e => by cases e; exact ⟨_, hK, rfl⟩)).cell (j := 0) (u := .string (cvB X x).c.num) rfl
    have k5 := (HR.out.2.1.own (grownBy_putObj' _ D (.deferred none)) (fun r e => by cases e; exact ⟨_, hK, rfl⟩)).cell (j := 0) (u := .bool true) rfl
    have k6 := (HR.out.2.2.own (grownBy_putObj' _ D (.deferred none)) (fun r e => by cases e; exact ⟨_, hK, rfl⟩)).cell (j := 0) (u := .int .i64 0) rfl
    obtain ⟨hp, ht, hno, hpre, hj⟩ := HU.out
    have he := hp.symm.trans hpre
    rw [dnN_step hj] at he
    obtain ⟨e1, e2⟩ := List.append_inj' he rfl
    injection e2 with e2
    subst e2
    refine ⟨.tuple #[.string (cvB X x).c.num, .bool true, .int .i64 0], ?_, .inl ⟨x, hj, ht, fun y h1 h2 => hno y (by rw [e1]; exact dnN_mem.2 ⟨by omega, h2⟩), rfl⟩, ?_⟩
    · rw [res_cell3 rfl]
      go_simp
    · exact HB.out.trans (belowK_b (w := w) (Nat.le_refl _) _ D _ (.deferred none) (by have := hbV.size; omega) hK rfl rfl)
end Go.Proofs.YtbhkfemebionnaaGreatDoor

namespace Go.Proofs.YtbhkfemebionnaaGreatDoor
open Go.RowKit Go.Shelf

set_option maxRecDepth 100000 in
set_option maxHeartbeats 16000000 in
theorem nbefore_any (no pri : Int) (A : Option Addr) (c : Nat) (X : List CV) (num : ByteArray) (w : World) (hX : InC w A X.length X) (hs : ∀ x ∈ X, x.fitS) (hok : LsOK no pri X) (h1 : num.size ≤ 9223372036854775807) (h2 : numE num.data.toList = 0) (hlen : X.length ≤ 1000000) :
    Calls Tryz.prog 19 #[.agg #[.int .i64 no, .int .i64 pri, .slice A X.length c], .string num] w fun e w' =>
      ((∃ k, k < X.length ∧ tstB X num k = true ∧ (∀ y, k < y → y < X.length → tstB X num y = false) ∧ e = .returned (.tuple #[.string (cvB X k).c.num, .bool true, .int .i64 0])) ∨ ((∀ y, y < X.length → tstB X num y = false) ∧ e = .returned (.tuple #[.string ⟨#[]⟩, .bool false, .int .i64 0]))) ∧ Below w.heap.size w w' := by
  obtain ⟨W0, hW0⟩ : ∃ W0, W0 = w.alloc (.cells #[.int .i64 no, .int .i64 pri, .slice A X.length c] 24) := ⟨_, rfl⟩
  obtain ⟨W1, hW1⟩ : ∃ W1, W1 = W0.alloc (.cells #[.string num] 9) := ⟨_, rfl⟩
  obtain ⟨W2, hW2⟩ : ∃ W2, W2 = W1.alloc (.cells #[.string num] 9) := ⟨_, rfl⟩
  have hB0 : Below w.heap.size w W0 := by rw [hW0]; exact (Below.refl _ _).alloc (Nat.le_refl _) _
  have hB1 : Below W0.heap.size W0 W1 := by rw [hW1]; exact (Below.refl _ _).alloc (Nat.le_refl _) _
  have hB2 : Below W1.heap.size W1 W2 := by rw [hW2]; exact (Below.refl _ _).alloc (Nat.le_refl _) _
  have hs0 : W0.heap.size = w.heap.size + 1 := by rw [hW0]; simp
  have hs1 : W1.heap.size = w.heap.size + 1 + 1 := by rw [hW1]; simp [hs0]
  have hRl1 : RowAt W1 w.heap.size #[.int .i64 no, .int .i64 pri, .slice A X.length c] 24 := by
    have h : RowAt W0 w.heap.size #[.int .i64 no, .int .i64 pri, .slice A X.length c] 24 := by rw [hW0]; exact RowAt.fresh w _ _
    exact h.below hB1 h.lt
  have hRn1 : RowAt W1 (w.heap.size + 1) #[.string num] 9 := by rw [hW1, ← hs0]; exact RowAt.fresh W0 _ _
  have hRl := hRl1.below hB2 hRl1.lt
  have hRn := hRn1.below hB2 hRn1.lt
  have hRs : RowAt W2 (w.heap.size + 1 + 1) #[.string num] 9 := by rw [hW2, ← hs1]; exact RowAt.fresh W1 _ _
  have hBB := (hB0.trans (hB1.mono hB0.size)).trans (hB2.mono (Nat.le_trans hB0.size hB1.size))
  have HCk := Lib.hid (nchecked_any no pri A X.length c X (w.heap.size + 1 + 1) num W2 (hX.below hBB) hs hok hRs.lt (hRs.cell rfl) h1 h2)
  have HF := Lib.hid (fun V (h : Below w.heap.size w V) (Bl : Nat) h3 h4 => nfirst_any no pri A c X num Bl (w.heap.size + 1) V (hX.below h) hlen (fun x hx => (hs x hx).1) (fun x hx => (hok.ok x hx).num) h1 h2 h3 h4)
  have HBw := Lib.hid (fun V => callsIn_wide.1 (cbw_in 5 no pri A X.length c V))
  have HRl := Lib.hid hRl
  have HRn := Lib.hid hRn
  have HB0 := Lib.hid hBB
  have HW := Lib.hid (show W2 = ((w.alloc (.cells #[.int .i64 no, .int .i64 pri, .slice A X.length c] 24)).alloc (.cells #[.string num] 9)).alloc (.cells #[.string num] 9) by rw [hW2, hW1, hW0])
  have a0 := hRl1.cell (j := 0) (u := .int .i64 no) rfl
  have a1 := hRl1.cell (j := 1) (u := .int .i64 pri) rfl
  have a2 := hRl1.cell (j := 2) (u := .slice A X.length c) rfl
  have b0 := hRn1.cell (j := 0) (u := .string num) rfl
  rw [hW1, hW0] at a0 a1 a2 b0
  clear hW0 hW1 hW2 hB0 hB1 hB2 hs0 hs1 hRl1 hRn1 hRl hRn hRs hBB hX hs hok h1 h2
  go_enter Tryz.func19, Tryz.ntmps19
  go_wp2_with fail
  rw [← HW.out]
  refine HCk.out.mono ?_
  rintro e w3 ⟨rfl, hb3⟩
  clear a0 a1 a2 b0
  have hRl3 := HRl.out.below hb3 HRl.out.lt
  have hRn3 := HRn.out.below hb3 HRn.out.lt
  have HB3 := Lib.hid (HB0.out.trans (hb3.mono HB0.out.size))
  have a0 := hRl3.cell (j := 0) (u := .int .i64 no) rfl
  have a1 := hRl3.cell (j := 1) (u := .int .i64 pri) rfl
  have a2 := hRl3.cell (j := 2) (u := .slice A X.length c) rfl
  have b0 := hRn3.cell (j := 0) (u := .string num) rfl
  have HRn3 := Lib.hid hRn3
  clear hb3 hRl3 hRn3
  go_wp2_with fail
  refine (HBw.out _).mono ?_
  rintro e w4 ⟨rfl, hw4⟩
  have hb4 : Below w3.heap.size w3 w4 := by rw [hw4]; exact (Below.refl _ _).alloc (Nat.le_refl _) _
  have hl4 : RowAt w4 w3.heap.size #[.int .i64 no, .int .i64 pri, .slice A X.length c] 80 := by rw [hw4]; exact RowAt.fresh w3 _ _
  have HB4 := Lib.hid (HB3.out.trans (hb4.mono HB3.out.size))
  have HFi := Lib.hid (HF.out w4 HB4.out w3.heap.size hl4 (HRn3.out.below hb4 HRn3.out.lt))
  clear hw4 hb4 hl4 a0 a1 a2 b0
  go_wp2_with fail
  refine HFi.out.mono ?_
  rintro e w5 ⟨hcase, hb5⟩
  have HB5 := Lib.hid (HB4.out.trans (hb5.mono HB4.out.size))
  clear hb5
  rcases hcase with ⟨k, hk1, hk2, hk3, rfl⟩ | ⟨hk, rfl⟩
  · have HKk := Lib.hid (And.intro hk1 (And.intro hk2 hk3))
    generalize hsn : (cvB X k).c.num = s at *
    have HSn := Lib.hid hsn
    clear hk1 hk2 hk3 hsn
    go_wp2_with fail
    go_ret3
    exact ⟨.inl ⟨k, HKk.out.1, HKk.out.2.1, HKk.out.2.2, by rw [HSn.out]; rfl⟩, HB5.out⟩
  · have HKk := Lib.hid hk
    clear hk
    go_wp2_with fail
    go_ret3
    exact ⟨.inr ⟨HKk.out, rfl⟩, HB5.out⟩
end Go.Proofs.YtbhkfemebionnaaGreatDoor

namespace Go.Proofs.YtbhkfemebionnaaGreatDoor
open Go.RowKit

theorem up_uniq {α : Type} (f : α → Int) : ∀ {l m : List α}, l.Perm m → l.Pairwise (fun x y => f x ≤ f y) → m.Pairwise (fun x y => f x < f y) → l = m
  | [], m, h, _, _ => (List.nil_perm.1 h).symm ▸ rfl
  | a :: l, [], h, _, _ => by have := h.length_eq; simp at this
  | a :: l, b :: m, h, hl, hm => by
    have h1 := List.pairwise_cons.1 hl
    have h2 := List.pairwise_cons.1 hm
    have e : a = b := by
      rcases List.mem_cons.1 (h.mem_iff.1 (List.mem_cons_self (a := a) (l := l))) with e | ha
      · exact e
      · rcases List.mem_cons.1 (h.mem_iff.2 (List.mem_cons_self (a := b) (l := m))) with e | hb
        · exact e.symm
        · have h3 := h1.1 b hb
          have h4 := h2.1 a ha
          omega
    subst e
    rw [up_uniq f ((List.perm_cons a).1 h) h1.2 h2.2]
theorem idxOf_neg {α : Type} {p : α → Bool} : ∀ {l : List α}, idxOf p l < 0 → ∀ x ∈ l, p x = false
  | [], _, x, hx => by cases hx
  | a :: l, h, x, hx => by
    unfold idxOf at h
    by_cases ha : p a = true
    · rw [if_pos ha] at h; omega
    · rw [if_neg ha] at h
      have ha := Bool.eq_false_iff.2 ha
      by_cases hl : idxOf p l < 0
      · rcases List.mem_cons.1 hx with rfl | hx
        · exact ha
        · exact idxOf_neg hl x hx
      · rw [if_neg hl] at h; omega

def vN (s : ByteArray) : Int := numV s.data.toList
def nwC (num : ByteArray) (bp : Nat) : CV := ⟨⟨num, ⟨#[]⟩, none, 0, 0, some ⟨bp, 0, none⟩, 1, 1, false, false, -1, ⟨#[]⟩, 0⟩, [], [tm0]⟩

structure InsP (no pri : Int) (X : List CV) (num : ByteArray) (bp : Nat) (d' : List Cu) (P Q : List CV) : Prop where
  x : X = P ++ Q
  d : d' = (P ++ nwC num bp :: Q).map CV.c
  ok : LsOK no pri (P ++ nwC num bp :: Q)
  lo : ∀ y ∈ P, vN y.c.num < vN num
  hi : ∀ y ∈ Q, vN num < vN y.c.num
theorem split_at (v : Int) (f : CV → Int) : ∀ (X : List CV), X.Pairwise (fun x y => f x < f y) → (∀ x ∈ X, f x ≠ v) → ∃ P Q, X = P ++ Q ∧ (∀ y ∈ P, f y < v) ∧ (∀ y ∈ Q, v < f y)
  | [], _, _ => ⟨[], [], rfl, fun y hy => (by cases hy), fun y hy => (by cases hy)⟩
  | a :: X, h, hn => by
    have h1 := List.pairwise_cons.1 h
    have ha := hn a List.mem_cons_self
    by_cases hv : f a < v
    · obtain ⟨P, Q, e, hP, hQ⟩ := split_at v f X h1.2 (fun x hx => hn x (List.mem_cons_of_mem _ hx))
      refine ⟨a :: P, Q, by rw [e]; rfl, fun y hy => ?_, hQ⟩
      rcases List.mem_cons.1 hy with rfl | hy
      · exact hv
      · exact hP y hy
    · refine ⟨[], a :: X, rfl, fun y hy => (by cases hy), fun y hy => ?_⟩
      rcases List.mem_cons.1 hy with rfl | hy
      · omega
      · have := h1.1 y hy; omega
theorem nwC_ok {num : ByteArray} (bp : Nat) (hnum : numE num.data.toList = 0) : CuOK (nwC num bp) :=
  { num := hnum, lab := ⟨Nat.zero_le _, fun c h => by cases h⟩, ms := ⟨Nat.zero_le _, fun m h => (by cases h), List.Pairwise.nil⟩, t1 := Nat.le_refl 1, t4 := show 1 ≤ 4 by decide, ts := fun t h => by simp only [nwC, List.mem_cons, List.not_mem_nil, or_false] at h; subst h; exact tm0_ok, pt := fun m h => (by cases h), fol := .inl rfl, lnk := .inl rfl, lps := show (0 : Int) ≤ 0 ∧ (0 : Int) ≤ 100 by decide, use := fun _ => rfl }
theorem ins_p {no pri : Int} {X : List CV} {num : ByteArray} {bp : Nat} {d' : List Cu} (hok : LsOK no pri X) (hn : X.length ≤ 9) (hnum : numE num.data.toList = 0) (hno : idxOf (numQ num) X = -1)
    (hp : d'.Perm (X.map CV.c ++ [(nwC num bp).c])) (hs : SegS cfC 0 (X.length + 1) d') : ∃ P Q, InsP no pri X num bp d' P Q := by
  have hne : ∀ x ∈ X, vN x.c.num ≠ vN num := fun x hx e => by
    have h1 := idxOf_neg (by rw [hno]; omega) x hx
    have h2 := numV_inj (hok.ok x hx).num hnum (by unfold vN at e; omega)
    have h3 : x.c.num = num := ByteArray.ext (Array.toList_inj.1 h2)
    rw [show numQ num x = true from decide_eq_true h3] at h1
    cases h1
  have hup : X.Pairwise (fun x y => vN x.c.num < vN y.c.num) := hok.up.imp fun h => by unfold ltN at h; unfold vN; omega
  obtain ⟨P, Q, e, hP, hQ⟩ := split_at (vN num) (fun x => vN x.c.num) X hup hne
  have hL : (P ++ nwC num bp :: Q).Pairwise (fun x y => vN x.c.num < vN y.c.num) := by
    rw [e] at hup
    have h1 := List.pairwise_append.1 hup
    refine List.pairwise_append.2 ⟨h1.1, List.Pairwise.cons (fun y hy => hQ y hy) h1.2.1, fun a ha b hb => ?_⟩
    rcases List.mem_cons.1 hb with rfl | hb
    · exact hP a ha
    · exact h1.2.2 a ha b hb
  refine ⟨P, Q, ⟨e, ?_, ⟨hok.no, hok.pri, ?_, fun x hx => ?_, hL.imp fun h => by unfold vN at h; unfold ltN; omega⟩, hP, hQ⟩⟩
  · refine up_uniq (fun x => vN x.num) (hp.trans ?_) ?_ ?_
    · rw [e, List.map_append, List.map_append, List.map_cons, List.append_assoc]
      exact List.Perm.append_left _ List.perm_append_comm
    · refine List.pairwise_iff_getElem.2 fun i j hi hj hij => ?_
      have hl : d'.length = X.length + 1 := by rw [hp.length_eq]; simp
      have h := hs i j d'[i] d'[j] (Nat.zero_le _) hij (by omega) (List.getElem?_eq_getElem hi) (List.getElem?_eq_getElem hj)
      unfold cfC ordI at h
      show vN d'[i].num ≤ vN d'[j].num
      unfold vN
      split at h
      · omega
      · omega
    · exact List.pairwise_map.2 hL
  · have : X.length = P.length + Q.length := by rw [e, List.length_append]
    simp
    omega
  · rcases List.mem_append.1 hx with h | h
    · exact hok.ok x (by rw [e]; exact List.mem_append_left _ h)
    · rcases List.mem_cons.1 h with rfl | h
      · exact nwC_ok bp hnum
      · exact hok.ok x (by rw [e]; exact List.mem_append_right _ h)

theorem idx_up {X : List CV} (h : X.Pairwise ltN) {k : Nat} (hk : k < X.length) : idxOf (numQ X[k].c.num) X = (k : Int) := by
  refine idxOf_some hk (fun i hi => ?_) (decide_eq_true rfl)
  have h1 := List.pairwise_iff_getElem.1 h i k (by omega) hk hi
  refine decide_eq_false fun e => ?_
  unfold ltN at h1
  rw [e] at h1
  omega
section
variable {no pri : Int} {X : List CV} {num : ByteArray} {bp : Nat} {d' : List Cu} {P Q : List CV}
theorem InsP.new (h : InsP no pri X num bp d' P Q) : idxOf (numQ num) (P ++ nwC num bp :: Q) = (P.length : Int) := by
  have hk : P.length < (P ++ nwC num bp :: Q).length := by simp
  have h1 := idx_up h.ok.up hk
  rw [List.getElem_append_right (Nat.le_refl _)] at h1
  simp at h1
  exact h1
theorem InsP.sk (_ : InsP no pri X num bp d' P Q) : (P ++ nwC num bp :: Q).map CV.sk = P.map CV.sk ++ (false, []) :: Q.map CV.sk := by rw [List.map_append, List.map_cons]; rfl
theorem InsP.skx (h : InsP no pri X num bp d' P Q) : X.map CV.sk = P.map CV.sk ++ Q.map CV.sk := by rw [h.x, List.map_append]
theorem InsP.lk_old (h : InsP no pri X num bp d' P Q) {k : Nat} (hk : k < X.length) : ∃ k' : Nat, idxOf (numQ X[k].c.num) (P ++ nwC num bp :: Q) = (k' : Int) ∧ lkS ((P ++ nwC num bp :: Q).map CV.sk) (k' + 1) = lkS (X.map CV.sk) (k + 1) := by
  by_cases hp : k < P.length
  · refine ⟨k, ?_, ?_⟩
    · have hk' : k < (P ++ nwC num bp :: Q).length := by simp; omega
      have h1 := idx_up h.ok.up hk'
      rw [List.getElem_append_left hp] at h1
      have e : X[k] = P[k] := by
        have hx := h.x
        subst hx
        exact List.getElem_append_left hp
      rw [e]
      exact h1
    · rw [h.sk, h.skx]
      exact lk_ins_le _ _ (by rw [List.length_map]; exact hp)
  · have hl : X.length = P.length + Q.length := by rw [h.x, List.length_append]
    refine ⟨k + 1, ?_, ?_⟩
    · have hk' : k + 1 < (P ++ nwC num bp :: Q).length := by simp; omega
      have h1 := idx_up h.ok.up hk'
      have e2 : (P ++ nwC num bp :: Q)[k + 1] = Q[k - P.length]'(by omega) := by
        rw [List.getElem_append_right (by omega)]
        simp only [show k + 1 - P.length = (k - P.length) + 1 by omega, List.getElem_cons_succ]
      have e : X[k] = Q[k - P.length]'(by omega) := by
        have hx := h.x
        subst hx
        exact List.getElem_append_right (by omega)
      rw [e2] at h1
      rw [e]
      exact h1
    · rw [h.sk, h.skx]
      exact lk_ins_gt _ _ (by simp; omega)
theorem InsP.lk_new (h : InsP no pri X num bp d' P Q) : lkS ((P ++ nwC num bp :: Q).map CV.sk) (P.length + 1) = lkS (X.map CV.sk) P.length := by
  rw [h.sk, h.skx]
  exact lk_ins_gt _ _ (by simp)
theorem InsP.lk_same (h : InsP no pri X num bp d' P Q) : lkS ((P ++ nwC num bp :: Q).map CV.sk) P.length = lkS ((P ++ nwC num bp :: Q).map CV.sk) (P.length + 1) := by
  rw [h.lk_new, h.sk, h.skx]
  exact lk_ins_le _ _ (by simp)
theorem InsP.tst (h : InsP no pri X num bp d' P Q) {k : Nat} (hk : k < X.length) : tstB X num k = decide (k < P.length) := by
  have hx := h.x
  unfold tstB
  rw [cvB_at hk]
  by_cases hp : k < P.length
  · have e : X[k] = P[k] := by subst hx; exact List.getElem_append_left hp
    have h1 := h.lo P[k] (List.getElem_mem hp)
    rw [e, decide_eq_true hp]
    unfold vN at h1
    refine decide_eq_true ?_
    unfold ordI
    rw [if_pos h1]
    omega
  · have hl : X.length = P.length + Q.length := by rw [hx, List.length_append]
    have e : X[k] = Q[k - P.length]'(by omega) := by subst hx; exact List.getElem_append_right (by omega)
    have h1 := h.hi _ (List.getElem_mem (l := Q) (n := k - P.length) (by omega))
    rw [e, decide_eq_false hp]
    unfold vN at h1
    refine decide_eq_false ?_
    unfold ordI
    rw [if_neg (by omega)]
    split <;> omega
theorem InsP.last (h : InsP no pri X num bp d' P Q) {k : Nat} (hk : k < X.length) (ht : tstB X num k = true) (hno : ∀ y, k < y → y < X.length → tstB X num y = false) : k + 1 = P.length := by
  rw [h.tst hk] at ht
  have h1 := of_decide_eq_true ht
  have hl : X.length = P.length + Q.length := by rw [h.x, List.length_append]
  rcases Nat.lt_or_eq_of_le (show k + 1 ≤ P.length by omega) with h2 | h2
  · have h3 := hno (k + 1) (by omega) (by omega)
    rw [h.tst (by omega)] at h3
    exact absurd h2 (of_decide_eq_false h3)
  · exact h2
theorem InsP.first (h : InsP no pri X num bp d' P Q) (hno : ∀ y, y < X.length → tstB X num y = false) : P.length = 0 := by
  have hl : X.length = P.length + Q.length := by rw [h.x, List.length_append]
  rcases Nat.eq_zero_or_pos P.length with h2 | h2
  · exact h2
  · have h3 := hno 0 (by omega)
    rw [h.tst (by omega)] at h3
    exact absurd h2 (of_decide_eq_false h3)
theorem lk_zero (S : List Sk) : ∀ x ∈ lkS S 0, x.pa = -1 ∧ x.le = 0 := fun x hx => by
  obtain ⟨p, -, rfl⟩ := List.mem_map.1 hx
  exact ⟨rfl, rfl⟩
theorem InsP.inC (h : InsP no pri X num bp d' P Q) {w : World} {A : Option Addr} {n g : Nat} (hX : InC w A n X) (ht : shTm.In w (some ⟨bp, 0, none⟩) 1 [tm0]) (hc : Cells w g (shCu.vs d')) : InC w (some ⟨g, 0, none⟩) (P ++ nwC num bp :: Q).length (P ++ nwC num bp :: Q) := by
  refine ⟨?_, fun x hx => ?_⟩
  · have h1 := In_of_cells hc
    rw [h.d, List.length_map] at h1
    exact h1
  · rcases List.mem_append.1 hx with hx | hx
    · exact hX.2 x (by rw [h.x]; exact List.mem_append_left _ hx)
    · rcases List.mem_cons.1 hx with rfl | hx
      · exact ⟨Sh.In.nil _ _, ht⟩
      · exact hX.2 x (by rw [h.x]; exact List.mem_append_right _ hx)
theorem InsP.fit (h : InsP no pri X num bp d' P Q) (hs : ∀ x ∈ X, x.fitS) (hn : num.size ≤ 9223372036854775807) : ∀ x ∈ P ++ nwC num bp :: Q, x.fitS := fun x hx => by
  rcases List.mem_append.1 hx with hx | hx
  · exact hs x (by rw [h.x]; exact List.mem_append_left _ hx)
  · rcases List.mem_cons.1 hx with rfl | hx
    · exact ⟨hn, Nat.zero_le _, Nat.le_refl _, Nat.zero_le _⟩
    · exact hs x (by rw [h.x]; exact List.mem_append_right _ hx)
end
end Go.Proofs.YtbhkfemebionnaaGreatDoor
