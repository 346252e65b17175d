/- Lemmas. -/
import Derived.Test.YtmcbkdlfhffphaaGreatDoorRUniL
namespace Go.Proofs.YtmcbkdlfhffphaaGreatDoor
set_option maxHeartbeats 32000000
open _root_.Go.Proofs.Tryz

section
open Go.RowKit
set_option maxRecDepth 100000 in
theorem q05y (A:Option Addr) (n c:Nat) (A':Option Addr) (n' c':Nat) (P:List PC) (l:List Fx) (w:World) (hl:shX.In w A n l) (hnc:n≤c) (hc:c≤9223372036854775807) (hp:shPr.In w A' n' P) (hn':n'≤9223372036854775806) (hcb:∀ x ∈ l,x.cb.size≤9223372036854775807) (hE:patE P l=0) :
  Calls prog 25 #[.slice A n c,.slice A' n' c'] w fun e w'=>∃ b,e=.returned (.tuple #[.agg #[.slice A n c,.map (some b)],.int .i64 0])∧w.heap.size≤b∧MapAt sK w' b (profM P)∧Below w.heap.size w w':=by
 have HCk:=hj_ (fun (w:World) hl hp=>qy1 A n c A' n' c' P l w hl hnc hc hp hn' hcb)
 rw [hE] at HCk;have HNw:=hj_ (fun (w:World) h=>qu7 A n c A' n' c' P w h hn')
 have HL:=hj_ hl;have HP:=hj_ hp;clear hl hp hE hnc hc hcb;obtain ⟨W,hW⟩:∃ W,W=w.alloc (.cells #[.slice none 0 0,.map none] 81):=⟨_,rfl⟩;have hb0:Below w.heap.size w W:=by rw [hW];exact (br_).alloc (Nat.le_refl _) _
 have HC0:=hj_ (show Cells W w.heap.size [.slice none 0 0,.map none] by rw [hW];exact Cells.fresh w [.slice none 0 0,.map none] _)
 have hWs:W.heap.size=w.heap.size+1:=by rw [hW];simp
 have HW:=hj_ hW;have HB0:=hj_ hb0;have HS:=hj_ hWs;clear hW hb0 hWs
 go_enter func25,ntmps25
 go_wp2_with fail;rw [← HW.out];refine (HCk.out _ (HL.out.below HB0.out) (HP.out.below HB0.out)).mono ?_;rintro e w1 ⟨rfl,hb⟩;have HB1:=hj_ hb;clear hb;go_wp2_with fail;refine (HNw.out _ (HP.out.below (ht_ HB0.out HB1.out))).mono ?_;rintro e w2 ⟨b,rfl,hbl,hM,hb⟩;have hB2:=ht_ HB1.out hb;have hC:=HC0.out.below hB2 HC0.out.1;have k0:=hC.at_ (j:=0) rfl
 have k1:=hC.at_ (j:=1) rfl
 have f0:=hC.fr (j:=0) rfl;have f1:=hC.fr (j:=1) rfl;have hne:w.heap.size≠b:=by have:=HB1.out.size;have:=HS.out;omega
 have HM:=hj_ ((hM.far 0 (.slice A n c) hne).far 1 (.map (some b)) hne);have HB:=hj_ (((ht_ HB0.out hB2).setCell (p:=⟨w.heap.size,0,none⟩) (Nat.le_refl _) (.slice A n c)).setCell (p:=⟨w.heap.size,1,none⟩) (Nat.le_refl _) (.map (some b)));have hle:w.heap.size≤b:=by have:=HB1.out.size;have:=HS.out;omega
 clear hM hb hB2 hC hbl hne;go_wp2_with fail;refine bodyPost_ret ?_ rfl ⟨b,rfl,hle,HM.out,HB.out⟩;rw [results_cell_tmp rfl];clear HM HB
 go_simp
end

section
open Go.RowKit
end

section
open Go.RowKit
theorem q060 {L:List (List PT)} {PL:List (PC × List Fea)} {X:List Fx} (h:uniE L PL X=0):patE (PL.map Prod.fst) X=0:=by
 unfold uniE at h
 by_cases h1:errA L≠0
 ·rw [if_pos h1] at h;exact absurd h h1
 rw [if_neg h1] at h
 by_cases h2:32<PL.length
 ·rw [if_pos h2] at h;cases h
 rw [if_neg h2] at h
 by_cases h3:firstE (prE L PL) PL.length≠0
 ·rw [if_pos h3] at h;exact absurd h h3
 rw [if_neg h3] at h;exact h
end

end Go.Proofs.YtmcbkdlfhffphaaGreatDoor
