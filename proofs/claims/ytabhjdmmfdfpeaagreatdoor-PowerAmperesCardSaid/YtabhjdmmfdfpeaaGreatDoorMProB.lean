/- Lemmas. -/
import Derived.Test.YtabhjdmmfdfpeaaGreatDoorMProA
import Derived.Test.YtabhjdmmfdfpeaaGreatDoorMUp
namespace Go.Proofs.YtabhjdmmfdfpeaaGreatDoor
set_option maxHeartbeats 32000000
open _root_.Go.Proofs.Tryz

section
open Go.RowKit
def FC.val (f:FC):Value:=.agg #[.int .i64 f.at_,.int .i64 f.bits,.int .i64 f.co,.int .i64 f.fi,.int .i64 f.cu,.int .i64 f.ho,.int .i64 f.lo,.int .i64 f.hi,.bool f.sn,.slice f.A f.n f.c]
theorem fbox (at_ bits co fi cu ho lo hi:Int) (sn:Bool) (A:Option Addr) (n c:Nat) (w W:World) (hW:W=w.alloc (.cells #[.int .i64 at_,.int .i64 bits,.int .i64 co,.int .i64 fi,.int .i64 cu,.int .i64 ho,.int .i64 lo,.int .i64 hi,.bool sn,.slice A n c] 114)) :
  Below w.heap.size w W∧∀ w',Below W.heap.size W w'→w'.cell? ⟨w.heap.size,0,none⟩=some (.int .i64 at_)∧w'.cell? ⟨w.heap.size,1,none⟩=some (.int .i64 bits)∧w'.cell? ⟨w.heap.size,2,none⟩=some (.int .i64 co)∧w'.cell? ⟨w.heap.size,3,none⟩=some (.int .i64 fi)∧w'.cell? ⟨w.heap.size,4,none⟩=some (.int .i64 cu)∧w'.cell? ⟨w.heap.size,5,none⟩=some (.int .i64 ho)∧w'.cell? ⟨w.heap.size,6,none⟩=some (.int .i64 lo)∧w'.cell? ⟨w.heap.size,7,none⟩=some (.int .i64 hi)∧w'.cell? ⟨w.heap.size,8,none⟩=some (.bool sn)∧w'.cell? ⟨w.heap.size,9,none⟩=some (.slice A n c):=by
 have hb:Below w.heap.size w W:=by rw [hW];exact (Below.refl _ w).alloc (Nat.le_refl _) _
 have hs:w.heap.size<W.heap.size:=by rw [hW];simp
 refine ⟨hb,fun w' h=>?_⟩
 have key:∀ j u,#[Value.int .i64 at_,.int .i64 bits,.int .i64 co,.int .i64 fi,.int .i64 cu,.int .i64 ho,.int .i64 lo,.int .i64 hi,.bool sn,.slice A n c][j]? = some u→w'.cell? ⟨w.heap.size,j,none⟩=some u:=fun j u hu=>by
  refine (h.cell (p:=⟨w.heap.size,j,none⟩) hs).trans ?_;rw [hW,World.cell?_alloc_new];exact hu
 exact ⟨key 0 _ rfl,key 1 _ rfl,key 2 _ rfl,key 3 _ rfl,key 4 _ rfl,key 5 _ rfl,key 6 _ rfl,key 7 _ rfl,key 8 _ rfl,key 9 _ rfl⟩
theorem qgs (f:FC) (w:World):Calls prog 213 #[f.val] w fun e w'=>e=.returned (.int .i64 (bitsV f.bits))∧Below w.heap.size w w':=by
 obtain ⟨at_,bits,co,fi,cu,ho,lo,hi,sn,A,n,c⟩:=f
 show Calls prog 213 #[.agg #[.int .i64 at_,.int .i64 bits,.int .i64 co,.int .i64 fi,.int .i64 cu,.int .i64 ho,.int .i64 lo,.int .i64 hi,.bool sn,.slice A n c]] w fun e w'=>e=.returned (.int .i64 (bitsV bits))∧Below w.heap.size w w'
 unfold bitsV;have hb:∀ o,Below w.heap.size w (w.alloc o):=fun o=>(Below.refl _ w).alloc (Nat.le_refl _) _
 by_cases h8:bits=8
 ·rw [if_neg (by omega)]
  subst h8
  go_enter func213,ntmps213
  go_wp2_with fail;go_ret;exact ⟨rfl,hb _⟩
 ·have e8:(bits == 8)=false:=by simpa using h8
  by_cases h16:bits=16
  ·rw [if_neg (by omega)]
   subst h16
   go_enter func213,ntmps213
   go_wp2_with fail;go_ret;exact ⟨rfl,hb _⟩
  ·have e16:(bits == 16)=false:=by simpa using h16
   rw [if_pos ⟨h8,h16⟩];have n8:(bits != 8)=true:=by rw [bne,e8];rfl
   have n16:(bits != 16)=true:=by rw [bne,e16];rfl
   go_enter func213,ntmps213
   go_wp2_with fail;go_ret;exact ⟨rfl,hb _⟩
theorem qhq (P:Nat) (ho:Int) (w:World) (c5:w.cell? ⟨P,5,none⟩=some (.int .i64 ho)) :
  Calls prog 311 #[.pointer (some ⟨P,0,none⟩)] w fun e w'=>e=.returned (.bool (!decide (isLev ho)))∧Below w.heap.size w w':=by
 have hB:=Below.refl w.heap.size w;have HN:=hj_ (fun w=>qi0 ho w)
 generalize decide (isLev ho)=b at *
 go_enter func311,ntmps311
 go_wp2_with fail;refine uq_ (HN.out _) hB ?_;clear hB;intro wk hB;go_wp2_with fail;go_ret;exact ⟨rfl,hB⟩
theorem qhr (P:Nat) (bits lo hi:Int) (w:World) (hb:bits=8∨bits=16) (c1:w.cell? ⟨P,1,none⟩=some (.int .i64 bits)) (c6:w.cell? ⟨P,6,none⟩=some (.int .i64 lo)) (c7:w.cell? ⟨P,7,none⟩=some (.int .i64 hi)) :
  Calls prog 313 #[.pointer (some ⟨P,0,none⟩)] w fun e w'=>e=.returned (.bool (decide (lo<0∨hi<lo∨topV bits<hi)))∧Below w.heap.size w w':=by
 have hB:=Below.refl w.heap.size w;rw [show decide (lo<0∨hi<lo∨topV bits<hi)=(decide (lo<0) || decide (hi<lo) || decide (topV bits<hi)) by simp [Bool.or_assoc]]
 by_cases h1:lo<0
 ·rw [decide_eq_true h1]
  go_enter func313,ntmps313
  go_wp2_with fail;go_quiet (fail);go_wp2;go_ret;exact ⟨ret_b (by simp),by (repeat' first | exact br_ | assumption | apply Below.drew | apply q18 | refine Below.alloc ?_ ?_ _ | refine Below.setCell ?_ ?_ _ | refine Below.trans ?_ (Below.mono ‹_› ?_) | omega | (simp;omega) | simp)⟩
 ·rw [decide_eq_false h1]
  by_cases h2:hi<lo
  ·rw [decide_eq_true h2]
   go_enter func313,ntmps313
   go_wp2_with fail;go_quiet (fail);go_wp2;go_ret;exact ⟨ret_b (by simp),by (repeat' first | exact br_ | assumption | apply Below.drew | apply q18 | refine Below.alloc ?_ ?_ _ | refine Below.setCell ?_ ?_ _ | refine Below.trans ?_ (Below.mono ‹_› ?_) | omega | (simp;omega) | simp)⟩
  ·rw [decide_eq_false h2]
   rcases hb with rfl | rfl
   ·rw [show topV 8=255 from rfl]
    go_enter func313,ntmps313
    go_wp2_with fail;go_quiet (fail);go_wp2;go_ret;exact ⟨ret_b (by rw [show IntKind.i64.wrap (IntKind.i64.wrap 256-1)=255 by decide,decide_eq_false (show ¬ lo<0 by omega),decide_eq_false (show ¬ hi<lo by omega)]),by (repeat' first | exact br_ | assumption | apply Below.drew | apply q18 | refine Below.alloc ?_ ?_ _ | refine Below.setCell ?_ ?_ _ | refine Below.trans ?_ (Below.mono ‹_› ?_) | omega | (simp;omega) | simp)⟩
   ·rw [show topV 16=65535 from rfl]
    go_enter func313,ntmps313
    go_wp2_with fail;go_quiet (fail);go_wp2;go_ret;exact ⟨ret_b (by rw [show IntKind.i64.wrap (IntKind.i64.wrap 65536-1)=65535 by decide,decide_eq_false (show ¬ lo<0 by omega),decide_eq_false (show ¬ hi<lo by omega)]),by (repeat' first | exact br_ | assumption | apply Below.drew | apply q18 | refine Below.alloc ?_ ?_ _ | refine Below.setCell ?_ ?_ _ | refine Below.trans ?_ (Below.mono ‹_› ?_) | omega | (simp;omega) | simp)⟩
def FW (w:World) (f:FC) (wl:List Slt):Prop:=shS.In w f.A f.n wl∧(f.n≤f.c∧f.c≤9223372036854775807)∧∀ x ∈ wl,x.s.size≤9223372036854775807
theorem FW.below {w w':World} {f:FC} {wl:List Slt} (h:FW w f wl) (hb:Below w.heap.size w w'):FW w' f wl:=⟨h.1.below hb,h.2⟩
theorem q1e {b:Int} (h:bitsV b=0):b=8∨b=16:=by
 unfold bitsV at h
 by_cases h1:b≠8∧b≠16
 ·rw [if_pos h1] at h;exact absurd h (by decide)
 ·omega
theorem qgp (f:FC) (wl:List Slt) (g1 g2:Nat) (c1 c2:Array Value) :
  partsE (f.fea wl)=if firstU [⟨g1,c1,2,!decide (isLev f.ho)⟩,⟨g2,c2,2,decide (f.lo<0∨f.hi<f.lo∨topV f.bits<f.hi)⟩]≠0 then firstU [⟨g1,c1,2,!decide (isLev f.ho)⟩,⟨g2,c2,2,decide (f.lo<0∨f.hi<f.lo∨topV f.bits<f.hi)⟩] else wheelE wl:=by
 unfold partsE FC.fea;simp only [firstU]
 by_cases h1:isLev f.ho
 ·rw [decide_eq_true h1]
  by_cases h2:f.lo<0∨f.hi<f.lo∨topV f.bits<f.hi
  ·rw [decide_eq_true h2,if_pos (.inr h2)];simp
  ·rw [decide_eq_false h2,if_neg (by rintro (h | h);exact h h1;exact h2 h)];simp
 ·rw [decide_eq_false h1,if_pos (.inl h1)];simp
theorem qht (f:FC) (wl:List Slt) (w:World) (hw:FW w f wl) (hb:f.bits=8∨f.bits=16) :
  Calls prog 272 #[f.val] w fun e w'=>e=.returned (.int .i64 (partsE (f.fea wl)))∧Below w.heap.size w w':=by
 have HR:=hj_ (fun c1 c2=>qgp f wl 311 313 c1 c2)
 obtain ⟨E,hE⟩:∃ E,partsE (f.fea wl)=E:=⟨_,rfl⟩;rw [hE] at HR ⊢;obtain ⟨at_,bits,co,fi,cu,ho,lo,hi,sn,A,n,c⟩:=f
 show Calls prog 272 #[.agg #[.int .i64 at_,.int .i64 bits,.int .i64 co,.int .i64 fi,.int .i64 cu,.int .i64 ho,.int .i64 lo,.int .i64 hi,.bool sn,.slice A n c]] w fun e w'=>e=.returned (.int .i64 E)∧Below w.heap.size w w'
 replace HR:=hj_ (HR.out #[.pointer (some ⟨w.heap.size,0,none⟩)] #[.pointer (some ⟨w.heap.size,0,none⟩)]);obtain ⟨W,hW⟩:∃ W,W=w.alloc (.cells #[.int .i64 at_,.int .i64 bits,.int .i64 co,.int .i64 fi,.int .i64 cu,.int .i64 ho,.int .i64 lo,.int .i64 hi,.bool sn,.slice A n c] 114):=⟨_,rfl⟩
 obtain ⟨hB0,hK⟩:=fbox at_ bits co fi cu ho lo hi sn A n c w W hW
 have HK:=hj_ hK;have HW:=hj_ hW;have HB0:=hj_ hB0;have hB:=Below.refl W.heap.size W;obtain ⟨c0,c1,c2,c3,c4,c5,c6,c7,c8,c9⟩:=hK W hB;clear hW hB0 hK;have HF:=hj_ (qhh [⟨311,#[.pointer (some ⟨w.heap.size,0,none⟩)],2,!decide (isLev ho)⟩,⟨313,#[.pointer (some ⟨w.heap.size,0,none⟩)],2,decide (lo<0∨hi<lo∨topV bits<hi)⟩] 2 W rfl (by decide)
  (fun i h args w=>by
   match i,h with
   | 0,_=>exact enters_of func311 (by kernel_rfl) rfl args w
   | 1,_=>exact enters_of func313 (by kernel_rfl) rfl args w)
  (fun i h W' _ hb'=>by
   obtain ⟨c0,c1,c2,c3,c4,c5,c6,c7,c8,c9⟩:=HK.out W' hb'
   match i,h with
   | 0,_=>exact qhq _ ho W' c5
   | 1,_=>exact qhr _ bits lo hi W' hb c1 c6 c7))
 have HWh:=hj_ (fun w hl=>qja A n c wl w hl hw.2.1)
 have HL:=hj_ (hw.1.below HB0.out);have HsW:W.heap.size=w.heap.size+1:=by rw [HW.out];simp
 have HR':=HR.out;clear HR hE hw hb;generalize firstU [⟨311,#[.pointer (some ⟨w.heap.size,0,none⟩)],2,!decide (isLev ho)⟩,⟨313,#[.pointer (some ⟨w.heap.size,0,none⟩)],2,decide (lo<0∨hi<lo∨topV bits<hi)⟩]=q at *
 by_cases hq:q=0
 ·rw [if_neg (fun h=>h hq)] at HR'
  subst hq;rw [← HR'] at HWh;clear HR';have HsW:=hj_ HsW
  go_enter func272,ntmps272
  go_wp2_with fail;rw [← HW.out,← HsW.out];refine HF.out.mono ?_;rintro e wk ⟨rfl,hb⟩;replace hB:=ht_ hB hb;clear hb;obtain ⟨c0,c1,c2,c3,c4,c5,c6,c7,c8,c9⟩:=HK.out _ hB;go_wp2_with fail;refine uq_ (HWh.out _ (HL.out.below hB)) hB ?_;clear hB;intro wk hB;obtain ⟨c0,c1,c2,c3,c4,c5,c6,c7,c8,c9⟩:=HK.out _ hB;go_wp2_with fail;go_ret;exact ⟨rfl,ht_ HB0.out hB⟩
 ·rw [if_pos hq] at HR'
  subst HR';have HsW:=hj_ HsW;have g1:(E == 0)=false:=by simpa using hq
  have g2:(E != 0)=true:=by simpa using hq
  clear hq
  go_enter func272,ntmps272
  go_wp2_with fail;rw [← HW.out,← HsW.out];refine HF.out.mono ?_;rintro e wk ⟨rfl,hb⟩;replace hB:=ht_ hB hb;clear hb;go_wp2_with fail;go_ret;exact ⟨rfl,ht_ HB0.out hB⟩
end

section
open Go.RowKit
theorem qhs (f:FC) (wl:List Slt) (k:Nat) (w:World) (hw:FW w f wl) (hb:f.bits=8∨f.bits=16) :
  Calls prog 222 #[f.val,.int .i64 k] w fun e w'=>e=.returned (.int .i64 (innerE (f.fea wl) k))∧Below w.heap.size w w':=by
 have HI0:=hj_ (fun w hw=>qht f wl w hw hb)
 obtain ⟨Q,hQ⟩:∃ Q,partsE (f.fea wl)=Q:=⟨_,rfl⟩;rw [hQ] at HI0;obtain ⟨at_,bits,co,fi,cu,ho,lo,hi,sn,A,n,c⟩:=f
 have hE:innerE (FC.fea ⟨at_,bits,co,fi,cu,ho,lo,hi,sn,A,n,c⟩ wl) k=if cu<0∨(k:Int)<cu then 6 else Q:=by unfold innerE;rw [hQ];rfl
 rw [hE];show Calls prog 222 #[.agg #[.int .i64 at_,.int .i64 bits,.int .i64 co,.int .i64 fi,.int .i64 cu,.int .i64 ho,.int .i64 lo,.int .i64 hi,.bool sn,.slice A n c],.int .i64 k] w fun e w'=>e=.returned (.int .i64 (if cu<0∨(k:Int)<cu then 6 else Q))∧Below w.heap.size w w'
 have HI:=hj_ (show ∀ w',FW w' ⟨at_,bits,co,fi,cu,ho,lo,hi,sn,A,n,c⟩ wl→Calls prog 272 #[.agg #[.int .i64 at_,.int .i64 bits,.int .i64 co,.int .i64 fi,.int .i64 cu,.int .i64 ho,.int .i64 lo,.int .i64 hi,.bool sn,.slice A n c]] w' fun e w''=>e=.returned (.int .i64 Q)∧Below w'.heap.size w' w'' from HI0.out)
 clear HI0 hE hQ;obtain ⟨W,hW⟩:∃ W,W=w.alloc (.cells #[.int .i64 at_,.int .i64 bits,.int .i64 co,.int .i64 fi,.int .i64 cu,.int .i64 ho,.int .i64 lo,.int .i64 hi,.bool sn,.slice A n c] 114):=⟨_,rfl⟩
 obtain ⟨hB0,hK⟩:=fbox at_ bits co fi cu ho lo hi sn A n c w W hW
 have HK:=hj_ hK;have HW:=hj_ hW;have HB0:=hj_ hB0;have hB:=Below.refl W.heap.size W;obtain ⟨c0,c1,c2,c3,c4,c5,c6,c7,c8,c9⟩:=hK W hB;clear hW hB0 hK;have HL:=hj_ (hw.below HB0.out);clear hw hb
 by_cases h1:cu<0
 ·rw [if_pos (.inl h1)]
  go_enter func222,ntmps222
  go_wp2_with fail;rw [← HW.out];go_wp2_with fail;go_ret;exact ⟨rfl,ht_ HB0.out hB⟩
 ·by_cases h2:(k:Int)<cu
  ·rw [if_pos (.inr h2)]
   go_enter func222,ntmps222
   go_wp2_with fail;rw [← HW.out];go_wp2_with fail;go_ret;exact ⟨rfl,ht_ HB0.out hB⟩
  ·rw [if_neg (by omega)]
   go_enter func222,ntmps222
   go_wp2_with fail;rw [← HW.out];refine uq_ (HI.out _ (HL.out.below hB)) hB ?_;clear hB;intro wk hB;obtain ⟨c0,c1,c2,c3,c4,c5,c6,c7,c8,c9⟩:=HK.out _ hB;go_wp2_with fail;go_ret;exact ⟨rfl,ht_ HB0.out hB⟩
theorem qgr (f:FC) (wl:List Slt) (w:World) (hw:FW w f wl) :
  Calls prog 269 #[f.val] w fun e w'=>e=.returned (.int .i64 (bareE (f.fea wl)))∧Below w.heap.size w w':=by
 have HI0:=hj_ (fun w hw hb=>qht f wl w hw hb)
 have HB1:=hj_ (fun w=>qgs f w)
 obtain ⟨Q,hQ⟩:∃ Q,partsE (f.fea wl)=Q:=⟨_,rfl⟩;rw [hQ] at HI0;obtain ⟨at_,bits,co,fi,cu,ho,lo,hi,sn,A,n,c⟩:=f
 have hE:bareE (FC.fea ⟨at_,bits,co,fi,cu,ho,lo,hi,sn,A,n,c⟩ wl)=if bitsV bits≠0 then bitsV bits else Q:=by unfold bareE;rw [hQ];rfl
 rw [hE];show Calls prog 269 #[.agg #[.int .i64 at_,.int .i64 bits,.int .i64 co,.int .i64 fi,.int .i64 cu,.int .i64 ho,.int .i64 lo,.int .i64 hi,.bool sn,.slice A n c]] w fun e w'=>e=.returned (.int .i64 (if bitsV bits≠0 then bitsV bits else Q))∧Below w.heap.size w w'
 have HI:=hj_ (show ∀ w',FW w' ⟨at_,bits,co,fi,cu,ho,lo,hi,sn,A,n,c⟩ wl→bits=8∨bits=16→Calls prog 272 #[.agg #[.int .i64 at_,.int .i64 bits,.int .i64 co,.int .i64 fi,.int .i64 cu,.int .i64 ho,.int .i64 lo,.int .i64 hi,.bool sn,.slice A n c]] w' fun e w''=>e=.returned (.int .i64 Q)∧Below w'.heap.size w' w'' from HI0.out)
 have HBi:=hj_ (show ∀ w',Calls prog 213 #[.agg #[.int .i64 at_,.int .i64 bits,.int .i64 co,.int .i64 fi,.int .i64 cu,.int .i64 ho,.int .i64 lo,.int .i64 hi,.bool sn,.slice A n c]] w' fun e w''=>e=.returned (.int .i64 (bitsV bits))∧Below w'.heap.size w' w'' from HB1.out)
 clear HI0 HB1 hE hQ;obtain ⟨W,hW⟩:∃ W,W=w.alloc (.cells #[.int .i64 at_,.int .i64 bits,.int .i64 co,.int .i64 fi,.int .i64 cu,.int .i64 ho,.int .i64 lo,.int .i64 hi,.bool sn,.slice A n c] 114):=⟨_,rfl⟩
 obtain ⟨hB0,hK⟩:=fbox at_ bits co fi cu ho lo hi sn A n c w W hW
 have HK:=hj_ hK;have HW:=hj_ hW;have HB0:=hj_ hB0;have hB:=Below.refl W.heap.size W;obtain ⟨c0,c1,c2,c3,c4,c5,c6,c7,c8,c9⟩:=hK W hB;clear hW hB0 hK;have HL:=hj_ (hw.below HB0.out);have hbo:=hj_ (fun h=>q1e (b:=bits) h)
 clear hw;generalize bitsV bits=q at *
 by_cases hq:q=0
 ·subst hq
  have HBo:=hj_ (hbo.out rfl);rw [if_neg (fun h=>h rfl)]
  go_enter func269,ntmps269
  go_wp2_with fail;rw [← HW.out];refine uq_ (HBi.out _) hB ?_;clear hB;intro wk hB;obtain ⟨c0,c1,c2,c3,c4,c5,c6,c7,c8,c9⟩:=HK.out _ hB;go_wp2_with fail;refine uq_ (HI.out _ (HL.out.below hB) HBo.out) hB ?_;clear hB;intro wk hB;obtain ⟨c0,c1,c2,c3,c4,c5,c6,c7,c8,c9⟩:=HK.out _ hB;go_wp2_with fail;go_ret;exact ⟨rfl,ht_ HB0.out hB⟩
 ·rw [if_pos hq]
  have g1:(q == 0)=false:=by simpa using hq
  have g2:(q != 0)=true:=by simpa using hq
  clear hq
  go_enter func269,ntmps269
  go_wp2_with fail;rw [← HW.out];refine uq_ (HBi.out _) hB ?_;clear hB;intro wk hB;obtain ⟨c0,c1,c2,c3,c4,c5,c6,c7,c8,c9⟩:=HK.out _ hB;go_wp2_with fail;go_ret;exact ⟨rfl,ht_ HB0.out hB⟩
theorem qgi (f:FC) (wl:List Slt) (A':Option Addr) (n' c':Nat) (H:List Hd) (L:List (List PT)) (w:World) (hw:FW w f wl) (hl:InN w A' n' H L) (hm:∀ h ∈ H,h.n≤9223372036854775807) :
  Calls prog 263 #[f.val,.slice A' n' c'] w fun e w'=>e=.returned (.int .i64 (aloneE (f.fea wl) L))∧Below w.heap.size w w':=by
 have HI0:=hj_ (fun w hw hb=>qhs f wl n' w hw hb)
 have HB1:=hj_ (fun w=>qgs f w)
 have HCu:=hj_ (fun w hl=>qh5 A' n' c' H L w hl hm)
 have hn:L.length=n':=by rw [hl.1.1,hl.2.1]
 obtain ⟨Q,hQ⟩:∃ Q,innerE (f.fea wl) n' = Q:=⟨_,rfl⟩;rw [hQ] at HI0;obtain ⟨at_,bits,co,fi,cu,ho,lo,hi,sn,A,n,c⟩:=f
 have hE:aloneE (FC.fea ⟨at_,bits,co,fi,cu,ho,lo,hi,sn,A,n,c⟩ wl) L=if errA L≠0 then errA L else if bitsV bits≠0 then bitsV bits else Q:=by unfold aloneE;rw [hn,hQ];rfl
 rw [hE];show Calls prog 263 #[.agg #[.int .i64 at_,.int .i64 bits,.int .i64 co,.int .i64 fi,.int .i64 cu,.int .i64 ho,.int .i64 lo,.int .i64 hi,.bool sn,.slice A n c],.slice A' n' c'] w fun e w'=>e=.returned (.int .i64 (if errA L≠0 then errA L else if bitsV bits≠0 then bitsV bits else Q))∧Below w.heap.size w w'
 have HI:=hj_ (show ∀ w',FW w' ⟨at_,bits,co,fi,cu,ho,lo,hi,sn,A,n,c⟩ wl→bits=8∨bits=16→Calls prog 222 #[.agg #[.int .i64 at_,.int .i64 bits,.int .i64 co,.int .i64 fi,.int .i64 cu,.int .i64 ho,.int .i64 lo,.int .i64 hi,.bool sn,.slice A n c],.int .i64 n'] w' fun e w''=>e=.returned (.int .i64 Q)∧Below w'.heap.size w' w'' from HI0.out)
 have HBi:=hj_ (show ∀ w',Calls prog 213 #[.agg #[.int .i64 at_,.int .i64 bits,.int .i64 co,.int .i64 fi,.int .i64 cu,.int .i64 ho,.int .i64 lo,.int .i64 hi,.bool sn,.slice A n c]] w' fun e w''=>e=.returned (.int .i64 (bitsV bits))∧Below w'.heap.size w' w'' from HB1.out)
 clear HI0 HB1 hE hQ hn;obtain ⟨W,hW⟩:∃ W,W=w.alloc (.cells #[.int .i64 at_,.int .i64 bits,.int .i64 co,.int .i64 fi,.int .i64 cu,.int .i64 ho,.int .i64 lo,.int .i64 hi,.bool sn,.slice A n c] 114):=⟨_,rfl⟩
 obtain ⟨hB0,hK⟩:=fbox at_ bits co fi cu ho lo hi sn A n c w W hW
 have HK:=hj_ hK;have HW:=hj_ hW;have HB0:=hj_ hB0;have hB:=Below.refl W.heap.size W;obtain ⟨c0,c1,c2,c3,c4,c5,c6,c7,c8,c9⟩:=hK W hB;clear hW hB0 hK;have HL:=hj_ (hw.below HB0.out);have HL2:=hj_ (hl.below HB0.out);have hbo:=hj_ (fun h=>q1e (b:=bits) h)
 clear hw hl hm;generalize bitsV bits=q at *;generalize errA L=p at *
 by_cases hp:p=0
 ·subst hp
  rw [if_neg (fun h=>h rfl)]
  by_cases hq:q=0
  ·subst hq
   have HBo:=hj_ (hbo.out rfl);rw [if_neg (fun h=>h rfl)]
   go_enter func263,ntmps263
   go_wp2_with fail;rw [← HW.out];refine uq_ (HCu.out _ (HL2.out.below hB)) hB ?_;clear hB;intro wk hB;obtain ⟨c0,c1,c2,c3,c4,c5,c6,c7,c8,c9⟩:=HK.out _ hB;go_wp2_with fail;refine uq_ (HBi.out _) hB ?_;clear hB;intro wk hB;obtain ⟨c0,c1,c2,c3,c4,c5,c6,c7,c8,c9⟩:=HK.out _ hB;go_wp2_with fail;refine uq_ (HI.out _ (HL.out.below hB) HBo.out) hB ?_;clear hB;intro wk hB;obtain ⟨c0,c1,c2,c3,c4,c5,c6,c7,c8,c9⟩:=HK.out _ hB;go_wp2_with fail;go_ret;exact ⟨rfl,ht_ HB0.out hB⟩
  ·rw [if_pos hq]
   have g1:(q == 0)=false:=by simpa using hq
   have g2:(q != 0)=true:=by simpa using hq
   clear hq
   go_enter func263,ntmps263
   go_wp2_with fail;rw [← HW.out];refine uq_ (HCu.out _ (HL2.out.below hB)) hB ?_;clear hB;intro wk hB;obtain ⟨c0,c1,c2,c3,c4,c5,c6,c7,c8,c9⟩:=HK.out _ hB;go_wp2_with fail;refine uq_ (HBi.out _) hB ?_;clear hB;intro wk hB;obtain ⟨c0,c1,c2,c3,c4,c5,c6,c7,c8,c9⟩:=HK.out _ hB;go_wp2_with fail;go_ret;exact ⟨rfl,ht_ HB0.out hB⟩
 ·rw [if_pos hp]
  have g1:(p == 0)=false:=by simpa using hp
  have g2:(p != 0)=true:=by simpa using hp
  clear hp
  go_enter func263,ntmps263
  go_wp2_with fail;rw [← HW.out];refine uq_ (HCu.out _ (HL2.out.below hB)) hB ?_;clear hB;intro wk hB;obtain ⟨c0,c1,c2,c3,c4,c5,c6,c7,c8,c9⟩:=HK.out _ hB;go_wp2_with fail;go_ret;exact ⟨rfl,ht_ HB0.out hB⟩
end

section
open Go.RowKit
end

end Go.Proofs.YtabhjdmmfdfpeaaGreatDoor
