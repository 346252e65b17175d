/- Lemmas. -/
import Derived.Test.YtabhjdmmfdfpeaaGreatDoorKProA
import Derived.Test.YtabhjdmmfdfpeaaGreatDoorKUp
namespace Go.Proofs.YtabhjdmmfdfpeaaGreatDoor
set_option maxHeartbeats 32000000
open _root_.Go.Proofs.Tryz
open Go.RowKit
def FC.val (f:FC):Value:=.agg #[.int .i64 f.at_,.int .i64 f.bits,.int .i64 f.co,.int .i64 f.fi,.int .i64 f.cu,.int .i64 f.ho,.int .i64 f.lo,.int .i64 f.hi,.bool f.sn,.slice f.A f.n f.c]
theorem fbox (at_ bits co fi cu ho lo hi:Int) (sn:Bool) (A:Option Addr) (n c:Nat) (w W:World) (hW:W=w.alloc (.cells #[.int .i64 at_,.int .i64 bits,.int .i64 co,.int .i64 fi,.int .i64 cu,.int .i64 ho,.int .i64 lo,.int .i64 hi,.bool sn,.slice A n c] 114)) :
  Below w.heap.size w W∧∀ w',Below W.heap.size W w'→w'.cell? ⟨w.heap.size,0,none⟩=some (.int .i64 at_)∧w'.cell? ⟨w.heap.size,1,none⟩=some (.int .i64 bits)∧w'.cell? ⟨w.heap.size,2,none⟩=some (.int .i64 co)∧w'.cell? ⟨w.heap.size,3,none⟩=some (.int .i64 fi)∧w'.cell? ⟨w.heap.size,4,none⟩=some (.int .i64 cu)∧w'.cell? ⟨w.heap.size,5,none⟩=some (.int .i64 ho)∧w'.cell? ⟨w.heap.size,6,none⟩=some (.int .i64 lo)∧w'.cell? ⟨w.heap.size,7,none⟩=some (.int .i64 hi)∧w'.cell? ⟨w.heap.size,8,none⟩=some (.bool sn)∧w'.cell? ⟨w.heap.size,9,none⟩=some (.slice A n c):=by
 have hb:Below w.heap.size w W:=by rw [hW];exact (Below.refl _ w).alloc lr_ _
 have hs:w.heap.size<W.heap.size:=by rw [hW];simp
 refine ⟨hb,fun w' h=>?_⟩
 have key:∀ j u,#[Value.int .i64 at_,.int .i64 bits,.int .i64 co,.int .i64 fi,.int .i64 cu,.int .i64 ho,.int .i64 lo,.int .i64 hi,.bool sn,.slice A n c][j]? = some u→w'.cell? ⟨w.heap.size,j,none⟩=some u:=fun j u hu=>by
  refine (h.cell (p:=⟨w.heap.size,j,none⟩) hs).trans ?_;rw [hW,World.cell?_alloc_new];exact hu
 exact ⟨key 0 _ rfl,key 1 _ rfl,key 2 _ rfl,key 3 _ rfl,key 4 _ rfl,key 5 _ rfl,key 6 _ rfl,key 7 _ rfl,key 8 _ rfl,key 9 _ rfl⟩
theorem qgs (f:FC) (w:World):Rt 213 #[f.val] w (.int .i64 (bitsV f.bits)):=by
 obtain ⟨at_,bits,co,fi,cu,ho,lo,hi,sn,A,n,c⟩:=f
 show Rt 213 #[.agg #[.int .i64 at_,.int .i64 bits,.int .i64 co,.int .i64 fi,.int .i64 cu,.int .i64 ho,.int .i64 lo,.int .i64 hi,.bool sn,.slice A n c]] w (.int .i64 (bitsV bits))
 unfold bitsV;have hb:∀ o,Below w.heap.size w (w.alloc o):=fun o=>(Below.refl _ w).alloc lr_ _
 by_cases h8:bits=8
 ·rw [if_neg o_]
  subst h8
  go_enter func213,ntmps213
  go_wp2_with fail;go_ret;exact ⟨rfl,hb _⟩
 ·have e8:(bits == 8)=false:=by simpa using h8
  by_cases h16:bits=16
  ·rw [if_neg o_]
   subst h16
   go_enter func213,ntmps213
   go_wp2_with fail;go_ret;exact ⟨rfl,hb _⟩
  ·have e16:(bits == 16)=false:=by simpa using h16
   rw [if_pos ⟨h8,h16⟩];have n8:(bits != 8)=true:=by rw [bne,e8];rfl
   have n16:(bits != 16)=true:=by rw [bne,e16];rfl
   go_enter func213,ntmps213
   go_wp2_with fail;go_ret;exact ⟨rfl,hb _⟩
theorem qhq (P:Nat) (ho:Int) (w:World) (c5:w.cell? ⟨P,5,none⟩=some (.int .i64 ho)) :
  Rt 311 #[.pointer (some ⟨P,0,none⟩)] w (.bool (!decide (isLev ho))):=by
 have hB:=Below.refl w.heap.size w;have HN:=hj_ (fun w=>qi0 ho w)
 generalize decide (isLev ho)=b at *
 go_enter func311,ntmps311
 go_wp2_with fail;refine uq_ (HN.out _) hB fun wk hB=>?_;go_wp2_with fail;go_ret;exact ⟨rfl,hB⟩
theorem qhr (P:Nat) (bits lo hi:Int) (w:World) (hb:bits=8∨bits=16) (c1:w.cell? ⟨P,1,none⟩=some (.int .i64 bits)) (c6:w.cell? ⟨P,6,none⟩=some (.int .i64 lo)) (c7:w.cell? ⟨P,7,none⟩=some (.int .i64 hi)) :
  Rt 313 #[.pointer (some ⟨P,0,none⟩)] w (.bool (decide (lo<0∨hi<lo∨topV bits<hi))):=by
 have hB:=Below.refl w.heap.size w;rw [show decide (lo<0∨hi<lo∨topV bits<hi)=(decide (lo<0) || decide (hi<lo) || decide (topV bits<hi)) by simp [Bool.or_assoc]]
 by_cases h1:lo<0
 ·rw [decide_eq_true h1]
  go_enter func313,ntmps313
  go_wp2_with fail;go_quiet (fail);go_wp2;go_ret;exact ⟨ret_b s_,bz_⟩
 ·rw [decide_eq_false h1]
  by_cases h2:hi<lo
  ·rw [decide_eq_true h2]
   go_enter func313,ntmps313
   go_wp2_with fail;go_quiet (fail);go_wp2;go_ret;exact ⟨ret_b s_,bz_⟩
  ·rw [decide_eq_false h2]
   rcases hb with rfl | rfl
   ·rw [show topV 8=255 from rfl]
    go_enter func313,ntmps313
    go_wp2_with fail;go_quiet (fail);go_wp2;go_ret;exact ⟨ret_b (by rw [show IntKind.i64.wrap (IntKind.i64.wrap 256-1)=255 by decide,decide_eq_false (show ¬ lo<0 by omega),decide_eq_false (show ¬ hi<lo by omega)]),bz_⟩
   ·rw [show topV 16=65535 from rfl]
    go_enter func313,ntmps313
    go_wp2_with fail;go_quiet (fail);go_wp2;go_ret;exact ⟨ret_b (by rw [show IntKind.i64.wrap (IntKind.i64.wrap 65536-1)=65535 by decide,decide_eq_false (show ¬ lo<0 by omega),decide_eq_false (show ¬ hi<lo by omega)]),bz_⟩
def FW (w:World) (f:FC) (wl:List Slt):Prop:=shS.In w f.A f.n wl∧(f.n≤f.c∧f.c≤9223372036854775807)∧∀ x ∈ wl,x.s.size≤9223372036854775807
theorem FW.below {w w':World} {f:FC} {wl:List Slt} (h:FW w f wl) (hb:Below w.heap.size w w'):FW w' f wl:=⟨h.1.below hb,h.2⟩
theorem q1e {b:Int} (h:bitsV b=0):b=8∨b=16:=by
 unfold bitsV at h
 by_cases h1:b≠8∧b≠16
 ·rw [if_pos h1] at h;exact absurd h d_
 ·omega
theorem qgp (f:FC) (wl:List Slt) (g1 g2:Nat) (c1 c2:Array Value) :
  partsE (f.fea wl)=if firstU [⟨g1,c1,2,!decide (isLev f.ho)⟩,⟨g2,c2,2,decide (f.lo<0∨f.hi<f.lo∨topV f.bits<f.hi)⟩]≠0 then firstU [⟨g1,c1,2,!decide (isLev f.ho)⟩,⟨g2,c2,2,decide (f.lo<0∨f.hi<f.lo∨topV f.bits<f.hi)⟩] else wheelE wl:=by
 unfold partsE FC.fea;simp only [firstU]
 by_cases h1:isLev f.ho
 ·rw [decide_eq_true h1]
  by_cases h2:f.lo<0∨f.hi<f.lo∨topV f.bits<f.hi
  ·rw [decide_eq_true h2,if_pos (.inr h2)];simp
  ·rw [decide_eq_false h2,if_neg (by rintro (h | h);exact h h1;exact h2 h)];simp
 ·rw [decide_eq_false h1,if_pos (.inl h1)];simp
theorem qht (f:FC) (wl:List Slt) (w:World) (hw:FW w f wl) (hb:f.bits=8∨f.bits=16) :
  Rt 272 #[f.val] w (.int .i64 (partsE (f.fea wl))):=by
 have HR:=hj_ (fun c1 c2=>qgp f wl 311 313 c1 c2)
 obtain ⟨E,hE⟩:=xe_ (partsE (f.fea wl));rw [hE] at HR ⊢;obtain ⟨at_,bits,co,fi,cu,ho,lo,hi,sn,A,n,c⟩:=f
 show Rt 272 #[.agg #[.int .i64 at_,.int .i64 bits,.int .i64 co,.int .i64 fi,.int .i64 cu,.int .i64 ho,.int .i64 lo,.int .i64 hi,.bool sn,.slice A n c]] w (.int .i64 E)
 replace HR:=hj_ (HR.out #[.pointer (some ⟨w.heap.size,0,none⟩)] #[.pointer (some ⟨w.heap.size,0,none⟩)]);obtain ⟨W,hW⟩:=ex_ (w.alloc (.cells #[.int .i64 at_,.int .i64 bits,.int .i64 co,.int .i64 fi,.int .i64 cu,.int .i64 ho,.int .i64 lo,.int .i64 hi,.bool sn,.slice A n c] 114))
 obtain ⟨hB0,hK⟩:=fbox at_ bits co fi cu ho lo hi sn A n c w W hW
 have HK:=hj_ hK;have HW:=hj_ hW;have HB0:=hj_ hB0;have hB:=Below.refl W.heap.size W;obtain ⟨c0,c1,c2,c3,c4,c5,c6,c7,c8,c9⟩:=hK W hB;clear hW hB0 hK;have HF:=hj_ (qhh [⟨311,#[.pointer (some ⟨w.heap.size,0,none⟩)],2,!decide (isLev ho)⟩,⟨313,#[.pointer (some ⟨w.heap.size,0,none⟩)],2,decide (lo<0∨hi<lo∨topV bits<hi)⟩] 2 W rfl d_
  (fun i h args w=>by
   match i,h with
   | 0,_=>exact enters_of func311 k_ rfl args w
   | 1,_=>exact enters_of func313 k_ rfl args w)
  (fun i h W' _ hb'=>by
   obtain ⟨c0,c1,c2,c3,c4,c5,c6,c7,c8,c9⟩:=HK.out W' hb'
   match i,h with
   | 0,_=>exact qhq _ ho W' c5
   | 1,_=>exact qhr _ bits lo hi W' hb c1 c6 c7))
 have HWh:=hj_ (fun w hl=>qja A n c wl w hl hw.2.1)
 have HL:=hj_ (hw.1.below HB0.out);have HsW:W.heap.size=w.heap.size+1:=by rw [HW.out];simp
 have HR':=HR.out;clear HR hE hw hb;generalize firstU [⟨311,#[.pointer (some ⟨w.heap.size,0,none⟩)],2,!decide (isLev ho)⟩,⟨313,#[.pointer (some ⟨w.heap.size,0,none⟩)],2,decide (lo<0∨hi<lo∨topV bits<hi)⟩]=q at *
 by_cases hq:q=0
 ·rw [if_neg (fun h=>h hq)] at HR'
  subst hq;rw [← HR'] at HWh;clear HR';have HsW:=hj_ HsW
  go_enter func272,ntmps272
  go_wp2_with fail;rw [← HW.out,← HsW.out];refine HF.out.mono ?_;rintro e wk ⟨rfl,hb⟩;replace hB:=ht_ hB hb;clear hb;obtain ⟨c0,c1,c2,c3,c4,c5,c6,c7,c8,c9⟩:=HK.out _ hB;go_wp2_with fail;refine uq_ (HWh.out _ (HL.out.below hB)) hB fun wk hB=>?_;obtain ⟨c0,c1,c2,c3,c4,c5,c6,c7,c8,c9⟩:=HK.out _ hB;go_wp2_with fail;go_ret;exact ⟨rfl,ht_ HB0.out hB⟩
 ·rw [if_pos hq] at HR'
  subst HR';have HsW:=hj_ HsW;have g1:(E == 0)=false:=by simpa using hq
  have g2:(E != 0)=true:=by simpa using hq
  clear hq
  go_enter func272,ntmps272
  go_wp2_with fail;rw [← HW.out,← HsW.out];refine HF.out.mono ?_;rintro e wk ⟨rfl,hb⟩;replace hB:=ht_ hB hb;clear hb;go_wp2_with fail;go_ret;exact ⟨rfl,ht_ HB0.out hB⟩
theorem qhs (f:FC) (wl:List Slt) (k:Nat) (w:World) (hw:FW w f wl) (hb:f.bits=8∨f.bits=16) :
  Rt 222 #[f.val,.int .i64 k] w (.int .i64 (innerE (f.fea wl) k)):=by
 have HI0:=hj_ (fun w hw=>qht f wl w hw hb)
 obtain ⟨Q,hQ⟩:=xe_ (partsE (f.fea wl));rw [hQ] at HI0;obtain ⟨at_,bits,co,fi,cu,ho,lo,hi,sn,A,n,c⟩:=f
 have hE:innerE (FC.fea ⟨at_,bits,co,fi,cu,ho,lo,hi,sn,A,n,c⟩ wl) k=if cu<0∨(k:Int)<cu then 6 else Q:=by unfold innerE;rw [hQ];rfl
 rw [hE];show Rt 222 #[.agg #[.int .i64 at_,.int .i64 bits,.int .i64 co,.int .i64 fi,.int .i64 cu,.int .i64 ho,.int .i64 lo,.int .i64 hi,.bool sn,.slice A n c],.int .i64 k] w (.int .i64 (if cu<0∨(k:Int)<cu then 6 else Q))
 have HI:=hj_ (show ∀ w',FW w' ⟨at_,bits,co,fi,cu,ho,lo,hi,sn,A,n,c⟩ wl→Calls prog 272 #[.agg #[.int .i64 at_,.int .i64 bits,.int .i64 co,.int .i64 fi,.int .i64 cu,.int .i64 ho,.int .i64 lo,.int .i64 hi,.bool sn,.slice A n c]] w' fun e w''=>e=.returned (.int .i64 Q)∧Below w'.heap.size w' w'' from HI0.out)
 clear HI0 hE hQ;obtain ⟨W,hW⟩:=ex_ (w.alloc (.cells #[.int .i64 at_,.int .i64 bits,.int .i64 co,.int .i64 fi,.int .i64 cu,.int .i64 ho,.int .i64 lo,.int .i64 hi,.bool sn,.slice A n c] 114))
 obtain ⟨hB0,hK⟩:=fbox at_ bits co fi cu ho lo hi sn A n c w W hW
 have HK:=hj_ hK;have HW:=hj_ hW;have HB0:=hj_ hB0;have hB:=Below.refl W.heap.size W;obtain ⟨c0,c1,c2,c3,c4,c5,c6,c7,c8,c9⟩:=hK W hB;clear hW hB0 hK;have HL:=hj_ (hw.below HB0.out);clear hw hb
 by_cases h1:cu<0
 ·rw [if_pos (.inl h1)]
  go_enter func222,ntmps222
  go_wp2_with fail;rw [← HW.out];go_wp2_with fail;go_ret;exact ⟨rfl,ht_ HB0.out hB⟩
 ·by_cases h2:(k:Int)<cu
  ·rw [if_pos (.inr h2)]
   go_enter func222,ntmps222
   go_wp2_with fail;rw [← HW.out];go_wp2_with fail;go_ret;exact ⟨rfl,ht_ HB0.out hB⟩
  ·rw [if_neg o_]
   go_enter func222,ntmps222
   go_wp2_with fail;rw [← HW.out];refine uq_ (HI.out _ (HL.out.below hB)) hB fun wk hB=>?_;obtain ⟨c0,c1,c2,c3,c4,c5,c6,c7,c8,c9⟩:=HK.out _ hB;go_wp2_with fail;go_ret;exact ⟨rfl,ht_ HB0.out hB⟩
theorem qgr (f:FC) (wl:List Slt) (w:World) (hw:FW w f wl) :
  Rt 269 #[f.val] w (.int .i64 (bareE (f.fea wl))):=by
 have HI0:=hj_ (fun w hw hb=>qht f wl w hw hb)
 have HB1:=hj_ (fun w=>qgs f w)
 obtain ⟨Q,hQ⟩:=xe_ (partsE (f.fea wl));rw [hQ] at HI0;obtain ⟨at_,bits,co,fi,cu,ho,lo,hi,sn,A,n,c⟩:=f
 have hE:bareE (FC.fea ⟨at_,bits,co,fi,cu,ho,lo,hi,sn,A,n,c⟩ wl)=if bitsV bits≠0 then bitsV bits else Q:=by unfold bareE;rw [hQ];rfl
 rw [hE];show Rt 269 #[.agg #[.int .i64 at_,.int .i64 bits,.int .i64 co,.int .i64 fi,.int .i64 cu,.int .i64 ho,.int .i64 lo,.int .i64 hi,.bool sn,.slice A n c]] w (.int .i64 (if bitsV bits≠0 then bitsV bits else Q))
 have HI:=hj_ (show ∀ w',FW w' ⟨at_,bits,co,fi,cu,ho,lo,hi,sn,A,n,c⟩ wl→bits=8∨bits=16→Calls prog 272 #[.agg #[.int .i64 at_,.int .i64 bits,.int .i64 co,.int .i64 fi,.int .i64 cu,.int .i64 ho,.int .i64 lo,.int .i64 hi,.bool sn,.slice A n c]] w' fun e w''=>e=.returned (.int .i64 Q)∧Below w'.heap.size w' w'' from HI0.out)
 have HBi:=hj_ (show ∀ w',Calls prog 213 #[.agg #[.int .i64 at_,.int .i64 bits,.int .i64 co,.int .i64 fi,.int .i64 cu,.int .i64 ho,.int .i64 lo,.int .i64 hi,.bool sn,.slice A n c]] w' fun e w''=>e=.returned (.int .i64 (bitsV bits))∧Below w'.heap.size w' w'' from HB1.out)
 clear HI0 HB1 hE hQ;obtain ⟨W,hW⟩:=ex_ (w.alloc (.cells #[.int .i64 at_,.int .i64 bits,.int .i64 co,.int .i64 fi,.int .i64 cu,.int .i64 ho,.int .i64 lo,.int .i64 hi,.bool sn,.slice A n c] 114))
 obtain ⟨hB0,hK⟩:=fbox at_ bits co fi cu ho lo hi sn A n c w W hW
 have HK:=hj_ hK;have HW:=hj_ hW;have HB0:=hj_ hB0;have hB:=Below.refl W.heap.size W;obtain ⟨c0,c1,c2,c3,c4,c5,c6,c7,c8,c9⟩:=hK W hB;clear hW hB0 hK;have HL:=hj_ (hw.below HB0.out);have hbo:=hj_ (fun h=>q1e (b:=bits) h)
 clear hw;generalize bitsV bits=q at *
 by_cases hq:q=0
 ·subst hq
  have HBo:=hj_ (hbo.out rfl);rw [if_neg (fun h=>h rfl)]
  go_enter func269,ntmps269
  go_wp2_with fail;rw [← HW.out];refine uq_ (HBi.out _) hB fun wk hB=>?_;obtain ⟨c0,c1,c2,c3,c4,c5,c6,c7,c8,c9⟩:=HK.out _ hB;go_wp2_with fail;refine uq_ (HI.out _ (HL.out.below hB) HBo.out) hB fun wk hB=>?_;obtain ⟨c0,c1,c2,c3,c4,c5,c6,c7,c8,c9⟩:=HK.out _ hB;go_wp2_with fail;go_ret;exact ⟨rfl,ht_ HB0.out hB⟩
 ·rw [if_pos hq]
  have g1:(q == 0)=false:=by simpa using hq
  have g2:(q != 0)=true:=by simpa using hq
  clear hq
  go_enter func269,ntmps269
  go_wp2_with fail;rw [← HW.out];refine uq_ (HBi.out _) hB fun wk hB=>?_;obtain ⟨c0,c1,c2,c3,c4,c5,c6,c7,c8,c9⟩:=HK.out _ hB;go_wp2_with fail;go_ret;exact ⟨rfl,ht_ HB0.out hB⟩
theorem qgi (f:FC) (wl:List Slt) (A':Option Addr) (n' c':Nat) (H:List Hd) (L:List (List PT)) (w:World) (hw:FW w f wl) (hl:InN w A' n' H L) (hm:∀ h ∈ H,h.n≤9223372036854775807) :
  Rt 263 #[f.val,.slice A' n' c'] w (.int .i64 (aloneE (f.fea wl) L)):=by
 have HI0:=hj_ (fun w hw hb=>qhs f wl n' w hw hb)
 have HB1:=hj_ (fun w=>qgs f w)
 have HCu:=hj_ (fun w hl=>qh5 A' n' c' H L w hl hm)
 have hn:L.length=n':=by rw [hl.1.1,hl.2.1]
 obtain ⟨Q,hQ⟩:∃ Q,innerE (f.fea wl) n' = Q:=⟨_,rfl⟩;rw [hQ] at HI0;obtain ⟨at_,bits,co,fi,cu,ho,lo,hi,sn,A,n,c⟩:=f
 have hE:aloneE (FC.fea ⟨at_,bits,co,fi,cu,ho,lo,hi,sn,A,n,c⟩ wl) L=if errA L≠0 then errA L else if bitsV bits≠0 then bitsV bits else Q:=by unfold aloneE;rw [hn,hQ];rfl
 rw [hE];show Rt 263 #[.agg #[.int .i64 at_,.int .i64 bits,.int .i64 co,.int .i64 fi,.int .i64 cu,.int .i64 ho,.int .i64 lo,.int .i64 hi,.bool sn,.slice A n c],.slice A' n' c'] w (.int .i64 (if errA L≠0 then errA L else if bitsV bits≠0 then bitsV bits else Q))
 have HI:=hj_ (show ∀ w',FW w' ⟨at_,bits,co,fi,cu,ho,lo,hi,sn,A,n,c⟩ wl→bits=8∨bits=16→Calls prog 222 #[.agg #[.int .i64 at_,.int .i64 bits,.int .i64 co,.int .i64 fi,.int .i64 cu,.int .i64 ho,.int .i64 lo,.int .i64 hi,.bool sn,.slice A n c],.int .i64 n'] w' fun e w''=>e=.returned (.int .i64 Q)∧Below w'.heap.size w' w'' from HI0.out)
 have HBi:=hj_ (show ∀ w',Calls prog 213 #[.agg #[.int .i64 at_,.int .i64 bits,.int .i64 co,.int .i64 fi,.int .i64 cu,.int .i64 ho,.int .i64 lo,.int .i64 hi,.bool sn,.slice A n c]] w' fun e w''=>e=.returned (.int .i64 (bitsV bits))∧Below w'.heap.size w' w'' from HB1.out)
 clear HI0 HB1 hE hQ hn;obtain ⟨W,hW⟩:=ex_ (w.alloc (.cells #[.int .i64 at_,.int .i64 bits,.int .i64 co,.int .i64 fi,.int .i64 cu,.int .i64 ho,.int .i64 lo,.int .i64 hi,.bool sn,.slice A n c] 114))
 obtain ⟨hB0,hK⟩:=fbox at_ bits co fi cu ho lo hi sn A n c w W hW
 have HK:=hj_ hK;have HW:=hj_ hW;have HB0:=hj_ hB0;have hB:=Below.refl W.heap.size W;obtain ⟨c0,c1,c2,c3,c4,c5,c6,c7,c8,c9⟩:=hK W hB;clear hW hB0 hK;have HL:=hj_ (hw.below HB0.out);have HL2:=hj_ (hl.below HB0.out);have hbo:=hj_ (fun h=>q1e (b:=bits) h)
 clear hw hl hm;generalize bitsV bits=q at *;generalize errA L=p at *
 by_cases hp:p=0
 ·subst hp
  rw [if_neg (fun h=>h rfl)]
  by_cases hq:q=0
  ·subst hq
   have HBo:=hj_ (hbo.out rfl);rw [if_neg (fun h=>h rfl)]
   go_enter func263,ntmps263
   go_wp2_with fail;rw [← HW.out];refine uq_ (HCu.out _ (HL2.out.below hB)) hB fun wk hB=>?_;obtain ⟨c0,c1,c2,c3,c4,c5,c6,c7,c8,c9⟩:=HK.out _ hB;go_wp2_with fail;refine uq_ (HBi.out _) hB fun wk hB=>?_;obtain ⟨c0,c1,c2,c3,c4,c5,c6,c7,c8,c9⟩:=HK.out _ hB;go_wp2_with fail;refine uq_ (HI.out _ (HL.out.below hB) HBo.out) hB fun wk hB=>?_;obtain ⟨c0,c1,c2,c3,c4,c5,c6,c7,c8,c9⟩:=HK.out _ hB;go_wp2_with fail;go_ret;exact ⟨rfl,ht_ HB0.out hB⟩
  ·rw [if_pos hq]
   have g1:(q == 0)=false:=by simpa using hq
   have g2:(q != 0)=true:=by simpa using hq
   clear hq
   go_enter func263,ntmps263
   go_wp2_with fail;rw [← HW.out];refine uq_ (HCu.out _ (HL2.out.below hB)) hB fun wk hB=>?_;obtain ⟨c0,c1,c2,c3,c4,c5,c6,c7,c8,c9⟩:=HK.out _ hB;go_wp2_with fail;refine uq_ (HBi.out _) hB fun wk hB=>?_;obtain ⟨c0,c1,c2,c3,c4,c5,c6,c7,c8,c9⟩:=HK.out _ hB;go_wp2_with fail;go_ret;exact ⟨rfl,ht_ HB0.out hB⟩
 ·rw [if_pos hp]
  have g1:(p == 0)=false:=by simpa using hp
  have g2:(p != 0)=true:=by simpa using hp
  clear hp
  go_enter func263,ntmps263
  go_wp2_with fail;rw [← HW.out];refine uq_ (HCu.out _ (HL2.out.below hB)) hB fun wk hB=>?_;obtain ⟨c0,c1,c2,c3,c4,c5,c6,c7,c8,c9⟩:=HK.out _ hB;go_wp2_with fail;go_ret;exact ⟨rfl,ht_ HB0.out hB⟩
set_option maxRecDepth 100000 in
theorem qo7 (A:Option Addr) (n c:Nat) (l:List Slt) (w:World) (hl:shS.In w A n l) (hs:∀ x ∈ l,x.s.size≤9223372036854775807) :
  Rt 276 #[.slice A n c] w (.int .i64 (wheelE l)):=by
 obtain ⟨rfl,_⟩:=id hl;have HL:=hj_ hl;have HS:=hj_ hs;have hB:=Below.refl w.heap.size w;obtain ⟨E,hE⟩:=ex_ (wheelE l);rw [← hE];have HE:=hj_ hE;clear hl hE hs
 by_cases h16:16<l.length
 ·have e:E=5:=HE.out.trans (by unfold wheelE;rw [if_pos h16])
  subst e;have i1:(16:Int)<(l.length:Int):=o_
  go_enter func276,ntmps276
  go_wp2_with fail;go_ret;exact ⟨rfl,hB⟩
 ·have i1:¬ (16:Int)<(l.length:Int):=by omega
  have hEF:E=firstE (whE l) l.length:=HE.out.trans (by unfold wheelE;rw [if_neg h16])
  have HEF:=hj_ hEF;have h16':l.length≤16:=o_
  clear hEF HE h16
  go_enter func276,ntmps276
  go_wp2_with fail
  go_loopw [3] (fun iv wr=>∃ k:Nat,k≤l.length∧iv=.int .i64 k∧(∀ j,j<k→whE l j=0)∧Below w.heap.size w wr) (fun iv _=>l.length-(intOf iv).toNat)
  case atStart=>exact ⟨0,Nat.zero_le _,rfl,fun j h=>absurd h (Nat.not_lt_zero _),br_⟩
  case round =>
   obtain ⟨k,hk,rfl,hall,hBr⟩:=hrel;have HAll:=hj_ hall;clear hall
   by_cases hlt:k<l.length
   ·obtain ⟨b,o,rfl,hbl,hcell⟩:=sl_at HL.out o_
    have hbw:b<wr.heap.size:=Nat.lt_of_lt_of_le hbl hBr.size;have HCe:=hj_ (fun j (hj:j<l.length) (w':World) (h:Below w.heap.size w w')=>show w'.cell? ⟨b,o+j*3,none⟩=some (.string l[j].s)∧w'.cell? ⟨b,o+j*3+1,none⟩=some (.int .i64 l[j].a)∧w'.cell? ⟨b,o+j*3+2,none⟩=some (.int .i64 l[j].z) from
     ⟨(h.cell (p:=⟨b,o+j*3,none⟩) hbl).trans (hcell j hj).1,(h.cell (p:=⟨b,o+j*3+1,none⟩) hbl).trans (hcell j hj).2.1,(h.cell (p:=⟨b,o+j*3+2,none⟩) hbl).trans (hcell j hj).2.2⟩)
    have HNm:=hj_ (fun w=>qml l[k].s w (HS.out _ (List.getElem_mem hlt)))
    have HY:=hj_ (show whE l k≠0→E=whE l k from fun h=>HEF.out.trans (q87 HAll.out h hlt))
    have HN:=hj_ (show whE l k=0→∀ j,j<k+1→whE l j=0 from fun h=>q88 HAll.out h)
    have HD:=hj_ (show whE l k=if nmB l[k].s=false then 8 else if (l.take k).any (fun x=>decide (x.s=l[k].s)) then 7 else if ¬ (isLev l[k].a∧isLev l[k].z∧l[k].a≤l[k].z) then 2 else if 0<k∧l[k].a≤(l.getD (k-1) slt0).z then 9 else 0 by unfold whE;rw [qa1 hlt])
    obtain ⟨p0,p1,p2⟩:=HCe.out k hlt wr hBr;have HKp:=hj_ (fun w' h=>HCe.out k hlt w' h)
    have i0:(0:Int)≤(k:Int):=o_
    have i2:(k:Int)<(l.length:Int):=o_
    clear hcell;generalize whE l k=q at *;generalize l[k].s=S at *;generalize l[k].a=X at *;generalize l[k].z=Z at *;generalize nmB S=nb at *
    cases nb with
    | false =>
     have hf:=HY.out (by rw [HD.out,if_pos rfl];decide)
     have hq:q=8:=by rw [HD.out,if_pos rfl]
     subst hf;subst hq;go_wp2_with fail;refine (HNm.out _).mono ?_;rintro e wk ⟨rfl,hb⟩;replace hBr:=ht_ hBr hb;go_wp2_with fail;go_ret;exact ⟨rfl,hBr⟩
    | true =>
     have HD2:=hj_ (show q=if (l.take k).any (fun x=>decide (x.s=S)) then 7 else if ¬ (isLev X∧isLev Z∧X≤Z) then 2 else if 0<k∧X≤(l.getD (k-1) slt0).z then 9 else 0 by rw [HD.out,if_neg s_])
     clear HD;go_wp2_with fail;refine (HNm.out _).mono ?_;rintro e wk ⟨rfl,hb⟩;replace hBr:=ht_ hBr hb;clear hb;have HBk:=hj_ hBr;obtain ⟨p0,p1,p2⟩:=HKp.out _ hBr;have hbw:b<wk.heap.size:=Nat.lt_of_lt_of_le hbl hBr.size;have HIX:=hj_ (show ∀ w,Calls prog 160 #[.int .i64 X] w fun e w'=>e=.returned (.bool (decide (isLev X)))∧w' = w from fun w=>(qmm X w).mono (by rintro e w' ⟨rfl,rfl⟩;exact ⟨by rw [show decide (isLev X)=decide (0≤X∧X≤65535) from decide_eq_decide.2 Iff.rfl],rfl⟩))
     have HIZ:=hj_ (show ∀ w,Calls prog 160 #[.int .i64 Z] w fun e w'=>e=.returned (.bool (decide (isLev Z)))∧w' = w from fun w=>(qmm Z w).mono (by rintro e w' ⟨rfl,rfl⟩;exact ⟨by rw [show decide (isLev Z)=decide (0≤Z∧Z≤65535) from decide_eq_decide.2 Iff.rfl],rfl⟩))
     clear HNm;obtain ⟨wo,rfl⟩:∃ wo:World,wo=wr:=⟨_,rfl⟩;go_wp2_with fail
     go_loopw [4] (fun iv wr=>∃ i:Nat,i≤k∧iv=.int .i64 i∧(∀ j (h:j<l.length),j<i→decide (l[j].s=S)=false)∧Below w.heap.size w wr) (fun iv _=>k-(intOf iv).toNat)
     case atStart=>exact ⟨0,Nat.zero_le _,rfl,fun j _ h=>absurd h (Nat.not_lt_zero _),HBk.out⟩
     case round =>
      obtain ⟨i,hi,rfl,hne,hBi⟩:=hrel;have HNe:=hj_ hne;clear hne;obtain ⟨p0,p1,p2⟩:=HKp.out _ hBi;have hbi:b<wr.heap.size:=Nat.lt_of_lt_of_le hbl hBi.size
      by_cases hik:i<k
      ·have hil:i<l.length:=by omega
       obtain ⟨r0,-,-⟩:=HCe.out i hil wr hBi;have e0:(0:Int)≤(i:Int):=o_
       have e1:(i:Int)<(k:Int):=o_
       have e2:(i:Int)<(l.length:Int):=o_
       have HNe2:=hj_ (show decide (l[i].s=S)=false→∀ j (h:j<l.length),j<i+1→decide (l[j].s=S)=false from fun h j hj hjk=>by
        rcases Nat.lt_or_eq_of_le (Nat.le_of_lt_succ hjk) with h1 | h1
        ·exact HNe.out j hj h1
        ·subst h1;exact h)
       have HHit:=hj_ (show decide (l[i].s=S)=true→q=7 from fun h=>by rw [HD2.out,if_pos (q0l (p:=fun x=>decide (x.s=S)) hil hik h)])
       have hbq:=q1w l[i].s S;generalize l[i].s=T at *
       cases hd:decide (T=S) with
       | true =>
        rw [hd] at hbq;have hq:=HHit.out hd;have hf:=HY.out (by rw [hq];decide)
        subst hf;subst hq;clear HHit HNe2 HD2 hd;go_wp2_with fail;go_quiet (fail);go_wp2;go_ret;exact ⟨rfl,q18 hBi nq⟩
       | false =>
        rw [hd] at hbq;have HNe3:=hj_ (HNe2.out hd);clear HHit HNe2 HD2 hd;go_wp2_with fail;go_quiet (fail);go_wp2
        go_roundw
        case rel=>exact ⟨i+1,o_,by go_num,HNe3.out,q18 hBi nq⟩
        case measure=>simp [intOf];omega
      ·obtain rfl:i=k:=by omega
       have hany:(l.take i).any (fun x=>decide (x.s=S))=false:=q0m fun j hj hji=>HNe.out j hj hji
       have HD3:=hj_ (show q=if ¬ (isLev X∧isLev Z∧X≤Z) then 2 else if 0<i∧X≤(l.getD (i-1) slt0).z then 9 else 0 by rw [HD2.out,hany,if_neg s_])
       clear HD2 hany
       by_cases hX:isLev X
       ·rw [decide_eq_true hX] at HIX
        by_cases hZ:isLev Z
        ·rw [decide_eq_true hZ] at HIZ
         by_cases hXZ:X≤Z
         ·have HD4:=hj_ (show q=if 0<i∧X≤(l.getD (i-1) slt0).z then 9 else 0 by rw [HD3.out,if_neg (fun h=>h ⟨hX,hZ,hXZ⟩)])
          have g3:decide (Z<X)=false:=decide_eq_false o_
          clear HD3 hX hZ hXZ
          rcases i with _ | j
          ·have hq:q=0:=by rw [HD4.out,if_neg o_]
           have HN2:=hj_ (HN.out hq);clear HD4 hq;go_wp2_with fail;go_quiet ((go_at_call 160;first | (with_reducible exact Calls.quiet_of_same (HIX.out _)) | (with_reducible exact Calls.quiet_of_same (HIZ.out _))))
           go_wp2;go_quiet (fail);go_wp2
           go_roundw
           case rel=>exact ⟨0+1,o_,by go_num,HN2.out,q18 hBi _⟩
           case measure=>simp [intOf];omega
          ·obtain ⟨-,-,r2⟩:=HCe.out j o_ wr hBi
           have HD5:=hj_ (show q=if X≤(l[j]'o_).z then 9 else 0 by rw [HD4.out,Nat.add_sub_cancel,qa1 (show j<l.length by omega)];simp)
           generalize (l[j]'o_).z=Y at *
           have w1:IntKind.i64.wrap ((j:Int)+1-1)=(j:Int):=by rw [Int.add_sub_cancel];exact IntWalk.i64_in _ o_
           have w2:IntKind.i64.wrap (j:Int)=(j:Int):=IntWalk.i64_in _ o_
           have e0:(0:Int)≤(j:Int):=o_
           have e1:(j:Int)<(l.length:Int):=o_
           have e2:(j:Int)+1<(l.length:Int):=o_
           have e3:(0:Int)≤(j:Int)+1:=o_
           have ed:decide ((0:Int)<(j:Int)+1)=true:=by rw [decide_eq_true_eq];omega
           clear HD4
           by_cases hXY:X≤Y
           ·have hq:q=9:=by rw [HD5.out,if_pos hXY]
            have hf:=HY.out (by rw [hq];decide)
            subst hf;subst hq;clear HD5;go_wp2_with fail;go_quiet ((go_at_call 160;first | (with_reducible exact Calls.quiet_of_same (HIX.out _)) | (with_reducible exact Calls.quiet_of_same (HIZ.out _))))
            go_wp2;go_quiet (fail);go_wp2;go_ret;exact ⟨rfl,q18 (q18 hBi _) _⟩
           ·have hq:q=0:=by rw [HD5.out,if_neg hXY]
            have HN2:=hj_ (HN.out hq);clear HD5 hq;go_wp2_with fail;go_quiet ((go_at_call 160;first | (with_reducible exact Calls.quiet_of_same (HIX.out _)) | (with_reducible exact Calls.quiet_of_same (HIZ.out _))))
            go_wp2;go_quiet (fail);go_wp2
            go_roundw
            case rel=>exact ⟨j+1+1,o_,by go_num,HN2.out,q18 hBi _⟩
            case measure=>simp [intOf];omega
         ·have g3:decide (Z<X)=true:=decide_eq_true o_
          have hq:q=2:=by rw [HD3.out,if_pos (fun h=>hXZ h.2.2)]
          have hf:=HY.out (by rw [hq];decide)
          subst hf;subst hq;clear HD3;go_wp2_with fail;go_quiet ((go_at_call 160;first | (with_reducible exact Calls.quiet_of_same (HIX.out _)) | (with_reducible exact Calls.quiet_of_same (HIZ.out _))))
          go_wp2;go_ret;exact ⟨rfl,q18 hBi nq⟩
        ·rw [decide_eq_false hZ] at HIZ
         have hq:q=2:=by rw [HD3.out,if_pos (fun h=>hZ h.2.1)]
         have hf:=HY.out (by rw [hq];decide)
         subst hf;subst hq;clear HD3;go_wp2_with fail;go_quiet ((go_at_call 160;first | (with_reducible exact Calls.quiet_of_same (HIX.out _)) | (with_reducible exact Calls.quiet_of_same (HIZ.out _))))
         go_wp2;go_ret;exact ⟨rfl,q18 hBi nq⟩
       ·rw [decide_eq_false hX] at HIX
        have hq:q=2:=by rw [HD3.out,if_pos (fun h=>hX h.1)]
        have hf:=HY.out (by rw [hq];decide)
        subst hf;subst hq;clear HD3;go_wp2_with fail;go_quiet ((go_at_call 160;first | (with_reducible exact Calls.quiet_of_same (HIX.out _)) | (with_reducible exact Calls.quiet_of_same (HIZ.out _))))
        go_wp2;go_ret;exact ⟨rfl,q18 hBi nq⟩
   ·obtain rfl:k=l.length:=by omega
    have hf:E=0:=HEF.out.trans (q86 HAll.out);subst hf;go_wp2_with fail;go_ret;exact ⟨rfl,hBr⟩
theorem qmk (X:Int) (w:World):Calls prog 160 #[.int .i64 X] w fun e w'=>e=.returned (.bool (decide (isLev X)))∧w' = w :=
 (qmm X w).mono (by rintro e w' ⟨rfl,rfl⟩;exact ⟨by rw [show decide (isLev X)=decide (0≤X∧X≤65535) from decide_eq_decide.2 Iff.rfl],rfl⟩)
theorem qn8 (f:FC) (wl:List Slt) (w:World) (hw:FW w f wl) :
  Rt 229 #[f.val] w (.int .i64 (partsE (f.fea wl))):=by
 have HWh0:=hj_ (fun w hl=>qo7 f.A f.n f.c wl w hl hw.2.2)
 obtain ⟨at_,bits,co,fi,cu,ho,lo,hi,sn,A,n,c⟩:=f
 have hE:partsE (FC.fea ⟨at_,bits,co,fi,cu,ho,lo,hi,sn,A,n,c⟩ wl)=if ¬ isLev ho∨lo<0∨hi<lo∨topV bits<hi then 2 else wheelE wl:=rfl
 rw [hE];show Rt 229 #[.agg #[.int .i64 at_,.int .i64 bits,.int .i64 co,.int .i64 fi,.int .i64 cu,.int .i64 ho,.int .i64 lo,.int .i64 hi,.bool sn,.slice A n c]] w (.int .i64 (if ¬ isLev ho∨lo<0∨hi<lo∨topV bits<hi then 2 else wheelE wl))
 have HWh:=hj_ (show ∀ w',shS.In w' A n wl→Calls prog 276 #[.slice A n c] w' fun e w''=>e=.returned (.int .i64 (wheelE wl))∧Below w'.heap.size w' w'' from HWh0.out)
 have HIs:=hj_ (fun w=>qmk ho w)
 have HTp:=hj_ (fun w=>qnv bits w)
 clear HWh0 hE;obtain ⟨W,hW⟩:=ex_ (w.alloc (.cells #[.int .i64 at_,.int .i64 bits,.int .i64 co,.int .i64 fi,.int .i64 cu,.int .i64 ho,.int .i64 lo,.int .i64 hi,.bool sn,.slice A n c] 114))
 obtain ⟨hB0,hK⟩:=fbox at_ bits co fi cu ho lo hi sn A n c w W hW
 have HK:=hj_ hK;have HW:=hj_ hW;have HB0:=hj_ hB0;have hB:=Below.refl W.heap.size W;obtain ⟨c0,c1,c2,c3,c4,c5,c6,c7,c8,c9⟩:=hK W hB;clear hW hB0 hK;have HL:=hj_ (hw.1.below HB0.out);clear hw;generalize wheelE wl=Q at *;generalize topV bits=tp at *
 by_cases h1:isLev ho
 ·rw [decide_eq_true h1] at HIs
  by_cases h2:lo<0
  ·rw [if_pos (.inr (.inl h2))]
   go_enter func229,ntmps229
   go_wp2_with fail;rw [← HW.out];go_quiet (first | (go_at_call 160;exact Calls.quiet_of_same (HIs.out _)) | (go_at_call 275;exact Calls.quiet_of_same (HTp.out _)))
   go_wp2;go_ret;exact ⟨rfl,HB0.out.trans ((q18 hB _).mono HB0.out.size)⟩
  ·have g2:decide (lo<0)=false:=decide_eq_false h2
   by_cases h3:hi<lo
   ·have g3:decide (hi<lo)=true:=decide_eq_true h3
    rw [if_pos (.inr (.inr (.inl h3)))]
    go_enter func229,ntmps229
    go_wp2_with fail;rw [← HW.out];go_quiet (first | (go_at_call 160;exact Calls.quiet_of_same (HIs.out _)) | (go_at_call 275;exact Calls.quiet_of_same (HTp.out _)))
    go_wp2;go_ret;exact ⟨rfl,HB0.out.trans ((q18 hB _).mono HB0.out.size)⟩
   ·have g3:decide (hi<lo)=false:=decide_eq_false h3
    by_cases h4:tp<hi
    ·have g4:decide (tp<hi)=true:=decide_eq_true h4
     rw [if_pos (.inr (.inr (.inr h4)))]
     go_enter func229,ntmps229
     go_wp2_with fail;rw [← HW.out];go_quiet (first | (go_at_call 160;exact Calls.quiet_of_same (HIs.out _)) | (go_at_call 275;exact Calls.quiet_of_same (HTp.out _)))
     go_wp2;go_ret;exact ⟨rfl,HB0.out.trans ((q18 hB _).mono HB0.out.size)⟩
    ·have g4:decide (tp<hi)=false:=decide_eq_false h4
     rw [if_neg (by rintro (h | h | h | h);exact h h1;exact h2 h;exact h3 h;exact h4 h)]
     go_enter func229,ntmps229
     go_wp2_with fail;rw [← HW.out];go_quiet (first | (go_at_call 160;exact Calls.quiet_of_same (HIs.out _)) | (go_at_call 275;exact Calls.quiet_of_same (HTp.out _)))
     replace hB:=q18 hB nq;obtain ⟨c0,c1,c2,c3,c4,c5,c6,c7,c8,c9⟩:=HK.out _ hB;go_wp2_with fail;refine uq_ (HWh.out _ (HL.out.below hB)) hB fun wk hB=>?_;obtain ⟨c0,c1,c2,c3,c4,c5,c6,c7,c8,c9⟩:=HK.out _ hB;go_wp2_with fail;go_ret;exact ⟨rfl,ht_ HB0.out hB⟩
 ·rw [decide_eq_false h1] at HIs
  rw [if_pos (.inl h1)]
  go_enter func229,ntmps229
  go_wp2_with fail;rw [← HW.out];go_quiet (first | (go_at_call 160;exact Calls.quiet_of_same (HIs.out _)) | (go_at_call 275;exact Calls.quiet_of_same (HTp.out _)))
  go_wp2;go_ret;exact ⟨rfl,HB0.out.trans ((q18 hB _).mono HB0.out.size)⟩
theorem qmi (f:FC) (wl:List Slt) (k:Nat) (w:World) (hw:FW w f wl) :
  Rt 163 #[f.val,.int .i64 k] w (.int .i64 (innerE (f.fea wl) k)):=by
 have HI0:=hj_ (fun w hw=>qn8 f wl w hw)
 obtain ⟨Q,hQ⟩:=xe_ (partsE (f.fea wl));rw [hQ] at HI0;obtain ⟨at_,bits,co,fi,cu,ho,lo,hi,sn,A,n,c⟩:=f
 have hE:innerE (FC.fea ⟨at_,bits,co,fi,cu,ho,lo,hi,sn,A,n,c⟩ wl) k=if cu<0∨(k:Int)<cu then 6 else Q:=by unfold innerE;rw [hQ];rfl
 rw [hE];show Rt 163 #[.agg #[.int .i64 at_,.int .i64 bits,.int .i64 co,.int .i64 fi,.int .i64 cu,.int .i64 ho,.int .i64 lo,.int .i64 hi,.bool sn,.slice A n c],.int .i64 k] w (.int .i64 (if cu<0∨(k:Int)<cu then 6 else Q))
 have HI:=hj_ (show ∀ w',FW w' ⟨at_,bits,co,fi,cu,ho,lo,hi,sn,A,n,c⟩ wl→Calls prog 229 #[.agg #[.int .i64 at_,.int .i64 bits,.int .i64 co,.int .i64 fi,.int .i64 cu,.int .i64 ho,.int .i64 lo,.int .i64 hi,.bool sn,.slice A n c]] w' fun e w''=>e=.returned (.int .i64 Q)∧Below w'.heap.size w' w'' from HI0.out)
 clear HI0 hE hQ;obtain ⟨W,hW⟩:=ex_ (w.alloc (.cells #[.int .i64 at_,.int .i64 bits,.int .i64 co,.int .i64 fi,.int .i64 cu,.int .i64 ho,.int .i64 lo,.int .i64 hi,.bool sn,.slice A n c] 114))
 obtain ⟨hB0,hK⟩:=fbox at_ bits co fi cu ho lo hi sn A n c w W hW
 have HK:=hj_ hK;have HW:=hj_ hW;have HB0:=hj_ hB0;have hB:=Below.refl W.heap.size W;obtain ⟨c0,c1,c2,c3,c4,c5,c6,c7,c8,c9⟩:=hK W hB;clear hW hB0 hK;have HL:=hj_ (hw.below HB0.out);clear hw
 by_cases h1:cu<0
 ·rw [if_pos (.inl h1)]
  go_enter func163,ntmps163
  go_wp2_with fail;rw [← HW.out];go_wp2_with fail;go_ret;exact ⟨rfl,ht_ HB0.out hB⟩
 ·by_cases h2:(k:Int)<cu
  ·rw [if_pos (.inr h2)]
   go_enter func163,ntmps163
   go_wp2_with fail;rw [← HW.out];go_wp2_with fail;go_ret;exact ⟨rfl,ht_ HB0.out hB⟩
  ·rw [if_neg o_]
   go_enter func163,ntmps163
   go_wp2_with fail;rw [← HW.out];refine uq_ (HI.out _ (HL.out.below hB)) hB fun wk hB=>?_;obtain ⟨c0,c1,c2,c3,c4,c5,c6,c7,c8,c9⟩:=HK.out _ hB;go_wp2_with fail;go_ret;exact ⟨rfl,ht_ HB0.out hB⟩
end Go.Proofs.YtabhjdmmfdfpeaaGreatDoor
