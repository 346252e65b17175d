/- Lemmas. -/
import Derived.Test.YtabhjdmmfdfpeaaGreatDoorKProC
namespace Go.Proofs.YtabhjdmmfdfpeaaGreatDoor
set_option maxHeartbeats 32000000
open _root_.Go.Proofs.Tryz
open Go.RowKit
theorem Is.lit (w:World) (l:List Int) (t:TypeId) (b:Nat) (hb:b=w.heap.size):Is (w.alloc (.cells (iv l).toArray t)) (some ⟨b,0,none⟩) l.length l:=by
 subst hb;refine ⟨rfl,by simp [iv],fun _=>⟨w.heap.size,0,rfl,s_,fun j u hu=>?_⟩⟩
 rw [Nat.zero_add,World.cell?_alloc_new]
 simpa using hu
theorem q1z {f:Fea} {raw:Int} (h:bareE f=0) (h0:¬ (raw<f.lo∨f.hi<raw)):0≤raw∧raw≤65535∧(f.bits=8∨f.bits=16):=by
 obtain ⟨hb,-,h1,-,h3,-⟩:=q13 h
 have:=qso f.bits
 omega
theorem qgt (f:FC) (wl:List Slt) (raw:Int) (w:World) (hw:FW w f wl) :
  Calls prog 208 #[f.val,.int .i64 raw] w fun e w'=>∃ A2 n2 c2,e=.returned (.tuple #[.slice A2 n2 c2,.int .i64 (bytesE (f.fea wl) raw)])∧Is w' A2 n2 (bytesV (f.fea wl) raw)∧Below w.heap.size w w':=by
 have HB1:=hj_ (fun w hw=>qgr f wl w hw)
 have HRn:=hj_ (fun h h0=>q1z (f:=f.fea wl) (raw:=raw) h h0)
 obtain ⟨q,hq0⟩:=xe_ (bareE (f.fea wl));have hE:bytesE (f.fea wl) raw=if q≠0 then q else if raw<f.lo∨f.hi<raw then 2 else 0:=by unfold bytesE;rw [hq0];rfl
 have hV:bytesV (f.fea wl) raw=if bytesE (f.fea wl) raw≠0 then [] else if f.bits=8 then [raw] else [raw / 256,raw % 256]:=rfl
 rw [hq0] at HB1 HRn;rw [hV,hE];clear hV hE hq0;obtain ⟨at_,bits,co,fi,cu,ho,lo,hi,sn,A,n,c⟩:=f
 have HBa:=hj_ (show ∀ w',FW w' ⟨at_,bits,co,fi,cu,ho,lo,hi,sn,A,n,c⟩ wl→Calls prog 269 #[.agg #[.int .i64 at_,.int .i64 bits,.int .i64 co,.int .i64 fi,.int .i64 cu,.int .i64 ho,.int .i64 lo,.int .i64 hi,.bool sn,.slice A n c]] w' fun e w''=>e=.returned (.int .i64 q)∧Below w'.heap.size w' w'' from HB1.out)
 show Calls prog 208 #[.agg #[.int .i64 at_,.int .i64 bits,.int .i64 co,.int .i64 fi,.int .i64 cu,.int .i64 ho,.int .i64 lo,.int .i64 hi,.bool sn,.slice A n c],.int .i64 raw] w fun e w'=>∃ A2 n2 c2,e=.returned (.tuple #[.slice A2 n2 c2,.int .i64 (if q≠0 then q else if raw<lo∨hi<raw then 2 else 0)])∧Is w' A2 n2 (if (if q≠0 then q else if raw<lo∨hi<raw then 2 else 0)≠0 then [] else if bits=8 then [raw] else [raw / 256,raw % 256])∧Below w.heap.size w w'
 have HRg:=hj_ (show q=0→¬ (raw<lo∨hi<raw)→0≤raw∧raw≤65535∧(bits=8∨bits=16) from fun h h0=>HRn.out h h0)
 obtain ⟨W,hW⟩:=ex_ (w.alloc (.cells #[.int .i64 at_,.int .i64 bits,.int .i64 co,.int .i64 fi,.int .i64 cu,.int .i64 ho,.int .i64 lo,.int .i64 hi,.bool sn,.slice A n c] 114))
 obtain ⟨hB0,hK⟩:=fbox at_ bits co fi cu ho lo hi sn A n c w W hW
 have HK:=hj_ hK;have HW:=hj_ hW;have HB0:=hj_ hB0;have hB:=Below.refl W.heap.size W;obtain ⟨c0,c1,c2,c3,c4,c5,c6,c7,c8,c9⟩:=hK W hB;clear hW hB0 hK;have HL:=hj_ (hw.below HB0.out);clear HB1 HRn hw
 by_cases hq:q=0
 ·have HR2:=hj_ (HRg.out hq)
  subst hq;rw [if_neg (show ¬ ((0:Int)≠0) from fun h=>h rfl)]
  clear HRg
  by_cases h1:raw<lo
  ·rw [if_pos (.inl h1)]
   rw [if_pos (show (2:Int)≠0 by decide)]
   go_enter func208,ntmps208
   go_wp2_with fail;rw [← HW.out];refine uq_ (HBa.out _ (HL.out.below hB)) hB fun wk hB=>?_;obtain ⟨c0,c1,c2,c3,c4,c5,c6,c7,c8,c9⟩:=HK.out _ hB;go_wp2_with fail;go_ret2;exact ⟨_,_,_,rfl,⟨rfl,Sl.nil _ _ _⟩,ht_ HB0.out hB⟩
  ·by_cases h2:hi<raw
   ·rw [if_pos (.inr h2)]
    rw [if_pos (show (2:Int)≠0 by decide)]
    go_enter func208,ntmps208
    go_wp2_with fail;rw [← HW.out];refine uq_ (HBa.out _ (HL.out.below hB)) hB fun wk hB=>?_;obtain ⟨c0,c1,c2,c3,c4,c5,c6,c7,c8,c9⟩:=HK.out _ hB;go_wp2_with fail;go_ret2;exact ⟨_,_,_,rfl,⟨rfl,Sl.nil _ _ _⟩,ht_ HB0.out hB⟩
   ·have hno:¬ (raw<lo∨hi<raw):=by rintro (h | h);exact h1 h;exact h2 h
    rw [if_neg hno,if_neg (show ¬ ((0:Int)≠0) from fun h=>h rfl)]
    obtain ⟨r0,r1,rfl | rfl⟩:=HR2.out hno
    ·rw [if_pos rfl]
     clear HR2 hno
     go_enter func208,ntmps208
     go_wp2_with fail;rw [← HW.out];refine uq_ (HBa.out _ (HL.out.below hB)) hB fun wk hB=>?_;obtain ⟨c0,c1,c2,c3,c4,c5,c6,c7,c8,c9⟩:=HK.out _ hB;go_wp2_with fail;go_ret2;exact ⟨_,_,_,rfl,Is.lit wk [raw] 3 _ rfl,HB0.out.trans ((hB.alloc hB.size _).mono HB0.out.size)⟩
    ·rw [if_neg d_]
     clear HR2 hno
     go_enter func208,ntmps208
     go_wp2_with fail;rw [← HW.out];refine uq_ (HBa.out _ (HL.out.below hB)) hB fun wk hB=>?_;obtain ⟨c0,c1,c2,c3,c4,c5,c6,c7,c8,c9⟩:=HK.out _ hB;have hb8:=and255 r0 r1;go_wp2_with fail;go_ret2;exact ⟨_,_,_,rfl,Is.lit wk [raw / 256,raw % 256] 3 _ rfl,HB0.out.trans ((hB.alloc hB.size _).mono HB0.out.size)⟩
 ·rw [if_pos hq,if_pos hq]
  have g1:(q == 0)=false:=by simpa using hq
  have g2:(q != 0)=true:=by simpa using hq
  clear hq HRg
  go_enter func208,ntmps208
  go_wp2_with fail;rw [← HW.out];refine uq_ (HBa.out _ (HL.out.below hB)) hB fun wk hB=>?_;obtain ⟨c0,c1,c2,c3,c4,c5,c6,c7,c8,c9⟩:=HK.out _ hB;go_wp2_with fail;go_ret2;exact ⟨_,_,_,rfl,⟨rfl,Sl.nil _ _ _⟩,ht_ HB0.out hB⟩
theorem m0:sR ((0:Int):Rat)=⟨#[48]⟩:=q00o.symm
end Go.Proofs.YtabhjdmmfdfpeaaGreatDoor
