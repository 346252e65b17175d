/- Lemmas. -/
import Derived.Test.YtmcbkdlfhffphaaGreatDoorCColA
namespace Go.Proofs.YtmcbkdlfhffphaaGreatDoor
set_option maxHeartbeats 32000000
set_option maxRecDepth 100000
open _root_.Go.Proofs.Tryz

section
open Go.RowKit
def colV (r g b wh:Int) (i:Int):Int:=if i=3 then r-wh else if i=4 then g-wh else if i=5 then b-wh else if i=6 then wh else 0
def cowV (l:List Int) (r g b:Int):Int:=if (6:Int) ∈ l then min (min r g) b else 0
theorem q0bp (r g b wh:Int) {i:Nat} (hi:i<15):([.int .i64 0,.int .i64 0,.int .i64 0,.int .i64 (r-wh),.int .i64 (g-wh),.int .i64 (b-wh),.int .i64 wh,.int .i64 0,.int .i64 0,.int .i64 0,.int .i64 0,.int .i64 0,.int .i64 0,.int .i64 0,.int .i64 0]:List Value)[i]? = some (.int .i64 (colV r g b wh i)):=by
 unfold colV
 match i,hi with
 | 0,_=>rfl
 | 1,_=>rfl
 | 2,_=>rfl
 | 3,_=>rfl
 | 4,_=>rfl
 | 5,_=>rfl
 | 6,_=>rfl
 | 7,_=>rfl
 | 8,_=>rfl
 | 9,_=>rfl
 | 10,_=>rfl
 | 11,_=>rfl
 | 12,_=>rfl
 | 13,_=>rfl
 | 14,_=>rfl
theorem q0bo (A:Option Addr) (n c:Nat) (l:List Int) (r g b:Int) (w:World) (hl:Is w A n l) (hnc:n≤c) (h15:l.length≤15) (hr:∀ x ∈ l,3≤x∧x≤10) (hnd:l.Nodup) (h3:(3:Int) ∈ l) (h4:(4:Int) ∈ l) (h5:(5:Int) ∈ l) (hrr:0≤r∧r≤65535) (hgg:0≤g∧g≤65535) (hbb:0≤b∧b≤65535) :
  Calls prog 14 #[.slice A n c,.agg #[.int .i64 r,.int .i64 g,.int .i64 b]] w fun e w'=>∃ v',e=.returned (.tuple #[v',.int .i64 0])∧w'.ownsRow w.heap.size 3 1 v' n (iv (l.map (colV r g b (cowV l r g b))))∧Below w.heap.size w w':=by
 obtain ⟨rfl,_⟩:=id hl;have HCk:=hj_ (fun (w:World) h=>q0c1 A l.length c l w h hnc h15 hr hnd h3 h4 h5)
 have hHs:=fun (w:World) (h:Is w A l.length l)=>q0ca A l.length c l 3 4 5 w h (by omega)
 rw [decide_eq_true h3,decide_eq_true h4,decide_eq_true h5] at hHs;have HHs:=hj_ hHs;have HPr:=hj_ (fun w=>q0d0 w)
 have HCt:=hj_ (fun (w:World) h=>q0c2 A l.length c l 6 w h (by omega))
 have HR:=hj_ (And.intro hr (And.intro h15 hnc));obtain ⟨wh,hwh⟩:∃ wh,wh=cowV l r g b:=⟨_,rfl⟩;have hwb:0≤wh∧wh≤r∧wh≤g∧wh≤b:=by
  rw [hwh];unfold cowV
  by_cases h6:(6:Int) ∈ l
  ·rw [if_pos h6];omega
  ·rw [if_neg h6];omega
 rw [← hwh];have HWh:=hj_ (show wh=if (6:Int) ∈ l then min (min r g) b else 0 from hwh)
 have HL:=hj_ hl;have wr_:IntKind.i64.wrap (r-wh)=r-wh:=IntWalk.i64_in _ (by omega)
 have wg_:IntKind.i64.wrap (g-wh)=g-wh:=IntWalk.i64_in _ (by omega)
 have wb_:IntKind.i64.wrap (b-wh)=b-wh:=IntWalk.i64_in _ (by omega)
 have HRg:=hj_ (show ∀ x ∈ [r,g,b],0≤x∧x≤65535 from fun x hx=>by simp at hx;rcases hx with rfl | rfl | rfl <;> assumption)
 clear hl hr hnd h3 h4 h5 hHs hnc h15 hwh hwb hrr hgg hbb;obtain ⟨W,hW⟩:∃ W,W=(w.alloc (.cells #[.int .i64 r,.int .i64 g,.int .i64 b] 53)):=⟨_,rfl⟩;obtain ⟨hB0,hK0⟩:=box1 #[.int .i64 r,.int .i64 g,.int .i64 b] 53 w W hW;have hK:∀ w',Below W.heap.size W w'→w'.cell? ⟨w.heap.size,0,none⟩=some (.int .i64 r)∧w'.cell? ⟨w.heap.size,1,none⟩=some (.int .i64 g)∧w'.cell? ⟨w.heap.size,2,none⟩=some (.int .i64 b):=fun w' h=>⟨(hK0 w' h) 0 _ rfl,(hK0 w' h) 1 _ rfl,(hK0 w' h) 2 _ rfl⟩
 have HK:=hj_ hK;have HW:=hj_ hW;have HB0:=hj_ hB0;have hB:=Below.refl W.heap.size W;obtain ⟨c0,c1,c2⟩:=hK W hB;clear hW hB0 hK hK0;have HSz:=hj_ (show W.heap.size=w.heap.size+1 by rw [HW.out];simp)
 have hin:Is W (some ⟨w.heap.size,0,none⟩) 3 [r,g,b]:=by
  rw [HW.out];exact Is.fresh w [r,g,b] 53 #[.int .i64 r,.int .i64 g,.int .i64 b] rfl
 have HIn:=hj_ hin;have HLv:=hj_ (fun (w':World) (h:Below W.heap.size W w')=>q0bl (some ⟨w.heap.size,0,none⟩) 3 3 [r,g,b] w' (HIn.out.below h) (by decide) HRg.out)
 have HMn:=hj_ (fun (w':World) (h:Below W.heap.size W w')=>q0cs w.heap.size 0 3 r g b w' (by simpa using (HK.out _ h).1) (by simpa using (HK.out _ h).2.1) (by simpa using (HK.out _ h).2.2) (Nat.lt_of_lt_of_le (by have:=HSz.out;omega) h.size))
 replace HL:=hj_ (HL.out.below HB0.out);have hz15:∀ w,(zeroValue 91).run prog w=.ok (.agg #[.int .i64 0,.int .i64 0,.int .i64 0,.int .i64 0,.int .i64 0,.int .i64 0,.int .i64 0,.int .i64 0,.int .i64 0,.int .i64 0,.int .i64 0,.int .i64 0,.int .i64 0,.int .i64 0,.int .i64 0]) w:=fun w=>by kernel_rfl
 clear hin c0 c1 c2
 go_enter func14,ntmps14
 go_wp2_with fail;rw [← HW.out];refine up_ (HCk.out _ (HL.out.below hB)) hB ?_;clear hB;intro w1 hB;go_wp2_with fail;refine up_ (HLv.out _ hB) hB ?_;clear hB;intro w2 hB;obtain ⟨W3,hW3⟩:∃ W3,W3=w2.alloc (.cells #[.int .i64 0,.int .i64 0,.int .i64 0,.int .i64 0,.int .i64 0,.int .i64 0,.int .i64 0,.int .i64 0,.int .i64 0,.int .i64 0,.int .i64 0,.int .i64 0,.int .i64 0,.int .i64 0,.int .i64 0] 91):=⟨_,rfl⟩;have hb3:Below w2.heap.size w2 W3:=by rw [hW3];exact (br_).alloc (Nat.le_refl _) _
 have HY3:=hj_ (show Cells W3 w2.heap.size [.int .i64 0,.int .i64 0,.int .i64 0,.int .i64 0,.int .i64 0,.int .i64 0,.int .i64 0,.int .i64 0,.int .i64 0,.int .i64 0,.int .i64 0,.int .i64 0,.int .i64 0,.int .i64 0,.int .i64 0] by rw [hW3];exact Cells.fresh w2 [.int .i64 0,.int .i64 0,.int .i64 0,.int .i64 0,.int .i64 0,.int .i64 0,.int .i64 0,.int .i64 0,.int .i64 0,.int .i64 0,.int .i64 0,.int .i64 0,.int .i64 0,.int .i64 0,.int .i64 0] _)
 have HB3:=hj_ (ht_ hB hb3);have HQ:=hj_ (show W.heap.size≤w2.heap.size from hB.size)
 have HW3:=hj_ hW3;clear hW3 hb3 hB
 go_upto_region 8 with fail
 rw [← HW3.out];generalize w2.heap.size=Q at *;go_wp2_with fail;refine (HPr.out _).mono ?_;rintro e w4 ⟨rfl,hb⟩;have HB4:=hj_ (ht_ HB3.out hb);have HY4:=hj_ (HY3.out.below hb HY3.out.1);clear hb HY3;obtain ⟨W5,hW5⟩:∃ W5,W5=(w4.alloc (.cells #[.int .i64 3,.int .i64 4,.int .i64 5] 53)).alloc (.cells #[.int .i64 8,.int .i64 9,.int .i64 10] 53):=⟨_,rfl⟩;have hW5s:W5.heap.size=w4.heap.size+2:=by rw [hW5];simp
 have hb5:Below w4.heap.size w4 W5:=by rw [hW5];exact ((br_).alloc (Nat.le_refl _) _).alloc (by simp) _
 have hP5:Cells W5 w4.heap.size [.int .i64 3,.int .i64 4,.int .i64 5]:=by
  rw [hW5];exact (Cells.fresh w4 [.int .i64 3,.int .i64 4,.int .i64 5] _).below (B:=w4.heap.size+1) ((br_).alloc (by simp) _) (by omega)
 have HP5:=hj_ hP5;have HB5:=hj_ (ht_ HB4.out hb5);have HY5:=hj_ (HY4.out.below hb5 HY4.out.1);have HNe:=hj_ (show Q≠w4.heap.size from Nat.ne_of_lt HY4.out.1)
 have HW5:=hj_ hW5;clear hW5 hb5 hP5 hW5s HY4
 go_upto_region 9 with fail
 rw [← HW5.out];generalize w4.heap.size=R at *;have x0:=HP5.out.at_ (j:=0) rfl
 have x1:=HP5.out.at_ (j:=1) rfl
 have x2:=HP5.out.at_ (j:=2) rfl
 go_wp2_with fail;refine (HHs.out _ (HL.out.below HB5.out)).mono ?_;rintro e w6 ⟨rfl,hb⟩;have HB6:=hj_ (ht_ HB5.out hb);have HY6:=hj_ (HY5.out.below hb HY5.out.1);have HP6:=hj_ (HP5.out.below hb HP5.out.1);clear hb x0 x1 x2 HY5 HP5;go_wp2_with fail;refine (HCt.out _ (HL.out.below HB6.out)).mono ?_;rintro e w7 ⟨rfl,hb⟩;have HB7:=hj_ (ht_ HB6.out hb);have HY7:=hj_ (HY6.out.below hb HY6.out.1);have HP7:=hj_ (HP6.out.below hb HP6.out.1);clear hb HY6 HP6;have hwh:=HWh.out
 by_cases h6:(6:Int) ∈ l
 case pos =>
  rw [if_pos h6] at hwh;rw [decide_eq_true h6];have HWe:=hj_ hwh;clear h6 hwh HWh;go_wp2_with fail;refine (HMn.out _ HB7.out).mono ?_;rintro e w8 ⟨rfl,hb⟩;rw [← HWe.out];have HB8:=hj_ (ht_ HB7.out hb);have HY8:=hj_ (HY7.out.below hb HY7.out.1);have HP8:=hj_ (HP7.out.below hb HP7.out.1);clear hb HY7 HP7;have z6:=HY8.out.at_ (j:=6) rfl
  have f6:=HY8.out.fr (j:=6) rfl;have hq6:=HY8.out.1;obtain ⟨W9,hW9⟩:∃ W9,W9=w8.setCell ⟨Q,6,none⟩ (.int .i64 wh):=⟨_,rfl⟩;have HY9:=hj_ (show Cells W9 Q [.int .i64 0,.int .i64 0,.int .i64 0,.int .i64 0,.int .i64 0,.int .i64 0,.int .i64 wh,.int .i64 0,.int .i64 0,.int .i64 0,.int .i64 0,.int .i64 0,.int .i64 0,.int .i64 0,.int .i64 0] from by rw [hW9];exact HY8.out.set 6 (.int .i64 wh) (by show 6<15;decide))
  have HP9:=hj_ (show Cells W9 R [.int .i64 3,.int .i64 4,.int .i64 5] by rw [hW9];exact HP8.out.far 6 _ HNe.out)
  have HB9:=hj_ (show Below W.heap.size W W9 by rw [hW9];exact HB8.out.setCell (p:=⟨Q,6,none⟩) HQ.out _)
  have HW9:=hj_ hW9;clear hW9
  go_upto_region 14 with fail
  rw [← HW9.out];clear z6 f6 hq6;have x0:=HP9.out.at_ (j:=0) rfl
  have x1:=HP9.out.at_ (j:=1) rfl
  have x2:=HP9.out.at_ (j:=2) rfl
  have hi0:∀ w,(Instr.index 53 (.agg #[.int .i64 3,.int .i64 4,.int .i64 5]) (.int .i64 0)).run prog w=.ok (.int .i64 3) w:=fun _=>by kernel_rfl
  have hi1:∀ w,(Instr.index 53 (.agg #[.int .i64 3,.int .i64 4,.int .i64 5]) (.int .i64 1)).run prog w=.ok (.int .i64 4) w:=fun _=>by kernel_rfl
  have hi2:∀ w,(Instr.index 53 (.agg #[.int .i64 3,.int .i64 4,.int .i64 5]) (.int .i64 2)).run prog w=.ok (.int .i64 5) w:=fun _=>by kernel_rfl
  go_wp2_with fail;clear x0 x1 x2
  go_loopw [43] (fun jv wr=>∃ k:Nat,k≤3∧jv=.int .i64 k∧(k=0→Cells wr Q [.int .i64 0,.int .i64 0,.int .i64 0,.int .i64 0,.int .i64 0,.int .i64 0,.int .i64 wh,.int .i64 0,.int .i64 0,.int .i64 0,.int .i64 0,.int .i64 0,.int .i64 0,.int .i64 0,.int .i64 0])∧(k=1→Cells wr Q [.int .i64 0,.int .i64 0,.int .i64 0,.int .i64 (r-wh),.int .i64 0,.int .i64 0,.int .i64 wh,.int .i64 0,.int .i64 0,.int .i64 0,.int .i64 0,.int .i64 0,.int .i64 0,.int .i64 0,.int .i64 0])∧(k=2→Cells wr Q [.int .i64 0,.int .i64 0,.int .i64 0,.int .i64 (r-wh),.int .i64 (g-wh),.int .i64 0,.int .i64 wh,.int .i64 0,.int .i64 0,.int .i64 0,.int .i64 0,.int .i64 0,.int .i64 0,.int .i64 0,.int .i64 0])∧(k=3→Cells wr Q [.int .i64 0,.int .i64 0,.int .i64 0,.int .i64 (r-wh),.int .i64 (g-wh),.int .i64 (b-wh),.int .i64 wh,.int .i64 0,.int .i64 0,.int .i64 0,.int .i64 0,.int .i64 0,.int .i64 0,.int .i64 0,.int .i64 0])∧Below W.heap.size W wr) (fun jv _=>3-(intOf jv).toNat)
  case atStart=>exact ⟨0,Nat.zero_le _,rfl,fun _=>HY9.out,fun h=>absurd h (by omega),fun h=>absurd h (by omega),fun h=>absurd h (by omega),HB9.out⟩
  case round =>
   obtain ⟨k,hk,rfl,e0,e1,e2,e3,hBr⟩:=hrel;have HBr:=hj_ hBr
   rename World=>V3
   obtain rfl | rfl | rfl | rfl:k=0∨k=1∨k=2∨k=3:=by omega
   ·have HY:=hj_ (e0 rfl)
    have y:=HY.out.at_ (j:=3) rfl
    have f:=HY.out.fr (j:=3) rfl;have hql:=HY.out.1;obtain ⟨c0,c1,c2⟩:=HK.out _ hBr;clear e0 e1 e2 e3 hBr;go_wp2_with fail
    go_roundw
    case rel=>exact ⟨1,by omega,by go_num,fun h=>absurd h (by omega),fun _=>HY.out.set 3 _ (by show 3<15;decide),fun h=>absurd h (by omega),fun h=>absurd h (by omega),HBr.out.setCell (p:=⟨Q,3,none⟩) HQ.out _⟩
    case measure=>simp [intOf]
   ·have HY:=hj_ (e1 rfl)
    have y:=HY.out.at_ (j:=4) rfl
    have f:=HY.out.fr (j:=4) rfl;have hql:=HY.out.1;obtain ⟨c0,c1,c2⟩:=HK.out _ hBr;clear e0 e1 e2 e3 hBr;go_wp2_with fail
    go_roundw
    case rel=>exact ⟨2,by omega,by go_num,fun h=>absurd h (by omega),fun h=>absurd h (by omega),fun _=>HY.out.set 4 _ (by show 4<15;decide),fun h=>absurd h (by omega),HBr.out.setCell (p:=⟨Q,4,none⟩) HQ.out _⟩
    case measure=>simp [intOf]
   ·have HY:=hj_ (e2 rfl)
    have y:=HY.out.at_ (j:=5) rfl
    have f:=HY.out.fr (j:=5) rfl;have hql:=HY.out.1;obtain ⟨c0,c1,c2⟩:=HK.out _ hBr;clear e0 e1 e2 e3 hBr;go_wp2_with fail
    go_roundw
    case rel=>exact ⟨3,by omega,by go_num,fun h=>absurd h (by omega),fun h=>absurd h (by omega),fun h=>absurd h (by omega),fun _=>HY.out.set 5 _ (by show 5<15;decide),HBr.out.setCell (p:=⟨Q,5,none⟩) HQ.out _⟩
    case measure=>simp [intOf]
   ·have HY:=hj_ (e3 rfl)
    clear e0 e1 e2 e3 hBr;simp only [Int.cast_ofNat_Int];go_wp2_with fail
    go_loopw [16,69] (fun ov jv wr=>∃ k:Nat,k≤l.length∧jv=.int .i64 k∧wr.ownsRow V3.heap.size 3 1 ov k (iv ((l.take k).map (colV r g b wh)))∧Below V3.heap.size V3 wr) (fun _ jv _=>l.length-(intOf jv).toNat)
    case atStart=>exact ⟨0,Nat.zero_le _,rfl,World.ownsRow_nil _ _ _ _,br_⟩
    case round =>
     obtain ⟨k,hk,rfl,hown,hB⟩:=hrel;obtain ⟨Ao,co,rfl⟩:=qfu hown;have HB:=hj_ hB
     by_cases hlt:k<l.length
     case neg =>
      obtain rfl:k=l.length:=by omega
      rw [List.take_length] at hown;have hle:=HB0.out.size;have hle2:=HBr.out.size;have HO:=hj_ (qfy hown (show w.heap.size≤V3.heap.size by omega))
      have HBz:=hj_ (HB0.out.trans ((ht_ HBr.out hB).mono HB0.out.size));clear hown hB hle hle2;go_wp2_with fail;go_ret2;exact ⟨_,rfl,HO.out,HBz.out⟩
     case pos =>
      obtain ⟨bx,ox,e0,hbl,hcell⟩:=HL.out.at1 (k:=k) hlt;subst e0;have hW3b:=ht_ HBr.out hB;have p0:=(hW3b.cell (p:=⟨bx,ox+k,none⟩) hbl).trans hcell;have hbw:=Nat.lt_of_lt_of_le hbl hW3b.size;have hr:=HR.out.1 _ (List.getElem_mem hlt);have htk:iv ((l.take (k+1)).map (colV r g b wh))=iv ((l.take k).map (colV r g b wh)) ++ [.int .i64 (colV r g b wh l[k])]:=by
       rw [List.take_succ_eq_append_getElem hlt,List.map_append,qcd];rfl
      have HTk:=hj_ htk;have i0:(0:Int)≤(k:Int):=by omega
      have i1:(k:Int)<(l.length:Int):=by omega
      have w0:IntKind.i64.wrap ((k:Int)+1)=(k:Int)+1:=IntWalk.i64_in _ (by have:=HR.out.2.1;omega)
      have HLt:=hj_ hlt;have hk15:k≤15:=by have:=HR.out.2.1;omega
      clear hcell htk;generalize l[k]=x at *;clear hlt hk;obtain ⟨j,rfl⟩:∃ j:Nat,x=(j:Int):=⟨x.toNat,by omega⟩
      have y:=(HY.out.below hB HY.out.1).at_ (j:=j) (q0bp r g b wh (by omega))
      have hql:Q<wr.heap.size:=Nat.lt_of_lt_of_le HY.out.1 hB.size;have j0:(0:Int)≤(j:Int):=by omega
      have j1:(j:Int)<15:=by omega
      have hsz:=hB.size;clear hr hW3b hB;generalize colV r g b wh j=v at *;generalize iv ((l.take k).map (colV r g b wh))=XS at *;go_wp2_with (at_builtin;refine q003 rfl _ _ _ rfl V3.heap.size _ _ 1 8 underlying49 infoN rfl (by omega) _ k XS rfl hown [.int .i64 v] _ _ _ rfl (by first | rfl | simp) rfl (qf9 _) (by unfold maxLen;omega) (by omega) (by first | omega | (simp;omega) | simp) ?_;intro g cap w1 hown1 hg1)
      go_roundw
      case rel=>exact ⟨k+1,HLt.out,by go_num,by rw [HTk.out];exact hown1,q1a HB.out (Nat.le_refl _) hown hg1⟩
      case measure=>simp [intOf];have:=HLt.out;omega
 case neg =>
  rw [if_neg h6] at hwh;rw [decide_eq_false h6];have HB8:=HB7;have HY8:=HY7;have HP8:=HP7;clear h6 HWh HY7 HP7;subst hwh;rw [Int.sub_zero] at wr_ wg_ wb_;have z6:=HY8.out.at_ (j:=6) rfl
  have f6:=HY8.out.fr (j:=6) rfl;have hq6:=HY8.out.1;obtain ⟨W9,hW9⟩:∃ W9,W9=w7.setCell ⟨Q,6,none⟩ (.int .i64 0):=⟨_,rfl⟩;have HY9:=hj_ (show Cells W9 Q [.int .i64 0,.int .i64 0,.int .i64 0,.int .i64 0,.int .i64 0,.int .i64 0,.int .i64 0,.int .i64 0,.int .i64 0,.int .i64 0,.int .i64 0,.int .i64 0,.int .i64 0,.int .i64 0,.int .i64 0] from by rw [hW9];exact HY8.out.set 6 (.int .i64 0) (by show 6<15;decide))
  have HP9:=hj_ (show Cells W9 R [.int .i64 3,.int .i64 4,.int .i64 5] by rw [hW9];exact HP8.out.far 6 _ HNe.out)
  have HB9:=hj_ (show Below W.heap.size W W9 by rw [hW9];exact HB8.out.setCell (p:=⟨Q,6,none⟩) HQ.out _)
  have HW9:=hj_ hW9;clear hW9
  go_upto_region 14 with fail
  rw [← HW9.out];clear z6 f6 hq6;have x0:=HP9.out.at_ (j:=0) rfl
  have x1:=HP9.out.at_ (j:=1) rfl
  have x2:=HP9.out.at_ (j:=2) rfl
  have hi0:∀ w,(Instr.index 53 (.agg #[.int .i64 3,.int .i64 4,.int .i64 5]) (.int .i64 0)).run prog w=.ok (.int .i64 3) w:=fun _=>by kernel_rfl
  have hi1:∀ w,(Instr.index 53 (.agg #[.int .i64 3,.int .i64 4,.int .i64 5]) (.int .i64 1)).run prog w=.ok (.int .i64 4) w:=fun _=>by kernel_rfl
  have hi2:∀ w,(Instr.index 53 (.agg #[.int .i64 3,.int .i64 4,.int .i64 5]) (.int .i64 2)).run prog w=.ok (.int .i64 5) w:=fun _=>by kernel_rfl
  go_wp2_with fail;clear x0 x1 x2
  go_loopw [43] (fun jv wr=>∃ k:Nat,k≤3∧jv=.int .i64 k∧(k=0→Cells wr Q [.int .i64 0,.int .i64 0,.int .i64 0,.int .i64 0,.int .i64 0,.int .i64 0,.int .i64 0,.int .i64 0,.int .i64 0,.int .i64 0,.int .i64 0,.int .i64 0,.int .i64 0,.int .i64 0,.int .i64 0])∧(k=1→Cells wr Q [.int .i64 0,.int .i64 0,.int .i64 0,.int .i64 (r-0),.int .i64 0,.int .i64 0,.int .i64 0,.int .i64 0,.int .i64 0,.int .i64 0,.int .i64 0,.int .i64 0,.int .i64 0,.int .i64 0,.int .i64 0])∧(k=2→Cells wr Q [.int .i64 0,.int .i64 0,.int .i64 0,.int .i64 (r-0),.int .i64 (g-0),.int .i64 0,.int .i64 0,.int .i64 0,.int .i64 0,.int .i64 0,.int .i64 0,.int .i64 0,.int .i64 0,.int .i64 0,.int .i64 0])∧(k=3→Cells wr Q [.int .i64 0,.int .i64 0,.int .i64 0,.int .i64 (r-0),.int .i64 (g-0),.int .i64 (b-0),.int .i64 0,.int .i64 0,.int .i64 0,.int .i64 0,.int .i64 0,.int .i64 0,.int .i64 0,.int .i64 0,.int .i64 0])∧Below W.heap.size W wr) (fun jv _=>3-(intOf jv).toNat)
  case atStart=>exact ⟨0,Nat.zero_le _,rfl,fun _=>HY9.out,fun h=>absurd h (by omega),fun h=>absurd h (by omega),fun h=>absurd h (by omega),HB9.out⟩
  case round =>
   obtain ⟨k,hk,rfl,e0,e1,e2,e3,hBr⟩:=hrel;have HBr:=hj_ hBr
   rename World=>V3
   obtain rfl | rfl | rfl | rfl:k=0∨k=1∨k=2∨k=3:=by omega
   ·have HY:=hj_ (e0 rfl)
    have y:=HY.out.at_ (j:=3) rfl
    have f:=HY.out.fr (j:=3) rfl;have hql:=HY.out.1;obtain ⟨c0,c1,c2⟩:=HK.out _ hBr;clear e0 e1 e2 e3 hBr;go_wp2_with fail
    go_roundw
    case rel=>exact ⟨1,by omega,by go_num,fun h=>absurd h (by omega),fun _=>by have h9:=HY.out.set 3 (.int .i64 r) (by show 3<15;decide);simp only [Int.sub_zero] at h9 ⊢;exact h9,fun h=>absurd h (by omega),fun h=>absurd h (by omega),HBr.out.setCell (p:=⟨Q,3,none⟩) HQ.out _⟩
    case measure=>simp [intOf]
   ·have HY:=hj_ (e1 rfl)
    have y:=HY.out.at_ (j:=4) rfl
    have f:=HY.out.fr (j:=4) rfl;have hql:=HY.out.1;obtain ⟨c0,c1,c2⟩:=HK.out _ hBr;clear e0 e1 e2 e3 hBr;go_wp2_with fail
    go_roundw
    case rel=>exact ⟨2,by omega,by go_num,fun h=>absurd h (by omega),fun h=>absurd h (by omega),fun _=>by have h9:=HY.out.set 4 (.int .i64 g) (by show 4<15;decide);simp only [Int.sub_zero] at h9 ⊢;exact h9,fun h=>absurd h (by omega),HBr.out.setCell (p:=⟨Q,4,none⟩) HQ.out _⟩
    case measure=>simp [intOf]
   ·have HY:=hj_ (e2 rfl)
    have y:=HY.out.at_ (j:=5) rfl
    have f:=HY.out.fr (j:=5) rfl;have hql:=HY.out.1;obtain ⟨c0,c1,c2⟩:=HK.out _ hBr;clear e0 e1 e2 e3 hBr;go_wp2_with fail
    go_roundw
    case rel=>exact ⟨3,by omega,by go_num,fun h=>absurd h (by omega),fun h=>absurd h (by omega),fun h=>absurd h (by omega),fun _=>by have h9:=HY.out.set 5 (.int .i64 b) (by show 5<15;decide);simp only [Int.sub_zero] at h9 ⊢;exact h9,HBr.out.setCell (p:=⟨Q,5,none⟩) HQ.out _⟩
    case measure=>simp [intOf]
   ·have HY:=hj_ (e3 rfl)
    clear e0 e1 e2 e3 hBr;simp only [Int.cast_ofNat_Int];go_wp2_with fail
    go_loopw [16,69] (fun ov jv wr=>∃ k:Nat,k≤l.length∧jv=.int .i64 k∧wr.ownsRow V3.heap.size 3 1 ov k (iv ((l.take k).map (colV r g b 0)))∧Below V3.heap.size V3 wr) (fun _ jv _=>l.length-(intOf jv).toNat)
    case atStart=>exact ⟨0,Nat.zero_le _,rfl,World.ownsRow_nil _ _ _ _,br_⟩
    case round =>
     obtain ⟨k,hk,rfl,hown,hB⟩:=hrel;obtain ⟨Ao,co,rfl⟩:=qfu hown;have HB:=hj_ hB
     by_cases hlt:k<l.length
     case neg =>
      obtain rfl:k=l.length:=by omega
      rw [List.take_length] at hown;have hle:=HB0.out.size;have hle2:=HBr.out.size;have HO:=hj_ (qfy hown (show w.heap.size≤V3.heap.size by omega))
      have HBz:=hj_ (HB0.out.trans ((ht_ HBr.out hB).mono HB0.out.size));clear hown hB hle hle2;go_wp2_with fail;go_ret2;exact ⟨_,rfl,HO.out,HBz.out⟩
     case pos =>
      obtain ⟨bx,ox,e0,hbl,hcell⟩:=HL.out.at1 (k:=k) hlt;subst e0;have hW3b:=ht_ HBr.out hB;have p0:=(hW3b.cell (p:=⟨bx,ox+k,none⟩) hbl).trans hcell;have hbw:=Nat.lt_of_lt_of_le hbl hW3b.size;have hr:=HR.out.1 _ (List.getElem_mem hlt);have htk:iv ((l.take (k+1)).map (colV r g b 0))=iv ((l.take k).map (colV r g b 0)) ++ [.int .i64 (colV r g b 0 l[k])]:=by
       rw [List.take_succ_eq_append_getElem hlt,List.map_append,qcd];rfl
      have HTk:=hj_ htk;have i0:(0:Int)≤(k:Int):=by omega
      have i1:(k:Int)<(l.length:Int):=by omega
      have w0:IntKind.i64.wrap ((k:Int)+1)=(k:Int)+1:=IntWalk.i64_in _ (by have:=HR.out.2.1;omega)
      have HLt:=hj_ hlt;have hk15:k≤15:=by have:=HR.out.2.1;omega
      clear hcell htk;generalize l[k]=x at *;clear hlt hk;obtain ⟨j,rfl⟩:∃ j:Nat,x=(j:Int):=⟨x.toNat,by omega⟩
      have y:=(HY.out.below hB HY.out.1).at_ (j:=j) (q0bp r g b 0 (by omega))
      have hql:Q<wr.heap.size:=Nat.lt_of_lt_of_le HY.out.1 hB.size;have j0:(0:Int)≤(j:Int):=by omega
      have j1:(j:Int)<15:=by omega
      have hsz:=hB.size;clear hr hW3b hB;generalize colV r g b 0 j=v at *;generalize iv ((l.take k).map (colV r g b 0))=XS at *;go_wp2_with (at_builtin;refine q003 rfl _ _ _ rfl V3.heap.size _ _ 1 8 underlying49 infoN rfl (by omega) _ k XS rfl hown [.int .i64 v] _ _ _ rfl (by first | rfl | simp) rfl (qf9 _) (by unfold maxLen;omega) (by omega) (by first | omega | (simp;omega) | simp) ?_;intro g cap w1 hown1 hg1)
      go_roundw
      case rel=>exact ⟨k+1,HLt.out,by go_num,by rw [HTk.out];exact hown1,q1a HB.out (Nat.le_refl _) hown hg1⟩
      case measure=>simp [intOf];have:=HLt.out;omega
end

section
open Go.RowKit
theorem q0bm (A:Option Addr) (c:Nat) (B:Option Addr) (d:Nat) (x y z:Int) (w:World) (hl:Is w A 3 [3,4,5]) (hnc:3≤c) (hm:Is w B 3 [x,y,z]) (hrg:∀ t ∈ [x,y,z],0≤t∧t≤65535) :
  Calls prog 19 #[.slice A 3 c,.slice B 3 d] w fun e w'=>e=.returned (.tuple #[.agg #[.int .i64 (min (x) 65535),.int .i64 (min (y) 65535),.int .i64 (min (z) 65535)],.int .i64 0])∧Below w.heap.size w w':=by
 have HCk:=hj_ (fun (w:World) h=>q0c1 A 3 c [3,4,5] w h hnc (by decide) (by decide) (by decide) (by decide) (by decide) (by decide))
 have hHs:=fun (w:World) (h:Is w A 3 [3,4,5])=>q0ca A 3 c [3,4,5] 3 4 5 w h (by decide)
 rw [show (decide ((3:Int) ∈ ([3,4,5]:List Int)) && decide ((4:Int) ∈ ([3,4,5]:List Int)) && decide ((5:Int) ∈ ([3,4,5]:List Int)))=true from by decide] at hHs
 have HHs:=hj_ hHs;have HPr:=hj_ (fun w=>q0d0 w)
 have HLv:=hj_ (fun (w:World) h=>q0bl B 3 d [x,y,z] w h (by decide) hrg)
 have HL:=hj_ hl;have HM:=hj_ hm;have HRg:=hj_ hrg;clear hl hm hrg hHs hnc;obtain ⟨W,hW⟩:∃ W,W=w.alloc (.cells #[.int .i64 0,.int .i64 0,.int .i64 0] 53):=⟨_,rfl⟩;have hb0:Below w.heap.size w W:=by rw [hW];exact (br_).alloc (Nat.le_refl _) _
 have HT0:=hj_ (show Cells W w.heap.size [.int .i64 0,.int .i64 0,.int .i64 0] by rw [hW];exact Cells.fresh w [.int .i64 0,.int .i64 0,.int .i64 0] _)
 have HB0:=hj_ hb0;have HW:=hj_ hW;have hB:=Below.refl W.heap.size W;replace HL:=hj_ (HL.out.below hb0);replace HM:=hj_ (HM.out.below hb0);clear hW hb0
 go_enter func19,ntmps19
 go_wp2_with fail;rw [← HW.out];refine up_ (HCk.out _ (HL.out.below hB)) hB ?_;clear hB;intro w1 hB;go_wp2_with fail;refine up_ (HLv.out _ (HM.out.below hB)) hB ?_;clear hB;intro w2 hB;obtain ⟨W3,hW3⟩:∃ W3,W3=w2.alloc (.cells #[.int .i64 0,.int .i64 0,.int .i64 0,.int .i64 0,.int .i64 0,.int .i64 0,.int .i64 0,.int .i64 0,.int .i64 0,.int .i64 0,.int .i64 0,.int .i64 0,.int .i64 0,.int .i64 0,.int .i64 0] 91):=⟨_,rfl⟩;have hb3:Below w2.heap.size w2 W3:=by rw [hW3];exact (br_).alloc (Nat.le_refl _) _
 have HY3:=hj_ (show Cells W3 w2.heap.size [.int .i64 0,.int .i64 0,.int .i64 0,.int .i64 0,.int .i64 0,.int .i64 0,.int .i64 0,.int .i64 0,.int .i64 0,.int .i64 0,.int .i64 0,.int .i64 0,.int .i64 0,.int .i64 0,.int .i64 0] by rw [hW3];exact Cells.fresh w2 [.int .i64 0,.int .i64 0,.int .i64 0,.int .i64 0,.int .i64 0,.int .i64 0,.int .i64 0,.int .i64 0,.int .i64 0,.int .i64 0,.int .i64 0,.int .i64 0,.int .i64 0,.int .i64 0,.int .i64 0] _)
 have HB3:=hj_ (ht_ hB hb3);have HQ:=hj_ (show W.heap.size≤w2.heap.size from hB.size)
 have HW3:=hj_ hW3;clear hW3 hb3 hB
 go_upto_region 10 with fail
 rw [← HW3.out];generalize w2.heap.size=Q at *;obtain ⟨ba,oa,e0,hba,-⟩:=HL.out.at1 (k:=0) (by decide)
 obtain ⟨bm,om,e1,hbm,-⟩:=HM.out.at1 (k:=0) (by simp)
 subst e0 e1;go_wp2_with fail
 go_loopw [36] (fun jv wr=>∃ k:Nat,k≤3∧jv=.int .i64 k∧(k=0→Cells wr Q [.int .i64 0,.int .i64 0,.int .i64 0,.int .i64 0,.int .i64 0,.int .i64 0,.int .i64 0,.int .i64 0,.int .i64 0,.int .i64 0,.int .i64 0,.int .i64 0,.int .i64 0,.int .i64 0,.int .i64 0])∧(k=1→Cells wr Q [.int .i64 0,.int .i64 0,.int .i64 0,.int .i64 x,.int .i64 0,.int .i64 0,.int .i64 0,.int .i64 0,.int .i64 0,.int .i64 0,.int .i64 0,.int .i64 0,.int .i64 0,.int .i64 0,.int .i64 0])∧(k=2→Cells wr Q [.int .i64 0,.int .i64 0,.int .i64 0,.int .i64 x,.int .i64 y,.int .i64 0,.int .i64 0,.int .i64 0,.int .i64 0,.int .i64 0,.int .i64 0,.int .i64 0,.int .i64 0,.int .i64 0,.int .i64 0])∧(k=3→Cells wr Q [.int .i64 0,.int .i64 0,.int .i64 0,.int .i64 x,.int .i64 y,.int .i64 z,.int .i64 0,.int .i64 0,.int .i64 0,.int .i64 0,.int .i64 0,.int .i64 0,.int .i64 0,.int .i64 0,.int .i64 0])∧Below W.heap.size W wr) (fun jv _=>3-(intOf jv).toNat)
 case atStart=>exact ⟨0,Nat.zero_le _,rfl,fun _=>HY3.out,fun h=>absurd h (by omega),fun h=>absurd h (by omega),fun h=>absurd h (by omega),HB3.out⟩
 case round =>
  obtain ⟨k,hk,rfl,e0,e1,e2,e3,hBr⟩:=hrel;have HBr:=hj_ hBr
  rename World=>V3
  obtain rfl | rfl | rfl | rfl:k=0∨k=1∨k=2∨k=3:=by omega
  ·have HY:=hj_ (e0 rfl)
   have yq:=HY.out.at_ (j:=3) rfl
   have f:=HY.out.fr (j:=3) rfl;have hql:=HY.out.1;obtain ⟨b1,o1,q1,-,p0⟩:=HL.out.at1 (k:=0) (by decide)
   obtain ⟨b2,o2,q2,-,p1⟩:=HM.out.at1 (k:=0) (by simp)
   injection q1 with q1;injection q1 with q1 q3;subst q1 q3
   injection q2 with q2;injection q2 with q2 q4;subst q2 q4
   replace p0:V3.cell? ⟨ba,oa,none⟩=some (.int .i64 3):=(hBr.cell (p:=⟨ba,oa,none⟩) hba).trans p0;replace p1:V3.cell? ⟨bm,om,none⟩=some (.int .i64 x):=(hBr.cell (p:=⟨bm,om,none⟩) hbm).trans p1;have hz1:=Nat.lt_of_lt_of_le hba hBr.size;have hz2:=Nat.lt_of_lt_of_le hbm hBr.size;clear e0 e1 e2 e3 hBr;simp only [Int.cast_ofNat_Int];go_wp2_with fail
   go_roundw
   case rel=>exact ⟨1,by omega,by go_num,fun h=>absurd h (by omega),fun _=>HY.out.set 3 _ (by show 3<15;decide),fun h=>absurd h (by omega),fun h=>absurd h (by omega),HBr.out.setCell (p:=⟨Q,3,none⟩) HQ.out _⟩
   case measure=>simp [intOf]
  ·have HY:=hj_ (e1 rfl)
   have yq:=HY.out.at_ (j:=4) rfl
   have f:=HY.out.fr (j:=4) rfl;have hql:=HY.out.1;obtain ⟨b1,o1,q1,-,p0⟩:=HL.out.at1 (k:=1) (by decide)
   obtain ⟨b2,o2,q2,-,p1⟩:=HM.out.at1 (k:=1) (by simp)
   injection q1 with q1;injection q1 with q1 q3;subst q1 q3
   injection q2 with q2;injection q2 with q2 q4;subst q2 q4
   replace p0:V3.cell? ⟨ba,oa+1,none⟩=some (.int .i64 4):=(hBr.cell (p:=⟨ba,oa+1,none⟩) hba).trans p0;replace p1:V3.cell? ⟨bm,om+1,none⟩=some (.int .i64 y):=(hBr.cell (p:=⟨bm,om+1,none⟩) hbm).trans p1;have hz1:=Nat.lt_of_lt_of_le hba hBr.size;have hz2:=Nat.lt_of_lt_of_le hbm hBr.size;clear e0 e1 e2 e3 hBr;simp only [Int.cast_ofNat_Int];go_wp2_with fail
   go_roundw
   case rel=>exact ⟨2,by omega,by go_num,fun h=>absurd h (by omega),fun h=>absurd h (by omega),fun _=>HY.out.set 4 _ (by show 4<15;decide),fun h=>absurd h (by omega),HBr.out.setCell (p:=⟨Q,4,none⟩) HQ.out _⟩
   case measure=>simp [intOf]
  ·have HY:=hj_ (e2 rfl)
   have yq:=HY.out.at_ (j:=5) rfl
   have f:=HY.out.fr (j:=5) rfl;have hql:=HY.out.1;obtain ⟨b1,o1,q1,-,p0⟩:=HL.out.at1 (k:=2) (by decide)
   obtain ⟨b2,o2,q2,-,p1⟩:=HM.out.at1 (k:=2) (by simp)
   injection q1 with q1;injection q1 with q1 q3;subst q1 q3
   injection q2 with q2;injection q2 with q2 q4;subst q2 q4
   replace p0:V3.cell? ⟨ba,oa+2,none⟩=some (.int .i64 5):=(hBr.cell (p:=⟨ba,oa+2,none⟩) hba).trans p0;replace p1:V3.cell? ⟨bm,om+2,none⟩=some (.int .i64 z):=(hBr.cell (p:=⟨bm,om+2,none⟩) hbm).trans p1;have hz1:=Nat.lt_of_lt_of_le hba hBr.size;have hz2:=Nat.lt_of_lt_of_le hbm hBr.size;clear e0 e1 e2 e3 hBr;simp only [Int.cast_ofNat_Int];go_wp2_with fail
   go_roundw
   case rel=>exact ⟨3,by omega,by go_num,fun h=>absurd h (by omega),fun h=>absurd h (by omega),fun h=>absurd h (by omega),fun _=>HY.out.set 5 _ (by show 5<15;decide),HBr.out.setCell (p:=⟨Q,5,none⟩) HQ.out _⟩
   case measure=>simp [intOf]
  ·have HY:=hj_ (e3 rfl)
   clear e0 e1 e2 e3 hBr;simp only [Int.cast_ofNat_Int];go_wp2_with fail;refine (HPr.out _).mono ?_;rintro e w4 ⟨rfl,hb⟩;have HB4:=hj_ (ht_ HBr.out hb);have HY4:=hj_ (HY.out.below hb HY.out.1);clear hb HY;obtain ⟨W5,hW5⟩:∃ W5,W5=((w4.alloc (.cells #[.int .i64 3,.int .i64 4,.int .i64 5] 53)).alloc (.cells #[.int .i64 8,.int .i64 9,.int .i64 10] 53)).alloc (.cells #[.int .i64 0,.int .i64 0,.int .i64 0] 53):=⟨_,rfl⟩;have hb5:Below w4.heap.size w4 W5:=by rw [hW5];exact (((br_).alloc (Nat.le_refl _) _).alloc (by simp) _).alloc (by simp;omega) _
   have hP5:Cells W5 w4.heap.size [.int .i64 3,.int .i64 4,.int .i64 5]:=by
    rw [hW5];exact (Cells.fresh w4 [.int .i64 3,.int .i64 4,.int .i64 5] _).below (B:=w4.heap.size+1) (((br_).alloc (by simp) _).alloc (by simp) _) (by omega)
   have hO5:Cells W5 (w4.heap.size+1+1) [.int .i64 0,.int .i64 0,.int .i64 0]:=by
    rw [hW5]
    have:=Cells.fresh ((w4.alloc (.cells #[.int .i64 3,.int .i64 4,.int .i64 5] 53)).alloc (.cells #[.int .i64 8,.int .i64 9,.int .i64 10] 53)) [.int .i64 0,.int .i64 0,.int .i64 0] 53
    rw [World.size_alloc,World.size_alloc] at this;exact this
   have HP5:=hj_ hP5;have HO5:=hj_ hO5;have HB5:=hj_ (ht_ HB4.out hb5);have HY5:=hj_ (HY4.out.below hb5 HY4.out.1);have HNe:=hj_ (show w4.heap.size+1+1≠Q∧w4.heap.size+1+1≠w4.heap.size∧W.heap.size≤w4.heap.size+1+1 from by
    have h1:=HY4.out.1;have h2:=HB4.out.size;exact ⟨by omega,by omega,by omega⟩)
   have HW5:=hj_ hW5;clear hW5 hb5 hP5 hO5 HY4
   go_upto_region 17 with fail
   rw [← HW5.out];generalize w4.heap.size=R at *;have x0:=HP5.out.at_ (j:=0) rfl
   have x1:=HP5.out.at_ (j:=1) rfl
   have x2:=HP5.out.at_ (j:=2) rfl
   go_wp2_with fail;refine (HHs.out _ (HL.out.below HB5.out)).mono ?_;rintro e w6 ⟨rfl,hb⟩;have HB6:=hj_ (ht_ HB5.out hb);have HY6:=hj_ (HY5.out.below hb HY5.out.1);have HP6:=hj_ (HP5.out.below hb HP5.out.1);have HO6:=hj_ (HO5.out.below hb HO5.out.1);clear hb x0 x1 x2 HY5 HP5 HO5;go_wp2_with fail
   go_loopw [55] (fun jv wr=>∃ k:Nat,k≤3∧jv=.int .i64 k∧(k=0→Cells wr (R+1+1) [.int .i64 0,.int .i64 0,.int .i64 0])∧(k=1→Cells wr (R+1+1) [.int .i64 (min (x) 65535),.int .i64 0,.int .i64 0])∧(k=2→Cells wr (R+1+1) [.int .i64 (min (x) 65535),.int .i64 (min (y) 65535),.int .i64 0])∧(k=3→Cells wr (R+1+1) [.int .i64 (min (x) 65535),.int .i64 (min (y) 65535),.int .i64 (min (z) 65535)])∧Cells wr Q [.int .i64 0,.int .i64 0,.int .i64 0,.int .i64 x,.int .i64 y,.int .i64 z,.int .i64 0,.int .i64 0,.int .i64 0,.int .i64 0,.int .i64 0,.int .i64 0,.int .i64 0,.int .i64 0,.int .i64 0]∧Cells wr R [.int .i64 3,.int .i64 4,.int .i64 5]∧Below W.heap.size W wr) (fun jv _=>3-(intOf jv).toNat)
   case atStart=>exact ⟨0,Nat.zero_le _,rfl,fun _=>HO6.out,fun h=>absurd h (by omega),fun h=>absurd h (by omega),fun h=>absurd h (by omega),HY6.out,HP6.out,HB6.out⟩
   case round =>
    obtain ⟨k,hk,rfl,e0,e1,e2,e3,hY,hP,hBr2⟩:=hrel;have HBs:=hj_ hBr2;have HYs:=hj_ hY;have HPs:=hj_ hP
    rename World=>V5
    have hrg:=HRg.out;obtain rfl | rfl | rfl | rfl:k=0∨k=1∨k=2∨k=3:=by omega
    ·have HO:=hj_ (e0 rfl)
     have xr:=hP.at_ (j:=0) rfl
     have y1:=hY.at_ (j:=3) rfl
     have y6:=hY.at_ (j:=6) rfl
     have oz:=HO.out.at_ (j:=0) rfl
     have fz:=HO.out.fr (j:=0) rfl;have l1:=hY.1;have l2:=hP.1;have l3:=HO.out.1;have wv:IntKind.i64.wrap (x)=x:=IntWalk.i64_in _ (by
      have h1:=hrg x (by simp)
      omega)
     clear e0 e1 e2 e3 hBr2 hY hP hrg;simp only [Int.cast_ofNat_Int];go_wp2_with fail;refine wp_region_held_drew (S:=fun w'=>w'.cell? ⟨R,0,none⟩=some (.int .i64 3)∧w'.cell? ⟨Q,3,none⟩=some (.int .i64 x)∧w'.cell? ⟨Q,6,none⟩=some (.int .i64 0)) (by kernel_rfl) (by first | exact ⟨xr,y1,y6⟩) (fun hHeld=>?_)
     refine wpAnyH_take (i:=0) (oi:=?_) (v:=?_) ?_ (by kernel_rfl) (by kernel_rfl) (by kernel_rfl) ?_ (Or.inl ⟨?_,?_⟩) (by assumption) ?_
     rotate_left 2
     ·(simp only [List.getElem?_toArray,List.getElem?_cons_zero];rfl)
     ·exact fun _ _ _ h=>h
     ·rfl
     ·(intro w hSw;(try dsimp only at hSw);go_simp;try with_reducible rfl)
     simp only [Act.put,List.setIfInBounds_toArray,List.set_cons_zero,List.set_cons_succ];refine wpAnyH_take (i:=1) (oi:=?_) (v:=?_) ?_ (by kernel_rfl) (by kernel_rfl) (by kernel_rfl) ?_ (Or.inl ⟨?_,?_⟩) (by assumption) ?_
     rotate_left 2
     ·(simp only [List.getElem?_toArray,List.getElem?_cons_succ,List.getElem?_cons_zero];rfl)
     ·exact fun _ _ _ h=>h
     ·rfl
     ·(intro w hSw;(try dsimp only at hSw);go_simp;try with_reducible rfl)
     simp only [Act.put,List.setIfInBounds_toArray,List.set_cons_zero,List.set_cons_succ];refine wpAnyH_take (i:=2) (oi:=?_) (v:=?_) ?_ (by kernel_rfl) (by kernel_rfl) (by kernel_rfl) ?_ (Or.inl ⟨?_,?_⟩) (by assumption) ?_
     rotate_left 2
     ·(simp only [List.getElem?_toArray,List.getElem?_cons_succ,List.getElem?_cons_zero];rfl)
     ·exact fun _ _ _ h=>h
     ·rfl
     ·(intro w hSw;(try dsimp only at hSw);go_simp;try with_reducible rfl)
     simp only [Act.put,List.setIfInBounds_toArray,List.set_cons_zero,List.set_cons_succ];refine wpAnyH_take (i:=3) (oi:=?_) (v:=?_) ?_ (by kernel_rfl) (by kernel_rfl) (by kernel_rfl) ?_ (Or.inl ⟨?_,?_⟩) (by assumption) ?_
     rotate_left 2
     ·(simp only [List.getElem?_toArray,List.getElem?_cons_succ,List.getElem?_cons_zero];rfl)
     ·exact fun _ _ _ h=>h
     ·rfl
     ·(intro w hSw;(try dsimp only at hSw);go_simp;try with_reducible rfl)
     simp only [Act.put,List.setIfInBounds_toArray,List.set_cons_zero,List.set_cons_succ];refine wpAnyH_take (i:=4) (oi:=?_) (v:=?_) ?_ (by kernel_rfl) (by kernel_rfl) (by kernel_rfl) ?_ (Or.inl ⟨?_,?_⟩) (by assumption) ?_
     rotate_left 2
     ·(simp only [List.getElem?_toArray,List.getElem?_cons_succ,List.getElem?_cons_zero];rfl)
     ·exact fun _ _ _ h=>h
     ·rfl
     ·(intro w hSw;(try dsimp only at hSw);go_simp;try with_reducible rfl)
     simp only [Act.put,List.setIfInBounds_toArray,List.set_cons_zero,List.set_cons_succ];refine wpAnyH_take (i:=5) (oi:=?_) (v:=?_) ?_ (by kernel_rfl) (by kernel_rfl) (by kernel_rfl) ?_ (Or.inl ⟨?_,?_⟩) (by assumption) ?_
     rotate_left 2
     ·(simp only [List.getElem?_toArray,List.getElem?_cons_succ,List.getElem?_cons_zero];rfl)
     ·exact fun _ _ _ h=>h
     ·rfl
     ·(intro w hSw;(try dsimp only at hSw);go_simp;try with_reducible rfl)
     simp only [Act.put,List.setIfInBounds_toArray,List.set_cons_zero,List.set_cons_succ];refine wpAnyH_take (i:=6) (oi:=?_) (v:=?_) ?_ (by kernel_rfl) (by kernel_rfl) (by kernel_rfl) ?_ (Or.inl ⟨?_,?_⟩) (by assumption) ?_
     rotate_left 2
     ·(simp only [List.getElem?_toArray,List.getElem?_cons_succ,List.getElem?_cons_zero];rfl)
     ·exact fun _ _ _ h=>h
     ·rfl
     ·(intro w hSw;(try dsimp only at hSw);go_simp;try with_reducible rfl)
     simp only [Act.put,List.setIfInBounds_toArray,List.set_cons_zero,List.set_cons_succ];refine wpAnyH_take (i:=7) (oi:=?_) (v:=?_) ?_ (by kernel_rfl) (by kernel_rfl) (by kernel_rfl) ?_ (Or.inl ⟨?_,?_⟩) (by assumption) ?_
     rotate_left 2
     ·(simp only [List.getElem?_toArray,List.getElem?_cons_succ,List.getElem?_cons_zero];rfl)
     ·exact fun _ _ _ h=>h
     ·rfl
     ·(intro w hSw;(try dsimp only at hSw);go_simp;try with_reducible rfl)
     simp only [Act.put,List.setIfInBounds_toArray,List.set_cons_zero,List.set_cons_succ];refine wpAnyH_take (i:=8) (oi:=?_) (v:=?_) ?_ (by kernel_rfl) (by kernel_rfl) (by kernel_rfl) ?_ (Or.inl ⟨?_,?_⟩) (by assumption) ?_
     rotate_left 2
     ·(simp only [List.getElem?_toArray,List.getElem?_cons_succ,List.getElem?_cons_zero];rfl)
     ·exact fun _ _ _ h=>h
     ·rfl
     ·(intro w hSw;(try dsimp only at hSw);go_simp;try with_reducible rfl)
     simp only [Act.put,List.setIfInBounds_toArray,List.set_cons_zero,List.set_cons_succ];refine wpAnyH_take (i:=9) (oi:=?_) (v:=?_) ?_ (by kernel_rfl) (by kernel_rfl) (by kernel_rfl) ?_ (Or.inl ⟨?_,?_⟩) (by assumption) ?_
     rotate_left 2
     ·(simp only [List.getElem?_toArray,List.getElem?_cons_succ,List.getElem?_cons_zero];rfl)
     ·exact fun _ _ _ h=>h
     ·rfl
     ·(intro w hSw;(try dsimp only at hSw);go_simp;try with_reducible rfl)
     simp only [Act.put,List.setIfInBounds_toArray,List.set_cons_zero,List.set_cons_succ];refine wpAnyH_take (i:=10) (oi:=?_) (v:=?_) ?_ (by kernel_rfl) (by kernel_rfl) (by kernel_rfl) ?_ (Or.inl ⟨?_,?_⟩) (by assumption) ?_
     rotate_left 2
     ·(simp only [List.getElem?_toArray,List.getElem?_cons_succ,List.getElem?_cons_zero];rfl)
     ·exact fun _ _ _ h=>h
     ·rfl
     ·(intro w hSw;(try dsimp only at hSw);go_simp;try with_reducible rfl)
     simp only [Act.put,List.setIfInBounds_toArray,List.set_cons_zero,List.set_cons_succ];refine wpAnyH_ready (rs:=[11]) (by kernel_rfl) (by simp) ?_
     refine AllReadyH.cons rfl (fun K hK=>?_) AllReadyH.nil
     go_simp
     refine hK.out _ _ (by first | exact ⟨xr,y1,y6⟩ | exact ⟨(World.cell?_setCell_far _ _ _ _ HNe.out.2.1).trans xr,(World.cell?_setCell_far _ _ _ _ HNe.out.1).trans y1,(World.cell?_setCell_far _ _ _ _ HNe.out.1).trans y6⟩) (fun hHeld=>?_)
     clear hK K
     try simp only [Act.put,List.setIfInBounds_toArray,List.set_cons_zero,List.set_cons_succ]
     refine wpAnyH_done (by kernel_rfl) ?_ _
     have hO':=HO.out.set 0 (.int .i64 (min (x) 65535)) (by show 0<3;decide)
     have hY':=HYs.out.far 0 (.int .i64 (min (x) 65535)) HNe.out.1;have hP':=HPs.out.far 0 (.int .i64 (min (x) 65535)) HNe.out.2.1;have hB':=HBs.out.setCell (p:=⟨R+1+1,0,none⟩) HNe.out.2.2 (.int .i64 (min (x) 65535));generalize V5.setCell ⟨R+1+1,0,none⟩ (.int .i64 (min (x) 65535))=V6 at *;have HO2:=hj_ (hO'.below (Below.refl V6.heap.size V6).drew hO'.1);have HY2:=hj_ (hY'.below (Below.refl V6.heap.size V6).drew hY'.1);have HP2:=hj_ (hP'.below (Below.refl V6.heap.size V6).drew hP'.1);have HB2:=hj_ hB'.drew;clear hO' hY' hP' hB' hHeld xr y1 y6 oz fz l1 l2 l3;go_wp2_with fail
     go_roundw
     case rel=>exact ⟨1,by omega,by go_num,fun h=>absurd h (by omega),fun _=>HO2.out,fun h=>absurd h (by omega),fun h=>absurd h (by omega),HY2.out,HP2.out,HB2.out⟩
     case measure=>simp [intOf]
    ·have HO:=hj_ (e1 rfl)
     have xr:=hP.at_ (j:=1) rfl
     have y1:=hY.at_ (j:=4) rfl
     have y6:=hY.at_ (j:=6) rfl
     have oz:=HO.out.at_ (j:=1) rfl
     have fz:=HO.out.fr (j:=1) rfl;have l1:=hY.1;have l2:=hP.1;have l3:=HO.out.1;have wv:IntKind.i64.wrap (y)=y:=IntWalk.i64_in _ (by
      have h1:=hrg y (by simp)
      omega)
     clear e0 e1 e2 e3 hBr2 hY hP hrg;simp only [Int.cast_ofNat_Int];go_wp2_with fail;refine wp_region_held_drew (S:=fun w'=>w'.cell? ⟨R,1,none⟩=some (.int .i64 4)∧w'.cell? ⟨Q,4,none⟩=some (.int .i64 y)∧w'.cell? ⟨Q,6,none⟩=some (.int .i64 0)) (by kernel_rfl) (by first | exact ⟨xr,y1,y6⟩) (fun hHeld=>?_)
     refine wpAnyH_take (i:=0) (oi:=?_) (v:=?_) ?_ (by kernel_rfl) (by kernel_rfl) (by kernel_rfl) ?_ (Or.inl ⟨?_,?_⟩) (by assumption) ?_
     rotate_left 2
     ·(simp only [List.getElem?_toArray,List.getElem?_cons_zero];rfl)
     ·exact fun _ _ _ h=>h
     ·rfl
     ·(intro w hSw;(try dsimp only at hSw);go_simp;try with_reducible rfl)
     simp only [Act.put,List.setIfInBounds_toArray,List.set_cons_zero,List.set_cons_succ];refine wpAnyH_take (i:=1) (oi:=?_) (v:=?_) ?_ (by kernel_rfl) (by kernel_rfl) (by kernel_rfl) ?_ (Or.inl ⟨?_,?_⟩) (by assumption) ?_
     rotate_left 2
     ·(simp only [List.getElem?_toArray,List.getElem?_cons_succ,List.getElem?_cons_zero];rfl)
     ·exact fun _ _ _ h=>h
     ·rfl
     ·(intro w hSw;(try dsimp only at hSw);go_simp;try with_reducible rfl)
     simp only [Act.put,List.setIfInBounds_toArray,List.set_cons_zero,List.set_cons_succ];refine wpAnyH_take (i:=2) (oi:=?_) (v:=?_) ?_ (by kernel_rfl) (by kernel_rfl) (by kernel_rfl) ?_ (Or.inl ⟨?_,?_⟩) (by assumption) ?_
     rotate_left 2
     ·(simp only [List.getElem?_toArray,List.getElem?_cons_succ,List.getElem?_cons_zero];rfl)
     ·exact fun _ _ _ h=>h
     ·rfl
     ·(intro w hSw;(try dsimp only at hSw);go_simp;try with_reducible rfl)
     simp only [Act.put,List.setIfInBounds_toArray,List.set_cons_zero,List.set_cons_succ];refine wpAnyH_take (i:=3) (oi:=?_) (v:=?_) ?_ (by kernel_rfl) (by kernel_rfl) (by kernel_rfl) ?_ (Or.inl ⟨?_,?_⟩) (by assumption) ?_
     rotate_left 2
     ·(simp only [List.getElem?_toArray,List.getElem?_cons_succ,List.getElem?_cons_zero];rfl)
     ·exact fun _ _ _ h=>h
     ·rfl
     ·(intro w hSw;(try dsimp only at hSw);go_simp;try with_reducible rfl)
     simp only [Act.put,List.setIfInBounds_toArray,List.set_cons_zero,List.set_cons_succ];refine wpAnyH_take (i:=4) (oi:=?_) (v:=?_) ?_ (by kernel_rfl) (by kernel_rfl) (by kernel_rfl) ?_ (Or.inl ⟨?_,?_⟩) (by assumption) ?_
     rotate_left 2
     ·(simp only [List.getElem?_toArray,List.getElem?_cons_succ,List.getElem?_cons_zero];rfl)
     ·exact fun _ _ _ h=>h
     ·rfl
     ·(intro w hSw;(try dsimp only at hSw);go_simp;try with_reducible rfl)
     simp only [Act.put,List.setIfInBounds_toArray,List.set_cons_zero,List.set_cons_succ];refine wpAnyH_take (i:=5) (oi:=?_) (v:=?_) ?_ (by kernel_rfl) (by kernel_rfl) (by kernel_rfl) ?_ (Or.inl ⟨?_,?_⟩) (by assumption) ?_
     rotate_left 2
     ·(simp only [List.getElem?_toArray,List.getElem?_cons_succ,List.getElem?_cons_zero];rfl)
     ·exact fun _ _ _ h=>h
     ·rfl
     ·(intro w hSw;(try dsimp only at hSw);go_simp;try with_reducible rfl)
     simp only [Act.put,List.setIfInBounds_toArray,List.set_cons_zero,List.set_cons_succ];refine wpAnyH_take (i:=6) (oi:=?_) (v:=?_) ?_ (by kernel_rfl) (by kernel_rfl) (by kernel_rfl) ?_ (Or.inl ⟨?_,?_⟩) (by assumption) ?_
     rotate_left 2
     ·(simp only [List.getElem?_toArray,List.getElem?_cons_succ,List.getElem?_cons_zero];rfl)
     ·exact fun _ _ _ h=>h
     ·rfl
     ·(intro w hSw;(try dsimp only at hSw);go_simp;try with_reducible rfl)
     simp only [Act.put,List.setIfInBounds_toArray,List.set_cons_zero,List.set_cons_succ];refine wpAnyH_take (i:=7) (oi:=?_) (v:=?_) ?_ (by kernel_rfl) (by kernel_rfl) (by kernel_rfl) ?_ (Or.inl ⟨?_,?_⟩) (by assumption) ?_
     rotate_left 2
     ·(simp only [List.getElem?_toArray,List.getElem?_cons_succ,List.getElem?_cons_zero];rfl)
     ·exact fun _ _ _ h=>h
     ·rfl
     ·(intro w hSw;(try dsimp only at hSw);go_simp;try with_reducible rfl)
     simp only [Act.put,List.setIfInBounds_toArray,List.set_cons_zero,List.set_cons_succ];refine wpAnyH_take (i:=8) (oi:=?_) (v:=?_) ?_ (by kernel_rfl) (by kernel_rfl) (by kernel_rfl) ?_ (Or.inl ⟨?_,?_⟩) (by assumption) ?_
     rotate_left 2
     ·(simp only [List.getElem?_toArray,List.getElem?_cons_succ,List.getElem?_cons_zero];rfl)
     ·exact fun _ _ _ h=>h
     ·rfl
     ·(intro w hSw;(try dsimp only at hSw);go_simp;try with_reducible rfl)
     simp only [Act.put,List.setIfInBounds_toArray,List.set_cons_zero,List.set_cons_succ];refine wpAnyH_take (i:=9) (oi:=?_) (v:=?_) ?_ (by kernel_rfl) (by kernel_rfl) (by kernel_rfl) ?_ (Or.inl ⟨?_,?_⟩) (by assumption) ?_
     rotate_left 2
     ·(simp only [List.getElem?_toArray,List.getElem?_cons_succ,List.getElem?_cons_zero];rfl)
     ·exact fun _ _ _ h=>h
     ·rfl
     ·(intro w hSw;(try dsimp only at hSw);go_simp;try with_reducible rfl)
     simp only [Act.put,List.setIfInBounds_toArray,List.set_cons_zero,List.set_cons_succ];refine wpAnyH_take (i:=10) (oi:=?_) (v:=?_) ?_ (by kernel_rfl) (by kernel_rfl) (by kernel_rfl) ?_ (Or.inl ⟨?_,?_⟩) (by assumption) ?_
     rotate_left 2
     ·(simp only [List.getElem?_toArray,List.getElem?_cons_succ,List.getElem?_cons_zero];rfl)
     ·exact fun _ _ _ h=>h
     ·rfl
     ·(intro w hSw;(try dsimp only at hSw);go_simp;try with_reducible rfl)
     simp only [Act.put,List.setIfInBounds_toArray,List.set_cons_zero,List.set_cons_succ];refine wpAnyH_ready (rs:=[11]) (by kernel_rfl) (by simp) ?_
     refine AllReadyH.cons rfl (fun K hK=>?_) AllReadyH.nil
     go_simp
     refine hK.out _ _ (by first | exact ⟨xr,y1,y6⟩ | exact ⟨(World.cell?_setCell_far _ _ _ _ HNe.out.2.1).trans xr,(World.cell?_setCell_far _ _ _ _ HNe.out.1).trans y1,(World.cell?_setCell_far _ _ _ _ HNe.out.1).trans y6⟩) (fun hHeld=>?_)
     clear hK K
     try simp only [Act.put,List.setIfInBounds_toArray,List.set_cons_zero,List.set_cons_succ]
     refine wpAnyH_done (by kernel_rfl) ?_ _
     have hO':=HO.out.set 1 (.int .i64 (min (y) 65535)) (by show 1<3;decide)
     have hY':=HYs.out.far 1 (.int .i64 (min (y) 65535)) HNe.out.1;have hP':=HPs.out.far 1 (.int .i64 (min (y) 65535)) HNe.out.2.1;have hB':=HBs.out.setCell (p:=⟨R+1+1,1,none⟩) HNe.out.2.2 (.int .i64 (min (y) 65535));generalize V5.setCell ⟨R+1+1,1,none⟩ (.int .i64 (min (y) 65535))=V6 at *;have HO2:=hj_ (hO'.below (Below.refl V6.heap.size V6).drew hO'.1);have HY2:=hj_ (hY'.below (Below.refl V6.heap.size V6).drew hY'.1);have HP2:=hj_ (hP'.below (Below.refl V6.heap.size V6).drew hP'.1);have HB2:=hj_ hB'.drew;clear hO' hY' hP' hB' hHeld xr y1 y6 oz fz l1 l2 l3;go_wp2_with fail
     go_roundw
     case rel=>exact ⟨2,by omega,by go_num,fun h=>absurd h (by omega),fun h=>absurd h (by omega),fun _=>HO2.out,fun h=>absurd h (by omega),HY2.out,HP2.out,HB2.out⟩
     case measure=>simp [intOf]
    ·have HO:=hj_ (e2 rfl)
     have xr:=hP.at_ (j:=2) rfl
     have y1:=hY.at_ (j:=5) rfl
     have y6:=hY.at_ (j:=6) rfl
     have oz:=HO.out.at_ (j:=2) rfl
     have fz:=HO.out.fr (j:=2) rfl;have l1:=hY.1;have l2:=hP.1;have l3:=HO.out.1;have wv:IntKind.i64.wrap (z)=z:=IntWalk.i64_in _ (by
      have h1:=hrg z (by simp)
      omega)
     clear e0 e1 e2 e3 hBr2 hY hP hrg;simp only [Int.cast_ofNat_Int];go_wp2_with fail;refine wp_region_held_drew (S:=fun w'=>w'.cell? ⟨R,2,none⟩=some (.int .i64 5)∧w'.cell? ⟨Q,5,none⟩=some (.int .i64 z)∧w'.cell? ⟨Q,6,none⟩=some (.int .i64 0)) (by kernel_rfl) (by first | exact ⟨xr,y1,y6⟩) (fun hHeld=>?_)
     refine wpAnyH_take (i:=0) (oi:=?_) (v:=?_) ?_ (by kernel_rfl) (by kernel_rfl) (by kernel_rfl) ?_ (Or.inl ⟨?_,?_⟩) (by assumption) ?_
     rotate_left 2
     ·(simp only [List.getElem?_toArray,List.getElem?_cons_zero];rfl)
     ·exact fun _ _ _ h=>h
     ·rfl
     ·(intro w hSw;(try dsimp only at hSw);go_simp;try with_reducible rfl)
     simp only [Act.put,List.setIfInBounds_toArray,List.set_cons_zero,List.set_cons_succ];refine wpAnyH_take (i:=1) (oi:=?_) (v:=?_) ?_ (by kernel_rfl) (by kernel_rfl) (by kernel_rfl) ?_ (Or.inl ⟨?_,?_⟩) (by assumption) ?_
     rotate_left 2
     ·(simp only [List.getElem?_toArray,List.getElem?_cons_succ,List.getElem?_cons_zero];rfl)
     ·exact fun _ _ _ h=>h
     ·rfl
     ·(intro w hSw;(try dsimp only at hSw);go_simp;try with_reducible rfl)
     simp only [Act.put,List.setIfInBounds_toArray,List.set_cons_zero,List.set_cons_succ];refine wpAnyH_take (i:=2) (oi:=?_) (v:=?_) ?_ (by kernel_rfl) (by kernel_rfl) (by kernel_rfl) ?_ (Or.inl ⟨?_,?_⟩) (by assumption) ?_
     rotate_left 2
     ·(simp only [List.getElem?_toArray,List.getElem?_cons_succ,List.getElem?_cons_zero];rfl)
     ·exact fun _ _ _ h=>h
     ·rfl
     ·(intro w hSw;(try dsimp only at hSw);go_simp;try with_reducible rfl)
     simp only [Act.put,List.setIfInBounds_toArray,List.set_cons_zero,List.set_cons_succ];refine wpAnyH_take (i:=3) (oi:=?_) (v:=?_) ?_ (by kernel_rfl) (by kernel_rfl) (by kernel_rfl) ?_ (Or.inl ⟨?_,?_⟩) (by assumption) ?_
     rotate_left 2
     ·(simp only [List.getElem?_toArray,List.getElem?_cons_succ,List.getElem?_cons_zero];rfl)
     ·exact fun _ _ _ h=>h
     ·rfl
     ·(intro w hSw;(try dsimp only at hSw);go_simp;try with_reducible rfl)
     simp only [Act.put,List.setIfInBounds_toArray,List.set_cons_zero,List.set_cons_succ];refine wpAnyH_take (i:=4) (oi:=?_) (v:=?_) ?_ (by kernel_rfl) (by kernel_rfl) (by kernel_rfl) ?_ (Or.inl ⟨?_,?_⟩) (by assumption) ?_
     rotate_left 2
     ·(simp only [List.getElem?_toArray,List.getElem?_cons_succ,List.getElem?_cons_zero];rfl)
     ·exact fun _ _ _ h=>h
     ·rfl
     ·(intro w hSw;(try dsimp only at hSw);go_simp;try with_reducible rfl)
     simp only [Act.put,List.setIfInBounds_toArray,List.set_cons_zero,List.set_cons_succ];refine wpAnyH_take (i:=5) (oi:=?_) (v:=?_) ?_ (by kernel_rfl) (by kernel_rfl) (by kernel_rfl) ?_ (Or.inl ⟨?_,?_⟩) (by assumption) ?_
     rotate_left 2
     ·(simp only [List.getElem?_toArray,List.getElem?_cons_succ,List.getElem?_cons_zero];rfl)
     ·exact fun _ _ _ h=>h
     ·rfl
     ·(intro w hSw;(try dsimp only at hSw);go_simp;try with_reducible rfl)
     simp only [Act.put,List.setIfInBounds_toArray,List.set_cons_zero,List.set_cons_succ];refine wpAnyH_take (i:=6) (oi:=?_) (v:=?_) ?_ (by kernel_rfl) (by kernel_rfl) (by kernel_rfl) ?_ (Or.inl ⟨?_,?_⟩) (by assumption) ?_
     rotate_left 2
     ·(simp only [List.getElem?_toArray,List.getElem?_cons_succ,List.getElem?_cons_zero];rfl)
     ·exact fun _ _ _ h=>h
     ·rfl
     ·(intro w hSw;(try dsimp only at hSw);go_simp;try with_reducible rfl)
     simp only [Act.put,List.setIfInBounds_toArray,List.set_cons_zero,List.set_cons_succ];refine wpAnyH_take (i:=7) (oi:=?_) (v:=?_) ?_ (by kernel_rfl) (by kernel_rfl) (by kernel_rfl) ?_ (Or.inl ⟨?_,?_⟩) (by assumption) ?_
     rotate_left 2
     ·(simp only [List.getElem?_toArray,List.getElem?_cons_succ,List.getElem?_cons_zero];rfl)
     ·exact fun _ _ _ h=>h
     ·rfl
     ·(intro w hSw;(try dsimp only at hSw);go_simp;try with_reducible rfl)
     simp only [Act.put,List.setIfInBounds_toArray,List.set_cons_zero,List.set_cons_succ];refine wpAnyH_take (i:=8) (oi:=?_) (v:=?_) ?_ (by kernel_rfl) (by kernel_rfl) (by kernel_rfl) ?_ (Or.inl ⟨?_,?_⟩) (by assumption) ?_
     rotate_left 2
     ·(simp only [List.getElem?_toArray,List.getElem?_cons_succ,List.getElem?_cons_zero];rfl)
     ·exact fun _ _ _ h=>h
     ·rfl
     ·(intro w hSw;(try dsimp only at hSw);go_simp;try with_reducible rfl)
     simp only [Act.put,List.setIfInBounds_toArray,List.set_cons_zero,List.set_cons_succ];refine wpAnyH_take (i:=9) (oi:=?_) (v:=?_) ?_ (by kernel_rfl) (by kernel_rfl) (by kernel_rfl) ?_ (Or.inl ⟨?_,?_⟩) (by assumption) ?_
     rotate_left 2
     ·(simp only [List.getElem?_toArray,List.getElem?_cons_succ,List.getElem?_cons_zero];rfl)
     ·exact fun _ _ _ h=>h
     ·rfl
     ·(intro w hSw;(try dsimp only at hSw);go_simp;try with_reducible rfl)
     simp only [Act.put,List.setIfInBounds_toArray,List.set_cons_zero,List.set_cons_succ];refine wpAnyH_take (i:=10) (oi:=?_) (v:=?_) ?_ (by kernel_rfl) (by kernel_rfl) (by kernel_rfl) ?_ (Or.inl ⟨?_,?_⟩) (by assumption) ?_
     rotate_left 2
     ·(simp only [List.getElem?_toArray,List.getElem?_cons_succ,List.getElem?_cons_zero];rfl)
     ·exact fun _ _ _ h=>h
     ·rfl
     ·(intro w hSw;(try dsimp only at hSw);go_simp;try with_reducible rfl)
     simp only [Act.put,List.setIfInBounds_toArray,List.set_cons_zero,List.set_cons_succ];refine wpAnyH_ready (rs:=[11]) (by kernel_rfl) (by simp) ?_
     refine AllReadyH.cons rfl (fun K hK=>?_) AllReadyH.nil
     go_simp
     refine hK.out _ _ (by first | exact ⟨xr,y1,y6⟩ | exact ⟨(World.cell?_setCell_far _ _ _ _ HNe.out.2.1).trans xr,(World.cell?_setCell_far _ _ _ _ HNe.out.1).trans y1,(World.cell?_setCell_far _ _ _ _ HNe.out.1).trans y6⟩) (fun hHeld=>?_)
     clear hK K
     try simp only [Act.put,List.setIfInBounds_toArray,List.set_cons_zero,List.set_cons_succ]
     refine wpAnyH_done (by kernel_rfl) ?_ _
     have hO':=HO.out.set 2 (.int .i64 (min (z) 65535)) (by show 2<3;decide)
     have hY':=HYs.out.far 2 (.int .i64 (min (z) 65535)) HNe.out.1;have hP':=HPs.out.far 2 (.int .i64 (min (z) 65535)) HNe.out.2.1;have hB':=HBs.out.setCell (p:=⟨R+1+1,2,none⟩) HNe.out.2.2 (.int .i64 (min (z) 65535));generalize V5.setCell ⟨R+1+1,2,none⟩ (.int .i64 (min (z) 65535))=V6 at *;have HO2:=hj_ (hO'.below (Below.refl V6.heap.size V6).drew hO'.1);have HY2:=hj_ (hY'.below (Below.refl V6.heap.size V6).drew hY'.1);have HP2:=hj_ (hP'.below (Below.refl V6.heap.size V6).drew hP'.1);have HB2:=hj_ hB'.drew;clear hO' hY' hP' hB' hHeld xr y1 y6 oz fz l1 l2 l3;go_wp2_with fail
     go_roundw
     case rel=>exact ⟨3,by omega,by go_num,fun h=>absurd h (by omega),fun h=>absurd h (by omega),fun h=>absurd h (by omega),fun _=>HO2.out,HY2.out,HP2.out,HB2.out⟩
     case measure=>simp [intOf]
    ·have HO:=hj_ (e3 rfl)
     have hT:=HT0.out.below hBr2 HT0.out.1;have o0:=HO.out.at_ (j:=0) rfl
     have o1:=HO.out.at_ (j:=1) rfl
     have o2:=HO.out.at_ (j:=2) rfl
     have t0:=hT.at_ (j:=0) rfl
     have t1:=hT.at_ (j:=1) rfl
     have t2:=hT.at_ (j:=2) rfl
     have f0:=hT.fr (j:=0) rfl;have f1:=hT.fr (j:=1) rfl;have f2:=hT.fr (j:=2) rfl;have HBz:=hj_ (ht_ HB0.out hBr2);clear e0 e1 e2 e3 hBr2 hY hP hrg hT;simp only [Int.cast_ofNat_Int];go_wp2_with fail;refine bodyPost_ret ?_ rfl ⟨rfl,?_⟩
     ·rw [results_cell_tmp rfl]
      go_simp
     ·repeat (refine Below.setCell ?_ (by dsimp only;omega) _)
      exact HBz.out
theorem q0bn (A:Option Addr) (c:Nat) (B:Option Addr) (d:Nat) (x y z u:Int) (w:World) (hl:Is w A 4 [3,4,5,6]) (hnc:4≤c) (hm:Is w B 4 [x,y,z,u]) (hrg:∀ t ∈ [x,y,z,u],0≤t∧t≤65535) :
  Calls prog 19 #[.slice A 4 c,.slice B 4 d] w fun e w'=>e=.returned (.tuple #[.agg #[.int .i64 (min (x+u) 65535),.int .i64 (min (y+u) 65535),.int .i64 (min (z+u) 65535)],.int .i64 0])∧Below w.heap.size w w':=by
 have HCk:=hj_ (fun (w:World) h=>q0c1 A 4 c [3,4,5,6] w h hnc (by decide) (by decide) (by decide) (by decide) (by decide) (by decide))
 have hHs:=fun (w:World) (h:Is w A 4 [3,4,5,6])=>q0ca A 4 c [3,4,5,6] 3 4 5 w h (by decide)
 rw [show (decide ((3:Int) ∈ ([3,4,5,6]:List Int)) && decide ((4:Int) ∈ ([3,4,5,6]:List Int)) && decide ((5:Int) ∈ ([3,4,5,6]:List Int)))=true from by decide] at hHs
 have HHs:=hj_ hHs;have HPr:=hj_ (fun w=>q0d0 w)
 have HLv:=hj_ (fun (w:World) h=>q0bl B 4 d [x,y,z,u] w h (by decide) hrg)
 have HL:=hj_ hl;have HM:=hj_ hm;have HRg:=hj_ hrg;clear hl hm hrg hHs hnc;obtain ⟨W,hW⟩:∃ W,W=w.alloc (.cells #[.int .i64 0,.int .i64 0,.int .i64 0] 53):=⟨_,rfl⟩;have hb0:Below w.heap.size w W:=by rw [hW];exact (br_).alloc (Nat.le_refl _) _
 have HT0:=hj_ (show Cells W w.heap.size [.int .i64 0,.int .i64 0,.int .i64 0] by rw [hW];exact Cells.fresh w [.int .i64 0,.int .i64 0,.int .i64 0] _)
 have HB0:=hj_ hb0;have HW:=hj_ hW;have hB:=Below.refl W.heap.size W;replace HL:=hj_ (HL.out.below hb0);replace HM:=hj_ (HM.out.below hb0);clear hW hb0
 go_enter func19,ntmps19
 go_wp2_with fail;rw [← HW.out];refine up_ (HCk.out _ (HL.out.below hB)) hB ?_;clear hB;intro w1 hB;go_wp2_with fail;refine up_ (HLv.out _ (HM.out.below hB)) hB ?_;clear hB;intro w2 hB;obtain ⟨W3,hW3⟩:∃ W3,W3=w2.alloc (.cells #[.int .i64 0,.int .i64 0,.int .i64 0,.int .i64 0,.int .i64 0,.int .i64 0,.int .i64 0,.int .i64 0,.int .i64 0,.int .i64 0,.int .i64 0,.int .i64 0,.int .i64 0,.int .i64 0,.int .i64 0] 91):=⟨_,rfl⟩;have hb3:Below w2.heap.size w2 W3:=by rw [hW3];exact (br_).alloc (Nat.le_refl _) _
 have HY3:=hj_ (show Cells W3 w2.heap.size [.int .i64 0,.int .i64 0,.int .i64 0,.int .i64 0,.int .i64 0,.int .i64 0,.int .i64 0,.int .i64 0,.int .i64 0,.int .i64 0,.int .i64 0,.int .i64 0,.int .i64 0,.int .i64 0,.int .i64 0] by rw [hW3];exact Cells.fresh w2 [.int .i64 0,.int .i64 0,.int .i64 0,.int .i64 0,.int .i64 0,.int .i64 0,.int .i64 0,.int .i64 0,.int .i64 0,.int .i64 0,.int .i64 0,.int .i64 0,.int .i64 0,.int .i64 0,.int .i64 0] _)
 have HB3:=hj_ (ht_ hB hb3);have HQ:=hj_ (show W.heap.size≤w2.heap.size from hB.size)
 have HW3:=hj_ hW3;clear hW3 hb3 hB
 go_upto_region 10 with fail
 rw [← HW3.out];generalize w2.heap.size=Q at *;obtain ⟨ba,oa,e0,hba,-⟩:=HL.out.at1 (k:=0) (by decide)
 obtain ⟨bm,om,e1,hbm,-⟩:=HM.out.at1 (k:=0) (by simp)
 subst e0 e1;go_wp2_with fail
 go_loopw [36] (fun jv wr=>∃ k:Nat,k≤4∧jv=.int .i64 k∧(k=0→Cells wr Q [.int .i64 0,.int .i64 0,.int .i64 0,.int .i64 0,.int .i64 0,.int .i64 0,.int .i64 0,.int .i64 0,.int .i64 0,.int .i64 0,.int .i64 0,.int .i64 0,.int .i64 0,.int .i64 0,.int .i64 0])∧(k=1→Cells wr Q [.int .i64 0,.int .i64 0,.int .i64 0,.int .i64 x,.int .i64 0,.int .i64 0,.int .i64 0,.int .i64 0,.int .i64 0,.int .i64 0,.int .i64 0,.int .i64 0,.int .i64 0,.int .i64 0,.int .i64 0])∧(k=2→Cells wr Q [.int .i64 0,.int .i64 0,.int .i64 0,.int .i64 x,.int .i64 y,.int .i64 0,.int .i64 0,.int .i64 0,.int .i64 0,.int .i64 0,.int .i64 0,.int .i64 0,.int .i64 0,.int .i64 0,.int .i64 0])∧(k=3→Cells wr Q [.int .i64 0,.int .i64 0,.int .i64 0,.int .i64 x,.int .i64 y,.int .i64 z,.int .i64 0,.int .i64 0,.int .i64 0,.int .i64 0,.int .i64 0,.int .i64 0,.int .i64 0,.int .i64 0,.int .i64 0])∧(k=4→Cells wr Q [.int .i64 0,.int .i64 0,.int .i64 0,.int .i64 x,.int .i64 y,.int .i64 z,.int .i64 u,.int .i64 0,.int .i64 0,.int .i64 0,.int .i64 0,.int .i64 0,.int .i64 0,.int .i64 0,.int .i64 0])∧Below W.heap.size W wr) (fun jv _=>4-(intOf jv).toNat)
 case atStart=>exact ⟨0,Nat.zero_le _,rfl,fun _=>HY3.out,fun h=>absurd h (by omega),fun h=>absurd h (by omega),fun h=>absurd h (by omega),fun h=>absurd h (by omega),HB3.out⟩
 case round =>
  obtain ⟨k,hk,rfl,e0,e1,e2,e3,e4,hBr⟩:=hrel;have HBr:=hj_ hBr
  rename World=>V3
  obtain rfl | rfl | rfl | rfl | rfl:k=0∨k=1∨k=2∨k=3∨k=4:=by omega
  ·have HY:=hj_ (e0 rfl)
   have yq:=HY.out.at_ (j:=3) rfl
   have f:=HY.out.fr (j:=3) rfl;have hql:=HY.out.1;obtain ⟨b1,o1,q1,-,p0⟩:=HL.out.at1 (k:=0) (by decide)
   obtain ⟨b2,o2,q2,-,p1⟩:=HM.out.at1 (k:=0) (by simp)
   injection q1 with q1;injection q1 with q1 q3;subst q1 q3
   injection q2 with q2;injection q2 with q2 q4;subst q2 q4
   replace p0:V3.cell? ⟨ba,oa,none⟩=some (.int .i64 3):=(hBr.cell (p:=⟨ba,oa,none⟩) hba).trans p0;replace p1:V3.cell? ⟨bm,om,none⟩=some (.int .i64 x):=(hBr.cell (p:=⟨bm,om,none⟩) hbm).trans p1;have hz1:=Nat.lt_of_lt_of_le hba hBr.size;have hz2:=Nat.lt_of_lt_of_le hbm hBr.size;clear e0 e1 e2 e3 e4 hBr;simp only [Int.cast_ofNat_Int];go_wp2_with fail
   go_roundw
   case rel=>exact ⟨1,by omega,by go_num,fun h=>absurd h (by omega),fun _=>HY.out.set 3 _ (by show 3<15;decide),fun h=>absurd h (by omega),fun h=>absurd h (by omega),fun h=>absurd h (by omega),HBr.out.setCell (p:=⟨Q,3,none⟩) HQ.out _⟩
   case measure=>simp [intOf]
  ·have HY:=hj_ (e1 rfl)
   have yq:=HY.out.at_ (j:=4) rfl
   have f:=HY.out.fr (j:=4) rfl;have hql:=HY.out.1;obtain ⟨b1,o1,q1,-,p0⟩:=HL.out.at1 (k:=1) (by decide)
   obtain ⟨b2,o2,q2,-,p1⟩:=HM.out.at1 (k:=1) (by simp)
   injection q1 with q1;injection q1 with q1 q3;subst q1 q3
   injection q2 with q2;injection q2 with q2 q4;subst q2 q4
   replace p0:V3.cell? ⟨ba,oa+1,none⟩=some (.int .i64 4):=(hBr.cell (p:=⟨ba,oa+1,none⟩) hba).trans p0;replace p1:V3.cell? ⟨bm,om+1,none⟩=some (.int .i64 y):=(hBr.cell (p:=⟨bm,om+1,none⟩) hbm).trans p1;have hz1:=Nat.lt_of_lt_of_le hba hBr.size;have hz2:=Nat.lt_of_lt_of_le hbm hBr.size;clear e0 e1 e2 e3 e4 hBr;simp only [Int.cast_ofNat_Int];go_wp2_with fail
   go_roundw
   case rel=>exact ⟨2,by omega,by go_num,fun h=>absurd h (by omega),fun h=>absurd h (by omega),fun _=>HY.out.set 4 _ (by show 4<15;decide),fun h=>absurd h (by omega),fun h=>absurd h (by omega),HBr.out.setCell (p:=⟨Q,4,none⟩) HQ.out _⟩
   case measure=>simp [intOf]
  ·have HY:=hj_ (e2 rfl)
   have yq:=HY.out.at_ (j:=5) rfl
   have f:=HY.out.fr (j:=5) rfl;have hql:=HY.out.1;obtain ⟨b1,o1,q1,-,p0⟩:=HL.out.at1 (k:=2) (by decide)
   obtain ⟨b2,o2,q2,-,p1⟩:=HM.out.at1 (k:=2) (by simp)
   injection q1 with q1;injection q1 with q1 q3;subst q1 q3
   injection q2 with q2;injection q2 with q2 q4;subst q2 q4
   replace p0:V3.cell? ⟨ba,oa+2,none⟩=some (.int .i64 5):=(hBr.cell (p:=⟨ba,oa+2,none⟩) hba).trans p0;replace p1:V3.cell? ⟨bm,om+2,none⟩=some (.int .i64 z):=(hBr.cell (p:=⟨bm,om+2,none⟩) hbm).trans p1;have hz1:=Nat.lt_of_lt_of_le hba hBr.size;have hz2:=Nat.lt_of_lt_of_le hbm hBr.size;clear e0 e1 e2 e3 e4 hBr;simp only [Int.cast_ofNat_Int];go_wp2_with fail
   go_roundw
   case rel=>exact ⟨3,by omega,by go_num,fun h=>absurd h (by omega),fun h=>absurd h (by omega),fun h=>absurd h (by omega),fun _=>HY.out.set 5 _ (by show 5<15;decide),fun h=>absurd h (by omega),HBr.out.setCell (p:=⟨Q,5,none⟩) HQ.out _⟩
   case measure=>simp [intOf]
  ·have HY:=hj_ (e3 rfl)
   have yq:=HY.out.at_ (j:=6) rfl
   have f:=HY.out.fr (j:=6) rfl;have hql:=HY.out.1;obtain ⟨b1,o1,q1,-,p0⟩:=HL.out.at1 (k:=3) (by decide)
   obtain ⟨b2,o2,q2,-,p1⟩:=HM.out.at1 (k:=3) (by simp)
   injection q1 with q1;injection q1 with q1 q3;subst q1 q3
   injection q2 with q2;injection q2 with q2 q4;subst q2 q4
   replace p0:V3.cell? ⟨ba,oa+3,none⟩=some (.int .i64 6):=(hBr.cell (p:=⟨ba,oa+3,none⟩) hba).trans p0;replace p1:V3.cell? ⟨bm,om+3,none⟩=some (.int .i64 u):=(hBr.cell (p:=⟨bm,om+3,none⟩) hbm).trans p1;have hz1:=Nat.lt_of_lt_of_le hba hBr.size;have hz2:=Nat.lt_of_lt_of_le hbm hBr.size;clear e0 e1 e2 e3 e4 hBr;simp only [Int.cast_ofNat_Int];go_wp2_with fail
   go_roundw
   case rel=>exact ⟨4,by omega,by go_num,fun h=>absurd h (by omega),fun h=>absurd h (by omega),fun h=>absurd h (by omega),fun h=>absurd h (by omega),fun _=>HY.out.set 6 _ (by show 6<15;decide),HBr.out.setCell (p:=⟨Q,6,none⟩) HQ.out _⟩
   case measure=>simp [intOf]
  ·have HY:=hj_ (e4 rfl)
   clear e0 e1 e2 e3 e4 hBr;simp only [Int.cast_ofNat_Int];go_wp2_with fail;refine (HPr.out _).mono ?_;rintro e w4 ⟨rfl,hb⟩;have HB4:=hj_ (ht_ HBr.out hb);have HY4:=hj_ (HY.out.below hb HY.out.1);clear hb HY;obtain ⟨W5,hW5⟩:∃ W5,W5=((w4.alloc (.cells #[.int .i64 3,.int .i64 4,.int .i64 5] 53)).alloc (.cells #[.int .i64 8,.int .i64 9,.int .i64 10] 53)).alloc (.cells #[.int .i64 0,.int .i64 0,.int .i64 0] 53):=⟨_,rfl⟩;have hb5:Below w4.heap.size w4 W5:=by rw [hW5];exact (((br_).alloc (Nat.le_refl _) _).alloc (by simp) _).alloc (by simp;omega) _
   have hP5:Cells W5 w4.heap.size [.int .i64 3,.int .i64 4,.int .i64 5]:=by
    rw [hW5];exact (Cells.fresh w4 [.int .i64 3,.int .i64 4,.int .i64 5] _).below (B:=w4.heap.size+1) (((br_).alloc (by simp) _).alloc (by simp) _) (by omega)
   have hO5:Cells W5 (w4.heap.size+1+1) [.int .i64 0,.int .i64 0,.int .i64 0]:=by
    rw [hW5]
    have:=Cells.fresh ((w4.alloc (.cells #[.int .i64 3,.int .i64 4,.int .i64 5] 53)).alloc (.cells #[.int .i64 8,.int .i64 9,.int .i64 10] 53)) [.int .i64 0,.int .i64 0,.int .i64 0] 53
    rw [World.size_alloc,World.size_alloc] at this;exact this
   have HP5:=hj_ hP5;have HO5:=hj_ hO5;have HB5:=hj_ (ht_ HB4.out hb5);have HY5:=hj_ (HY4.out.below hb5 HY4.out.1);have HNe:=hj_ (show w4.heap.size+1+1≠Q∧w4.heap.size+1+1≠w4.heap.size∧W.heap.size≤w4.heap.size+1+1 from by
    have h1:=HY4.out.1;have h2:=HB4.out.size;exact ⟨by omega,by omega,by omega⟩)
   have HW5:=hj_ hW5;clear hW5 hb5 hP5 hO5 HY4
   go_upto_region 17 with fail
   rw [← HW5.out];generalize w4.heap.size=R at *;have x0:=HP5.out.at_ (j:=0) rfl
   have x1:=HP5.out.at_ (j:=1) rfl
   have x2:=HP5.out.at_ (j:=2) rfl
   go_wp2_with fail;refine (HHs.out _ (HL.out.below HB5.out)).mono ?_;rintro e w6 ⟨rfl,hb⟩;have HB6:=hj_ (ht_ HB5.out hb);have HY6:=hj_ (HY5.out.below hb HY5.out.1);have HP6:=hj_ (HP5.out.below hb HP5.out.1);have HO6:=hj_ (HO5.out.below hb HO5.out.1);clear hb x0 x1 x2 HY5 HP5 HO5;go_wp2_with fail
   go_loopw [55] (fun jv wr=>∃ k:Nat,k≤3∧jv=.int .i64 k∧(k=0→Cells wr (R+1+1) [.int .i64 0,.int .i64 0,.int .i64 0])∧(k=1→Cells wr (R+1+1) [.int .i64 (min (x+u) 65535),.int .i64 0,.int .i64 0])∧(k=2→Cells wr (R+1+1) [.int .i64 (min (x+u) 65535),.int .i64 (min (y+u) 65535),.int .i64 0])∧(k=3→Cells wr (R+1+1) [.int .i64 (min (x+u) 65535),.int .i64 (min (y+u) 65535),.int .i64 (min (z+u) 65535)])∧Cells wr Q [.int .i64 0,.int .i64 0,.int .i64 0,.int .i64 x,.int .i64 y,.int .i64 z,.int .i64 u,.int .i64 0,.int .i64 0,.int .i64 0,.int .i64 0,.int .i64 0,.int .i64 0,.int .i64 0,.int .i64 0]∧Cells wr R [.int .i64 3,.int .i64 4,.int .i64 5]∧Below W.heap.size W wr) (fun jv _=>3-(intOf jv).toNat)
   case atStart=>exact ⟨0,Nat.zero_le _,rfl,fun _=>HO6.out,fun h=>absurd h (by omega),fun h=>absurd h (by omega),fun h=>absurd h (by omega),HY6.out,HP6.out,HB6.out⟩
   case round =>
    obtain ⟨k,hk,rfl,e0,e1,e2,e3,hY,hP,hBr2⟩:=hrel;have HBs:=hj_ hBr2;have HYs:=hj_ hY;have HPs:=hj_ hP
    rename World=>V5
    have hrg:=HRg.out;obtain rfl | rfl | rfl | rfl:k=0∨k=1∨k=2∨k=3:=by omega
    ·have HO:=hj_ (e0 rfl)
     have xr:=hP.at_ (j:=0) rfl
     have y1:=hY.at_ (j:=3) rfl
     have y6:=hY.at_ (j:=6) rfl
     have oz:=HO.out.at_ (j:=0) rfl
     have fz:=HO.out.fr (j:=0) rfl;have l1:=hY.1;have l2:=hP.1;have l3:=HO.out.1;have wv:IntKind.i64.wrap (x+u)=x+u:=IntWalk.i64_in _ (by
      have h1:=hrg x (by simp)
      have h2:=hrg u (by simp)
      omega)
     clear e0 e1 e2 e3 hBr2 hY hP hrg;simp only [Int.cast_ofNat_Int];go_wp2_with fail;refine wp_region_held_drew (S:=fun w'=>w'.cell? ⟨R,0,none⟩=some (.int .i64 3)∧w'.cell? ⟨Q,3,none⟩=some (.int .i64 x)∧w'.cell? ⟨Q,6,none⟩=some (.int .i64 u)) (by kernel_rfl) (by first | exact ⟨xr,y1,y6⟩) (fun hHeld=>?_)
     refine wpAnyH_take (i:=0) (oi:=?_) (v:=?_) ?_ (by kernel_rfl) (by kernel_rfl) (by kernel_rfl) ?_ (Or.inl ⟨?_,?_⟩) (by assumption) ?_
     rotate_left 2
     ·(simp only [List.getElem?_toArray,List.getElem?_cons_zero];rfl)
     ·exact fun _ _ _ h=>h
     ·rfl
     ·(intro w hSw;(try dsimp only at hSw);go_simp;try with_reducible rfl)
     simp only [Act.put,List.setIfInBounds_toArray,List.set_cons_zero,List.set_cons_succ];refine wpAnyH_take (i:=1) (oi:=?_) (v:=?_) ?_ (by kernel_rfl) (by kernel_rfl) (by kernel_rfl) ?_ (Or.inl ⟨?_,?_⟩) (by assumption) ?_
     rotate_left 2
     ·(simp only [List.getElem?_toArray,List.getElem?_cons_succ,List.getElem?_cons_zero];rfl)
     ·exact fun _ _ _ h=>h
     ·rfl
     ·(intro w hSw;(try dsimp only at hSw);go_simp;try with_reducible rfl)
     simp only [Act.put,List.setIfInBounds_toArray,List.set_cons_zero,List.set_cons_succ];refine wpAnyH_take (i:=2) (oi:=?_) (v:=?_) ?_ (by kernel_rfl) (by kernel_rfl) (by kernel_rfl) ?_ (Or.inl ⟨?_,?_⟩) (by assumption) ?_
     rotate_left 2
     ·(simp only [List.getElem?_toArray,List.getElem?_cons_succ,List.getElem?_cons_zero];rfl)
     ·exact fun _ _ _ h=>h
     ·rfl
     ·(intro w hSw;(try dsimp only at hSw);go_simp;try with_reducible rfl)
     simp only [Act.put,List.setIfInBounds_toArray,List.set_cons_zero,List.set_cons_succ];refine wpAnyH_take (i:=3) (oi:=?_) (v:=?_) ?_ (by kernel_rfl) (by kernel_rfl) (by kernel_rfl) ?_ (Or.inl ⟨?_,?_⟩) (by assumption) ?_
     rotate_left 2
     ·(simp only [List.getElem?_toArray,List.getElem?_cons_succ,List.getElem?_cons_zero];rfl)
     ·exact fun _ _ _ h=>h
     ·rfl
     ·(intro w hSw;(try dsimp only at hSw);go_simp;try with_reducible rfl)
     simp only [Act.put,List.setIfInBounds_toArray,List.set_cons_zero,List.set_cons_succ];refine wpAnyH_take (i:=4) (oi:=?_) (v:=?_) ?_ (by kernel_rfl) (by kernel_rfl) (by kernel_rfl) ?_ (Or.inl ⟨?_,?_⟩) (by assumption) ?_
     rotate_left 2
     ·(simp only [List.getElem?_toArray,List.getElem?_cons_succ,List.getElem?_cons_zero];rfl)
     ·exact fun _ _ _ h=>h
     ·rfl
     ·(intro w hSw;(try dsimp only at hSw);go_simp;try with_reducible rfl)
     simp only [Act.put,List.setIfInBounds_toArray,List.set_cons_zero,List.set_cons_succ];refine wpAnyH_take (i:=5) (oi:=?_) (v:=?_) ?_ (by kernel_rfl) (by kernel_rfl) (by kernel_rfl) ?_ (Or.inl ⟨?_,?_⟩) (by assumption) ?_
     rotate_left 2
     ·(simp only [List.getElem?_toArray,List.getElem?_cons_succ,List.getElem?_cons_zero];rfl)
     ·exact fun _ _ _ h=>h
     ·rfl
     ·(intro w hSw;(try dsimp only at hSw);go_simp;try with_reducible rfl)
     simp only [Act.put,List.setIfInBounds_toArray,List.set_cons_zero,List.set_cons_succ];refine wpAnyH_take (i:=6) (oi:=?_) (v:=?_) ?_ (by kernel_rfl) (by kernel_rfl) (by kernel_rfl) ?_ (Or.inl ⟨?_,?_⟩) (by assumption) ?_
     rotate_left 2
     ·(simp only [List.getElem?_toArray,List.getElem?_cons_succ,List.getElem?_cons_zero];rfl)
     ·exact fun _ _ _ h=>h
     ·rfl
     ·(intro w hSw;(try dsimp only at hSw);go_simp;try with_reducible rfl)
     simp only [Act.put,List.setIfInBounds_toArray,List.set_cons_zero,List.set_cons_succ];refine wpAnyH_take (i:=7) (oi:=?_) (v:=?_) ?_ (by kernel_rfl) (by kernel_rfl) (by kernel_rfl) ?_ (Or.inl ⟨?_,?_⟩) (by assumption) ?_
     rotate_left 2
     ·(simp only [List.getElem?_toArray,List.getElem?_cons_succ,List.getElem?_cons_zero];rfl)
     ·exact fun _ _ _ h=>h
     ·rfl
     ·(intro w hSw;(try dsimp only at hSw);go_simp;try with_reducible rfl)
     simp only [Act.put,List.setIfInBounds_toArray,List.set_cons_zero,List.set_cons_succ];refine wpAnyH_take (i:=8) (oi:=?_) (v:=?_) ?_ (by kernel_rfl) (by kernel_rfl) (by kernel_rfl) ?_ (Or.inl ⟨?_,?_⟩) (by assumption) ?_
     rotate_left 2
     ·(simp only [List.getElem?_toArray,List.getElem?_cons_succ,List.getElem?_cons_zero];rfl)
     ·exact fun _ _ _ h=>h
     ·rfl
     ·(intro w hSw;(try dsimp only at hSw);go_simp;try with_reducible rfl)
     simp only [Act.put,List.setIfInBounds_toArray,List.set_cons_zero,List.set_cons_succ];refine wpAnyH_take (i:=9) (oi:=?_) (v:=?_) ?_ (by kernel_rfl) (by kernel_rfl) (by kernel_rfl) ?_ (Or.inl ⟨?_,?_⟩) (by assumption) ?_
     rotate_left 2
     ·(simp only [List.getElem?_toArray,List.getElem?_cons_succ,List.getElem?_cons_zero];rfl)
     ·exact fun _ _ _ h=>h
     ·rfl
     ·(intro w hSw;(try dsimp only at hSw);go_simp;try with_reducible rfl)
     simp only [Act.put,List.setIfInBounds_toArray,List.set_cons_zero,List.set_cons_succ];refine wpAnyH_take (i:=10) (oi:=?_) (v:=?_) ?_ (by kernel_rfl) (by kernel_rfl) (by kernel_rfl) ?_ (Or.inl ⟨?_,?_⟩) (by assumption) ?_
     rotate_left 2
     ·(simp only [List.getElem?_toArray,List.getElem?_cons_succ,List.getElem?_cons_zero];rfl)
     ·exact fun _ _ _ h=>h
     ·rfl
     ·(intro w hSw;(try dsimp only at hSw);go_simp;try with_reducible rfl)
     simp only [Act.put,List.setIfInBounds_toArray,List.set_cons_zero,List.set_cons_succ];refine wpAnyH_ready (rs:=[11]) (by kernel_rfl) (by simp) ?_
     refine AllReadyH.cons rfl (fun K hK=>?_) AllReadyH.nil
     go_simp
     refine hK.out _ _ (by first | exact ⟨xr,y1,y6⟩ | exact ⟨(World.cell?_setCell_far _ _ _ _ HNe.out.2.1).trans xr,(World.cell?_setCell_far _ _ _ _ HNe.out.1).trans y1,(World.cell?_setCell_far _ _ _ _ HNe.out.1).trans y6⟩) (fun hHeld=>?_)
     clear hK K
     try simp only [Act.put,List.setIfInBounds_toArray,List.set_cons_zero,List.set_cons_succ]
     refine wpAnyH_done (by kernel_rfl) ?_ _
     have hO':=HO.out.set 0 (.int .i64 (min (x+u) 65535)) (by show 0<3;decide)
     have hY':=HYs.out.far 0 (.int .i64 (min (x+u) 65535)) HNe.out.1;have hP':=HPs.out.far 0 (.int .i64 (min (x+u) 65535)) HNe.out.2.1;have hB':=HBs.out.setCell (p:=⟨R+1+1,0,none⟩) HNe.out.2.2 (.int .i64 (min (x+u) 65535));generalize V5.setCell ⟨R+1+1,0,none⟩ (.int .i64 (min (x+u) 65535))=V6 at *;have HO2:=hj_ (hO'.below (Below.refl V6.heap.size V6).drew hO'.1);have HY2:=hj_ (hY'.below (Below.refl V6.heap.size V6).drew hY'.1);have HP2:=hj_ (hP'.below (Below.refl V6.heap.size V6).drew hP'.1);have HB2:=hj_ hB'.drew;clear hO' hY' hP' hB' hHeld xr y1 y6 oz fz l1 l2 l3;go_wp2_with fail
     go_roundw
     case rel=>exact ⟨1,by omega,by go_num,fun h=>absurd h (by omega),fun _=>HO2.out,fun h=>absurd h (by omega),fun h=>absurd h (by omega),HY2.out,HP2.out,HB2.out⟩
     case measure=>simp [intOf]
    ·have HO:=hj_ (e1 rfl)
     have xr:=hP.at_ (j:=1) rfl
     have y1:=hY.at_ (j:=4) rfl
     have y6:=hY.at_ (j:=6) rfl
     have oz:=HO.out.at_ (j:=1) rfl
     have fz:=HO.out.fr (j:=1) rfl;have l1:=hY.1;have l2:=hP.1;have l3:=HO.out.1;have wv:IntKind.i64.wrap (y+u)=y+u:=IntWalk.i64_in _ (by
      have h1:=hrg y (by simp)
      have h2:=hrg u (by simp)
      omega)
     clear e0 e1 e2 e3 hBr2 hY hP hrg;simp only [Int.cast_ofNat_Int];go_wp2_with fail;refine wp_region_held_drew (S:=fun w'=>w'.cell? ⟨R,1,none⟩=some (.int .i64 4)∧w'.cell? ⟨Q,4,none⟩=some (.int .i64 y)∧w'.cell? ⟨Q,6,none⟩=some (.int .i64 u)) (by kernel_rfl) (by first | exact ⟨xr,y1,y6⟩) (fun hHeld=>?_)
     refine wpAnyH_take (i:=0) (oi:=?_) (v:=?_) ?_ (by kernel_rfl) (by kernel_rfl) (by kernel_rfl) ?_ (Or.inl ⟨?_,?_⟩) (by assumption) ?_
     rotate_left 2
     ·(simp only [List.getElem?_toArray,List.getElem?_cons_zero];rfl)
     ·exact fun _ _ _ h=>h
     ·rfl
     ·(intro w hSw;(try dsimp only at hSw);go_simp;try with_reducible rfl)
     simp only [Act.put,List.setIfInBounds_toArray,List.set_cons_zero,List.set_cons_succ];refine wpAnyH_take (i:=1) (oi:=?_) (v:=?_) ?_ (by kernel_rfl) (by kernel_rfl) (by kernel_rfl) ?_ (Or.inl ⟨?_,?_⟩) (by assumption) ?_
     rotate_left 2
     ·(simp only [List.getElem?_toArray,List.getElem?_cons_succ,List.getElem?_cons_zero];rfl)
     ·exact fun _ _ _ h=>h
     ·rfl
     ·(intro w hSw;(try dsimp only at hSw);go_simp;try with_reducible rfl)
     simp only [Act.put,List.setIfInBounds_toArray,List.set_cons_zero,List.set_cons_succ];refine wpAnyH_take (i:=2) (oi:=?_) (v:=?_) ?_ (by kernel_rfl) (by kernel_rfl) (by kernel_rfl) ?_ (Or.inl ⟨?_,?_⟩) (by assumption) ?_
     rotate_left 2
     ·(simp only [List.getElem?_toArray,List.getElem?_cons_succ,List.getElem?_cons_zero];rfl)
     ·exact fun _ _ _ h=>h
     ·rfl
     ·(intro w hSw;(try dsimp only at hSw);go_simp;try with_reducible rfl)
     simp only [Act.put,List.setIfInBounds_toArray,List.set_cons_zero,List.set_cons_succ];refine wpAnyH_take (i:=3) (oi:=?_) (v:=?_) ?_ (by kernel_rfl) (by kernel_rfl) (by kernel_rfl) ?_ (Or.inl ⟨?_,?_⟩) (by assumption) ?_
     rotate_left 2
     ·(simp only [List.getElem?_toArray,List.getElem?_cons_succ,List.getElem?_cons_zero];rfl)
     ·exact fun _ _ _ h=>h
     ·rfl
     ·(intro w hSw;(try dsimp only at hSw);go_simp;try with_reducible rfl)
     simp only [Act.put,List.setIfInBounds_toArray,List.set_cons_zero,List.set_cons_succ];refine wpAnyH_take (i:=4) (oi:=?_) (v:=?_) ?_ (by kernel_rfl) (by kernel_rfl) (by kernel_rfl) ?_ (Or.inl ⟨?_,?_⟩) (by assumption) ?_
     rotate_left 2
     ·(simp only [List.getElem?_toArray,List.getElem?_cons_succ,List.getElem?_cons_zero];rfl)
     ·exact fun _ _ _ h=>h
     ·rfl
     ·(intro w hSw;(try dsimp only at hSw);go_simp;try with_reducible rfl)
     simp only [Act.put,List.setIfInBounds_toArray,List.set_cons_zero,List.set_cons_succ];refine wpAnyH_take (i:=5) (oi:=?_) (v:=?_) ?_ (by kernel_rfl) (by kernel_rfl) (by kernel_rfl) ?_ (Or.inl ⟨?_,?_⟩) (by assumption) ?_
     rotate_left 2
     ·(simp only [List.getElem?_toArray,List.getElem?_cons_succ,List.getElem?_cons_zero];rfl)
     ·exact fun _ _ _ h=>h
     ·rfl
     ·(intro w hSw;(try dsimp only at hSw);go_simp;try with_reducible rfl)
     simp only [Act.put,List.setIfInBounds_toArray,List.set_cons_zero,List.set_cons_succ];refine wpAnyH_take (i:=6) (oi:=?_) (v:=?_) ?_ (by kernel_rfl) (by kernel_rfl) (by kernel_rfl) ?_ (Or.inl ⟨?_,?_⟩) (by assumption) ?_
     rotate_left 2
     ·(simp only [List.getElem?_toArray,List.getElem?_cons_succ,List.getElem?_cons_zero];rfl)
     ·exact fun _ _ _ h=>h
     ·rfl
     ·(intro w hSw;(try dsimp only at hSw);go_simp;try with_reducible rfl)
     simp only [Act.put,List.setIfInBounds_toArray,List.set_cons_zero,List.set_cons_succ];refine wpAnyH_take (i:=7) (oi:=?_) (v:=?_) ?_ (by kernel_rfl) (by kernel_rfl) (by kernel_rfl) ?_ (Or.inl ⟨?_,?_⟩) (by assumption) ?_
     rotate_left 2
     ·(simp only [List.getElem?_toArray,List.getElem?_cons_succ,List.getElem?_cons_zero];rfl)
     ·exact fun _ _ _ h=>h
     ·rfl
     ·(intro w hSw;(try dsimp only at hSw);go_simp;try with_reducible rfl)
     simp only [Act.put,List.setIfInBounds_toArray,List.set_cons_zero,List.set_cons_succ];refine wpAnyH_take (i:=8) (oi:=?_) (v:=?_) ?_ (by kernel_rfl) (by kernel_rfl) (by kernel_rfl) ?_ (Or.inl ⟨?_,?_⟩) (by assumption) ?_
     rotate_left 2
     ·(simp only [List.getElem?_toArray,List.getElem?_cons_succ,List.getElem?_cons_zero];rfl)
     ·exact fun _ _ _ h=>h
     ·rfl
     ·(intro w hSw;(try dsimp only at hSw);go_simp;try with_reducible rfl)
     simp only [Act.put,List.setIfInBounds_toArray,List.set_cons_zero,List.set_cons_succ];refine wpAnyH_take (i:=9) (oi:=?_) (v:=?_) ?_ (by kernel_rfl) (by kernel_rfl) (by kernel_rfl) ?_ (Or.inl ⟨?_,?_⟩) (by assumption) ?_
     rotate_left 2
     ·(simp only [List.getElem?_toArray,List.getElem?_cons_succ,List.getElem?_cons_zero];rfl)
     ·exact fun _ _ _ h=>h
     ·rfl
     ·(intro w hSw;(try dsimp only at hSw);go_simp;try with_reducible rfl)
     simp only [Act.put,List.setIfInBounds_toArray,List.set_cons_zero,List.set_cons_succ];refine wpAnyH_take (i:=10) (oi:=?_) (v:=?_) ?_ (by kernel_rfl) (by kernel_rfl) (by kernel_rfl) ?_ (Or.inl ⟨?_,?_⟩) (by assumption) ?_
     rotate_left 2
     ·(simp only [List.getElem?_toArray,List.getElem?_cons_succ,List.getElem?_cons_zero];rfl)
     ·exact fun _ _ _ h=>h
     ·rfl
     ·(intro w hSw;(try dsimp only at hSw);go_simp;try with_reducible rfl)
     simp only [Act.put,List.setIfInBounds_toArray,List.set_cons_zero,List.set_cons_succ];refine wpAnyH_ready (rs:=[11]) (by kernel_rfl) (by simp) ?_
     refine AllReadyH.cons rfl (fun K hK=>?_) AllReadyH.nil
     go_simp
     refine hK.out _ _ (by first | exact ⟨xr,y1,y6⟩ | exact ⟨(World.cell?_setCell_far _ _ _ _ HNe.out.2.1).trans xr,(World.cell?_setCell_far _ _ _ _ HNe.out.1).trans y1,(World.cell?_setCell_far _ _ _ _ HNe.out.1).trans y6⟩) (fun hHeld=>?_)
     clear hK K
     try simp only [Act.put,List.setIfInBounds_toArray,List.set_cons_zero,List.set_cons_succ]
     refine wpAnyH_done (by kernel_rfl) ?_ _
     have hO':=HO.out.set 1 (.int .i64 (min (y+u) 65535)) (by show 1<3;decide)
     have hY':=HYs.out.far 1 (.int .i64 (min (y+u) 65535)) HNe.out.1;have hP':=HPs.out.far 1 (.int .i64 (min (y+u) 65535)) HNe.out.2.1;have hB':=HBs.out.setCell (p:=⟨R+1+1,1,none⟩) HNe.out.2.2 (.int .i64 (min (y+u) 65535));generalize V5.setCell ⟨R+1+1,1,none⟩ (.int .i64 (min (y+u) 65535))=V6 at *;have HO2:=hj_ (hO'.below (Below.refl V6.heap.size V6).drew hO'.1);have HY2:=hj_ (hY'.below (Below.refl V6.heap.size V6).drew hY'.1);have HP2:=hj_ (hP'.below (Below.refl V6.heap.size V6).drew hP'.1);have HB2:=hj_ hB'.drew;clear hO' hY' hP' hB' hHeld xr y1 y6 oz fz l1 l2 l3;go_wp2_with fail
     go_roundw
     case rel=>exact ⟨2,by omega,by go_num,fun h=>absurd h (by omega),fun h=>absurd h (by omega),fun _=>HO2.out,fun h=>absurd h (by omega),HY2.out,HP2.out,HB2.out⟩
     case measure=>simp [intOf]
    ·have HO:=hj_ (e2 rfl)
     have xr:=hP.at_ (j:=2) rfl
     have y1:=hY.at_ (j:=5) rfl
     have y6:=hY.at_ (j:=6) rfl
     have oz:=HO.out.at_ (j:=2) rfl
     have fz:=HO.out.fr (j:=2) rfl;have l1:=hY.1;have l2:=hP.1;have l3:=HO.out.1;have wv:IntKind.i64.wrap (z+u)=z+u:=IntWalk.i64_in _ (by
      have h1:=hrg z (by simp)
      have h2:=hrg u (by simp)
      omega)
     clear e0 e1 e2 e3 hBr2 hY hP hrg;simp only [Int.cast_ofNat_Int];go_wp2_with fail;refine wp_region_held_drew (S:=fun w'=>w'.cell? ⟨R,2,none⟩=some (.int .i64 5)∧w'.cell? ⟨Q,5,none⟩=some (.int .i64 z)∧w'.cell? ⟨Q,6,none⟩=some (.int .i64 u)) (by kernel_rfl) (by first | exact ⟨xr,y1,y6⟩) (fun hHeld=>?_)
     refine wpAnyH_take (i:=0) (oi:=?_) (v:=?_) ?_ (by kernel_rfl) (by kernel_rfl) (by kernel_rfl) ?_ (Or.inl ⟨?_,?_⟩) (by assumption) ?_
     rotate_left 2
     ·(simp only [List.getElem?_toArray,List.getElem?_cons_zero];rfl)
     ·exact fun _ _ _ h=>h
     ·rfl
     ·(intro w hSw;(try dsimp only at hSw);go_simp;try with_reducible rfl)
     simp only [Act.put,List.setIfInBounds_toArray,List.set_cons_zero,List.set_cons_succ];refine wpAnyH_take (i:=1) (oi:=?_) (v:=?_) ?_ (by kernel_rfl) (by kernel_rfl) (by kernel_rfl) ?_ (Or.inl ⟨?_,?_⟩) (by assumption) ?_
     rotate_left 2
     ·(simp only [List.getElem?_toArray,List.getElem?_cons_succ,List.getElem?_cons_zero];rfl)
     ·exact fun _ _ _ h=>h
     ·rfl
     ·(intro w hSw;(try dsimp only at hSw);go_simp;try with_reducible rfl)
     simp only [Act.put,List.setIfInBounds_toArray,List.set_cons_zero,List.set_cons_succ];refine wpAnyH_take (i:=2) (oi:=?_) (v:=?_) ?_ (by kernel_rfl) (by kernel_rfl) (by kernel_rfl) ?_ (Or.inl ⟨?_,?_⟩) (by assumption) ?_
     rotate_left 2
     ·(simp only [List.getElem?_toArray,List.getElem?_cons_succ,List.getElem?_cons_zero];rfl)
     ·exact fun _ _ _ h=>h
     ·rfl
     ·(intro w hSw;(try dsimp only at hSw);go_simp;try with_reducible rfl)
     simp only [Act.put,List.setIfInBounds_toArray,List.set_cons_zero,List.set_cons_succ];refine wpAnyH_take (i:=3) (oi:=?_) (v:=?_) ?_ (by kernel_rfl) (by kernel_rfl) (by kernel_rfl) ?_ (Or.inl ⟨?_,?_⟩) (by assumption) ?_
     rotate_left 2
     ·(simp only [List.getElem?_toArray,List.getElem?_cons_succ,List.getElem?_cons_zero];rfl)
     ·exact fun _ _ _ h=>h
     ·rfl
     ·(intro w hSw;(try dsimp only at hSw);go_simp;try with_reducible rfl)
     simp only [Act.put,List.setIfInBounds_toArray,List.set_cons_zero,List.set_cons_succ];refine wpAnyH_take (i:=4) (oi:=?_) (v:=?_) ?_ (by kernel_rfl) (by kernel_rfl) (by kernel_rfl) ?_ (Or.inl ⟨?_,?_⟩) (by assumption) ?_
     rotate_left 2
     ·(simp only [List.getElem?_toArray,List.getElem?_cons_succ,List.getElem?_cons_zero];rfl)
     ·exact fun _ _ _ h=>h
     ·rfl
     ·(intro w hSw;(try dsimp only at hSw);go_simp;try with_reducible rfl)
     simp only [Act.put,List.setIfInBounds_toArray,List.set_cons_zero,List.set_cons_succ];refine wpAnyH_take (i:=5) (oi:=?_) (v:=?_) ?_ (by kernel_rfl) (by kernel_rfl) (by kernel_rfl) ?_ (Or.inl ⟨?_,?_⟩) (by assumption) ?_
     rotate_left 2
     ·(simp only [List.getElem?_toArray,List.getElem?_cons_succ,List.getElem?_cons_zero];rfl)
     ·exact fun _ _ _ h=>h
     ·rfl
     ·(intro w hSw;(try dsimp only at hSw);go_simp;try with_reducible rfl)
     simp only [Act.put,List.setIfInBounds_toArray,List.set_cons_zero,List.set_cons_succ];refine wpAnyH_take (i:=6) (oi:=?_) (v:=?_) ?_ (by kernel_rfl) (by kernel_rfl) (by kernel_rfl) ?_ (Or.inl ⟨?_,?_⟩) (by assumption) ?_
     rotate_left 2
     ·(simp only [List.getElem?_toArray,List.getElem?_cons_succ,List.getElem?_cons_zero];rfl)
     ·exact fun _ _ _ h=>h
     ·rfl
     ·(intro w hSw;(try dsimp only at hSw);go_simp;try with_reducible rfl)
     simp only [Act.put,List.setIfInBounds_toArray,List.set_cons_zero,List.set_cons_succ];refine wpAnyH_take (i:=7) (oi:=?_) (v:=?_) ?_ (by kernel_rfl) (by kernel_rfl) (by kernel_rfl) ?_ (Or.inl ⟨?_,?_⟩) (by assumption) ?_
     rotate_left 2
     ·(simp only [List.getElem?_toArray,List.getElem?_cons_succ,List.getElem?_cons_zero];rfl)
     ·exact fun _ _ _ h=>h
     ·rfl
     ·(intro w hSw;(try dsimp only at hSw);go_simp;try with_reducible rfl)
     simp only [Act.put,List.setIfInBounds_toArray,List.set_cons_zero,List.set_cons_succ];refine wpAnyH_take (i:=8) (oi:=?_) (v:=?_) ?_ (by kernel_rfl) (by kernel_rfl) (by kernel_rfl) ?_ (Or.inl ⟨?_,?_⟩) (by assumption) ?_
     rotate_left 2
     ·(simp only [List.getElem?_toArray,List.getElem?_cons_succ,List.getElem?_cons_zero];rfl)
     ·exact fun _ _ _ h=>h
     ·rfl
     ·(intro w hSw;(try dsimp only at hSw);go_simp;try with_reducible rfl)
     simp only [Act.put,List.setIfInBounds_toArray,List.set_cons_zero,List.set_cons_succ];refine wpAnyH_take (i:=9) (oi:=?_) (v:=?_) ?_ (by kernel_rfl) (by kernel_rfl) (by kernel_rfl) ?_ (Or.inl ⟨?_,?_⟩) (by assumption) ?_
     rotate_left 2
     ·(simp only [List.getElem?_toArray,List.getElem?_cons_succ,List.getElem?_cons_zero];rfl)
     ·exact fun _ _ _ h=>h
     ·rfl
     ·(intro w hSw;(try dsimp only at hSw);go_simp;try with_reducible rfl)
     simp only [Act.put,List.setIfInBounds_toArray,List.set_cons_zero,List.set_cons_succ];refine wpAnyH_take (i:=10) (oi:=?_) (v:=?_) ?_ (by kernel_rfl) (by kernel_rfl) (by kernel_rfl) ?_ (Or.inl ⟨?_,?_⟩) (by assumption) ?_
     rotate_left 2
     ·(simp only [List.getElem?_toArray,List.getElem?_cons_succ,List.getElem?_cons_zero];rfl)
     ·exact fun _ _ _ h=>h
     ·rfl
     ·(intro w hSw;(try dsimp only at hSw);go_simp;try with_reducible rfl)
     simp only [Act.put,List.setIfInBounds_toArray,List.set_cons_zero,List.set_cons_succ];refine wpAnyH_ready (rs:=[11]) (by kernel_rfl) (by simp) ?_
     refine AllReadyH.cons rfl (fun K hK=>?_) AllReadyH.nil
     go_simp
     refine hK.out _ _ (by first | exact ⟨xr,y1,y6⟩ | exact ⟨(World.cell?_setCell_far _ _ _ _ HNe.out.2.1).trans xr,(World.cell?_setCell_far _ _ _ _ HNe.out.1).trans y1,(World.cell?_setCell_far _ _ _ _ HNe.out.1).trans y6⟩) (fun hHeld=>?_)
     clear hK K
     try simp only [Act.put,List.setIfInBounds_toArray,List.set_cons_zero,List.set_cons_succ]
     refine wpAnyH_done (by kernel_rfl) ?_ _
     have hO':=HO.out.set 2 (.int .i64 (min (z+u) 65535)) (by show 2<3;decide)
     have hY':=HYs.out.far 2 (.int .i64 (min (z+u) 65535)) HNe.out.1;have hP':=HPs.out.far 2 (.int .i64 (min (z+u) 65535)) HNe.out.2.1;have hB':=HBs.out.setCell (p:=⟨R+1+1,2,none⟩) HNe.out.2.2 (.int .i64 (min (z+u) 65535));generalize V5.setCell ⟨R+1+1,2,none⟩ (.int .i64 (min (z+u) 65535))=V6 at *;have HO2:=hj_ (hO'.below (Below.refl V6.heap.size V6).drew hO'.1);have HY2:=hj_ (hY'.below (Below.refl V6.heap.size V6).drew hY'.1);have HP2:=hj_ (hP'.below (Below.refl V6.heap.size V6).drew hP'.1);have HB2:=hj_ hB'.drew;clear hO' hY' hP' hB' hHeld xr y1 y6 oz fz l1 l2 l3;go_wp2_with fail
     go_roundw
     case rel=>exact ⟨3,by omega,by go_num,fun h=>absurd h (by omega),fun h=>absurd h (by omega),fun h=>absurd h (by omega),fun _=>HO2.out,HY2.out,HP2.out,HB2.out⟩
     case measure=>simp [intOf]
    ·have HO:=hj_ (e3 rfl)
     have hT:=HT0.out.below hBr2 HT0.out.1;have o0:=HO.out.at_ (j:=0) rfl
     have o1:=HO.out.at_ (j:=1) rfl
     have o2:=HO.out.at_ (j:=2) rfl
     have t0:=hT.at_ (j:=0) rfl
     have t1:=hT.at_ (j:=1) rfl
     have t2:=hT.at_ (j:=2) rfl
     have f0:=hT.fr (j:=0) rfl;have f1:=hT.fr (j:=1) rfl;have f2:=hT.fr (j:=2) rfl;have HBz:=hj_ (ht_ HB0.out hBr2);clear e0 e1 e2 e3 hBr2 hY hP hrg hT;simp only [Int.cast_ofNat_Int];go_wp2_with fail;refine bodyPost_ret ?_ rfl ⟨rfl,?_⟩
     ·rw [results_cell_tmp rfl]
      go_simp
     ·repeat (refine Below.setCell ?_ (by dsimp only;omega) _)
      exact HBz.out
end

end Go.Proofs.YtmcbkdlfhffphaaGreatDoor
