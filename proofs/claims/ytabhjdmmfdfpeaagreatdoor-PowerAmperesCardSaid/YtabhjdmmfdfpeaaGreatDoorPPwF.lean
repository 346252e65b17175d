/- Lemmas. -/
import Derived.Test.YtabhjdmmfdfpeaaGreatDoorPPwB
namespace Go.Proofs.YtabhjdmmfdfpeaaGreatDoor
set_option maxHeartbeats 32000000
set_option maxRecDepth 100000
open _root_.Go.Proofs.Tryz

section
open Go.RowKit
theorem q0g8 {P:List PC} {X:List Fx} (h:WOk P X) (k:Int):0≤phaseV P X k∧phaseV P X k≤X.length*1048576:=by
 revert h
 refine q0hd (m:=fun X=>WOk P X→0≤phaseV P X k∧phaseV P X k≤X.length*1048576) ?_ ?_ X
 ·intro _;exact ⟨Int.le_refl _,by simp [phaseV]⟩
 ·intro X x ih h
  have h1:=ih (fun y hy=>h y (by simp [hy]))
  obtain ⟨p,hp,p0,p1⟩:=h x (by simp)
  rw [q0g9,q0iz hp,List.length_append];simp only [List.length_cons,List.length_nil]
  split <;> omega
def phaseL (P:List PC) (X:List Fx):List Value:=[.int .i64 (phaseV P X 1),.int .i64 (phaseV P X 2),.int .i64 (phaseV P X 3)]
theorem q0ew (A0:Option Addr) (n0 d0:Nat) (A1:Option Addr) (n1 d1:Nat) (A2:Option Addr) (n2 d2:Nat) (P:List PC) (X:List Fx) (w:World)
  (hp:shPr.In w A1 n1 P) (hn1:n1≤9223372036854775806) (hx:shX.In w A2 n2 X) (hX:X.length≤1000) (hW:WOk P X) (hph:∀ x ∈ X,1≤x.ph∧x.ph≤3) :
  Calls prog 51 #[.agg #[.slice A0 n0 d0,.slice A1 n1 d1,.slice A2 n2 d2]] w fun e w'=>e=.returned (.agg #[.int .i64 (phaseV P X 1),.int .i64 (phaseV P X 2),.int .i64 (phaseV P X 3)])∧Below w.heap.size w w':=by
 obtain rfl:n2=X.length:=hx.1;have HX:=hj_ hx;have HWk:=hj_ hW;have HPh:=hj_ hph;have HLn:=hj_ hX;have HBd:=hj_ (show ∀ j k,0≤phaseV P (X.take j) k∧phaseV P (X.take j) k≤1048576000 from fun j k=>by
  have h:=q0g8 (P:=P) (X:=X.take j) (fun x hx=>hW x (List.mem_of_mem_take hx)) k
  rw [List.length_take] at h
  omega)
 have HPf:=hj_ (fun (x:Fx) (p:PC) w' (hb:Below w.heap.size w w') (h:pcF P x.pr=some p)=>q0fd A0 n0 d0 A1 n1 d1 A2 X.length d2 P x p w' (hp.below hb) hn1 h)
 obtain ⟨W,hW2⟩:∃ W,W=((w.alloc (.cells #[.slice A0 n0 d0,.slice A1 n1 d1,.slice A2 X.length d2] 75)).alloc (.cells #[.int .i64 0,.int .i64 0,.int .i64 0] 47)).alloc (.cells #[.int .i64 0,.int .i64 0,.int .i64 0] 47):=⟨_,rfl⟩;have hb1:Below w.heap.size w W:=by rw [hW2];exact (((Below.refl _ w).alloc (Nat.le_refl _) _).alloc (by simp) _).alloc (by simp;omega) _
 have hc0:Cells W w.heap.size [.slice A0 n0 d0,.slice A1 n1 d1,.slice A2 X.length d2]:=by
  rw [hW2];have h:=Cells.fresh w [.slice A0 n0 d0,.slice A1 n1 d1,.slice A2 X.length d2] 75;exact (h.below ((br_).alloc (Nat.le_refl _) _) h.1).below ((br_).alloc (Nat.le_refl _) _) (by simp;omega)
 have hc1:Cells W (w.heap.size+1) [.int .i64 0,.int .i64 0,.int .i64 0]:=by
  rw [hW2];have h:=Cells.fresh (w.alloc (.cells #[.slice A0 n0 d0,.slice A1 n1 d1,.slice A2 X.length d2] 75)) [.int .i64 0,.int .i64 0,.int .i64 0] 47;rw [World.size_alloc] at h;exact h.below ((br_).alloc (Nat.le_refl _) _) (by simp)
 have hc2:Cells W (w.heap.size+1+1) [.int .i64 0,.int .i64 0,.int .i64 0]:=by
  rw [hW2];have h:=Cells.fresh ((w.alloc (.cells #[.slice A0 n0 d0,.slice A1 n1 d1,.slice A2 X.length d2] 75)).alloc (.cells #[.int .i64 0,.int .i64 0,.int .i64 0] 47)) [.int .i64 0,.int .i64 0,.int .i64 0] 47;rw [World.size_alloc,World.size_alloc] at h;exact h
 have HW2:=hj_ hW2;have HB1:=hj_ hb1;have HC0:=hj_ hc0;have HC1:=hj_ hc1;have HC2:=hj_ hc2;have x2:=hc0.at_ (j:=2) rfl
 have hwl:w.heap.size<W.heap.size:=hc0.1;clear hx hW hX hph hp hW2 hb1 hc0 hc1 hc2
 go_enter func51,ntmps51
 go_wp2_with fail;rw [← HW2.out];go_wp2_with fail;clear x2 hwl
 go_loopw [10] (fun iv wr=>∃ k:Nat,k≤X.length∧iv=.int .i64 k∧Below w.heap.size w wr∧Cells wr w.heap.size [.slice A0 n0 d0,.slice A1 n1 d1,.slice A2 X.length d2]∧Cells wr (w.heap.size+1) [.int .i64 0,.int .i64 0,.int .i64 0]∧Cells wr (w.heap.size+1+1) (phaseL P (X.take k))) (fun iv _=>X.length-(intOf iv).toNat)
 case atStart=>exact ⟨0,Nat.zero_le _,rfl,HB1.out,HC0.out,HC1.out,HC2.out⟩
 case round =>
  obtain ⟨k,hk,rfl,hB,hq0,hq1,hq2⟩:=hrel;have HBr:=hj_ hB;have HQ0:=hj_ hq0;have HQ1:=hj_ hq1;have HQ2:=hj_ hq2
  by_cases hlt:k<X.length
  ·obtain ⟨b,o,rfl,hbl,hcell⟩:=fx_at HX.out (by omega)
   have hk7:=hcell k hlt;have kk:=fun (q:Nat)=>hB.cell (p:=⟨b,q,none⟩) hbl
   have hbw:b<wr.heap.size:=Nat.lt_of_lt_of_le hbl hB.size;have i0:(0:Int)≤(k:Int):=by omega
   have i1:(k:Int)<(X.length:Int):=by omega
   have w0:IntKind.i64.wrap ((k:Int)+1)=(k:Int)+1:=IntWalk.i64_in _ (by have:=HLn.out;omega)
   obtain ⟨p,hpc,hw0,hw1⟩:=HWk.out X[k] (List.getElem_mem hlt);have hphk:=HPh.out X[k] (List.getElem_mem hlt);have hpush:=fun j=>q0g9 P (X.take k) X[k] j
   rw [← List.take_succ_eq_append_getElem hlt,q0iz hpc] at hpush;have HPu:=hj_ hpush;have HPr:=hj_ (fun w' hb=>HPf.out X[k] p w' hb hpc)
   have HLt:=hj_ hlt;clear hcell hpush hpc hq0 hq1 hq2 hB;generalize X[k]=x at *;obtain ⟨ch,pt,pr,un,ad,ph,cb⟩:=x;obtain ⟨ps,pf,pw,pA,pn,pc⟩:=p;dsimp only at hk7 hphk HPu hw0 hw1;obtain ⟨k0,k1,k2,k3,k4,k5,k6⟩:=hk7;have p0:=(kk _).trans k0;have p1:=(kk _).trans k1;have p2:=(kk _).trans k2;have p3:=(kk _).trans k3;have p4:=(kk _).trans k4;have p5:=(kk _).trans k5;have p6:=(kk _).trans k6;have HPr2:=hj_ (show ∀ w',Below w.heap.size w w'→Calls prog 32 #[.agg #[.slice A0 n0 d0,.slice A1 n1 d1,.slice (some ⟨b,o,none⟩) X.length d2],.agg #[.int .i64 ch,.int .i64 pt,.string pr,.int .i64 un,.int .i64 ad,.int .i64 ph,.string cb]] w' fun e w''=>e=.returned (.agg #[.string ps,.int .i64 pf,.int .i64 pw,.slice pA pn pc])∧Below w'.heap.size w' w'' from HPr.out)
   obtain ⟨W1,hW1⟩:∃ W1,W1=wr.alloc (.cells #[.int .i64 ch,.int .i64 pt,.string pr,.int .i64 un,.int .i64 ad,.int .i64 ph,.string cb] 45):=⟨_,rfl⟩;have hb1:Below wr.heap.size wr W1:=by rw [hW1];exact (br_).alloc (Nat.le_refl _) _
   have hx1:Cells W1 wr.heap.size [.int .i64 ch,.int .i64 pt,.string pr,.int .i64 un,.int .i64 ad,.int .i64 ph,.string cb]:=by rw [hW1];exact Cells.fresh wr [.int .i64 ch,.int .i64 pt,.string pr,.int .i64 un,.int .i64 ad,.int .i64 ph,.string cb] _
   have HB1':=hj_ (ht_ HBr.out hb1);have HX1:=hj_ hx1;have HD0:=hj_ (HQ0.out.below hb1 HQ0.out.1);have HD1:=hj_ (HQ1.out.below hb1 HQ1.out.1);have HD2:=hj_ (HQ2.out.below hb1 HQ2.out.1);have hlx:w.heap.size+1+1<wr.heap.size:=HQ2.out.1;have HW1:=hj_ hW1;have hbd:=And.intro (HBd.out k 1) (And.intro (HBd.out k 2) (HBd.out k 3));unfold phaseL at HD2;generalize hs1:phaseV P (X.take k) 1=s1 at *;generalize hs2:phaseV P (X.take k) 2=s2 at *;generalize hs3:phaseV P (X.take k) 3=s3 at *;have hfd:∀ w,(Instr.field 87 (.agg #[.string ps,.int .i64 pf,.int .i64 pw,.slice pA pn pc]) 2).run prog w=.ok (.int .i64 pw) w:=fun w=>by kernel_rfl
   clear k0 k1 k2 k3 k4 k5 k6 kk hb1 hx1 hW1 HPr HQ0 HQ1 HQ2 HBr;have e1:w.heap.size+1+1≠w.heap.size:=by omega
   have e2:w.heap.size+1+1≠w.heap.size+1:=by omega
   have e3:w.heap.size+1+1≠wr.heap.size:=by omega
   clear hlx;go_wp2_with fail;rw [← HW1.out];obtain rfl | rfl | rfl:ph=1∨ph=2∨ph=3:=by omega
   ·have c0:=HD0.out.at_ (j:=0) rfl
    have c1:=HD0.out.at_ (j:=1) rfl
    have c2:=HD0.out.at_ (j:=2) rfl
    have x0:=HX1.out.at_ (j:=0) rfl
    have x1:=HX1.out.at_ (j:=1) rfl
    have x2:=HX1.out.at_ (j:=2) rfl
    have x3:=HX1.out.at_ (j:=3) rfl
    have x4:=HX1.out.at_ (j:=4) rfl
    have x5:=HX1.out.at_ (j:=5) rfl
    have x6:=HX1.out.at_ (j:=6) rfl
    have y0:=HD2.out.at_ (j:=0) rfl
    have wv:IntKind.i64.wrap (s1+pw)=s1+pw:=IntWalk.i64_in _ (by omega)
    have wj:IntKind.i64.wrap 0=0:=rfl;clear p0 p1 p2 p3 p4 p5 p6 hw0 hw1 hphk hbd;go_wp2_with fail;refine wp_region_held_drew (S:=fun w'=>w'.cell? ⟨w.heap.size,0,none⟩=some (.slice A0 n0 d0)∧w'.cell? ⟨w.heap.size,1,none⟩=some (.slice A1 n1 d1)∧w'.cell? ⟨w.heap.size,2,none⟩=some (.slice (some ⟨b,o,none⟩) X.length d2)∧w'.cell? ⟨wr.heap.size,0,none⟩=some (.int .i64 ch)∧w'.cell? ⟨wr.heap.size,1,none⟩=some (.int .i64 pt)∧w'.cell? ⟨wr.heap.size,2,none⟩=some (.string pr)∧w'.cell? ⟨wr.heap.size,3,none⟩=some (.int .i64 un)∧w'.cell? ⟨wr.heap.size,4,none⟩=some (.int .i64 ad)∧w'.cell? ⟨wr.heap.size,5,none⟩=some (.int .i64 1)∧w'.cell? ⟨wr.heap.size,6,none⟩=some (.string cb)) (by kernel_rfl) (by first | exact ⟨c0,c1,c2,x0,x1,x2,x3,x4,x5,x6⟩) (fun hHeld=>?_)
    refine tq 0 ?_;refine tq 1 ?_;refine tq 2 ?_;refine tq 3 ?_;refine tq 5 ?_;refine tq 6 ?_;refine wpAnyH_ready (rs:=[4,7]) (by kernel_rfl) (by simp) ?_
    refine AllReadyH.cons rfl (fun K hK=>?_) (AllReadyH.cons rfl (fun K hK=>?_) AllReadyH.nil)
    ·go_simp
     refine hK.out _ _ (by first | exact ⟨c0,c1,c2,x0,x1,x2,x3,x4,x5,x6⟩) (fun hHeld=>?_)
     clear hK K
     try simp only [Act.put,List.setIfInBounds_toArray,List.set_cons_zero,List.set_cons_succ]
     refine wpAnyH_ready (rs:=[7]) (by kernel_rfl) (by simp) ?_
     refine AllReadyH.cons rfl (fun K hK=>?_) AllReadyH.nil
     go_simp
     go_at_call 32;refine (HPr2.out _ (q18 HB1'.out 1)).mono ?_;rintro e w2 ⟨rfl,hb⟩;have hb2:=(q18 (Below.refl W1.heap.size W1) 1).trans (hb.mono (q18 (Below.refl W1.heap.size W1) 1).size);have HB2:=hj_ (ht_ HB1'.out hb2);have HE0:=hj_ (HD0.out.below hb2 HD0.out.1);have HE1:=hj_ (HD1.out.below hb2 HD1.out.1);have HE2:=hj_ (HD2.out.below hb2 HD2.out.1);have HXE:=hj_ (HX1.out.below hb2 HX1.out.1);replace c0:=HE0.out.at_ (j:=0) rfl;replace c1:=HE0.out.at_ (j:=1) rfl;replace c2:=HE0.out.at_ (j:=2) rfl;replace x0:=HXE.out.at_ (j:=0) rfl;replace x1:=HXE.out.at_ (j:=1) rfl;replace x2:=HXE.out.at_ (j:=2) rfl;replace x3:=HXE.out.at_ (j:=3) rfl;replace x4:=HXE.out.at_ (j:=4) rfl;replace x5:=HXE.out.at_ (j:=5) rfl;replace x6:=HXE.out.at_ (j:=6) rfl;have y0:=HE2.out.at_ (j:=0) rfl;have z0:=HE2.out.fr (j:=0) rfl;have lz:=HE2.out.1;clear hb hb2
     go_wp2_with fail;refine hK.out _ _ (by first | exact ⟨c0,c1,c2,x0,x1,x2,x3,x4,x5,x6⟩) (fun hHeld=>?_)
     clear hK K
     try simp only [Act.put,List.setIfInBounds_toArray,List.set_cons_zero,List.set_cons_succ]
     refine tq 8 ?_;refine tq 9 ?_;refine tq 10 ?_;refine wpAnyH_ready (rs:=[11]) (by kernel_rfl) (by simp) ?_
     refine AllReadyH.cons rfl (fun K hK=>?_) AllReadyH.nil
     go_simp
     refine hK.out _ _ (by first | exact ⟨(World.cell?_setCell_far _ _ _ _ e1).trans c0,(World.cell?_setCell_far _ _ _ _ e1).trans c1,(World.cell?_setCell_far _ _ _ _ e1).trans c2,(World.cell?_setCell_far _ _ _ _ e3).trans x0,(World.cell?_setCell_far _ _ _ _ e3).trans x1,(World.cell?_setCell_far _ _ _ _ e3).trans x2,(World.cell?_setCell_far _ _ _ _ e3).trans x3,(World.cell?_setCell_far _ _ _ _ e3).trans x4,(World.cell?_setCell_far _ _ _ _ e3).trans x5,(World.cell?_setCell_far _ _ _ _ e3).trans x6⟩ | exact ⟨(World.cell?_setCell_far _ _ _ _ e1.symm).trans c0,(World.cell?_setCell_far _ _ _ _ e1.symm).trans c1,(World.cell?_setCell_far _ _ _ _ e1.symm).trans c2,(World.cell?_setCell_far _ _ _ _ e3.symm).trans x0,(World.cell?_setCell_far _ _ _ _ e3.symm).trans x1,(World.cell?_setCell_far _ _ _ _ e3.symm).trans x2,(World.cell?_setCell_far _ _ _ _ e3.symm).trans x3,(World.cell?_setCell_far _ _ _ _ e3.symm).trans x4,(World.cell?_setCell_far _ _ _ _ e3.symm).trans x5,(World.cell?_setCell_far _ _ _ _ e3.symm).trans x6⟩) (fun hHeld=>?_)
     clear hK K
     try simp only [Act.put,List.setIfInBounds_toArray,List.set_cons_zero,List.set_cons_succ]
     refine wpAnyH_done (by kernel_rfl) ?_ _
     have HF0:=hj_ (HE0.out.far 0 (.int .i64 (s1+pw)) e1);have HF1:=hj_ (HE1.out.far 0 (.int .i64 (s1+pw)) e2);have hf2:=HE2.out.set 0 (.int .i64 (s1+pw)) (by show 0<3;decide)
     have HF2:=hj_ (show Cells (w2.setCell ⟨w.heap.size+1+1,0,none⟩ (.int .i64 (s1+pw))) (w.heap.size+1+1) [.int .i64 (s1+pw),.int .i64 s2,.int .i64 s3] from hf2)
     have HB3:=hj_ (HB2.out.setCell (p:=⟨w.heap.size+1+1,0,none⟩) (by show w.heap.size≤w.heap.size+1+1;omega) (.int .i64 (s1+pw)))
     clear hf2 c0 c1 c2 x0 x1 x2 x3 x4 x5 x6 y0 z0 lz;generalize w2.setCell ⟨w.heap.size+1+1,0,none⟩ (.int .i64 (s1+pw))=w3 at *;have hrl:Cells w3 (w.heap.size+1+1) (phaseL P (X.take (k+1))):=by
      have h1:=HPu.out 1;have h2:=HPu.out 2;have h3:=HPu.out 3;rw [hs1] at h1;rw [hs2] at h2;rw [hs3] at h3;unfold phaseL;rw [h1,h2,h3];exact HF2.out
     have HRl:=hj_ hrl;clear hrl;go_wp2_with fail
     go_roundw
     case rel=>exact ⟨k+1,HLt.out,by go_num,HB3.out,HF0.out,HF1.out,HRl.out⟩
     case measure=>have:=HLt.out;simp [intOf];omega
    ·go_simp
     go_at_call 32;refine (HPr2.out _ (q18 HB1'.out 1)).mono ?_;rintro e w2 ⟨rfl,hb⟩;have hb2:=(q18 (Below.refl W1.heap.size W1) 1).trans (hb.mono (q18 (Below.refl W1.heap.size W1) 1).size);have HB2:=hj_ (ht_ HB1'.out hb2);have HE0:=hj_ (HD0.out.below hb2 HD0.out.1);have HE1:=hj_ (HD1.out.below hb2 HD1.out.1);have HE2:=hj_ (HD2.out.below hb2 HD2.out.1);have HXE:=hj_ (HX1.out.below hb2 HX1.out.1);replace c0:=HE0.out.at_ (j:=0) rfl;replace c1:=HE0.out.at_ (j:=1) rfl;replace c2:=HE0.out.at_ (j:=2) rfl;replace x0:=HXE.out.at_ (j:=0) rfl;replace x1:=HXE.out.at_ (j:=1) rfl;replace x2:=HXE.out.at_ (j:=2) rfl;replace x3:=HXE.out.at_ (j:=3) rfl;replace x4:=HXE.out.at_ (j:=4) rfl;replace x5:=HXE.out.at_ (j:=5) rfl;replace x6:=HXE.out.at_ (j:=6) rfl;have y0:=HE2.out.at_ (j:=0) rfl;have z0:=HE2.out.fr (j:=0) rfl;have lz:=HE2.out.1;clear hb hb2
     go_wp2_with fail;refine hK.out _ _ (by first | exact ⟨c0,c1,c2,x0,x1,x2,x3,x4,x5,x6⟩) (fun hHeld=>?_)
     clear hK K
     try simp only [Act.put,List.setIfInBounds_toArray,List.set_cons_zero,List.set_cons_succ]
     refine tq 8 ?_;refine wpAnyH_ready (rs:=[4]) (by kernel_rfl) (by simp) ?_
     refine AllReadyH.cons rfl (fun K hK=>?_) AllReadyH.nil
     go_simp
     refine hK.out _ _ (by first | exact ⟨c0,c1,c2,x0,x1,x2,x3,x4,x5,x6⟩) (fun hHeld=>?_)
     clear hK K
     try simp only [Act.put,List.setIfInBounds_toArray,List.set_cons_zero,List.set_cons_succ]
     refine tq 9 ?_;refine tq 10 ?_;refine wpAnyH_ready (rs:=[11]) (by kernel_rfl) (by simp) ?_
     refine AllReadyH.cons rfl (fun K hK=>?_) AllReadyH.nil
     go_simp
     refine hK.out _ _ (by first | exact ⟨(World.cell?_setCell_far _ _ _ _ e1).trans c0,(World.cell?_setCell_far _ _ _ _ e1).trans c1,(World.cell?_setCell_far _ _ _ _ e1).trans c2,(World.cell?_setCell_far _ _ _ _ e3).trans x0,(World.cell?_setCell_far _ _ _ _ e3).trans x1,(World.cell?_setCell_far _ _ _ _ e3).trans x2,(World.cell?_setCell_far _ _ _ _ e3).trans x3,(World.cell?_setCell_far _ _ _ _ e3).trans x4,(World.cell?_setCell_far _ _ _ _ e3).trans x5,(World.cell?_setCell_far _ _ _ _ e3).trans x6⟩ | exact ⟨(World.cell?_setCell_far _ _ _ _ e1.symm).trans c0,(World.cell?_setCell_far _ _ _ _ e1.symm).trans c1,(World.cell?_setCell_far _ _ _ _ e1.symm).trans c2,(World.cell?_setCell_far _ _ _ _ e3.symm).trans x0,(World.cell?_setCell_far _ _ _ _ e3.symm).trans x1,(World.cell?_setCell_far _ _ _ _ e3.symm).trans x2,(World.cell?_setCell_far _ _ _ _ e3.symm).trans x3,(World.cell?_setCell_far _ _ _ _ e3.symm).trans x4,(World.cell?_setCell_far _ _ _ _ e3.symm).trans x5,(World.cell?_setCell_far _ _ _ _ e3.symm).trans x6⟩) (fun hHeld=>?_)
     clear hK K
     try simp only [Act.put,List.setIfInBounds_toArray,List.set_cons_zero,List.set_cons_succ]
     refine wpAnyH_done (by kernel_rfl) ?_ _
     have HF0:=hj_ (HE0.out.far 0 (.int .i64 (s1+pw)) e1);have HF1:=hj_ (HE1.out.far 0 (.int .i64 (s1+pw)) e2);have hf2:=HE2.out.set 0 (.int .i64 (s1+pw)) (by show 0<3;decide)
     have HF2:=hj_ (show Cells (w2.setCell ⟨w.heap.size+1+1,0,none⟩ (.int .i64 (s1+pw))) (w.heap.size+1+1) [.int .i64 (s1+pw),.int .i64 s2,.int .i64 s3] from hf2)
     have HB3:=hj_ (HB2.out.setCell (p:=⟨w.heap.size+1+1,0,none⟩) (by show w.heap.size≤w.heap.size+1+1;omega) (.int .i64 (s1+pw)))
     clear hf2 c0 c1 c2 x0 x1 x2 x3 x4 x5 x6 y0 z0 lz;generalize w2.setCell ⟨w.heap.size+1+1,0,none⟩ (.int .i64 (s1+pw))=w3 at *;have hrl:Cells w3 (w.heap.size+1+1) (phaseL P (X.take (k+1))):=by
      have h1:=HPu.out 1;have h2:=HPu.out 2;have h3:=HPu.out 3;rw [hs1] at h1;rw [hs2] at h2;rw [hs3] at h3;unfold phaseL;rw [h1,h2,h3];exact HF2.out
     have HRl:=hj_ hrl;clear hrl;go_wp2_with fail
     go_roundw
     case rel=>exact ⟨k+1,HLt.out,by go_num,HB3.out,HF0.out,HF1.out,HRl.out⟩
     case measure=>have:=HLt.out;simp [intOf];omega
   ·have c0:=HD0.out.at_ (j:=0) rfl
    have c1:=HD0.out.at_ (j:=1) rfl
    have c2:=HD0.out.at_ (j:=2) rfl
    have x0:=HX1.out.at_ (j:=0) rfl
    have x1:=HX1.out.at_ (j:=1) rfl
    have x2:=HX1.out.at_ (j:=2) rfl
    have x3:=HX1.out.at_ (j:=3) rfl
    have x4:=HX1.out.at_ (j:=4) rfl
    have x5:=HX1.out.at_ (j:=5) rfl
    have x6:=HX1.out.at_ (j:=6) rfl
    have y0:=HD2.out.at_ (j:=1) rfl
    have wv:IntKind.i64.wrap (s2+pw)=s2+pw:=IntWalk.i64_in _ (by omega)
    have wj:IntKind.i64.wrap 1=1:=rfl;clear p0 p1 p2 p3 p4 p5 p6 hw0 hw1 hphk hbd;go_wp2_with fail;refine wp_region_held_drew (S:=fun w'=>w'.cell? ⟨w.heap.size,0,none⟩=some (.slice A0 n0 d0)∧w'.cell? ⟨w.heap.size,1,none⟩=some (.slice A1 n1 d1)∧w'.cell? ⟨w.heap.size,2,none⟩=some (.slice (some ⟨b,o,none⟩) X.length d2)∧w'.cell? ⟨wr.heap.size,0,none⟩=some (.int .i64 ch)∧w'.cell? ⟨wr.heap.size,1,none⟩=some (.int .i64 pt)∧w'.cell? ⟨wr.heap.size,2,none⟩=some (.string pr)∧w'.cell? ⟨wr.heap.size,3,none⟩=some (.int .i64 un)∧w'.cell? ⟨wr.heap.size,4,none⟩=some (.int .i64 ad)∧w'.cell? ⟨wr.heap.size,5,none⟩=some (.int .i64 2)∧w'.cell? ⟨wr.heap.size,6,none⟩=some (.string cb)) (by kernel_rfl) (by first | exact ⟨c0,c1,c2,x0,x1,x2,x3,x4,x5,x6⟩) (fun hHeld=>?_)
    refine tq 0 ?_;refine tq 1 ?_;refine tq 2 ?_;refine tq 3 ?_;refine tq 5 ?_;refine tq 6 ?_;refine wpAnyH_ready (rs:=[4,7]) (by kernel_rfl) (by simp) ?_
    refine AllReadyH.cons rfl (fun K hK=>?_) (AllReadyH.cons rfl (fun K hK=>?_) AllReadyH.nil)
    ·go_simp
     refine hK.out _ _ (by first | exact ⟨c0,c1,c2,x0,x1,x2,x3,x4,x5,x6⟩) (fun hHeld=>?_)
     clear hK K
     try simp only [Act.put,List.setIfInBounds_toArray,List.set_cons_zero,List.set_cons_succ]
     refine wpAnyH_ready (rs:=[7]) (by kernel_rfl) (by simp) ?_
     refine AllReadyH.cons rfl (fun K hK=>?_) AllReadyH.nil
     go_simp
     go_at_call 32;refine (HPr2.out _ (q18 HB1'.out 1)).mono ?_;rintro e w2 ⟨rfl,hb⟩;have hb2:=(q18 (Below.refl W1.heap.size W1) 1).trans (hb.mono (q18 (Below.refl W1.heap.size W1) 1).size);have HB2:=hj_ (ht_ HB1'.out hb2);have HE0:=hj_ (HD0.out.below hb2 HD0.out.1);have HE1:=hj_ (HD1.out.below hb2 HD1.out.1);have HE2:=hj_ (HD2.out.below hb2 HD2.out.1);have HXE:=hj_ (HX1.out.below hb2 HX1.out.1);replace c0:=HE0.out.at_ (j:=0) rfl;replace c1:=HE0.out.at_ (j:=1) rfl;replace c2:=HE0.out.at_ (j:=2) rfl;replace x0:=HXE.out.at_ (j:=0) rfl;replace x1:=HXE.out.at_ (j:=1) rfl;replace x2:=HXE.out.at_ (j:=2) rfl;replace x3:=HXE.out.at_ (j:=3) rfl;replace x4:=HXE.out.at_ (j:=4) rfl;replace x5:=HXE.out.at_ (j:=5) rfl;replace x6:=HXE.out.at_ (j:=6) rfl;have y0:=HE2.out.at_ (j:=1) rfl;have z0:=HE2.out.fr (j:=1) rfl;have lz:=HE2.out.1;clear hb hb2
     go_wp2_with fail;refine hK.out _ _ (by first | exact ⟨c0,c1,c2,x0,x1,x2,x3,x4,x5,x6⟩) (fun hHeld=>?_)
     clear hK K
     try simp only [Act.put,List.setIfInBounds_toArray,List.set_cons_zero,List.set_cons_succ]
     refine tq 8 ?_;refine tq 9 ?_;refine tq 10 ?_;refine wpAnyH_ready (rs:=[11]) (by kernel_rfl) (by simp) ?_
     refine AllReadyH.cons rfl (fun K hK=>?_) AllReadyH.nil
     go_simp
     refine hK.out _ _ (by first | exact ⟨(World.cell?_setCell_far _ _ _ _ e1).trans c0,(World.cell?_setCell_far _ _ _ _ e1).trans c1,(World.cell?_setCell_far _ _ _ _ e1).trans c2,(World.cell?_setCell_far _ _ _ _ e3).trans x0,(World.cell?_setCell_far _ _ _ _ e3).trans x1,(World.cell?_setCell_far _ _ _ _ e3).trans x2,(World.cell?_setCell_far _ _ _ _ e3).trans x3,(World.cell?_setCell_far _ _ _ _ e3).trans x4,(World.cell?_setCell_far _ _ _ _ e3).trans x5,(World.cell?_setCell_far _ _ _ _ e3).trans x6⟩ | exact ⟨(World.cell?_setCell_far _ _ _ _ e1.symm).trans c0,(World.cell?_setCell_far _ _ _ _ e1.symm).trans c1,(World.cell?_setCell_far _ _ _ _ e1.symm).trans c2,(World.cell?_setCell_far _ _ _ _ e3.symm).trans x0,(World.cell?_setCell_far _ _ _ _ e3.symm).trans x1,(World.cell?_setCell_far _ _ _ _ e3.symm).trans x2,(World.cell?_setCell_far _ _ _ _ e3.symm).trans x3,(World.cell?_setCell_far _ _ _ _ e3.symm).trans x4,(World.cell?_setCell_far _ _ _ _ e3.symm).trans x5,(World.cell?_setCell_far _ _ _ _ e3.symm).trans x6⟩) (fun hHeld=>?_)
     clear hK K
     try simp only [Act.put,List.setIfInBounds_toArray,List.set_cons_zero,List.set_cons_succ]
     refine wpAnyH_done (by kernel_rfl) ?_ _
     have HF0:=hj_ (HE0.out.far 1 (.int .i64 (s2+pw)) e1);have HF1:=hj_ (HE1.out.far 1 (.int .i64 (s2+pw)) e2);have hf2:=HE2.out.set 1 (.int .i64 (s2+pw)) (by show 1<3;decide)
     have HF2:=hj_ (show Cells (w2.setCell ⟨w.heap.size+1+1,1,none⟩ (.int .i64 (s2+pw))) (w.heap.size+1+1) [.int .i64 s1,.int .i64 (s2+pw),.int .i64 s3] from hf2)
     have HB3:=hj_ (HB2.out.setCell (p:=⟨w.heap.size+1+1,1,none⟩) (by show w.heap.size≤w.heap.size+1+1;omega) (.int .i64 (s2+pw)))
     clear hf2 c0 c1 c2 x0 x1 x2 x3 x4 x5 x6 y0 z0 lz;generalize w2.setCell ⟨w.heap.size+1+1,1,none⟩ (.int .i64 (s2+pw))=w3 at *;have hrl:Cells w3 (w.heap.size+1+1) (phaseL P (X.take (k+1))):=by
      have h1:=HPu.out 1;have h2:=HPu.out 2;have h3:=HPu.out 3;rw [hs1] at h1;rw [hs2] at h2;rw [hs3] at h3;unfold phaseL;rw [h1,h2,h3];exact HF2.out
     have HRl:=hj_ hrl;clear hrl;go_wp2_with fail
     go_roundw
     case rel=>exact ⟨k+1,HLt.out,by go_num,HB3.out,HF0.out,HF1.out,HRl.out⟩
     case measure=>have:=HLt.out;simp [intOf];omega
    ·go_simp
     go_at_call 32;refine (HPr2.out _ (q18 HB1'.out 1)).mono ?_;rintro e w2 ⟨rfl,hb⟩;have hb2:=(q18 (Below.refl W1.heap.size W1) 1).trans (hb.mono (q18 (Below.refl W1.heap.size W1) 1).size);have HB2:=hj_ (ht_ HB1'.out hb2);have HE0:=hj_ (HD0.out.below hb2 HD0.out.1);have HE1:=hj_ (HD1.out.below hb2 HD1.out.1);have HE2:=hj_ (HD2.out.below hb2 HD2.out.1);have HXE:=hj_ (HX1.out.below hb2 HX1.out.1);replace c0:=HE0.out.at_ (j:=0) rfl;replace c1:=HE0.out.at_ (j:=1) rfl;replace c2:=HE0.out.at_ (j:=2) rfl;replace x0:=HXE.out.at_ (j:=0) rfl;replace x1:=HXE.out.at_ (j:=1) rfl;replace x2:=HXE.out.at_ (j:=2) rfl;replace x3:=HXE.out.at_ (j:=3) rfl;replace x4:=HXE.out.at_ (j:=4) rfl;replace x5:=HXE.out.at_ (j:=5) rfl;replace x6:=HXE.out.at_ (j:=6) rfl;have y0:=HE2.out.at_ (j:=1) rfl;have z0:=HE2.out.fr (j:=1) rfl;have lz:=HE2.out.1;clear hb hb2
     go_wp2_with fail;refine hK.out _ _ (by first | exact ⟨c0,c1,c2,x0,x1,x2,x3,x4,x5,x6⟩) (fun hHeld=>?_)
     clear hK K
     try simp only [Act.put,List.setIfInBounds_toArray,List.set_cons_zero,List.set_cons_succ]
     refine tq 8 ?_;refine wpAnyH_ready (rs:=[4]) (by kernel_rfl) (by simp) ?_
     refine AllReadyH.cons rfl (fun K hK=>?_) AllReadyH.nil
     go_simp
     refine hK.out _ _ (by first | exact ⟨c0,c1,c2,x0,x1,x2,x3,x4,x5,x6⟩) (fun hHeld=>?_)
     clear hK K
     try simp only [Act.put,List.setIfInBounds_toArray,List.set_cons_zero,List.set_cons_succ]
     refine tq 9 ?_;refine tq 10 ?_;refine wpAnyH_ready (rs:=[11]) (by kernel_rfl) (by simp) ?_
     refine AllReadyH.cons rfl (fun K hK=>?_) AllReadyH.nil
     go_simp
     refine hK.out _ _ (by first | exact ⟨(World.cell?_setCell_far _ _ _ _ e1).trans c0,(World.cell?_setCell_far _ _ _ _ e1).trans c1,(World.cell?_setCell_far _ _ _ _ e1).trans c2,(World.cell?_setCell_far _ _ _ _ e3).trans x0,(World.cell?_setCell_far _ _ _ _ e3).trans x1,(World.cell?_setCell_far _ _ _ _ e3).trans x2,(World.cell?_setCell_far _ _ _ _ e3).trans x3,(World.cell?_setCell_far _ _ _ _ e3).trans x4,(World.cell?_setCell_far _ _ _ _ e3).trans x5,(World.cell?_setCell_far _ _ _ _ e3).trans x6⟩ | exact ⟨(World.cell?_setCell_far _ _ _ _ e1.symm).trans c0,(World.cell?_setCell_far _ _ _ _ e1.symm).trans c1,(World.cell?_setCell_far _ _ _ _ e1.symm).trans c2,(World.cell?_setCell_far _ _ _ _ e3.symm).trans x0,(World.cell?_setCell_far _ _ _ _ e3.symm).trans x1,(World.cell?_setCell_far _ _ _ _ e3.symm).trans x2,(World.cell?_setCell_far _ _ _ _ e3.symm).trans x3,(World.cell?_setCell_far _ _ _ _ e3.symm).trans x4,(World.cell?_setCell_far _ _ _ _ e3.symm).trans x5,(World.cell?_setCell_far _ _ _ _ e3.symm).trans x6⟩) (fun hHeld=>?_)
     clear hK K
     try simp only [Act.put,List.setIfInBounds_toArray,List.set_cons_zero,List.set_cons_succ]
     refine wpAnyH_done (by kernel_rfl) ?_ _
     have HF0:=hj_ (HE0.out.far 1 (.int .i64 (s2+pw)) e1);have HF1:=hj_ (HE1.out.far 1 (.int .i64 (s2+pw)) e2);have hf2:=HE2.out.set 1 (.int .i64 (s2+pw)) (by show 1<3;decide)
     have HF2:=hj_ (show Cells (w2.setCell ⟨w.heap.size+1+1,1,none⟩ (.int .i64 (s2+pw))) (w.heap.size+1+1) [.int .i64 s1,.int .i64 (s2+pw),.int .i64 s3] from hf2)
     have HB3:=hj_ (HB2.out.setCell (p:=⟨w.heap.size+1+1,1,none⟩) (by show w.heap.size≤w.heap.size+1+1;omega) (.int .i64 (s2+pw)))
     clear hf2 c0 c1 c2 x0 x1 x2 x3 x4 x5 x6 y0 z0 lz;generalize w2.setCell ⟨w.heap.size+1+1,1,none⟩ (.int .i64 (s2+pw))=w3 at *;have hrl:Cells w3 (w.heap.size+1+1) (phaseL P (X.take (k+1))):=by
      have h1:=HPu.out 1;have h2:=HPu.out 2;have h3:=HPu.out 3;rw [hs1] at h1;rw [hs2] at h2;rw [hs3] at h3;unfold phaseL;rw [h1,h2,h3];exact HF2.out
     have HRl:=hj_ hrl;clear hrl;go_wp2_with fail
     go_roundw
     case rel=>exact ⟨k+1,HLt.out,by go_num,HB3.out,HF0.out,HF1.out,HRl.out⟩
     case measure=>have:=HLt.out;simp [intOf];omega
   ·have c0:=HD0.out.at_ (j:=0) rfl
    have c1:=HD0.out.at_ (j:=1) rfl
    have c2:=HD0.out.at_ (j:=2) rfl
    have x0:=HX1.out.at_ (j:=0) rfl
    have x1:=HX1.out.at_ (j:=1) rfl
    have x2:=HX1.out.at_ (j:=2) rfl
    have x3:=HX1.out.at_ (j:=3) rfl
    have x4:=HX1.out.at_ (j:=4) rfl
    have x5:=HX1.out.at_ (j:=5) rfl
    have x6:=HX1.out.at_ (j:=6) rfl
    have y0:=HD2.out.at_ (j:=2) rfl
    have wv:IntKind.i64.wrap (s3+pw)=s3+pw:=IntWalk.i64_in _ (by omega)
    have wj:IntKind.i64.wrap 2=2:=rfl;clear p0 p1 p2 p3 p4 p5 p6 hw0 hw1 hphk hbd;go_wp2_with fail;refine wp_region_held_drew (S:=fun w'=>w'.cell? ⟨w.heap.size,0,none⟩=some (.slice A0 n0 d0)∧w'.cell? ⟨w.heap.size,1,none⟩=some (.slice A1 n1 d1)∧w'.cell? ⟨w.heap.size,2,none⟩=some (.slice (some ⟨b,o,none⟩) X.length d2)∧w'.cell? ⟨wr.heap.size,0,none⟩=some (.int .i64 ch)∧w'.cell? ⟨wr.heap.size,1,none⟩=some (.int .i64 pt)∧w'.cell? ⟨wr.heap.size,2,none⟩=some (.string pr)∧w'.cell? ⟨wr.heap.size,3,none⟩=some (.int .i64 un)∧w'.cell? ⟨wr.heap.size,4,none⟩=some (.int .i64 ad)∧w'.cell? ⟨wr.heap.size,5,none⟩=some (.int .i64 3)∧w'.cell? ⟨wr.heap.size,6,none⟩=some (.string cb)) (by kernel_rfl) (by first | exact ⟨c0,c1,c2,x0,x1,x2,x3,x4,x5,x6⟩) (fun hHeld=>?_)
    refine tq 0 ?_;refine tq 1 ?_;refine tq 2 ?_;refine tq 3 ?_;refine tq 5 ?_;refine tq 6 ?_;refine wpAnyH_ready (rs:=[4,7]) (by kernel_rfl) (by simp) ?_
    refine AllReadyH.cons rfl (fun K hK=>?_) (AllReadyH.cons rfl (fun K hK=>?_) AllReadyH.nil)
    ·go_simp
     refine hK.out _ _ (by first | exact ⟨c0,c1,c2,x0,x1,x2,x3,x4,x5,x6⟩) (fun hHeld=>?_)
     clear hK K
     try simp only [Act.put,List.setIfInBounds_toArray,List.set_cons_zero,List.set_cons_succ]
     refine wpAnyH_ready (rs:=[7]) (by kernel_rfl) (by simp) ?_
     refine AllReadyH.cons rfl (fun K hK=>?_) AllReadyH.nil
     go_simp
     go_at_call 32;refine (HPr2.out _ (q18 HB1'.out 1)).mono ?_;rintro e w2 ⟨rfl,hb⟩;have hb2:=(q18 (Below.refl W1.heap.size W1) 1).trans (hb.mono (q18 (Below.refl W1.heap.size W1) 1).size);have HB2:=hj_ (ht_ HB1'.out hb2);have HE0:=hj_ (HD0.out.below hb2 HD0.out.1);have HE1:=hj_ (HD1.out.below hb2 HD1.out.1);have HE2:=hj_ (HD2.out.below hb2 HD2.out.1);have HXE:=hj_ (HX1.out.below hb2 HX1.out.1);replace c0:=HE0.out.at_ (j:=0) rfl;replace c1:=HE0.out.at_ (j:=1) rfl;replace c2:=HE0.out.at_ (j:=2) rfl;replace x0:=HXE.out.at_ (j:=0) rfl;replace x1:=HXE.out.at_ (j:=1) rfl;replace x2:=HXE.out.at_ (j:=2) rfl;replace x3:=HXE.out.at_ (j:=3) rfl;replace x4:=HXE.out.at_ (j:=4) rfl;replace x5:=HXE.out.at_ (j:=5) rfl;replace x6:=HXE.out.at_ (j:=6) rfl;have y0:=HE2.out.at_ (j:=2) rfl;have z0:=HE2.out.fr (j:=2) rfl;have lz:=HE2.out.1;clear hb hb2
     go_wp2_with fail;refine hK.out _ _ (by first | exact ⟨c0,c1,c2,x0,x1,x2,x3,x4,x5,x6⟩) (fun hHeld=>?_)
     clear hK K
     try simp only [Act.put,List.setIfInBounds_toArray,List.set_cons_zero,List.set_cons_succ]
     refine tq 8 ?_;refine tq 9 ?_;refine tq 10 ?_;refine wpAnyH_ready (rs:=[11]) (by kernel_rfl) (by simp) ?_
     refine AllReadyH.cons rfl (fun K hK=>?_) AllReadyH.nil
     go_simp
     refine hK.out _ _ (by first | exact ⟨(World.cell?_setCell_far _ _ _ _ e1).trans c0,(World.cell?_setCell_far _ _ _ _ e1).trans c1,(World.cell?_setCell_far _ _ _ _ e1).trans c2,(World.cell?_setCell_far _ _ _ _ e3).trans x0,(World.cell?_setCell_far _ _ _ _ e3).trans x1,(World.cell?_setCell_far _ _ _ _ e3).trans x2,(World.cell?_setCell_far _ _ _ _ e3).trans x3,(World.cell?_setCell_far _ _ _ _ e3).trans x4,(World.cell?_setCell_far _ _ _ _ e3).trans x5,(World.cell?_setCell_far _ _ _ _ e3).trans x6⟩ | exact ⟨(World.cell?_setCell_far _ _ _ _ e1.symm).trans c0,(World.cell?_setCell_far _ _ _ _ e1.symm).trans c1,(World.cell?_setCell_far _ _ _ _ e1.symm).trans c2,(World.cell?_setCell_far _ _ _ _ e3.symm).trans x0,(World.cell?_setCell_far _ _ _ _ e3.symm).trans x1,(World.cell?_setCell_far _ _ _ _ e3.symm).trans x2,(World.cell?_setCell_far _ _ _ _ e3.symm).trans x3,(World.cell?_setCell_far _ _ _ _ e3.symm).trans x4,(World.cell?_setCell_far _ _ _ _ e3.symm).trans x5,(World.cell?_setCell_far _ _ _ _ e3.symm).trans x6⟩) (fun hHeld=>?_)
     clear hK K
     try simp only [Act.put,List.setIfInBounds_toArray,List.set_cons_zero,List.set_cons_succ]
     refine wpAnyH_done (by kernel_rfl) ?_ _
     have HF0:=hj_ (HE0.out.far 2 (.int .i64 (s3+pw)) e1);have HF1:=hj_ (HE1.out.far 2 (.int .i64 (s3+pw)) e2);have hf2:=HE2.out.set 2 (.int .i64 (s3+pw)) (by show 2<3;decide)
     have HF2:=hj_ (show Cells (w2.setCell ⟨w.heap.size+1+1,2,none⟩ (.int .i64 (s3+pw))) (w.heap.size+1+1) [.int .i64 s1,.int .i64 s2,.int .i64 (s3+pw)] from hf2)
     have HB3:=hj_ (HB2.out.setCell (p:=⟨w.heap.size+1+1,2,none⟩) (by show w.heap.size≤w.heap.size+1+1;omega) (.int .i64 (s3+pw)))
     clear hf2 c0 c1 c2 x0 x1 x2 x3 x4 x5 x6 y0 z0 lz;generalize w2.setCell ⟨w.heap.size+1+1,2,none⟩ (.int .i64 (s3+pw))=w3 at *;have hrl:Cells w3 (w.heap.size+1+1) (phaseL P (X.take (k+1))):=by
      have h1:=HPu.out 1;have h2:=HPu.out 2;have h3:=HPu.out 3;rw [hs1] at h1;rw [hs2] at h2;rw [hs3] at h3;unfold phaseL;rw [h1,h2,h3];exact HF2.out
     have HRl:=hj_ hrl;clear hrl;go_wp2_with fail
     go_roundw
     case rel=>exact ⟨k+1,HLt.out,by go_num,HB3.out,HF0.out,HF1.out,HRl.out⟩
     case measure=>have:=HLt.out;simp [intOf];omega
    ·go_simp
     go_at_call 32;refine (HPr2.out _ (q18 HB1'.out 1)).mono ?_;rintro e w2 ⟨rfl,hb⟩;have hb2:=(q18 (Below.refl W1.heap.size W1) 1).trans (hb.mono (q18 (Below.refl W1.heap.size W1) 1).size);have HB2:=hj_ (ht_ HB1'.out hb2);have HE0:=hj_ (HD0.out.below hb2 HD0.out.1);have HE1:=hj_ (HD1.out.below hb2 HD1.out.1);have HE2:=hj_ (HD2.out.below hb2 HD2.out.1);have HXE:=hj_ (HX1.out.below hb2 HX1.out.1);replace c0:=HE0.out.at_ (j:=0) rfl;replace c1:=HE0.out.at_ (j:=1) rfl;replace c2:=HE0.out.at_ (j:=2) rfl;replace x0:=HXE.out.at_ (j:=0) rfl;replace x1:=HXE.out.at_ (j:=1) rfl;replace x2:=HXE.out.at_ (j:=2) rfl;replace x3:=HXE.out.at_ (j:=3) rfl;replace x4:=HXE.out.at_ (j:=4) rfl;replace x5:=HXE.out.at_ (j:=5) rfl;replace x6:=HXE.out.at_ (j:=6) rfl;have y0:=HE2.out.at_ (j:=2) rfl;have z0:=HE2.out.fr (j:=2) rfl;have lz:=HE2.out.1;clear hb hb2
     go_wp2_with fail;refine hK.out _ _ (by first | exact ⟨c0,c1,c2,x0,x1,x2,x3,x4,x5,x6⟩) (fun hHeld=>?_)
     clear hK K
     try simp only [Act.put,List.setIfInBounds_toArray,List.set_cons_zero,List.set_cons_succ]
     refine tq 8 ?_;refine wpAnyH_ready (rs:=[4]) (by kernel_rfl) (by simp) ?_
     refine AllReadyH.cons rfl (fun K hK=>?_) AllReadyH.nil
     go_simp
     refine hK.out _ _ (by first | exact ⟨c0,c1,c2,x0,x1,x2,x3,x4,x5,x6⟩) (fun hHeld=>?_)
     clear hK K
     try simp only [Act.put,List.setIfInBounds_toArray,List.set_cons_zero,List.set_cons_succ]
     refine tq 9 ?_;refine tq 10 ?_;refine wpAnyH_ready (rs:=[11]) (by kernel_rfl) (by simp) ?_
     refine AllReadyH.cons rfl (fun K hK=>?_) AllReadyH.nil
     go_simp
     refine hK.out _ _ (by first | exact ⟨(World.cell?_setCell_far _ _ _ _ e1).trans c0,(World.cell?_setCell_far _ _ _ _ e1).trans c1,(World.cell?_setCell_far _ _ _ _ e1).trans c2,(World.cell?_setCell_far _ _ _ _ e3).trans x0,(World.cell?_setCell_far _ _ _ _ e3).trans x1,(World.cell?_setCell_far _ _ _ _ e3).trans x2,(World.cell?_setCell_far _ _ _ _ e3).trans x3,(World.cell?_setCell_far _ _ _ _ e3).trans x4,(World.cell?_setCell_far _ _ _ _ e3).trans x5,(World.cell?_setCell_far _ _ _ _ e3).trans x6⟩ | exact ⟨(World.cell?_setCell_far _ _ _ _ e1.symm).trans c0,(World.cell?_setCell_far _ _ _ _ e1.symm).trans c1,(World.cell?_setCell_far _ _ _ _ e1.symm).trans c2,(World.cell?_setCell_far _ _ _ _ e3.symm).trans x0,(World.cell?_setCell_far _ _ _ _ e3.symm).trans x1,(World.cell?_setCell_far _ _ _ _ e3.symm).trans x2,(World.cell?_setCell_far _ _ _ _ e3.symm).trans x3,(World.cell?_setCell_far _ _ _ _ e3.symm).trans x4,(World.cell?_setCell_far _ _ _ _ e3.symm).trans x5,(World.cell?_setCell_far _ _ _ _ e3.symm).trans x6⟩) (fun hHeld=>?_)
     clear hK K
     try simp only [Act.put,List.setIfInBounds_toArray,List.set_cons_zero,List.set_cons_succ]
     refine wpAnyH_done (by kernel_rfl) ?_ _
     have HF0:=hj_ (HE0.out.far 2 (.int .i64 (s3+pw)) e1);have HF1:=hj_ (HE1.out.far 2 (.int .i64 (s3+pw)) e2);have hf2:=HE2.out.set 2 (.int .i64 (s3+pw)) (by show 2<3;decide)
     have HF2:=hj_ (show Cells (w2.setCell ⟨w.heap.size+1+1,2,none⟩ (.int .i64 (s3+pw))) (w.heap.size+1+1) [.int .i64 s1,.int .i64 s2,.int .i64 (s3+pw)] from hf2)
     have HB3:=hj_ (HB2.out.setCell (p:=⟨w.heap.size+1+1,2,none⟩) (by show w.heap.size≤w.heap.size+1+1;omega) (.int .i64 (s3+pw)))
     clear hf2 c0 c1 c2 x0 x1 x2 x3 x4 x5 x6 y0 z0 lz;generalize w2.setCell ⟨w.heap.size+1+1,2,none⟩ (.int .i64 (s3+pw))=w3 at *;have hrl:Cells w3 (w.heap.size+1+1) (phaseL P (X.take (k+1))):=by
      have h1:=HPu.out 1;have h2:=HPu.out 2;have h3:=HPu.out 3;rw [hs1] at h1;rw [hs2] at h2;rw [hs3] at h3;unfold phaseL;rw [h1,h2,h3];exact HF2.out
     have HRl:=hj_ hrl;clear hrl;go_wp2_with fail
     go_roundw
     case rel=>exact ⟨k+1,HLt.out,by go_num,HB3.out,HF0.out,HF1.out,HRl.out⟩
     case measure=>have:=HLt.out;simp [intOf];omega
  ·obtain rfl:k=X.length:=by omega
   rw [List.take_length] at hq2;have hz0:=hq0.at_ (j:=2) rfl
   unfold phaseL at hq2;have s0:=hq2.at_ (j:=0) rfl
   have s1:=hq2.at_ (j:=1) rfl
   have s2:=hq2.at_ (j:=2) rfl
   have r0:=hq1.fr (j:=0) rfl;have r1:=hq1.fr (j:=1) rfl;have r2:=hq1.fr (j:=2) rfl;have t0:=hq1.at_ (j:=0) rfl
   have t1:=hq1.at_ (j:=1) rfl
   have t2:=hq1.at_ (j:=2) rfl
   have l1:=hq1.1;have l2:=hq2.1;clear hq0 hq1 hq2;go_wp2_with fail
   (try simp only [Exit.inBlock,Exit.then])
   refine bodyPost_ret (v:=.agg #[.int .i64 (phaseV P X 1),.int .i64 (phaseV P X 2),.int .i64 (phaseV P X 3)]) ?_ rfl ⟨rfl,?_⟩
   ·rw [qlt rfl]
    go_simp
   ·have hz:=HBr.out
    (repeat' first | exact br_ | assumption | apply Below.drew | apply q18 | refine Below.alloc ?_ ?_ _ | refine Below.setCell ?_ ?_ _ | refine Below.trans ?_ (Below.mono ‹_› ?_) | omega | (simp;omega) | simp)
theorem q0i4 (A0:Option Addr) (n0 d0:Nat) (A1:Option Addr) (n1 d1:Nat) (A2:Option Addr) (n2 d2:Nat) (P:List PC) (X:List Fx) (w:World) (hck:∀ w',Below w.heap.size w w'→Calls prog 62 #[.agg #[.slice A0 n0 d0,.slice A1 n1 d1,.slice A2 n2 d2]] w' fun e w''=>e=.returned (.int .i64 0)∧Below w'.heap.size w' w'')
  (hp:shPr.In w A1 n1 P) (hn1:n1≤9223372036854775806) (hx:shX.In w A2 n2 X) (hX:X.length≤1000) (hW:WOk P X) (hph:∀ x ∈ X,1≤x.ph∧x.ph≤3) :
  Calls prog 17 #[.agg #[.slice A0 n0 d0,.slice A1 n1 d1,.slice A2 n2 d2]] w fun e w'=>e=.returned (.tuple #[.agg #[.int .i64 (phaseV P X 1),.int .i64 (phaseV P X 2),.int .i64 (phaseV P X 3)],.int .i64 0])∧Below w.heap.size w w':=by
 have HO:=hj_ (fun w' (hb:Below w.heap.size w w')=>q0ip A0 n0 d0 A1 n1 d1 A2 n2 d2 0 w' (fun w2 h2=>hck w2 (ht_ hb h2)))
 have HH:=hj_ (fun w' (hb:Below w.heap.size w w')=>q0ew A0 n0 d0 A1 n1 d1 A2 n2 d2 P X w' (hp.below hb) hn1 (hx.below hb) hX hW hph)
 generalize phaseV P X 1=s1 at *;generalize phaseV P X 2=s2 at *;generalize phaseV P X 3=s3 at *;obtain ⟨W,hW⟩:∃ W,W=((w.alloc (.cells #[.slice A0 n0 d0,.slice A1 n1 d1,.slice A2 n2 d2] 26)).alloc (.cells #[.int .i64 0,.int .i64 0,.int .i64 0] 47)):=⟨_,rfl⟩;obtain ⟨hB0,hK0⟩:=box2 #[.slice A0 n0 d0,.slice A1 n1 d1,.slice A2 n2 d2] 26 #[.int .i64 0,.int .i64 0,.int .i64 0] 47 w W hW;have hK:∀ w',Below W.heap.size W w'→w'.cell? ⟨w.heap.size,0,none⟩=some (.slice A0 n0 d0)∧w'.cell? ⟨w.heap.size,1,none⟩=some (.slice A1 n1 d1)∧w'.cell? ⟨w.heap.size,2,none⟩=some (.slice A2 n2 d2)∧w'.cell? ⟨w.heap.size+1,0,none⟩=some (.int .i64 0)∧w'.cell? ⟨w.heap.size+1,1,none⟩=some (.int .i64 0)∧w'.cell? ⟨w.heap.size+1,2,none⟩=some (.int .i64 0):=fun w' h=>⟨(hK0 w' h).1 0 _ rfl,(hK0 w' h).1 1 _ rfl,(hK0 w' h).1 2 _ rfl,(hK0 w' h).2 0 _ rfl,(hK0 w' h).2 1 _ rfl,(hK0 w' h).2 2 _ rfl⟩
 have HK:=hj_ hK;have HW:=hj_ hW;have HB0:=hj_ hB0;have hB:=Below.refl W.heap.size W;obtain ⟨c0,c1,c2,c3,c4,c5⟩:=hK W hB;clear hW hB0 hK hK0;have hsz:w.heap.size+1<W.heap.size:=by rw [HW.out];simp
 have HFr:=hj_ (show ∀ w',Below W.heap.size W w'→∀ j,w'.frozen? ⟨w.heap.size+1,j,none⟩=false from fun w' h j=>by
  refine (h.frozen (p:=⟨w.heap.size+1,j,none⟩) hsz).trans ?_;rw [HW.out];exact World.frozen?_alloc_at _ _ _ _ (by simp))
 have HSz:=hj_ hsz;clear hsz hck hp hn1 hx hX hW hph
 go_enter func17,ntmps17
 go_wp2_with fail;rw [← HW.out];go_wp2_with fail;refine up_ (HO.out _ (ht_ HB0.out hB)) hB ?_;clear hB;intro wk hB;obtain ⟨W1,hW1⟩:∃ W1,W1=wk.alloc (.cells #[.slice A0 n0 d0,.slice A1 n1 d1,.slice A2 n2 d2] 75):=⟨_,rfl⟩;have hb1:Below wk.heap.size wk W1:=by rw [hW1];exact (br_).alloc (Nat.le_refl _) _
 have hx1:Cells W1 wk.heap.size [.slice A0 n0 d0,.slice A1 n1 d1,.slice A2 n2 d2]:=by rw [hW1];exact Cells.fresh wk [.slice A0 n0 d0,.slice A1 n1 d1,.slice A2 n2 d2] _
 have x0:=hx1.at_ (j:=0) rfl
 have x1:=hx1.at_ (j:=1) rfl
 have x2:=hx1.at_ (j:=2) rfl
 have hl1:=hx1.1;have HW1:=hj_ hW1;replace hB:=ht_ hB hb1;clear hb1 hx1 hW1;go_wp2_with fail;rw [← HW1.out];go_wp2_with fail;refine up_ (HH.out _ (ht_ HB0.out hB)) hB ?_;clear hB x0 x1 x2 hl1;intro w5 hB;obtain ⟨c0,c1,c2,c3,c4,c5⟩:=HK.out _ hB;have f0:=HFr.out _ hB 0;have f1:=HFr.out _ hB 1;have f2:=HFr.out _ hB 2;have hs2:=Nat.lt_of_lt_of_le HSz.out hB.size;have hz:=ht_ HB0.out hB;go_wp2_with fail
 (try simp only [Exit.inBlock,Exit.then])
 refine bodyPost_ret (v:=.tuple #[.agg #[.int .i64 s1,.int .i64 s2,.int .i64 s3],.int .i64 0]) ?_ rfl ⟨rfl,?_⟩
 ·rw [results_cell_tmp rfl]
  go_simp
 ·(repeat' first | exact br_ | assumption | apply Below.drew | apply q18 | refine Below.alloc ?_ ?_ _ | refine Below.setCell ?_ ?_ _ | refine Below.trans ?_ (Below.mono ‹_› ?_) | omega | (simp;omega) | simp)
theorem q0ia (A0:Option Addr) (n0 d0:Nat) (A1:Option Addr) (n1 d1:Nat) (A2:Option Addr) (n2 d2:Nat) (P:List PC) (X:List Fx) (w:World) (hck:∀ w',Below w.heap.size w w'→Calls prog 62 #[.agg #[.slice A0 n0 d0,.slice A1 n1 d1,.slice A2 n2 d2]] w' fun e w''=>e=.returned (.int .i64 0)∧Below w'.heap.size w' w'')
  (hp:shPr.In w A1 n1 P) (hn1:n1≤9223372036854775806) (hx:shX.In w A2 n2 X) (hX:X.length≤1000) (hW:WOk P X) (hph:∀ x ∈ X,1≤x.ph∧x.ph≤3) :
  Calls prog 19 #[.agg #[.slice A0 n0 d0,.slice A1 n1 d1,.slice A2 n2 d2]] w fun e w'=>e=.returned (.tuple #[.int .i64 (max (max (phaseV P X 1) (phaseV P X 2)) (phaseV P X 3)-min (min (phaseV P X 1) (phaseV P X 2)) (phaseV P X 3)),.int .i64 0])∧Below w.heap.size w w':=by
 have HO:=hj_ (fun w' (hb:Below w.heap.size w w')=>q0ip A0 n0 d0 A1 n1 d1 A2 n2 d2 0 w' (fun w2 h2=>hck w2 (ht_ hb h2)))
 have HH:=hj_ (fun w' (hb:Below w.heap.size w w')=>q0ew A0 n0 d0 A1 n1 d1 A2 n2 d2 P X w' (hp.below hb) hn1 (hx.below hb) hX hW hph)
 have b1:=q0g8 hW 1;have b2:=q0g8 hW 2;have b3:=q0g8 hW 3;have ws:IntKind.i64.wrap (max (max (phaseV P X 1) (phaseV P X 2)) (phaseV P X 3)-min (min (phaseV P X 1) (phaseV P X 2)) (phaseV P X 3))=max (max (phaseV P X 1) (phaseV P X 2)) (phaseV P X 3)-min (min (phaseV P X 1) (phaseV P X 2)) (phaseV P X 3):=IntWalk.i64_in _ (by omega)
 generalize phaseV P X 1=s1 at *;generalize phaseV P X 2=s2 at *;generalize phaseV P X 3=s3 at *;obtain ⟨M,hM⟩:∃ M,M=max (max s1 s2) s3:=⟨_,rfl⟩;obtain ⟨N,hN⟩:∃ N,N=min (min s1 s2) s3:=⟨_,rfl⟩;rw [← hM,← hN] at ws ⊢;have HMM:=hj_ hM;have HNN:=hj_ hN;clear hM hN;obtain ⟨W,hW⟩:∃ W,W=(w.alloc (.cells #[.slice A0 n0 d0,.slice A1 n1 d1,.slice A2 n2 d2] 26)):=⟨_,rfl⟩;obtain ⟨hB0,hK0⟩:=box1 #[.slice A0 n0 d0,.slice A1 n1 d1,.slice A2 n2 d2] 26 w W hW;have hK:∀ w',Below W.heap.size W w'→w'.cell? ⟨w.heap.size,0,none⟩=some (.slice A0 n0 d0)∧w'.cell? ⟨w.heap.size,1,none⟩=some (.slice A1 n1 d1)∧w'.cell? ⟨w.heap.size,2,none⟩=some (.slice A2 n2 d2):=fun w' h=>⟨(hK0 w' h) 0 _ rfl,(hK0 w' h) 1 _ rfl,(hK0 w' h) 2 _ rfl⟩
 have HK:=hj_ hK;have HW:=hj_ hW;have HB0:=hj_ hB0;have hB:=Below.refl W.heap.size W;obtain ⟨c0,c1,c2⟩:=hK W hB;clear hW hB0 hK hK0;clear hck hp hn1 hx hX hW hph b1 b2 b3
 go_enter func19,ntmps19
 go_wp2_with fail;rw [← HW.out];go_wp2_with fail;refine up_ (HO.out _ (ht_ HB0.out hB)) hB ?_;clear hB;intro wk hB;obtain ⟨W1,hW1⟩:∃ W1,W1=wk.alloc (.cells #[.slice A0 n0 d0,.slice A1 n1 d1,.slice A2 n2 d2] 75):=⟨_,rfl⟩;have hb1:Below wk.heap.size wk W1:=by rw [hW1];exact (br_).alloc (Nat.le_refl _) _
 have hx1:Cells W1 wk.heap.size [.slice A0 n0 d0,.slice A1 n1 d1,.slice A2 n2 d2]:=by rw [hW1];exact Cells.fresh wk [.slice A0 n0 d0,.slice A1 n1 d1,.slice A2 n2 d2] _
 have x0:=hx1.at_ (j:=0) rfl
 have x1:=hx1.at_ (j:=1) rfl
 have x2:=hx1.at_ (j:=2) rfl
 have hl1:=hx1.1;have HW1:=hj_ hW1;replace hB:=ht_ hB hb1;clear hb1 hx1 hW1;go_wp2_with fail;rw [← HW1.out];go_wp2_with fail;refine up_ (HH.out _ (ht_ HB0.out hB)) hB ?_;clear hB x0 x1 x2 hl1;intro w5 hB;obtain ⟨W6,hW6⟩:∃ W6,W6=w5.alloc (.cells #[.int .i64 s1,.int .i64 s2,.int .i64 s3] 47):=⟨_,rfl⟩;have hb6:Below w5.heap.size w5 W6:=by rw [hW6];exact (br_).alloc (Nat.le_refl _) _
 have hx6:Cells W6 w5.heap.size [.int .i64 s1,.int .i64 s2,.int .i64 s3]:=by rw [hW6];exact Cells.fresh w5 [.int .i64 s1,.int .i64 s2,.int .i64 s3] _
 have HX6:=hj_ hx6;have HW6:=hj_ hW6;have HBw:=hj_ (HB0.out.trans ((ht_ hB hb6).mono HB0.out.size));have HMx:=hj_ (fun w' (h:Cells w' w5.heap.size [.int .i64 s1,.int .i64 s2,.int .i64 s3])=>show Calls prog 53 #[.slice (some ⟨w5.heap.size,0,none⟩) 3 3] w' fun e w''=>e=.returned (.int .i64 M)∧Below w'.heap.size w' w'' from by rw [HMM.out];exact q0fr w5.heap.size 0 3 s1 s2 s3 w' (h.at_ (j:=0) rfl) (h.at_ (j:=1) rfl) (h.at_ (j:=2) rfl) h.1)
 have HMn:=hj_ (fun w' (h:Cells w' w5.heap.size [.int .i64 s1,.int .i64 s2,.int .i64 s3])=>show Calls prog 37 #[.slice (some ⟨w5.heap.size,0,none⟩) 3 3] w' fun e w''=>e=.returned (.int .i64 N)∧Below w'.heap.size w' w'' from by rw [HNN.out];exact q0fs w5.heap.size 0 3 s1 s2 s3 w' (h.at_ (j:=0) rfl) (h.at_ (j:=1) rfl) (h.at_ (j:=2) rfl) h.1)
 clear hb6 hx6 hW6 hB;go_wp2_with fail;rw [← HW6.out];have hB6:=q18 (Below.refl W6.heap.size W6) 1;have hc:=HX6.out.below hB6 HX6.out.1;have hlw:=hc.1;refine wp_region_held_drew (S:=fun w'=>w5.heap.size<w'.heap.size) (by kernel_rfl) (by first | exact hlw) (fun hHeld=>?_)
 refine tq 0 ?_;refine tq 2 ?_;refine wpAnyH_ready (rs:=[1]) (by kernel_rfl) (by simp) ?_
 refine AllReadyH.cons rfl (fun K hK=>?_) AllReadyH.nil
 go_simp
 go_at_call 53;refine (HMx.out _ hc).mono ?_;rintro e w7 ⟨rfl,hb⟩;replace hc:=hc.below hb hc.1;replace hlw:=hc.1;replace hB6:=ht_ hB6 hb;clear hb
 go_wp2_with fail;refine hK.out _ _ (by first | exact hlw) (fun hHeld=>?_)
 clear hK K
 try simp only [Act.put,List.setIfInBounds_toArray,List.set_cons_zero,List.set_cons_succ]
 refine wpAnyH_ready (rs:=[3]) (by kernel_rfl) (by simp) ?_
 refine AllReadyH.cons rfl (fun K hK=>?_) AllReadyH.nil
 go_simp
 go_at_call 37;refine (HMn.out _ hc).mono ?_;rintro e w7 ⟨rfl,hb⟩;replace hc:=hc.below hb hc.1;replace hlw:=hc.1;replace hB6:=ht_ hB6 hb;clear hb
 go_wp2_with fail;refine hK.out _ _ (by first | exact hlw) (fun hHeld=>?_)
 clear hK K
 try simp only [Act.put,List.setIfInBounds_toArray,List.set_cons_zero,List.set_cons_succ]
 refine tq 4 ?_;refine tq 5 ?_;refine tq 6 ?_;refine wpAnyH_done (by kernel_rfl) ?_ _
 have hz:=ht_ HBw.out hB6;clear hc hlw;go_wp2_with fail;go_ret2;refine ⟨?_,hz⟩
 go_simp
end

end Go.Proofs.YtabhjdmmfdfpeaaGreatDoor
