/- Lemmas. -/
import Derived.Test.YtabhjdmmfdfpeaaGreatDoorQPwB
import Derived.Test.YtabhjdmmfdfpeaaGreatDoorQPwC
import Derived.Test.YtabhjdmmfdfpeaaGreatDoorQColA
namespace Go.Proofs.YtabhjdmmfdfpeaaGreatDoor
set_option maxHeartbeats 32000000
set_option maxRecDepth 100000
open _root_.Go.Proofs.Tryz
open Go.RowKit
variable {l:List Int} {w w':World}
theorem q0g8 {P:List PC} {X:List Fx} (h:WOk P X) (k:Int):0≤phaseV P X k∧phaseV P X k≤X.length*1048576:=by
 revert h
 refine q0hd (m:=fun X=>WOk P X→0≤phaseV P X k∧phaseV P X k≤X.length*1048576) ?_ ?_ X
 ·intro _;exact ⟨Int.le_refl _,by simp [phaseV]⟩
 ·intro X x ih h
  have h1:=ih (fun y hy=>h y (by simp [hy]))
  obtain ⟨p,hp,p0,p1⟩:=h x s_
  rw [q0g9,q0iz hp,List.length_append];simp only [List.length_cons,List.length_nil]
  split <;> omega
def phaseL (P:List PC) (X:List Fx):List Value:=[.int .i64 (phaseV P X 1),.int .i64 (phaseV P X 2),.int .i64 (phaseV P X 3)]
theorem q0ew (A0:Option Addr) (n0 d0:Nat) (A1:Option Addr) (n1 d1:Nat) (A2:Option Addr) (n2 d2:Nat) (P:List PC) (X:List Fx) (w:World)
  (hp:shPr.In w A1 n1 P) (hn1:n1≤9223372036854775806) (hx:shX.In w A2 n2 X) (hX:X.length≤1000) (hW:WOk P X) (hph:∀ x ∈ X,1≤x.ph∧x.ph≤3) :
  Rt 51 #[.agg #[.slice A0 n0 d0,.slice A1 n1 d1,.slice A2 n2 d2]] w (.agg #[.int .i64 (phaseV P X 1),.int .i64 (phaseV P X 2),.int .i64 (phaseV P X 3)]):=by
 obtain rfl:n2=X.length:=hx.1;have HX:=hj_ hx;have HWk:=hj_ hW;have HPh:=hj_ hph;have HLn:=hj_ hX;have HBd:=hj_ (show ∀ j k,0≤phaseV P (X.take j) k∧phaseV P (X.take j) k≤1048576000 from fun j k=>by
  have h:=q0g8 (P:=P) (X:=X.take j) (fun x hx=>hW x (List.mem_of_mem_take hx)) k
  rw [List.length_take] at h
  omega)
 have HPf:=hj_ (fun (x:Fx) (p:PC) w' (hb:Below w.heap.size w w') (h:pcF P x.pr=some p)=>q0fd A0 n0 d0 A1 n1 d1 A2 X.length d2 P x p w' (hp.below hb) hn1 h)
 obtain ⟨W,hW2⟩:=ex_ (((w.alloc (.cells #[.slice A0 n0 d0,.slice A1 n1 d1,.slice A2 X.length d2] 75)).alloc (.cells #[.int .i64 0,.int .i64 0,.int .i64 0] 47)).alloc (.cells #[.int .i64 0,.int .i64 0,.int .i64 0] 47));have hb1:Below w.heap.size w W:=by rw [hW2];exact (((Below.refl _ w).alloc lr_ _).alloc s_ _).alloc (by simp;omega) _
 have hc0:Cells W w.heap.size [.slice A0 n0 d0,.slice A1 n1 d1,.slice A2 X.length d2]:=by
  rw [hW2];have h:=Cells.fresh w [.slice A0 n0 d0,.slice A1 n1 d1,.slice A2 X.length d2] 75;exact (h.below ((br_).alloc lr_ _) h.1).below ((br_).alloc lr_ _) (by simp;omega)
 have hc1:Cells W (w.heap.size+1) [.int .i64 0,.int .i64 0,.int .i64 0]:=by
  rw [hW2];have h:=Cells.fresh (w.alloc (.cells #[.slice A0 n0 d0,.slice A1 n1 d1,.slice A2 X.length d2] 75)) [.int .i64 0,.int .i64 0,.int .i64 0] 47;rw [World.size_alloc] at h;exact h.below ((br_).alloc lr_ _) s_
 have hc2:Cells W (w.heap.size+1+1) [.int .i64 0,.int .i64 0,.int .i64 0]:=by
  rw [hW2];have h:=Cells.fresh ((w.alloc (.cells #[.slice A0 n0 d0,.slice A1 n1 d1,.slice A2 X.length d2] 75)).alloc (.cells #[.int .i64 0,.int .i64 0,.int .i64 0] 47)) [.int .i64 0,.int .i64 0,.int .i64 0] 47;rw [World.size_alloc,World.size_alloc] at h;exact h
 have HW2:=hj_ hW2;have HB1:=hj_ hb1;have HC0:=hj_ hc0;have HC1:=hj_ hc1;have HC2:=hj_ hc2;have x2:=hc0.at_ (j:=2) rfl
 have hwl:w.heap.size<W.heap.size:=hc0.1;clear hx hW hX hph hp hW2 hb1 hc0 hc1 hc2
 go_enter func51,ntmps51
 go_wp2_with fail;rw [← HW2.out];go_wp2_with fail;clear x2 hwl
 go_loopw [10] (fun iv wr=>∃ k:Nat,k≤X.length∧iv=.int .i64 k∧Below w.heap.size w wr∧Cells wr w.heap.size [.slice A0 n0 d0,.slice A1 n1 d1,.slice A2 X.length d2]∧Cells wr (w.heap.size+1) [.int .i64 0,.int .i64 0,.int .i64 0]∧Cells wr (w.heap.size+1+1) (phaseL P (X.take k))) (fun iv _=>X.length-(intOf iv).toNat)
 case atStart=>exact ⟨0,Nat.zero_le _,rfl,HB1.out,HC0.out,HC1.out,HC2.out⟩
 case round =>
  obtain ⟨k,hk,rfl,hB,hq0,hq1,hq2⟩:=hrel;have HBr:=hj_ hB;have HQ0:=hj_ hq0;have HQ1:=hj_ hq1;have HQ2:=hj_ hq2
  by_cases hlt:k<X.length
  ·obtain ⟨b,o,rfl,hbl,hcell⟩:=fx_at HX.out o_
   have hk7:=hcell k hlt;have kk:=fun (q:Nat)=>hB.cell (p:=⟨b,q,none⟩) hbl
   have hbw:b<wr.heap.size:=Nat.lt_of_lt_of_le hbl hB.size;have i0:(0:Int)≤(k:Int):=o_
   have i1:(k:Int)<(X.length:Int):=o_
   have w0:IntKind.i64.wrap ((k:Int)+1)=(k:Int)+1:=IntWalk.i64_in _ (oh_ HLn.out)
   obtain ⟨p,hpc,hw0,hw1⟩:=HWk.out X[k] (List.getElem_mem hlt);have hphk:=HPh.out X[k] (List.getElem_mem hlt);have hpush:=fun j=>q0g9 P (X.take k) X[k] j
   rw [← List.take_succ_eq_append_getElem hlt,q0iz hpc] at hpush;have HPu:=hj_ hpush;have HPr:=hj_ (fun w' hb=>HPf.out X[k] p w' hb hpc)
   have HLt:=hj_ hlt;clear hcell hpush hpc hq0 hq1 hq2 hB;generalize X[k]=x at *;obtain ⟨ch,pt,pr,un,ad,ph,cb⟩:=x;obtain ⟨ps,pf,pw,pA,pn,pc⟩:=p;dsimp only at hk7 hphk HPu hw0 hw1;obtain ⟨k0,k1,k2,k3,k4,k5,k6⟩:=hk7;have p0:=(kk _).trans k0;have p1:=(kk _).trans k1;have p2:=(kk _).trans k2;have p3:=(kk _).trans k3;have p4:=(kk _).trans k4;have p5:=(kk _).trans k5;have p6:=(kk _).trans k6;have HPr2:=hj_ (show ∀ w',Below w.heap.size w w'→Calls prog 32 #[.agg #[.slice A0 n0 d0,.slice A1 n1 d1,.slice (some ⟨b,o,none⟩) X.length d2],.agg #[.int .i64 ch,.int .i64 pt,.string pr,.int .i64 un,.int .i64 ad,.int .i64 ph,.string cb]] w' fun e w''=>e=.returned (.agg #[.string ps,.int .i64 pf,.int .i64 pw,.slice pA pn pc])∧Below w'.heap.size w' w'' from HPr.out)
   obtain ⟨W1,hW1⟩:=ex_ (wr.alloc (.cells #[.int .i64 ch,.int .i64 pt,.string pr,.int .i64 un,.int .i64 ad,.int .i64 ph,.string cb] 45));have hb1:Below wr.heap.size wr W1:=by rw [hW1];exact (br_).alloc lr_ _
   have hx1:Cells W1 wr.heap.size [.int .i64 ch,.int .i64 pt,.string pr,.int .i64 un,.int .i64 ad,.int .i64 ph,.string cb]:=by rw [hW1];exact Cells.fresh wr [.int .i64 ch,.int .i64 pt,.string pr,.int .i64 un,.int .i64 ad,.int .i64 ph,.string cb] _
   have HB1':=hj_ (ht_ HBr.out hb1);have HX1:=hj_ hx1;have HD0:=hj_ (HQ0.out.below hb1 HQ0.out.1);have HD1:=hj_ (HQ1.out.below hb1 HQ1.out.1);have HD2:=hj_ (HQ2.out.below hb1 HQ2.out.1);have hlx:w.heap.size+1+1<wr.heap.size:=HQ2.out.1;have HW1:=hj_ hW1;have hbd:=And.intro (HBd.out k 1) (And.intro (HBd.out k 2) (HBd.out k 3));unfold phaseL at HD2;generalize hs1:phaseV P (X.take k) 1=s1 at *;generalize hs2:phaseV P (X.take k) 2=s2 at *;generalize hs3:phaseV P (X.take k) 3=s3 at *;have hfd:∀ w,(Instr.field 87 (.agg #[.string ps,.int .i64 pf,.int .i64 pw,.slice pA pn pc]) 2).run prog w=.ok (.int .i64 pw) w:=fun w=>k_
   clear k0 k1 k2 k3 k4 k5 k6 kk hb1 hx1 hW1 HPr HQ0 HQ1 HQ2 HBr;have e1:w.heap.size+1+1≠w.heap.size:=o_
   have e2:w.heap.size+1+1≠w.heap.size+1:=o_
   have e3:w.heap.size+1+1≠wr.heap.size:=o_
   clear hlx;go_wp2_with fail;rw [← HW1.out];obtain rfl | rfl | rfl:ph=1∨ph=2∨ph=3:=o_
   ·have c0:=HD0.out.at_ (j:=0) rfl
    have c1:=HD0.out.at_ (j:=1) rfl
    have c2:=HD0.out.at_ (j:=2) rfl
    have x0:=HX1.out.at_ (j:=0) rfl
    have x1:=HX1.out.at_ (j:=1) rfl
    have x2:=HX1.out.at_ (j:=2) rfl
    have x3:=HX1.out.at_ (j:=3) rfl
    have x4:=HX1.out.at_ (j:=4) rfl
    have x5:=HX1.out.at_ (j:=5) rfl
    have x6:=HX1.out.at_ (j:=6) rfl
    have y0:=HD2.out.at_ (j:=0) rfl
    have wv:IntKind.i64.wrap (s1+pw)=s1+pw:=IntWalk.i64_in _ o_
    have wj:IntKind.i64.wrap 0=0:=rfl;clear p0 p1 p2 p3 p4 p5 p6 hw0 hw1 hphk hbd;go_wp2_with fail;refine wp_region_held_drew (S:=fun w'=>w'.cell? ⟨w.heap.size,0,none⟩=some (.slice A0 n0 d0)∧w'.cell? ⟨w.heap.size,1,none⟩=some (.slice A1 n1 d1)∧w'.cell? ⟨w.heap.size,2,none⟩=some (.slice (some ⟨b,o,none⟩) X.length d2)∧w'.cell? ⟨wr.heap.size,0,none⟩=some (.int .i64 ch)∧w'.cell? ⟨wr.heap.size,1,none⟩=some (.int .i64 pt)∧w'.cell? ⟨wr.heap.size,2,none⟩=some (.string pr)∧w'.cell? ⟨wr.heap.size,3,none⟩=some (.int .i64 un)∧w'.cell? ⟨wr.heap.size,4,none⟩=some (.int .i64 ad)∧w'.cell? ⟨wr.heap.size,5,none⟩=some (.int .i64 1)∧w'.cell? ⟨wr.heap.size,6,none⟩=some (.string cb)) k_ ⟨c0,c1,c2,x0,x1,x2,x3,x4,x5,x6⟩ (fun hHeld=>?_)
    refine tq 0 ?_;refine tq 1 ?_;refine tq 2 ?_;refine tq 3 ?_;refine tq 5 ?_;refine tq 6 ?_;refine wpAnyH_ready (rs:=[4,7]) k_ s_ ?_
    refine AllReadyH.cons rfl (fun K hK=>?_) (AllReadyH.cons rfl (fun K hK=>?_) AllReadyH.nil)
    ·go_simp
     refine hK.out _ _ ⟨c0,c1,c2,x0,x1,x2,x3,x4,x5,x6⟩ (fun hHeld=>?_)
     clear hK K;refine tr 7 fun K hK=>?_
     go_simp
     go_at_call 32;refine (HPr2.out _ (q18 HB1'.out 1)).mono ?_;rintro e w2 ⟨rfl,hb⟩;have hb2:=(q18 (Below.refl W1.heap.size W1) 1).trans (hb.mono (q18 (Below.refl W1.heap.size W1) 1).size);have HB2:=hj_ (ht_ HB1'.out hb2);have HE0:=hj_ (HD0.out.below hb2 HD0.out.1);have HE1:=hj_ (HD1.out.below hb2 HD1.out.1);have HE2:=hj_ (HD2.out.below hb2 HD2.out.1);have HXE:=hj_ (HX1.out.below hb2 HX1.out.1);replace c0:=HE0.out.at_ (j:=0) rfl;replace c1:=HE0.out.at_ (j:=1) rfl;replace c2:=HE0.out.at_ (j:=2) rfl;replace x0:=HXE.out.at_ (j:=0) rfl;replace x1:=HXE.out.at_ (j:=1) rfl;replace x2:=HXE.out.at_ (j:=2) rfl;replace x3:=HXE.out.at_ (j:=3) rfl;replace x4:=HXE.out.at_ (j:=4) rfl;replace x5:=HXE.out.at_ (j:=5) rfl;replace x6:=HXE.out.at_ (j:=6) rfl;have y0:=HE2.out.at_ (j:=0) rfl;have z0:=HE2.out.fr (j:=0) rfl;have lz:=HE2.out.1;clear hb hb2
     go_wp2_with fail;refine hK.out _ _ ⟨c0,c1,c2,x0,x1,x2,x3,x4,x5,x6⟩ (fun hHeld=>?_)
     clear hK K;refine tq 8 ?_;refine tq 9 ?_;refine tq 10 ?_;refine tr 11 fun K hK=>?_
     go_simp
     refine hK.out _ _ (by first | exact ⟨(sf_ e1).trans c0,(sf_ e1).trans c1,(sf_ e1).trans c2,(sf_ e3).trans x0,(sf_ e3).trans x1,(sf_ e3).trans x2,(sf_ e3).trans x3,(sf_ e3).trans x4,(sf_ e3).trans x5,(sf_ e3).trans x6⟩ | exact ⟨(sf_ e1.symm).trans c0,(sf_ e1.symm).trans c1,(sf_ e1.symm).trans c2,(sf_ e3.symm).trans x0,(sf_ e3.symm).trans x1,(sf_ e3.symm).trans x2,(sf_ e3.symm).trans x3,(sf_ e3.symm).trans x4,(sf_ e3.symm).trans x5,(sf_ e3.symm).trans x6⟩) (fun hHeld=>?_)
     clear hK K;refine wpAnyH_done k_ ?_ _
     have HF0:=hj_ (HE0.out.far 0 (.int .i64 (s1+pw)) e1);have HF1:=hj_ (HE1.out.far 0 (.int .i64 (s1+pw)) e2);have hf2:=HE2.out.set 0 (.int .i64 (s1+pw)) (by show 0<3;decide)
     have HF2:=hj_ (show Cells (w2.setCell ⟨w.heap.size+1+1,0,none⟩ (.int .i64 (s1+pw))) (w.heap.size+1+1) [.int .i64 (s1+pw),.int .i64 s2,.int .i64 s3] from hf2)
     have HB3:=hj_ (HB2.out.setCell (p:=⟨w.heap.size+1+1,0,none⟩) (by show w.heap.size≤w.heap.size+1+1;omega) (.int .i64 (s1+pw)))
     clear hf2 c0 c1 c2 x0 x1 x2 x3 x4 x5 x6 y0 z0 lz;generalize w2.setCell ⟨w.heap.size+1+1,0,none⟩ (.int .i64 (s1+pw))=w3 at *;have hrl:Cells w3 (w.heap.size+1+1) (phaseL P (X.take (k+1))):=by
      have h1:=HPu.out 1;have h2:=HPu.out 2;have h3:=HPu.out 3;rw [hs1] at h1;rw [hs2] at h2;rw [hs3] at h3;unfold phaseL;rw [h1,h2,h3];exact HF2.out
     have HRl:=hj_ hrl;clear hrl;go_wp2_with fail
     go_roundw
     case rel=>exact ⟨k+1,HLt.out,by go_num,HB3.out,HF0.out,HF1.out,HRl.out⟩
     case measure=>have:=HLt.out;simp [intOf];omega
    ·go_simp
     go_at_call 32;refine (HPr2.out _ (q18 HB1'.out 1)).mono ?_;rintro e w2 ⟨rfl,hb⟩;have hb2:=(q18 (Below.refl W1.heap.size W1) 1).trans (hb.mono (q18 (Below.refl W1.heap.size W1) 1).size);have HB2:=hj_ (ht_ HB1'.out hb2);have HE0:=hj_ (HD0.out.below hb2 HD0.out.1);have HE1:=hj_ (HD1.out.below hb2 HD1.out.1);have HE2:=hj_ (HD2.out.below hb2 HD2.out.1);have HXE:=hj_ (HX1.out.below hb2 HX1.out.1);replace c0:=HE0.out.at_ (j:=0) rfl;replace c1:=HE0.out.at_ (j:=1) rfl;replace c2:=HE0.out.at_ (j:=2) rfl;replace x0:=HXE.out.at_ (j:=0) rfl;replace x1:=HXE.out.at_ (j:=1) rfl;replace x2:=HXE.out.at_ (j:=2) rfl;replace x3:=HXE.out.at_ (j:=3) rfl;replace x4:=HXE.out.at_ (j:=4) rfl;replace x5:=HXE.out.at_ (j:=5) rfl;replace x6:=HXE.out.at_ (j:=6) rfl;have y0:=HE2.out.at_ (j:=0) rfl;have z0:=HE2.out.fr (j:=0) rfl;have lz:=HE2.out.1;clear hb hb2
     go_wp2_with fail;refine hK.out _ _ ⟨c0,c1,c2,x0,x1,x2,x3,x4,x5,x6⟩ (fun hHeld=>?_)
     clear hK K;refine tq 8 ?_;refine tr 4 fun K hK=>?_
     go_simp
     refine hK.out _ _ ⟨c0,c1,c2,x0,x1,x2,x3,x4,x5,x6⟩ (fun hHeld=>?_)
     clear hK K;refine tq 9 ?_;refine tq 10 ?_;refine tr 11 fun K hK=>?_
     go_simp
     refine hK.out _ _ (by first | exact ⟨(sf_ e1).trans c0,(sf_ e1).trans c1,(sf_ e1).trans c2,(sf_ e3).trans x0,(sf_ e3).trans x1,(sf_ e3).trans x2,(sf_ e3).trans x3,(sf_ e3).trans x4,(sf_ e3).trans x5,(sf_ e3).trans x6⟩ | exact ⟨(sf_ e1.symm).trans c0,(sf_ e1.symm).trans c1,(sf_ e1.symm).trans c2,(sf_ e3.symm).trans x0,(sf_ e3.symm).trans x1,(sf_ e3.symm).trans x2,(sf_ e3.symm).trans x3,(sf_ e3.symm).trans x4,(sf_ e3.symm).trans x5,(sf_ e3.symm).trans x6⟩) (fun hHeld=>?_)
     clear hK K;refine wpAnyH_done k_ ?_ _
     have HF0:=hj_ (HE0.out.far 0 (.int .i64 (s1+pw)) e1);have HF1:=hj_ (HE1.out.far 0 (.int .i64 (s1+pw)) e2);have hf2:=HE2.out.set 0 (.int .i64 (s1+pw)) (by show 0<3;decide)
     have HF2:=hj_ (show Cells (w2.setCell ⟨w.heap.size+1+1,0,none⟩ (.int .i64 (s1+pw))) (w.heap.size+1+1) [.int .i64 (s1+pw),.int .i64 s2,.int .i64 s3] from hf2)
     have HB3:=hj_ (HB2.out.setCell (p:=⟨w.heap.size+1+1,0,none⟩) (by show w.heap.size≤w.heap.size+1+1;omega) (.int .i64 (s1+pw)))
     clear hf2 c0 c1 c2 x0 x1 x2 x3 x4 x5 x6 y0 z0 lz;generalize w2.setCell ⟨w.heap.size+1+1,0,none⟩ (.int .i64 (s1+pw))=w3 at *;have hrl:Cells w3 (w.heap.size+1+1) (phaseL P (X.take (k+1))):=by
      have h1:=HPu.out 1;have h2:=HPu.out 2;have h3:=HPu.out 3;rw [hs1] at h1;rw [hs2] at h2;rw [hs3] at h3;unfold phaseL;rw [h1,h2,h3];exact HF2.out
     have HRl:=hj_ hrl;clear hrl;go_wp2_with fail
     go_roundw
     case rel=>exact ⟨k+1,HLt.out,by go_num,HB3.out,HF0.out,HF1.out,HRl.out⟩
     case measure=>have:=HLt.out;simp [intOf];omega
   ·have c0:=HD0.out.at_ (j:=0) rfl
    have c1:=HD0.out.at_ (j:=1) rfl
    have c2:=HD0.out.at_ (j:=2) rfl
    have x0:=HX1.out.at_ (j:=0) rfl
    have x1:=HX1.out.at_ (j:=1) rfl
    have x2:=HX1.out.at_ (j:=2) rfl
    have x3:=HX1.out.at_ (j:=3) rfl
    have x4:=HX1.out.at_ (j:=4) rfl
    have x5:=HX1.out.at_ (j:=5) rfl
    have x6:=HX1.out.at_ (j:=6) rfl
    have y0:=HD2.out.at_ (j:=1) rfl
    have wv:IntKind.i64.wrap (s2+pw)=s2+pw:=IntWalk.i64_in _ o_
    have wj:IntKind.i64.wrap 1=1:=rfl;clear p0 p1 p2 p3 p4 p5 p6 hw0 hw1 hphk hbd;go_wp2_with fail;refine wp_region_held_drew (S:=fun w'=>w'.cell? ⟨w.heap.size,0,none⟩=some (.slice A0 n0 d0)∧w'.cell? ⟨w.heap.size,1,none⟩=some (.slice A1 n1 d1)∧w'.cell? ⟨w.heap.size,2,none⟩=some (.slice (some ⟨b,o,none⟩) X.length d2)∧w'.cell? ⟨wr.heap.size,0,none⟩=some (.int .i64 ch)∧w'.cell? ⟨wr.heap.size,1,none⟩=some (.int .i64 pt)∧w'.cell? ⟨wr.heap.size,2,none⟩=some (.string pr)∧w'.cell? ⟨wr.heap.size,3,none⟩=some (.int .i64 un)∧w'.cell? ⟨wr.heap.size,4,none⟩=some (.int .i64 ad)∧w'.cell? ⟨wr.heap.size,5,none⟩=some (.int .i64 2)∧w'.cell? ⟨wr.heap.size,6,none⟩=some (.string cb)) k_ ⟨c0,c1,c2,x0,x1,x2,x3,x4,x5,x6⟩ (fun hHeld=>?_)
    refine tq 0 ?_;refine tq 1 ?_;refine tq 2 ?_;refine tq 3 ?_;refine tq 5 ?_;refine tq 6 ?_;refine wpAnyH_ready (rs:=[4,7]) k_ s_ ?_
    refine AllReadyH.cons rfl (fun K hK=>?_) (AllReadyH.cons rfl (fun K hK=>?_) AllReadyH.nil)
    ·go_simp
     refine hK.out _ _ ⟨c0,c1,c2,x0,x1,x2,x3,x4,x5,x6⟩ (fun hHeld=>?_)
     clear hK K;refine tr 7 fun K hK=>?_
     go_simp
     go_at_call 32;refine (HPr2.out _ (q18 HB1'.out 1)).mono ?_;rintro e w2 ⟨rfl,hb⟩;have hb2:=(q18 (Below.refl W1.heap.size W1) 1).trans (hb.mono (q18 (Below.refl W1.heap.size W1) 1).size);have HB2:=hj_ (ht_ HB1'.out hb2);have HE0:=hj_ (HD0.out.below hb2 HD0.out.1);have HE1:=hj_ (HD1.out.below hb2 HD1.out.1);have HE2:=hj_ (HD2.out.below hb2 HD2.out.1);have HXE:=hj_ (HX1.out.below hb2 HX1.out.1);replace c0:=HE0.out.at_ (j:=0) rfl;replace c1:=HE0.out.at_ (j:=1) rfl;replace c2:=HE0.out.at_ (j:=2) rfl;replace x0:=HXE.out.at_ (j:=0) rfl;replace x1:=HXE.out.at_ (j:=1) rfl;replace x2:=HXE.out.at_ (j:=2) rfl;replace x3:=HXE.out.at_ (j:=3) rfl;replace x4:=HXE.out.at_ (j:=4) rfl;replace x5:=HXE.out.at_ (j:=5) rfl;replace x6:=HXE.out.at_ (j:=6) rfl;have y0:=HE2.out.at_ (j:=1) rfl;have z0:=HE2.out.fr (j:=1) rfl;have lz:=HE2.out.1;clear hb hb2
     go_wp2_with fail;refine hK.out _ _ ⟨c0,c1,c2,x0,x1,x2,x3,x4,x5,x6⟩ (fun hHeld=>?_)
     clear hK K;refine tq 8 ?_;refine tq 9 ?_;refine tq 10 ?_;refine tr 11 fun K hK=>?_
     go_simp
     refine hK.out _ _ (by first | exact ⟨(sf_ e1).trans c0,(sf_ e1).trans c1,(sf_ e1).trans c2,(sf_ e3).trans x0,(sf_ e3).trans x1,(sf_ e3).trans x2,(sf_ e3).trans x3,(sf_ e3).trans x4,(sf_ e3).trans x5,(sf_ e3).trans x6⟩ | exact ⟨(sf_ e1.symm).trans c0,(sf_ e1.symm).trans c1,(sf_ e1.symm).trans c2,(sf_ e3.symm).trans x0,(sf_ e3.symm).trans x1,(sf_ e3.symm).trans x2,(sf_ e3.symm).trans x3,(sf_ e3.symm).trans x4,(sf_ e3.symm).trans x5,(sf_ e3.symm).trans x6⟩) (fun hHeld=>?_)
     clear hK K;refine wpAnyH_done k_ ?_ _
     have HF0:=hj_ (HE0.out.far 1 (.int .i64 (s2+pw)) e1);have HF1:=hj_ (HE1.out.far 1 (.int .i64 (s2+pw)) e2);have hf2:=HE2.out.set 1 (.int .i64 (s2+pw)) (by show 1<3;decide)
     have HF2:=hj_ (show Cells (w2.setCell ⟨w.heap.size+1+1,1,none⟩ (.int .i64 (s2+pw))) (w.heap.size+1+1) [.int .i64 s1,.int .i64 (s2+pw),.int .i64 s3] from hf2)
     have HB3:=hj_ (HB2.out.setCell (p:=⟨w.heap.size+1+1,1,none⟩) (by show w.heap.size≤w.heap.size+1+1;omega) (.int .i64 (s2+pw)))
     clear hf2 c0 c1 c2 x0 x1 x2 x3 x4 x5 x6 y0 z0 lz;generalize w2.setCell ⟨w.heap.size+1+1,1,none⟩ (.int .i64 (s2+pw))=w3 at *;have hrl:Cells w3 (w.heap.size+1+1) (phaseL P (X.take (k+1))):=by
      have h1:=HPu.out 1;have h2:=HPu.out 2;have h3:=HPu.out 3;rw [hs1] at h1;rw [hs2] at h2;rw [hs3] at h3;unfold phaseL;rw [h1,h2,h3];exact HF2.out
     have HRl:=hj_ hrl;clear hrl;go_wp2_with fail
     go_roundw
     case rel=>exact ⟨k+1,HLt.out,by go_num,HB3.out,HF0.out,HF1.out,HRl.out⟩
     case measure=>have:=HLt.out;simp [intOf];omega
    ·go_simp
     go_at_call 32;refine (HPr2.out _ (q18 HB1'.out 1)).mono ?_;rintro e w2 ⟨rfl,hb⟩;have hb2:=(q18 (Below.refl W1.heap.size W1) 1).trans (hb.mono (q18 (Below.refl W1.heap.size W1) 1).size);have HB2:=hj_ (ht_ HB1'.out hb2);have HE0:=hj_ (HD0.out.below hb2 HD0.out.1);have HE1:=hj_ (HD1.out.below hb2 HD1.out.1);have HE2:=hj_ (HD2.out.below hb2 HD2.out.1);have HXE:=hj_ (HX1.out.below hb2 HX1.out.1);replace c0:=HE0.out.at_ (j:=0) rfl;replace c1:=HE0.out.at_ (j:=1) rfl;replace c2:=HE0.out.at_ (j:=2) rfl;replace x0:=HXE.out.at_ (j:=0) rfl;replace x1:=HXE.out.at_ (j:=1) rfl;replace x2:=HXE.out.at_ (j:=2) rfl;replace x3:=HXE.out.at_ (j:=3) rfl;replace x4:=HXE.out.at_ (j:=4) rfl;replace x5:=HXE.out.at_ (j:=5) rfl;replace x6:=HXE.out.at_ (j:=6) rfl;have y0:=HE2.out.at_ (j:=1) rfl;have z0:=HE2.out.fr (j:=1) rfl;have lz:=HE2.out.1;clear hb hb2
     go_wp2_with fail;refine hK.out _ _ ⟨c0,c1,c2,x0,x1,x2,x3,x4,x5,x6⟩ (fun hHeld=>?_)
     clear hK K;refine tq 8 ?_;refine tr 4 fun K hK=>?_
     go_simp
     refine hK.out _ _ ⟨c0,c1,c2,x0,x1,x2,x3,x4,x5,x6⟩ (fun hHeld=>?_)
     clear hK K;refine tq 9 ?_;refine tq 10 ?_;refine tr 11 fun K hK=>?_
     go_simp
     refine hK.out _ _ (by first | exact ⟨(sf_ e1).trans c0,(sf_ e1).trans c1,(sf_ e1).trans c2,(sf_ e3).trans x0,(sf_ e3).trans x1,(sf_ e3).trans x2,(sf_ e3).trans x3,(sf_ e3).trans x4,(sf_ e3).trans x5,(sf_ e3).trans x6⟩ | exact ⟨(sf_ e1.symm).trans c0,(sf_ e1.symm).trans c1,(sf_ e1.symm).trans c2,(sf_ e3.symm).trans x0,(sf_ e3.symm).trans x1,(sf_ e3.symm).trans x2,(sf_ e3.symm).trans x3,(sf_ e3.symm).trans x4,(sf_ e3.symm).trans x5,(sf_ e3.symm).trans x6⟩) (fun hHeld=>?_)
     clear hK K;refine wpAnyH_done k_ ?_ _
     have HF0:=hj_ (HE0.out.far 1 (.int .i64 (s2+pw)) e1);have HF1:=hj_ (HE1.out.far 1 (.int .i64 (s2+pw)) e2);have hf2:=HE2.out.set 1 (.int .i64 (s2+pw)) (by show 1<3;decide)
     have HF2:=hj_ (show Cells (w2.setCell ⟨w.heap.size+1+1,1,none⟩ (.int .i64 (s2+pw))) (w.heap.size+1+1) [.int .i64 s1,.int .i64 (s2+pw),.int .i64 s3] from hf2)
     have HB3:=hj_ (HB2.out.setCell (p:=⟨w.heap.size+1+1,1,none⟩) (by show w.heap.size≤w.heap.size+1+1;omega) (.int .i64 (s2+pw)))
     clear hf2 c0 c1 c2 x0 x1 x2 x3 x4 x5 x6 y0 z0 lz;generalize w2.setCell ⟨w.heap.size+1+1,1,none⟩ (.int .i64 (s2+pw))=w3 at *;have hrl:Cells w3 (w.heap.size+1+1) (phaseL P (X.take (k+1))):=by
      have h1:=HPu.out 1;have h2:=HPu.out 2;have h3:=HPu.out 3;rw [hs1] at h1;rw [hs2] at h2;rw [hs3] at h3;unfold phaseL;rw [h1,h2,h3];exact HF2.out
     have HRl:=hj_ hrl;clear hrl;go_wp2_with fail
     go_roundw
     case rel=>exact ⟨k+1,HLt.out,by go_num,HB3.out,HF0.out,HF1.out,HRl.out⟩
     case measure=>have:=HLt.out;simp [intOf];omega
   ·have c0:=HD0.out.at_ (j:=0) rfl
    have c1:=HD0.out.at_ (j:=1) rfl
    have c2:=HD0.out.at_ (j:=2) rfl
    have x0:=HX1.out.at_ (j:=0) rfl
    have x1:=HX1.out.at_ (j:=1) rfl
    have x2:=HX1.out.at_ (j:=2) rfl
    have x3:=HX1.out.at_ (j:=3) rfl
    have x4:=HX1.out.at_ (j:=4) rfl
    have x5:=HX1.out.at_ (j:=5) rfl
    have x6:=HX1.out.at_ (j:=6) rfl
    have y0:=HD2.out.at_ (j:=2) rfl
    have wv:IntKind.i64.wrap (s3+pw)=s3+pw:=IntWalk.i64_in _ o_
    have wj:IntKind.i64.wrap 2=2:=rfl;clear p0 p1 p2 p3 p4 p5 p6 hw0 hw1 hphk hbd;go_wp2_with fail;refine wp_region_held_drew (S:=fun w'=>w'.cell? ⟨w.heap.size,0,none⟩=some (.slice A0 n0 d0)∧w'.cell? ⟨w.heap.size,1,none⟩=some (.slice A1 n1 d1)∧w'.cell? ⟨w.heap.size,2,none⟩=some (.slice (some ⟨b,o,none⟩) X.length d2)∧w'.cell? ⟨wr.heap.size,0,none⟩=some (.int .i64 ch)∧w'.cell? ⟨wr.heap.size,1,none⟩=some (.int .i64 pt)∧w'.cell? ⟨wr.heap.size,2,none⟩=some (.string pr)∧w'.cell? ⟨wr.heap.size,3,none⟩=some (.int .i64 un)∧w'.cell? ⟨wr.heap.size,4,none⟩=some (.int .i64 ad)∧w'.cell? ⟨wr.heap.size,5,none⟩=some (.int .i64 3)∧w'.cell? ⟨wr.heap.size,6,none⟩=some (.string cb)) k_ ⟨c0,c1,c2,x0,x1,x2,x3,x4,x5,x6⟩ (fun hHeld=>?_)
    refine tq 0 ?_;refine tq 1 ?_;refine tq 2 ?_;refine tq 3 ?_;refine tq 5 ?_;refine tq 6 ?_;refine wpAnyH_ready (rs:=[4,7]) k_ s_ ?_
    refine AllReadyH.cons rfl (fun K hK=>?_) (AllReadyH.cons rfl (fun K hK=>?_) AllReadyH.nil)
    ·go_simp
     refine hK.out _ _ ⟨c0,c1,c2,x0,x1,x2,x3,x4,x5,x6⟩ (fun hHeld=>?_)
     clear hK K;refine tr 7 fun K hK=>?_
     go_simp
     go_at_call 32;refine (HPr2.out _ (q18 HB1'.out 1)).mono ?_;rintro e w2 ⟨rfl,hb⟩;have hb2:=(q18 (Below.refl W1.heap.size W1) 1).trans (hb.mono (q18 (Below.refl W1.heap.size W1) 1).size);have HB2:=hj_ (ht_ HB1'.out hb2);have HE0:=hj_ (HD0.out.below hb2 HD0.out.1);have HE1:=hj_ (HD1.out.below hb2 HD1.out.1);have HE2:=hj_ (HD2.out.below hb2 HD2.out.1);have HXE:=hj_ (HX1.out.below hb2 HX1.out.1);replace c0:=HE0.out.at_ (j:=0) rfl;replace c1:=HE0.out.at_ (j:=1) rfl;replace c2:=HE0.out.at_ (j:=2) rfl;replace x0:=HXE.out.at_ (j:=0) rfl;replace x1:=HXE.out.at_ (j:=1) rfl;replace x2:=HXE.out.at_ (j:=2) rfl;replace x3:=HXE.out.at_ (j:=3) rfl;replace x4:=HXE.out.at_ (j:=4) rfl;replace x5:=HXE.out.at_ (j:=5) rfl;replace x6:=HXE.out.at_ (j:=6) rfl;have y0:=HE2.out.at_ (j:=2) rfl;have z0:=HE2.out.fr (j:=2) rfl;have lz:=HE2.out.1;clear hb hb2
     go_wp2_with fail;refine hK.out _ _ ⟨c0,c1,c2,x0,x1,x2,x3,x4,x5,x6⟩ (fun hHeld=>?_)
     clear hK K;refine tq 8 ?_;refine tq 9 ?_;refine tq 10 ?_;refine tr 11 fun K hK=>?_
     go_simp
     refine hK.out _ _ (by first | exact ⟨(sf_ e1).trans c0,(sf_ e1).trans c1,(sf_ e1).trans c2,(sf_ e3).trans x0,(sf_ e3).trans x1,(sf_ e3).trans x2,(sf_ e3).trans x3,(sf_ e3).trans x4,(sf_ e3).trans x5,(sf_ e3).trans x6⟩ | exact ⟨(sf_ e1.symm).trans c0,(sf_ e1.symm).trans c1,(sf_ e1.symm).trans c2,(sf_ e3.symm).trans x0,(sf_ e3.symm).trans x1,(sf_ e3.symm).trans x2,(sf_ e3.symm).trans x3,(sf_ e3.symm).trans x4,(sf_ e3.symm).trans x5,(sf_ e3.symm).trans x6⟩) (fun hHeld=>?_)
     clear hK K;refine wpAnyH_done k_ ?_ _
     have HF0:=hj_ (HE0.out.far 2 (.int .i64 (s3+pw)) e1);have HF1:=hj_ (HE1.out.far 2 (.int .i64 (s3+pw)) e2);have hf2:=HE2.out.set 2 (.int .i64 (s3+pw)) (by show 2<3;decide)
     have HF2:=hj_ (show Cells (w2.setCell ⟨w.heap.size+1+1,2,none⟩ (.int .i64 (s3+pw))) (w.heap.size+1+1) [.int .i64 s1,.int .i64 s2,.int .i64 (s3+pw)] from hf2)
     have HB3:=hj_ (HB2.out.setCell (p:=⟨w.heap.size+1+1,2,none⟩) (by show w.heap.size≤w.heap.size+1+1;omega) (.int .i64 (s3+pw)))
     clear hf2 c0 c1 c2 x0 x1 x2 x3 x4 x5 x6 y0 z0 lz;generalize w2.setCell ⟨w.heap.size+1+1,2,none⟩ (.int .i64 (s3+pw))=w3 at *;have hrl:Cells w3 (w.heap.size+1+1) (phaseL P (X.take (k+1))):=by
      have h1:=HPu.out 1;have h2:=HPu.out 2;have h3:=HPu.out 3;rw [hs1] at h1;rw [hs2] at h2;rw [hs3] at h3;unfold phaseL;rw [h1,h2,h3];exact HF2.out
     have HRl:=hj_ hrl;clear hrl;go_wp2_with fail
     go_roundw
     case rel=>exact ⟨k+1,HLt.out,by go_num,HB3.out,HF0.out,HF1.out,HRl.out⟩
     case measure=>have:=HLt.out;simp [intOf];omega
    ·go_simp
     go_at_call 32;refine (HPr2.out _ (q18 HB1'.out 1)).mono ?_;rintro e w2 ⟨rfl,hb⟩;have hb2:=(q18 (Below.refl W1.heap.size W1) 1).trans (hb.mono (q18 (Below.refl W1.heap.size W1) 1).size);have HB2:=hj_ (ht_ HB1'.out hb2);have HE0:=hj_ (HD0.out.below hb2 HD0.out.1);have HE1:=hj_ (HD1.out.below hb2 HD1.out.1);have HE2:=hj_ (HD2.out.below hb2 HD2.out.1);have HXE:=hj_ (HX1.out.below hb2 HX1.out.1);replace c0:=HE0.out.at_ (j:=0) rfl;replace c1:=HE0.out.at_ (j:=1) rfl;replace c2:=HE0.out.at_ (j:=2) rfl;replace x0:=HXE.out.at_ (j:=0) rfl;replace x1:=HXE.out.at_ (j:=1) rfl;replace x2:=HXE.out.at_ (j:=2) rfl;replace x3:=HXE.out.at_ (j:=3) rfl;replace x4:=HXE.out.at_ (j:=4) rfl;replace x5:=HXE.out.at_ (j:=5) rfl;replace x6:=HXE.out.at_ (j:=6) rfl;have y0:=HE2.out.at_ (j:=2) rfl;have z0:=HE2.out.fr (j:=2) rfl;have lz:=HE2.out.1;clear hb hb2
     go_wp2_with fail;refine hK.out _ _ ⟨c0,c1,c2,x0,x1,x2,x3,x4,x5,x6⟩ (fun hHeld=>?_)
     clear hK K;refine tq 8 ?_;refine tr 4 fun K hK=>?_
     go_simp
     refine hK.out _ _ ⟨c0,c1,c2,x0,x1,x2,x3,x4,x5,x6⟩ (fun hHeld=>?_)
     clear hK K;refine tq 9 ?_;refine tq 10 ?_;refine tr 11 fun K hK=>?_
     go_simp
     refine hK.out _ _ (by first | exact ⟨(sf_ e1).trans c0,(sf_ e1).trans c1,(sf_ e1).trans c2,(sf_ e3).trans x0,(sf_ e3).trans x1,(sf_ e3).trans x2,(sf_ e3).trans x3,(sf_ e3).trans x4,(sf_ e3).trans x5,(sf_ e3).trans x6⟩ | exact ⟨(sf_ e1.symm).trans c0,(sf_ e1.symm).trans c1,(sf_ e1.symm).trans c2,(sf_ e3.symm).trans x0,(sf_ e3.symm).trans x1,(sf_ e3.symm).trans x2,(sf_ e3.symm).trans x3,(sf_ e3.symm).trans x4,(sf_ e3.symm).trans x5,(sf_ e3.symm).trans x6⟩) (fun hHeld=>?_)
     clear hK K;refine wpAnyH_done k_ ?_ _
     have HF0:=hj_ (HE0.out.far 2 (.int .i64 (s3+pw)) e1);have HF1:=hj_ (HE1.out.far 2 (.int .i64 (s3+pw)) e2);have hf2:=HE2.out.set 2 (.int .i64 (s3+pw)) (by show 2<3;decide)
     have HF2:=hj_ (show Cells (w2.setCell ⟨w.heap.size+1+1,2,none⟩ (.int .i64 (s3+pw))) (w.heap.size+1+1) [.int .i64 s1,.int .i64 s2,.int .i64 (s3+pw)] from hf2)
     have HB3:=hj_ (HB2.out.setCell (p:=⟨w.heap.size+1+1,2,none⟩) (by show w.heap.size≤w.heap.size+1+1;omega) (.int .i64 (s3+pw)))
     clear hf2 c0 c1 c2 x0 x1 x2 x3 x4 x5 x6 y0 z0 lz;generalize w2.setCell ⟨w.heap.size+1+1,2,none⟩ (.int .i64 (s3+pw))=w3 at *;have hrl:Cells w3 (w.heap.size+1+1) (phaseL P (X.take (k+1))):=by
      have h1:=HPu.out 1;have h2:=HPu.out 2;have h3:=HPu.out 3;rw [hs1] at h1;rw [hs2] at h2;rw [hs3] at h3;unfold phaseL;rw [h1,h2,h3];exact HF2.out
     have HRl:=hj_ hrl;clear hrl;go_wp2_with fail
     go_roundw
     case rel=>exact ⟨k+1,HLt.out,by go_num,HB3.out,HF0.out,HF1.out,HRl.out⟩
     case measure=>have:=HLt.out;simp [intOf];omega
  ·obtain rfl:k=X.length:=by omega
   rw [List.take_length] at hq2;have hz0:=hq0.at_ (j:=2) rfl
   unfold phaseL at hq2;have s0:=hq2.at_ (j:=0) rfl
   have s1:=hq2.at_ (j:=1) rfl
   have s2:=hq2.at_ (j:=2) rfl
   have r0:=hq1.fr (j:=0) rfl;have r1:=hq1.fr (j:=1) rfl;have r2:=hq1.fr (j:=2) rfl;have t0:=hq1.at_ (j:=0) rfl
   have t1:=hq1.at_ (j:=1) rfl
   have t2:=hq1.at_ (j:=2) rfl
   have l1:=hq1.1;have l2:=hq2.1;clear hq0 hq1 hq2;go_wp2_with fail
   (try simp only [Exit.inBlock,Exit.then])
   refine bodyPost_ret (v:=.agg #[.int .i64 (phaseV P X 1),.int .i64 (phaseV P X 2),.int .i64 (phaseV P X 3)]) ?_ rfl ⟨rfl,?_⟩
   ·rw [qlt rfl]
    go_simp
   ·have hz:=HBr.out
    (repeat' first | exact br_ | assumption | apply Below.drew | apply q18 | refine Below.alloc ?_ ?_ _ | refine Below.setCell ?_ ?_ _ | refine Below.trans ?_ (Below.mono ‹_› ?_) | omega | (simp;omega) | simp)
theorem q0i4 (A0:Option Addr) (n0 d0:Nat) (A1:Option Addr) (n1 d1:Nat) (A2:Option Addr) (n2 d2:Nat) (P:List PC) (X:List Fx) (w:World) (hck:∀ w',Below w.heap.size w w'→Calls prog 62 #[.agg #[.slice A0 n0 d0,.slice A1 n1 d1,.slice A2 n2 d2]] w' fun e w''=>e=.returned (.int .i64 0)∧Below w'.heap.size w' w'')
  (hp:shPr.In w A1 n1 P) (hn1:n1≤9223372036854775806) (hx:shX.In w A2 n2 X) (hX:X.length≤1000) (hW:WOk P X) (hph:∀ x ∈ X,1≤x.ph∧x.ph≤3) :
  Rt 17 #[.agg #[.slice A0 n0 d0,.slice A1 n1 d1,.slice A2 n2 d2]] w (.tuple #[.agg #[.int .i64 (phaseV P X 1),.int .i64 (phaseV P X 2),.int .i64 (phaseV P X 3)],.int .i64 0]):=by
 have HO:=hj_ (fun w' (hb:Below w.heap.size w w')=>q0ip A0 n0 d0 A1 n1 d1 A2 n2 d2 0 w' (fun w2 h2=>hck w2 (ht_ hb h2)))
 have HH:=hj_ (fun w' (hb:Below w.heap.size w w')=>q0ew A0 n0 d0 A1 n1 d1 A2 n2 d2 P X w' (hp.below hb) hn1 (hx.below hb) hX hW hph)
 generalize phaseV P X 1=s1 at *;generalize phaseV P X 2=s2 at *;generalize phaseV P X 3=s3 at *;obtain ⟨W,HW,HB0,HK⟩:=bx3_3 w (.slice A0 n0 d0) (.slice A1 n1 d1) (.slice A2 n2 d2) 26 (.int .i64 0) (.int .i64 0) (.int .i64 0) 47;have hB:=Below.refl W.heap.size W;obtain ⟨c0,c1,c2,c3,c4,c5⟩:=HK.out W hB;have hsz:w.heap.size+1<W.heap.size:=by rw [HW.out];simp
 have HFr:=hj_ (show ∀ w',Below W.heap.size W w'→∀ j,w'.frozen? ⟨w.heap.size+1,j,none⟩=false from fun w' h j=>by
  refine (h.frozen (p:=⟨w.heap.size+1,j,none⟩) hsz).trans ?_;rw [HW.out];exact World.frozen?_alloc_at _ _ _ _ s_)
 have HSz:=hj_ hsz;clear hsz hck hp hn1 hx hX hW hph
 go_enter func17,ntmps17
 go_wp2_with fail;rw [← HW.out];go_wp2_with fail;refine up_ (HO.out _ (ht_ HB0.out hB)) hB fun wk hB=>?_;obtain ⟨W1,hW1⟩:=ex_ (wk.alloc (.cells #[.slice A0 n0 d0,.slice A1 n1 d1,.slice A2 n2 d2] 75));have hb1:Below wk.heap.size wk W1:=by rw [hW1];exact (br_).alloc lr_ _
 have hx1:Cells W1 wk.heap.size [.slice A0 n0 d0,.slice A1 n1 d1,.slice A2 n2 d2]:=by rw [hW1];exact Cells.fresh wk [.slice A0 n0 d0,.slice A1 n1 d1,.slice A2 n2 d2] _
 have x0:=hx1.at_ (j:=0) rfl
 have x1:=hx1.at_ (j:=1) rfl
 have x2:=hx1.at_ (j:=2) rfl
 have hl1:=hx1.1;have HW1:=hj_ hW1;replace hB:=ht_ hB hb1;clear hb1 hx1 hW1;go_wp2_with fail;rw [← HW1.out];go_wp2_with fail;refine up_ (HH.out _ (ht_ HB0.out hB)) hB ?_;clear hB x0 x1 x2 hl1;intro w5 hB;obtain ⟨c0,c1,c2,c3,c4,c5⟩:=HK.out _ hB;have f0:=HFr.out _ hB 0;have f1:=HFr.out _ hB 1;have f2:=HFr.out _ hB 2;have hs2:=Nat.lt_of_lt_of_le HSz.out hB.size;have hz:=ht_ HB0.out hB;go_wp2_with fail
 (try simp only [Exit.inBlock,Exit.then])
 refine bodyPost_ret (v:=.tuple #[.agg #[.int .i64 s1,.int .i64 s2,.int .i64 s3],.int .i64 0]) ?_ rfl ⟨rfl,?_⟩
 ·rw [results_cell_tmp rfl]
  go_simp
 ·(repeat' first | exact br_ | assumption | apply Below.drew | apply q18 | refine Below.alloc ?_ ?_ _ | refine Below.setCell ?_ ?_ _ | refine Below.trans ?_ (Below.mono ‹_› ?_) | omega | (simp;omega) | simp)
theorem q0ia (A0:Option Addr) (n0 d0:Nat) (A1:Option Addr) (n1 d1:Nat) (A2:Option Addr) (n2 d2:Nat) (P:List PC) (X:List Fx) (w:World) (hck:∀ w',Below w.heap.size w w'→Calls prog 62 #[.agg #[.slice A0 n0 d0,.slice A1 n1 d1,.slice A2 n2 d2]] w' fun e w''=>e=.returned (.int .i64 0)∧Below w'.heap.size w' w'')
  (hp:shPr.In w A1 n1 P) (hn1:n1≤9223372036854775806) (hx:shX.In w A2 n2 X) (hX:X.length≤1000) (hW:WOk P X) (hph:∀ x ∈ X,1≤x.ph∧x.ph≤3) :
  Rt 19 #[.agg #[.slice A0 n0 d0,.slice A1 n1 d1,.slice A2 n2 d2]] w (.tuple #[.int .i64 (max (max (phaseV P X 1) (phaseV P X 2)) (phaseV P X 3)-min (min (phaseV P X 1) (phaseV P X 2)) (phaseV P X 3)),.int .i64 0]):=by
 have HO:=hj_ (fun w' (hb:Below w.heap.size w w')=>q0ip A0 n0 d0 A1 n1 d1 A2 n2 d2 0 w' (fun w2 h2=>hck w2 (ht_ hb h2)))
 have HH:=hj_ (fun w' (hb:Below w.heap.size w w')=>q0ew A0 n0 d0 A1 n1 d1 A2 n2 d2 P X w' (hp.below hb) hn1 (hx.below hb) hX hW hph)
 have b1:=q0g8 hW 1;have b2:=q0g8 hW 2;have b3:=q0g8 hW 3;have ws:IntKind.i64.wrap (max (max (phaseV P X 1) (phaseV P X 2)) (phaseV P X 3)-min (min (phaseV P X 1) (phaseV P X 2)) (phaseV P X 3))=max (max (phaseV P X 1) (phaseV P X 2)) (phaseV P X 3)-min (min (phaseV P X 1) (phaseV P X 2)) (phaseV P X 3):=IntWalk.i64_in _ o_
 generalize phaseV P X 1=s1 at *;generalize phaseV P X 2=s2 at *;generalize phaseV P X 3=s3 at *;obtain ⟨M,hM⟩:=ex_ (max (max s1 s2) s3);obtain ⟨N,hN⟩:=ex_ (min (min s1 s2) s3);rw [← hM,← hN] at ws ⊢;have HMM:=hj_ hM;have HNN:=hj_ hN;clear hM hN;obtain ⟨W,HW,HB0,HK⟩:=bx3 w (.slice A0 n0 d0) (.slice A1 n1 d1) (.slice A2 n2 d2) 26;have hB:=Below.refl W.heap.size W;obtain ⟨c0,c1,c2⟩:=HK.out W hB;clear hck hp hn1 hx hX hW hph b1 b2 b3
 go_enter func19,ntmps19
 go_wp2_with fail;rw [← HW.out];go_wp2_with fail;refine up_ (HO.out _ (ht_ HB0.out hB)) hB fun wk hB=>?_;obtain ⟨W1,hW1⟩:=ex_ (wk.alloc (.cells #[.slice A0 n0 d0,.slice A1 n1 d1,.slice A2 n2 d2] 75));have hb1:Below wk.heap.size wk W1:=by rw [hW1];exact (br_).alloc lr_ _
 have hx1:Cells W1 wk.heap.size [.slice A0 n0 d0,.slice A1 n1 d1,.slice A2 n2 d2]:=by rw [hW1];exact Cells.fresh wk [.slice A0 n0 d0,.slice A1 n1 d1,.slice A2 n2 d2] _
 have x0:=hx1.at_ (j:=0) rfl
 have x1:=hx1.at_ (j:=1) rfl
 have x2:=hx1.at_ (j:=2) rfl
 have hl1:=hx1.1;have HW1:=hj_ hW1;replace hB:=ht_ hB hb1;clear hb1 hx1 hW1;go_wp2_with fail;rw [← HW1.out];go_wp2_with fail;refine up_ (HH.out _ (ht_ HB0.out hB)) hB ?_;clear hB x0 x1 x2 hl1;intro w5 hB;obtain ⟨W6,hW6⟩:=ex_ (w5.alloc (.cells #[.int .i64 s1,.int .i64 s2,.int .i64 s3] 47));have hb6:Below w5.heap.size w5 W6:=by rw [hW6];exact (br_).alloc lr_ _
 have hx6:Cells W6 w5.heap.size [.int .i64 s1,.int .i64 s2,.int .i64 s3]:=by rw [hW6];exact Cells.fresh w5 [.int .i64 s1,.int .i64 s2,.int .i64 s3] _
 have HX6:=hj_ hx6;have HW6:=hj_ hW6;have HBw:=hj_ (HB0.out.trans ((ht_ hB hb6).mono HB0.out.size));have HMx:=hj_ (fun w' (h:Cells w' w5.heap.size [.int .i64 s1,.int .i64 s2,.int .i64 s3])=>show Calls prog 53 #[.slice (some ⟨w5.heap.size,0,none⟩) 3 3] w' fun e w''=>e=.returned (.int .i64 M)∧Below w'.heap.size w' w'' from by rw [HMM.out];exact q0fr w5.heap.size 0 3 s1 s2 s3 w' (h.at_ (j:=0) rfl) (h.at_ (j:=1) rfl) (h.at_ (j:=2) rfl) h.1)
 have HMn:=hj_ (fun w' (h:Cells w' w5.heap.size [.int .i64 s1,.int .i64 s2,.int .i64 s3])=>show Calls prog 37 #[.slice (some ⟨w5.heap.size,0,none⟩) 3 3] w' fun e w''=>e=.returned (.int .i64 N)∧Below w'.heap.size w' w'' from by rw [HNN.out];exact q0fs w5.heap.size 0 3 s1 s2 s3 w' (h.at_ (j:=0) rfl) (h.at_ (j:=1) rfl) (h.at_ (j:=2) rfl) h.1)
 clear hb6 hx6 hW6 hB;go_wp2_with fail;rw [← HW6.out];have hB6:=q18 (Below.refl W6.heap.size W6) 1;have hc:=HX6.out.below hB6 HX6.out.1;have hlw:=hc.1;refine wp_region_held_drew (S:=fun w'=>w5.heap.size<w'.heap.size) k_ (by first | exact hlw) (fun hHeld=>?_)
 refine tq 0 ?_;refine tq 2 ?_;refine tr 1 fun K hK=>?_
 go_simp
 go_at_call 53;refine (HMx.out _ hc).mono ?_;rintro e w7 ⟨rfl,hb⟩;replace hc:=hc.below hb hc.1;replace hlw:=hc.1;replace hB6:=ht_ hB6 hb;clear hb
 go_wp2_with fail;refine hK.out _ _ (by first | exact hlw) (fun hHeld=>?_)
 clear hK K;refine tr 3 fun K hK=>?_
 go_simp
 go_at_call 37;refine (HMn.out _ hc).mono ?_;rintro e w7 ⟨rfl,hb⟩;replace hc:=hc.below hb hc.1;replace hlw:=hc.1;replace hB6:=ht_ hB6 hb;clear hb
 go_wp2_with fail;refine hK.out _ _ (by first | exact hlw) (fun hHeld=>?_)
 clear hK K;refine tq 4 ?_;refine tq 5 ?_;refine tq 6 ?_;refine wpAnyH_done k_ ?_ _
 have hz:=ht_ HBw.out hB6;clear hc hlw;go_wp2_with fail;go_ret2;refine ⟨?_,hz⟩
 go_simp
def phX (X:List Fx) (i:Nat):Int:=(X.getD i fx0).ph
theorem q0ir (g:Nat) (cb:Array Value) (A:Option Addr) (c:Nat) (w:World) :
  Calls prog 33 #[.slice A 0 c,.func (.func g) #[] cb] w fun e w'=>e=.returned (.tuple #[])∧w' = w:=by
 have HI:=hj_ (fun (w:World)=>(show Calls prog 110 #[.slice A 0 c,.int .i64 0,.int .i64 0,.func (.func g) #[] cb] w fun e w'=>e=.returned (.tuple #[])∧w' = w from by
  go_enter func110,ntmps110
  go_wp2_with fail
  go_loopw [8] (fun iv wr=>iv=.int .i64 1∧wr=w) (fun _ _=>0)
  case atStart=>exact ⟨rfl,rfl⟩
  case round =>
   obtain ⟨rfl,rfl⟩:=hrel;go_wp2_with fail
   go_end0
   exact ⟨rfl,rfl⟩))
 have HS:=hj_ (fun (w:World)=>(show Calls prog 65 #[.slice A 0 c,.int .i64 0,.func (.func g) #[] cb] w fun e w'=>e=.returned (.tuple #[])∧w' = w from by
  go_enter func65,ntmps65
  go_wp2_with fail
  go_loopw [7,8] (fun av bv wr=>av=.int .i64 0∧bv=.int .i64 20∧wr=w) (fun _ _ _=>0)
  case atStart=>exact ⟨rfl,rfl,rfl⟩
  case round =>
   obtain ⟨rfl,rfl,rfl⟩:=hrel;go_wp2_with fail;refine (HI.out _).mono ?_;rintro e w' ⟨rfl,rfl⟩
   rename World=>V1
   go_wp2_with fail
   go_loopw [6,7,8,9] (fun sv av bv mv wr=>sv=.int .i64 20∧wr=V1) (fun _ _ _ _ _=>0)
   case atStart=>exact ⟨rfl,rfl⟩
   case round =>
    obtain ⟨rfl,rfl⟩:=hrel;go_wp2_with fail
    go_end0
    exact ⟨rfl,rfl⟩))
 go_enter func33,ntmps33
 go_wp2_with fail;refine (HS.out _).mono ?_;rintro e w' ⟨rfl,rfl⟩;go_wp2_with fail
 go_end0
 exact ⟨rfl,rfl⟩
def SU (w:World) (lim:Nat) (A:Option Addr) (U:List (List Nat)):Prop:=∀ i (hi:i<U.length),∃ B bb c,A=some ⟨B,0,none⟩∧B<lim∧bb<lim∧w.cell? ⟨B,i,none⟩=some (.slice (some ⟨bb,0,none⟩) U[i].length c)∧Is w (some ⟨bb,0,none⟩) U[i].length (U[i].map fun i:Nat=>(i:Int))
theorem Is.lim {lim bb n:Nat} (h:Is w (some ⟨bb,0,none⟩) n l) (hl:bb<lim) (hb:Below lim w w') (hs:w.heap.size≤w'.heap.size):Is w' (some ⟨bb,0,none⟩) n l:=by
 refine ⟨h.1,h.2.1,fun hn=>?_⟩
 obtain ⟨b,o,e,h1,h2⟩:=h.2.2 hn
 injection e with e
 injection e with e1 e2
 subst e1 e2;exact ⟨bb,0,rfl,Nat.lt_of_lt_of_le h1 hs,fun j u hu=>(hb.cell (p:=⟨bb,0+j,none⟩) hl).trans (h2 j u hu)⟩
theorem Is_of_cells {B:Nat} (h:Cells w B (iv l)):Is w (some ⟨B,0,none⟩) l.length l :=
 ⟨rfl,by simp [iv],fun _=>⟨B,0,rfl,h.1,fun j u hu=>by rw [Nat.zero_add];exact h.at_ hu⟩⟩
theorem q0ef {r:Option Nat} (h:w.grownBy w' r) {p:Addr} (hp:p.block<w.heap.size) (hne:some p.block≠r):w'.cell? p=w.cell? p:=World.cell?_of_block (w:=w) (h.block p.block hp hne)
theorem q0is (G Hb Q base:Nat) (A0:Option Addr) (n0 d0:Nat) (A1:Option Addr) (n1 d1:Nat) (A2:Option Addr) (d2:Nat) (P:List PC) (X:List Fx) (A:Option Addr) (m c:Nat) (vals:List Value) (W6:World)
  (hG:Grps W6 base 3 78 1 encN (.slice A m c) vals (unitsV X)) (hm:m=(unitsV X).length) (hGc:Cells W6 G [.slice A0 n0 d0,.slice A1 n1 d1,.slice A2 X.length d2]) (hHc:Cells W6 Hb [.slice A0 n0 d0,.slice A1 n1 d1,.slice A2 X.length d2])
  (hQc:Cells W6 Q [.func (.func 31) #[] #[.pointer (some ⟨Hb,0,none⟩),.pointer (some ⟨G,0,none⟩)]]) (hGb:G<base) (hHb:Hb<base) (hQ:∀ b,A=some ⟨b,0,none⟩→Q≠b) (lim:Nat) (hlA:∀ b,A=some ⟨b,0,none⟩→b<lim) (hlv:∀ v ∈ vals,∀ b,v.ownBlock=some b→b<lim)
  (hp:∀ w',Below base W6 w'→shPr.In w' A1 n1 P) (hn1:n1≤9223372036854775806) (hx:∀ w',Below base W6 w'→shX.In w' A2 X.length X) (hX:X.length≤64) (hW:WOk P X) :
  Calls prog 33 #[.slice A m c,.func (.func 34) #[] #[.pointer (some ⟨Q,0,none⟩)]] W6 fun e w7=>e=.returned (.tuple #[])∧∃ U,U.Perm (unitsV X)∧U.Pairwise (ltU (wN P X))∧SU w7 lim A U∧∃ row,W6.grownBy w7 row∧∀ b,row=some b→A=some ⟨b,0,none⟩:=by
 by_cases hm0:m=0
 ·have hu:unitsV X=[]:=List.eq_nil_of_length_eq_zero o_
  subst hm0;refine (q0ir _ _ A c W6).mono ?_;rintro e w7 ⟨rfl,rfl⟩;rw [hu];exact ⟨rfl,[],List.Perm.refl _,List.Pairwise.nil,fun i hi=>absurd hi (Nat.not_lt_zero _),none,⟨rfl,rfl,rfl,Nat.le_refl _,fun _ _ _=>rfl⟩,fun b e=>by cases e⟩
 ·have hne:∀ g ∈ unitsV X,g≠[]:=q0im
  obtain ⟨B,c',hAe,hB0,hB1⟩:=hG.out.form o_
  injection hAe with hA hA2 hA3
  subst hA;have hvl:=hG.len;obtain ⟨sp,hsr⟩:=hG.sr;have hdec:=fun {j:Nat} {v:Value} (h:vals[j]? = some v)=>q0ej (gs:=unitsV X) (hG.inj hne) h
  have hmm:m≤64:=by have:=q0ij (X:=X);omega
  have hoff:∀ {j:Nat} {b c:Nat} {n:Nat},vals[j]? = some (.slice (some ⟨b,0,none⟩) n c)→b≠B:=fun {j b c n} h e=>by
   subst e;exact hG.off j _ b h rfl rfl
  have hbase:∀ {w':World},W6.grownBy w' (some B)→Below base W6 w':=fun {w'} h=>⟨h.os,h.tape,h.output,h.size,fun q hq=>h.block q o_ (fun e=>by injection e with e;omega)⟩
  have key:∀ {w':World},W6.grownBy w' (some B)→∀ x ∈ vals,∃ (j:Nat) (hj:j<(unitsV X).length) (b c:Nat),vals[j]? = some x∧x=.slice (some ⟨b,0,none⟩) (unitsV X)[j].length c∧b<w'.heap.size∧Is w' (some ⟨b,0,none⟩) (unitsV X)[j].length ((unitsV X)[j].map fun i:Nat=>(i:Int)):=fun {w'} hgr x hx=>by
   obtain ⟨j,hj,e⟩:=List.getElem_of_mem hx;have hv:vals[j]? = some x:=by rw [List.getElem?_eq_getElem hj,e]
   obtain ⟨hj2,b,c2,rfl,hr,hb1,hb2⟩:=hG.val hne hv;have hbB:=hoff hv;have hr2:=q0g2 (w':=w') hr fun q hq=>by
    injection hq with hq
    subst hq;exact hgr.block _ hb2 (fun e=>by injection e with e;exact hbB e)
   exact ⟨j,hj2,b,c2,hv,rfl,Nat.lt_of_lt_of_le hb2 hgr.size,by rw [List.length_map],by rw [iv_nat];exact Sl.of_own hr2⟩
  refine (q0it 34 #[.pointer (some ⟨Q,0,none⟩)] (fun x y=>cmpU (wN P X) (decG vals (unitsV X) x) (decG vals (unitsV X) y)) B c 78 sp vals W6 (enters_of func34 k_ rfl) (fun x y z=>q0ei _ _ _ _) (fun x y=>q0eg _ _ _)
   (fun w' hgr x hxm y hym=>?_) (fun x hxm=>?_) m o_ o_ W6 hsr).mono ?_
  ·obtain ⟨j,hj,b,c2,hv,rfl,hbl,his⟩:=key hgr x hxm
   obtain ⟨j',hj',b',c2',hv',rfl,hbl',his'⟩:=key hgr y hym;rw [hdec hv,hdec hv',List.getD_eq_getElem?_getD,List.getElem?_eq_getElem hj,List.getD_eq_getElem?_getD,List.getElem?_eq_getElem hj',Option.getD_some,Option.getD_some];have hQ':Cells w' Q [.func (.func 31) #[] #[.pointer (some ⟨Hb,0,none⟩),.pointer (some ⟨G,0,none⟩)]]:=hQc.grown hgr (hQ B rfl);have hG':Cells w' G [.slice A0 n0 d0,.slice A1 n1 d1,.slice A2 X.length d2]:=hGc.grown hgr o_
   have hH':Cells w' Hb [.slice A0 n0 d0,.slice A1 n1 d1,.slice A2 X.length d2]:=hHc.grown hgr o_
   have hlt:∀ (q:Nat) (hq:q<(unitsV X).length),∀ i ∈ (unitsV X)[q],i<X.length:=fun q hq=>q0ik _ (List.getElem_mem hq)
   have hll:∀ (q:Nat) (hq:q<(unitsV X).length),(unitsV X)[q].length≤1000:=fun q hq=>by
    obtain ⟨i,hi,e⟩:=q0il.1 (List.getElem_mem hq);rw [e];unfold unitAt
    have:=List.length_filter_le (fun k=>decide (uKey X k=uKey X i)) (List.range X.length)
    rw [List.length_range] at this;omega
   have hb6:∀ {w'':World},Below w'.heap.size w' w''→Below base W6 w'':=fun {w''} h=>(hbase hgr).trans (h.mono (oh_ hgr.size))
   exact q0ev 31 #[.pointer (some ⟨Hb,0,none⟩),.pointer (some ⟨G,0,none⟩)] (enters_of func31 k_ rfl) (wN P X) Q (unitsV X)[j] (unitsV X)[j'] (some ⟨b,0,none⟩) (some ⟨b',0,none⟩) _ _ c2 c2' w' (hQ'.at_ (j:=0) rfl) hQ'.1 his his' (hne _ (List.getElem_mem hj)) (hne _ (List.getElem_mem hj'))
    (fun i hi=>by
     rcases List.mem_append.1 hi with hi | hi
     ·have:=hlt j hj i hi;omega
     ·have:=hlt j' hj' i hi;omega)
    (fun w'' hb''=>q0fe Hb G A0 n0 d0 A1 n1 d1 A2 X.length d2 P X _ _ c2 _ w'' (hH'.below hb'' hH'.1) (hG'.below hb'' hG'.1) (hp _ (hb6 hb'')) hn1 (hx _ (hb6 hb'')) hW (his.below hb'') (hll j hj) (hlt j hj))
    (fun w'' hb''=>q0fe Hb G A0 n0 d0 A1 n1 d1 A2 X.length d2 P X _ _ c2' _ w'' (hH'.below hb'' hH'.1) (hG'.below hb'' hG'.1) (hp _ (hb6 hb'')) hn1 (hx _ (hb6 hb'')) hW (his'.below hb'') (hll j' hj') (hlt j' hj'))
  ·obtain ⟨j,hj,b,c2,hv,rfl,_⟩:=key ⟨rfl,rfl,rfl,Nat.le_refl _,fun _ _ _=>rfl⟩ x hxm
   exact ⟨_,_,_,rfl⟩
  ·rintro e w7 ⟨rfl,d',hperm,hseg,hs7⟩
   have hmap:=hperm.map (decG vals (unitsV X));rw [hG.dec hne] at hmap;have hdl:d'.length=m:=hperm.length_eq.trans o_
   refine ⟨rfl,d'.map (decG vals (unitsV X)),hmap,q0io hmap (fun i j x y h1 h2 h3 h4 h5=>?_),fun i hi=>?_,some B,hs7.gr,fun b e=>by cases e;rfl⟩
   ·rw [List.getElem?_map] at h4 h5
    rw [List.length_map,hdl] at h3
    cases hxi:d'[i]? with
    | none=>rw [hxi] at h4;cases h4
    | some u =>
     cases hyj:d'[j]? with
     | none=>rw [hyj] at h5;cases h5
     | some v =>
      rw [hxi] at h4;rw [hyj] at h5
      injection h4 with h4
      injection h5 with h5
      subst h4 h5;exact hseg i j u v h1 h2 h3 hxi hyj
   ·rw [List.length_map] at hi
    have hdi:d'[i]? = some d'[i]:=List.getElem?_eq_getElem hi;obtain ⟨j,hj,b,c2,hv,hxe,hbl,his⟩:=key hs7.gr d'[i] (hperm.subset (List.getElem_mem hi));have hcell:=hs7.cell hdi;have he:(d'.map (decG vals (unitsV X)))[i]'(by rw [List.length_map];exact hi)=(unitsV X)[j]:=by
     rw [List.getElem_map,hdec hv,List.getD_eq_getElem?_getD,List.getElem?_eq_getElem hj]
     rfl
    refine ⟨B,b,c2,rfl,hlA B rfl,hlv _ (hperm.subset (List.getElem_mem hi)) b (by rw [hxe];rfl),?_,?_⟩
    ·rw [hcell,hxe,he]
    ·rw [he];exact his
theorem q0fq (n:Nat):(madeCells (Value.int .i64 0).cells (n*1)).toList=List.replicate n (Value.int .i64 0):=by
 refine List.ext_getElem (by simp [madeCells]) fun i h1 h2=>?_
 simp [madeCells,Value.cells,Nat.mod_one]
theorem q0i9 (A0:Option Addr) (n0 d0:Nat) (A1:Option Addr) (n1 d1:Nat) (A2:Option Addr) (d2:Nat) (P:List PC) (X:List Fx) (w:World) (hck:∀ w',Below w.heap.size w w'→Calls prog 62 #[.agg #[.slice A0 n0 d0,.slice A1 n1 d1,.slice A2 X.length d2]] w' fun e w''=>e=.returned (.int .i64 0)∧Below w'.heap.size w' w'')
  (hp:shPr.In w A1 n1 P) (hn1:n1≤9223372036854775806) (hx:shX.In w A2 X.length X) (hX:X.length≤64) (hW:WOk P X) :
  Calls prog 9 #[.agg #[.slice A0 n0 d0,.slice A1 n1 d1,.slice A2 X.length d2]] w fun e w'=>∃ U r,e=.returned (.tuple #[r,.int .i64 0])∧U.Perm (unitsV X)∧U.Pairwise (ltU (wN P X))∧shX.Out 45 (setPh X (runU (wN P X) (phX X) U).2) w r w':=by
 have HO:=hj_ (fun w' (hb:Below w.heap.size w w')=>q0ip A0 n0 d0 A1 n1 d1 A2 X.length d2 0 w' (fun w2 h2=>hck w2 (ht_ hb h2)))
 have HXw:=hj_ (fun w' (hb:Below w.heap.size w w')=>hx.below hb)
 have HPw:=hj_ (fun w' (hb:Below w.heap.size w w')=>hp.below hb)
 have HX64:=hj_ hX;have HWk:=hj_ hW;have HN1:=hj_ hn1;obtain ⟨i0,hi,hz0,hzz1,hz2⟩:=info_parts infoNN;have HI:=hj_ hi;have HI0:=hj_ hz0;have HI1:=hj_ hzz1;have HI2:=hj_ hz2;have hmf:∀ (fn:Fn) (first cap:Array Value) (w:World),(Instr.makeFunc fn first cap).run prog w=.ok (.func fn first cap) w:=fun _ _ _ _=>rfl
 obtain ⟨W,HW,HB0,HK⟩:=bx3 w (.slice A0 n0 d0) (.slice A1 n1 d1) (.slice A2 X.length d2) 26;have hB:=Below.refl W.heap.size W;obtain ⟨c0,c1,c2⟩:=HK.out W hB;have HWC:=hj_ (show Cells W w.heap.size [.slice A0 n0 d0,.slice A1 n1 d1,.slice A2 X.length d2] by rw [HW.out];exact Cells.fresh w [.slice A0 n0 d0,.slice A1 n1 d1,.slice A2 X.length d2] _)
 clear hck hp hn1 hx hX hW hi hz0 hzz1 hz2
 go_enter func9,ntmps9
 go_wp2_with fail;rw [← HW.out];go_wp2_with fail;refine up_ (HO.out _ (ht_ HB0.out hB)) hB fun wk hB=>?_;obtain ⟨W1,hW1⟩:=ex_ (wk.alloc (.cells #[.slice A0 n0 d0,.slice A1 n1 d1,.slice A2 X.length d2] 75));have hb1:Below wk.heap.size wk W1:=by rw [hW1];exact (br_).alloc lr_ _
 have HH1:=hj_ (show Cells W1 wk.heap.size [.slice A0 n0 d0,.slice A1 n1 d1,.slice A2 X.length d2] by rw [hW1];exact Cells.fresh wk [.slice A0 n0 d0,.slice A1 n1 d1,.slice A2 X.length d2] _)
 have HB1:=hj_ (ht_ hB hb1);have HG1:=hj_ (HWC.out.below HB1.out HWC.out.1);have HW1:=hj_ hW1;obtain ⟨c0,c1,c2⟩:=HK.out _ HB1.out;have hgl:=HG1.out.1;have hs1:W1.heap.size=wk.heap.size+1:=by rw [hW1,World.size_alloc]
 have HS1:=hj_ hs1;rw [hs1] at hgl;rw [hW1] at c2;clear hB hb1 hW1 c0 c1 hs1;go_wp2_with (refine wpList_make_full _ rfl _ _ _ rfl (wk.heap.size+1) 3 i0 (.int .i64 0) 1 underlying78 HI.out HI0.out HI1.out .i64 .i64 _ _ X.length rfl rfl rfl rfl (by rw [HI2.out];have:=HX64.out;omega) (by unfold maxLen;have:=HX64.out;omega) s_ ?_;intro w2 hown2 hg2;rw [q0fq,World.size_alloc] at hown2;rw [← HW1.out] at hg2)
 have HB2:=hj_ (show Below W1.heap.size W1 w2 from (br_).grown hg2 lr_ (fun k e=>by cases e))
 have HO2:=hj_ hown2;clear hown2 hg2 c2 hgl
 go_loopw [31] (fun iv wr=>∃ k:Nat,k≤X.length∧iv=.int .i64 k∧wr.ownsRow (wk.heap.size+1) 3 1 (.slice (some ⟨wk.heap.size+1,0,none⟩) X.length X.length) X.length (encN (List.range k) ++ List.replicate (X.length-k) (.int .i64 0))∧Below W1.heap.size W1 wr) (fun iv _=>X.length-(intOf iv).toNat)
 case atStart=>exact ⟨0,Nat.zero_le _,rfl,HO2.out,HB2.out⟩
 case round =>
  obtain ⟨k,hk,rfl,hown,hbw⟩:=hrel
  by_cases hlt:k<X.length
  ·have i2:(0:Int)≤(k:Int):=by omega
   have i3:(k:Int)<(X.length:Int):=o_
   have w0:IntKind.i64.wrap ((k:Int)+1)=(k:Int)+1:=IntWalk.i64_in _ (oh_ HX64.out)
   have fz:=hown.frozenAt k;have hsz:=(q0g1 hown (b:=wk.heap.size+1) rfl).2.1;have hst:=(hown.stored k (.int .i64 (k:Int))).1;rw [q0en k X.length hlt] at hst;have HSt:=hj_ hst;have HBt:=hj_ (hbw.setCell (p:=⟨wk.heap.size+1,k,none⟩) (Nat.le_of_eq HS1.out) (.int .i64 (k:Int)));have hcell:=(hown.cellAt k o_)
   rw [List.getElem?_append_right (by unfold encN;simp),show k-(encN (List.range k)).length=0 by unfold encN;simp,List.getElem?_replicate,if_pos o_] at hcell
   clear hst hown hbw;go_wp2_with fail
   go_roundw
   case rel=>exact ⟨k+1,hlt,by go_num,HSt.out,HBt.out⟩
   case measure=>simp [intOf];omega
  ·obtain rfl:k=X.length:=by omega
   rename World=>V3
   rw [Nat.sub_self,List.replicate_zero,List.append_nil] at hown;have HIs:=hj_ (show Is V3 (some ⟨wk.heap.size+1,0,none⟩) X.length ((List.range X.length).map fun i:Nat=>(i:Int)) from ⟨s_,by rw [iv_nat];exact Sl.of_own hown⟩)
   have HB3:=hj_ (ht_ HB1.out hbw);have HG3:=hj_ (HG1.out.below hbw HG1.out.1);have HH3:=hj_ (HH1.out.below hbw HH1.out.1);have HGr:=hj_ (q0er 29 #[.pointer (some ⟨w.heap.size,0,none⟩)] (uKey X) (some ⟨wk.heap.size+1,0,none⟩) X.length X.length (List.range X.length) V3 (enters_of func29 k_ rfl) HIs.out (oh_ HX64.out)
    (fun i h W' hb'=>by
     have hi:i<X.length:=by simpa using h
     have e:(List.range X.length)[i]=i:=s_
     rw [e];exact q0ex w.heap.size i A0 n0 d0 A1 n1 d1 A2 X.length d2 X W' (HG3.out.below hb' HG3.out.1) (HXw.out _ (HB0.out.trans ((ht_ HB3.out hb').mono HB0.out.size))) hi))
   have HSz:=hj_ (show w.heap.size<V3.heap.size∧wk.heap.size<V3.heap.size from ⟨HG3.out.1,HH3.out.1⟩)
   clear hown hbw HO2 HB2 HB1 HG1 HH1 HI HI0 HI1 HI2;go_wp2_with fail;refine HGr.out.mono ?_;rintro e w4 ⟨ov,vals,rfl,hG4,hb4⟩;have hG4:Grps w4 V3.heap.size 3 78 1 encN ov vals (unitsV X):=hG4;obtain ⟨uA,uc,rfl⟩:=qfu hG4.out;have HG4:=hj_ hG4;have HB4:=hj_ (ht_ HB3.out hb4);have HC4:=hj_ (HG3.out.below hb4 HG3.out.1);have HH4:=hj_ (HH3.out.below hb4 HH3.out.1);have HS4:=hj_ (show V3.heap.size≤w4.heap.size from hb4.size)
   obtain ⟨c0,c1,c2⟩:=HK.out _ HB4.out;have hCl:=q04m A2 X.length d2 X w4 (HXw.out _ (ht_ HB0.out HB4.out)) (oh_ HX64.out)
   clear hG4 hb4;generalize hUl:(unitsV X).length=ul at *;go_wp2_with fail;refine hCl.mono ?_;rintro e w5 ⟨v',rfl,hown5,hb5⟩;have HO5:=hj_ hown5;have HB5:=hj_ (ht_ HB4.out hb5);have HG5:=hj_ (HG4.out.kept hb5);have HC5:=hj_ (HC4.out.below hb5 HC4.out.1);have HH5:=hj_ (HH4.out.below hb5 HH4.out.1);have HS5:=hj_ (show w4.heap.size≤w5.heap.size from hb5.size)
   clear hb5 hown5 hCl c0 c1 c2;obtain ⟨W6,hW6⟩:=ex_ (w5.alloc (.cells #[.func (.func 31) #[] #[.pointer (some ⟨wk.heap.size,0,none⟩),.pointer (some ⟨w.heap.size,0,none⟩)]] 89));have hb6:Below w5.heap.size w5 W6:=by rw [hW6];exact (br_).alloc lr_ _
   have HQ6:=hj_ (show Cells W6 w5.heap.size [.func (.func 31) #[] #[.pointer (some ⟨wk.heap.size,0,none⟩),.pointer (some ⟨w.heap.size,0,none⟩)]] by rw [hW6];exact Cells.fresh w5 [_] _)
   have HO6:=hj_ (q0g2 HO5.out fun q hq=>hb6.block q (q0g1 HO5.out hq).2.1)
   have HB6:=hj_ (ht_ HB5.out hb6);have HG6:=hj_ (HG5.out.kept hb6);have HC6:=hj_ (HC5.out.below hb6 HC5.out.1);have HH6:=hj_ (HH5.out.below hb6 HH5.out.1);have HW6:=hj_ hW6;have hSo:=q0is w.heap.size wk.heap.size w5.heap.size V3.heap.size A0 n0 d0 A1 n1 d1 A2 d2 P X uA ul uc vals W6 HG6.out hUl.symm HC6.out HH6.out HQ6.out HSz.out.1 HSz.out.2 (fun b e=>by subst e;have:=(q0g1 HG5.out.out (b:=b) rfl).2.1;omega) w4.heap.size (fun b e=>by subst e;exact (q0g1 HG4.out.out (b:=b) rfl).2.1) (fun v hv b hb=>by
     obtain ⟨j,hj,e⟩:=List.getElem_of_mem hv;obtain ⟨hj2,b2,c2,e2,hr,h1,h2⟩:=HG4.out.val q0im (show vals[j]? = some v by rw [List.getElem?_eq_getElem hj,e])
     exact (q0g1 hr hb).2.1)
    (fun w' hb=>HPw.out _ (HB0.out.trans ((HB6.out.trans (hb.mono HB3.out.size)).mono HB0.out.size))) HN1.out (fun w' hb=>HXw.out _ (HB0.out.trans ((HB6.out.trans (hb.mono HB3.out.size)).mono HB0.out.size))) HX64.out HWk.out
   have HUb:=hj_ (show ∀ b,uA=some ⟨b,0,none⟩→V3.heap.size≤b∧b<w4.heap.size from fun b e=>by subst e;exact ⟨(q0g1 HG4.out.out (b:=b) rfl).1,(q0g1 HG4.out.out (b:=b) rfl).2.1⟩)
   have HOB:=hj_ (show ∀ q,v'.ownBlock=some q→w4.heap.size≤q∧q<w5.heap.size from fun q hq=>⟨(q0g1 HO5.out hq).1,(q0g1 HO5.out hq).2.1⟩)
   clear hb6 hW6 HG4 HG5 HO5;go_wp2_with fail;rw [← HW6.out];refine hSo.mono ?_;rintro e w7 ⟨rfl,U,hUp,hUs,hSU,row,hgr,hrow⟩;have hrw:∀ b,row=some b→V3.heap.size≤b∧b<w4.heap.size:=fun b e=>HUb.out b (hrow b e)
   have HUL:=hj_ (show U.length=ul from hUp.length_eq.trans hUl)
   have HB7:=hj_ (HB6.out.grown hgr HB6.out.size (fun b e=>by have:=hrw b e;have:=HB3.out.size;omega))
   have HQ7:=hj_ (show Cells w7 w5.heap.size [.func (.func 31) #[] #[.pointer (some ⟨wk.heap.size,0,none⟩),.pointer (some ⟨w.heap.size,0,none⟩)]] from ⟨Nat.lt_of_lt_of_le HQ6.out.1 hgr.size,fun j u hu=>⟨(q0ef hgr HQ6.out.1 (fun e=>by have h9:V3.heap.size≤w5.heap.size∧w5.heap.size<w4.heap.size:=hrw _ e.symm;have:=HS5.out;omega)).trans (HQ6.out.2 j u hu).1,(q9p (hgr.block _ HQ6.out.1 (fun e=>by have h9:V3.heap.size≤w5.heap.size∧w5.heap.size<w4.heap.size:=hrw _ e.symm;have:=HS5.out;omega))).trans (HQ6.out.2 j u hu).2⟩⟩)
   have HC7:=hj_ (show Cells w7 w.heap.size [.slice A0 n0 d0,.slice A1 n1 d1,.slice A2 X.length d2] from ⟨Nat.lt_of_lt_of_le HC6.out.1 hgr.size,fun j u hu=>⟨(q0ef hgr HC6.out.1 (fun e=>by have h9:V3.heap.size≤w.heap.size∧w.heap.size<w4.heap.size:=hrw _ e.symm;have:=HSz.out;omega)).trans (HC6.out.2 j u hu).1,(q9p (hgr.block _ HC6.out.1 (fun e=>by have h9:V3.heap.size≤w.heap.size∧w.heap.size<w4.heap.size:=hrw _ e.symm;have:=HSz.out;omega))).trans (HC6.out.2 j u hu).2⟩⟩)
   have HH7:=hj_ (show Cells w7 wk.heap.size [.slice A0 n0 d0,.slice A1 n1 d1,.slice A2 X.length d2] from ⟨Nat.lt_of_lt_of_le HH6.out.1 hgr.size,fun j u hu=>⟨(q0ef hgr HH6.out.1 (fun e=>by have h9:V3.heap.size≤wk.heap.size∧wk.heap.size<w4.heap.size:=hrw _ e.symm;have:=HSz.out;omega)).trans (HH6.out.2 j u hu).1,(q9p (hgr.block _ HH6.out.1 (fun e=>by have h9:V3.heap.size≤wk.heap.size∧wk.heap.size<w4.heap.size:=hrw _ e.symm;have:=HSz.out;omega))).trans (HH6.out.2 j u hu).2⟩⟩)
   have HO7:=hj_ (q0g2 HO6.out fun q hq=>hgr.block q (q0g1 HO6.out hq).2.1 (fun e=>by have:=hrw _ e.symm;have:=(q0g1 HO6.out hq).1;omega))
   have HU7:=hj_ hSU;have HUp:=hj_ hUp;have HUs:=hj_ hUs;clear hUp hUs hSU hgr hrow hrw HUb hSo HG6 HO6 HQ6 HC6 HH6 HB6 hUl;obtain ⟨W8,hW8⟩:=ex_ (w7.alloc (.cells #[.int .i64 0,.int .i64 0,.int .i64 0] 47));have hb8:Below w7.heap.size w7 W8:=by rw [hW8];exact (br_).alloc lr_ _
   have HSm:=hj_ (show Cells W8 w7.heap.size [.int .i64 0,.int .i64 0,.int .i64 0] by rw [hW8];exact Cells.fresh w7 [.int .i64 0,.int .i64 0,.int .i64 0] _)
   have HB8:=hj_ (ht_ HB7.out hb8);have HQ8:=hj_ (HQ7.out.below hb8 HQ7.out.1);have HC8:=hj_ (HC7.out.below hb8 HC7.out.1);have HH8:=hj_ (HH7.out.below hb8 HH7.out.1);have HO8:=hj_ (q0g2 HO7.out fun q hq=>hb8.block q (q0g1 HO7.out hq).2.1)
   have HS47:=hj_ (show w4.heap.size≤w7.heap.size from Nat.le_of_lt (Nat.lt_of_le_of_lt HS5.out HQ7.out.1))
   have HU8:=hj_ (show SU W8 w4.heap.size uA U from fun i hi=>by
    obtain ⟨B,bb,c,e1,e2,e3,e4,e5⟩:=HU7.out i hi;exact ⟨B,bb,c,e1,e2,e3,(hb8.cell (p:=⟨B,i,none⟩) (Nat.lt_of_lt_of_le e2 HS47.out)).trans e4,e5.below hb8⟩)
   have HSl:=hj_ (show w4.heap.size≤w5.heap.size∧w5.heap.size<w7.heap.size from ⟨HS5.out,HQ7.out.1⟩)
   have HW8:=hj_ hW8;have hUl2:U.length≤64:=by have:=HUp.out.length_eq;have:=q0ij (X:=X);have:=HX64.out;omega
   have hUlt:∀ u ∈ U,∀ i ∈ u,i<X.length:=fun u hu=>q0ik u (HUp.out.subset hu)
   have hUm:∀ u ∈ U,u.length≤64:=fun u hu=>by
    obtain ⟨i,hi,e⟩:=q0il.1 (HUp.out.subset hu);rw [e];unfold unitAt
    have:=List.length_filter_le (fun k=>decide (uKey X k=uKey X i)) (List.range X.length)
    rw [List.length_range] at this
    have:=HX64.out
    omega
   have HUlt:=hj_ hUlt;have HUm:=hj_ hUm;have HUl2:=hj_ hUl2;have HBd:=hj_ (show ∀ j,j≤U.length→∀ k,k<3→0≤nthS (runU (wN P X) (phX X) (U.take j)).1 k∧nthS (runU (wN P X) (phX X) (U.take j)).1 k≤6710886400 from spr_bd HWk.out HX64.out hUlt hUm hUl2)
   have hul:ul=U.length:=HUL.out.symm;subst hul;clear hW8 hb8 HO7 HQ7 HC7 HH7 HU7 HB7 HUL hUlt hUm hUl2;have HO8':=hj_ (show W8.ownsRow w4.heap.size 45 7 v' X.length (shX.vs (setPh X (runU (wN P X) (phX X) (U.take 0)).2)) by
    show W8.ownsRow w4.heap.size 45 7 v' X.length (shX.vs (setPh X (phX X)))
    rw [show setPh X (phX X)=X from q0hu X]
    exact HO8.out)
   clear hG4 HO8;go_wp2_with fail;rw [← HW8.out]
   go_loopw [51] (fun iv wr=>∃ j:Nat,j≤U.length∧iv=.int .i64 j∧Below w4.heap.size W8 wr∧W8.heap.size≤wr.heap.size∧Cells wr w5.heap.size [.func (.func 31) #[] #[.pointer (some ⟨wk.heap.size,0,none⟩),.pointer (some ⟨w.heap.size,0,none⟩)]]∧Cells wr w7.heap.size [.int .i64 (runU (wN P X) (phX X) (U.take j)).1.1,.int .i64 (runU (wN P X) (phX X) (U.take j)).1.2.1,.int .i64 (runU (wN P X) (phX X) (U.take j)).1.2.2]∧wr.ownsRow w4.heap.size 45 7 v' X.length (shX.vs (setPh X (runU (wN P X) (phX X) (U.take j)).2))) (fun iv _=>U.length-(intOf iv).toNat)
   case atStart=>exact ⟨0,Nat.zero_le _,rfl,br_,Nat.le_refl _,HQ8.out,HSm.out,HO8'.out⟩
   case round =>
    obtain ⟨j,hj,rfl,hBr,hSr,hQr,hmr,hor⟩:=hrel;have HBr:=hj_ hBr;have HSr:=hj_ hSr;have HQr:=hj_ hQr;have HMr:=hj_ hmr;have HOr:=hj_ hor
    by_cases hlt:j<U.length
    ·obtain ⟨B,bb,c,hA,hB1,hbb,hcell,his⟩:=HU8.out j hlt
     subst hA;have p0:=(hBr.cell (p:=⟨B,j,none⟩) hB1).trans hcell;have hmem:=List.getElem_mem hlt;have hul:=HUm.out _ hmem;have hult:=HUlt.out _ hmem;have hpush:=q0hl (wN P X) (phX X) (U.take j) U[j];rw [← List.take_succ_eq_append_getElem hlt] at hpush;have hbd0:=HBd.out j hj;have hbd1:=HBd.out (j+1) hlt;have hne:0<U[j].length:=List.length_pos_iff.2 (q0im _ (HUp.out.subset hmem));have hIs:=his.lim hbb hBr hSr;have i0:(0:Int)≤(j:Int):=o_
     have i1:(j:Int)<(U.length:Int):=o_
     have w0:IntKind.i64.wrap ((j:Int)+1)=(j:Int)+1:=IntWalk.i64_in _ (oh_ HUl2.out)
     have hBw:B<wr.heap.size:=Nat.lt_of_lt_of_le hB1 (Nat.le_trans (Nat.le_of_lt HSl.out.2) (Nat.le_of_lt hmr.1) |> fun h=>Nat.le_trans HSl.out.1 h)
     have HWt:=hj_ (fun w' (hb:Below wr.heap.size wr w')=>q0fe wk.heap.size w.heap.size A0 n0 d0 A1 n1 d1 A2 X.length d2 P X (some ⟨bb,0,none⟩) U[j].length c U[j] w'
      ((HH8.out.below hBr (by have:=HSz.out;have:=HS4.out;omega)).below hb (Nat.lt_of_lt_of_le HH8.out.1 hSr)) ((HC8.out.below hBr (by have:=HSz.out;have:=HS4.out;omega)).below hb (Nat.lt_of_lt_of_le HC8.out.1 hSr))
      (HPw.out _ (HB0.out.trans ((HB8.out.trans ((hBr.mono (oh_ HB4.out.size)).trans (hb.mono (Nat.le_trans HB8.out.size hSr)))).mono HB0.out.size))) HN1.out (HXw.out _ (HB0.out.trans ((HB8.out.trans ((hBr.mono (oh_ HB4.out.size)).trans (hb.mono (Nat.le_trans HB8.out.size hSr)))).mono HB0.out.size))) HWk.out
      (hIs.below hb) o_ hult)
     have HIs2:=hj_ (fun w' (hb:Below w4.heap.size W8 w') (hs:W8.heap.size≤w'.heap.size)=>his.lim hbb hb hs)
     have HPush:=hj_ hpush;have HLt:=hj_ hlt;have HUle:=hj_ hul;have HUlt2:=hj_ hult;have HNe:=hj_ hne;clear hcell hmem hul hult hpush hj hIs his hBr hSr hQr hor hne;generalize hst:runU (wN P X) (phX X) (U.take j)=st at *;generalize hst1:runU (wN P X) (phX X) (U.take (j+1))=st1 at *;have HST1:=hj_ hst1;generalize U[j]=u at *;obtain ⟨sm,ph⟩:=st;dsimp only at hbd0 HPush;obtain ⟨m,hm⟩:=ex_ (lgt sm);have hm3:m<3:=by rw [hm];exact lgt_lt _
     obtain ⟨uw,huw⟩:=ex_ (uW (wN P X) u);rw [← huw] at HWt;have HSt1:=hj_ (show st1=(addS sm m uw,fun k=>if k ∈ u then (m:Int)+1 else ph k) from HPush.out.trans (by unfold stepU;rw [← hm,← huw]))
     have hidx:=q0ff sm;rw [← hm] at hidx;have HMn:=hj_ (fun w' (h:Cells w' w7.heap.size [.int .i64 sm.1,.int .i64 sm.2.1,.int .i64 sm.2.2])=>q0fs w7.heap.size 0 3 sm.1 sm.2.1 sm.2.2 w' (h.at_ (j:=0) rfl) (h.at_ (j:=1) rfl) (h.at_ (j:=2) rfl) h.1)
     have hixc:=fun w' (h:Cells w' w7.heap.size [.int .i64 sm.1,.int .i64 sm.2.1,.int .i64 sm.2.2])=>q0cb (some ⟨w7.heap.size,0,none⟩) 3 3 [sm.1,sm.2.1,sm.2.2] (min (min sm.1 sm.2.1) sm.2.2) w' (Is_of_cells (l:=[sm.1,sm.2.1,sm.2.2]) h) o_
     rw [hidx] at hixc;have HIx:=hj_ hixc;generalize min (min sm.1 sm.2.1) sm.2.2=mn at *;have hnth:([Value.int .i64 sm.1,.int .i64 sm.2.1,.int .i64 sm.2.2]:List Value)[m]? = some (.int .i64 (nthS sm m)):=by
      rcases (by omega:m=0∨m=1∨m=2) with e | e | e <;> rw [e] <;> rfl
     have hset:([Value.int .i64 sm.1,.int .i64 sm.2.1,.int .i64 sm.2.2]:List Value).set m (.int .i64 (nthS sm m+uw))=[.int .i64 (addS sm m uw).1,.int .i64 (addS sm m uw).2.1,.int .i64 (addS sm m uw).2.2]:=by
      rcases (by omega:m=0∨m=1∨m=2) with e | e | e <;> rw [e] <;> rfl
     have hb1:0≤nthS sm m∧nthS sm m≤6710886400:=hbd0 m hm3;have hb2:0≤nthS sm m+uw∧nthS sm m+uw≤6710886400:=by
      have h:=hbd1 m hm3;rw [HSt1.out] at h;have e:=q0fy sm m uw m hm3 hm3;rw [if_pos rfl] at e;rw [← e];exact h
     have wv:IntKind.i64.wrap (nthS sm m+uw)=nthS sm m+uw:=IntWalk.i64_in _ o_
     have wm:IntKind.i64.wrap ((m:Int)+1)=(m:Int)+1:=IntWalk.i64_in _ o_
     have m0:(0:Int)≤(m:Int):=o_
     have m1:(m:Int)<3:=o_
     have HSet:=hj_ hset;have HNth:=hj_ hnth;have c0':=hmr.at_ (j:=0) rfl
     have hml:=hmr.1;clear hidx hixc hset hnth hb1 hb2 hbd0 hbd1 hm huw hst hst1 hmr HPush HBd;generalize nthS sm m=sv at *;have hc:=HMr.out.below (q18 (Below.refl wr.heap.size wr) 1) HMr.out.1;have hlw:=hc.1;have hB6:=q18 (Below.refl wr.heap.size wr) 1;go_wp2_with fail;refine wp_region_held_drew (S:=fun w'=>w7.heap.size<w'.heap.size) k_ (by first | exact hlw) (fun hHeld=>?_)
     refine tq 0 ?_;refine tq 1 ?_;refine tr 2 fun K hK=>?_
     go_simp
     go_at_call 37;refine (HMn.out _ hc).mono ?_;rintro e w9 ⟨rfl,hb⟩;replace hc:=hc.below hb hc.1;replace hlw:=hc.1;replace hB6:=ht_ hB6 hb;clear hb
     go_wp2_with fail;refine hK.out _ _ (by first | exact hlw) (fun hHeld=>?_)
     clear hK K;refine tr 3 fun K hK=>?_
     go_simp
     go_at_call 36;refine (HIx.out _ hc).mono ?_;rintro e w9 ⟨rfl,hb⟩;replace hc:=hc.below hb hc.1;replace hlw:=hc.1;replace hB6:=ht_ hB6 hb;clear hb
     go_wp2_with fail;refine hK.out _ _ (by first | exact hlw) (fun hHeld=>?_)
     clear hK K;refine tq 4 ?_;refine wpAnyH_done k_ ?_ _
     have HBa:=hj_ hB6;have HCa:=hj_ hc;clear hc hlw c0' hml hB6;go_wp2_with fail;have hb7:=HBa.out.drew;have hMa:=HCa.out.below (br_).drew HCa.out.1;have HBb:=hj_ hb7;have HMb:=hj_ hMa;have HQb:=hj_ (HQr.out.below hb7 HQr.out.1);have y0:=HMb.out.at_ HNth.out
     have q0:=HQb.out.at_ (j:=0) rfl
     have n1:w7.heap.size≠w5.heap.size:=by have:=HSl.out.2;omega
     clear hb7 hMa;go_wp2_with fail;refine wp_region_held_drew (S:=fun w'=>w'.cell? ⟨w5.heap.size,0,none⟩=some (.func (.func 31) #[] #[.pointer (some ⟨wk.heap.size,0,none⟩),.pointer (some ⟨w.heap.size,0,none⟩)])) k_ (by first | exact q0) (fun hHeld=>?_)
     refine tq 0 ?_;refine tq 1 ?_;refine tq 3 ?_;refine tq 4 ?_;refine wpAnyH_ready (rs:=[2,5]) k_ s_ ?_
     refine AllReadyH.cons rfl (fun K hK=>?_) (AllReadyH.cons rfl (fun K hK=>?_) AllReadyH.nil)
     ·go_simp
      refine hK.out _ _ (by first | exact q0) (fun hHeld=>?_)
      clear hK K;refine tr 5 fun K hK=>?_
      go_simp
      go_at_call 31;refine (HWt.out _ HBb.out).mono ?_;rintro e w9 ⟨rfl,hb⟩;have HBc:=hj_ (ht_ HBb.out hb);have HMc:=hj_ (HMb.out.below hb HMb.out.1);have HQc:=hj_ (HQb.out.below hb HQb.out.1);replace y0:=HMc.out.at_ HNth.out;replace q0:=HQc.out.at_ (j:=0) rfl;have z0:=HMc.out.fr HNth.out;have lz:=HMc.out.1;clear hb
      go_wp2_with fail;refine hK.out _ _ (by first | exact q0) (fun hHeld=>?_)
      clear hK K;refine tq 6 ?_;refine tq 7 ?_;refine tr 8 fun K hK=>?_
      go_simp
      refine hK.out _ _ (by first | exact (sf_ n1).trans q0 | exact (sf_ n1.symm).trans q0) (fun hHeld=>?_)
      clear hK K;refine wpAnyH_done k_ ?_ _
      have hf2:=HMc.out.set m (.int .i64 (sv+uw)) (by show m<3;omega)
      rw [HSet.out] at hf2;have hq2:=HQc.out.far m (.int .i64 (sv+uw)) n1;have hwl:wr.heap.size≤w9.heap.size:=HBc.out.size;have hoc:=q0g2 HOr.out (fun q hq=>HBc.out.block q (q0g1 HOr.out hq).2.1)
      have hod:(w9.setCell ⟨w7.heap.size,m,none⟩ (.int .i64 (sv+uw))).ownsRow w4.heap.size 45 7 v' X.length (shX.vs (setPh X ph)):=q0g2 hoc (fun q hq=>Below.heap_setCell _ _ _ _ (by have:=HOB.out q hq;have:=HSl.out;show q≠w7.heap.size;omega))
      have hbe:=(HBr.out.trans (HBc.out.mono (by have:=HSr.out;have:=HSl.out;have:=HMr.out.1;omega))).setCell (p:=⟨w7.heap.size,m,none⟩) (by show w4.heap.size≤w7.heap.size;have:=HSl.out;omega) (.int .i64 (sv+uw))
      have hse:W8.heap.size≤(w9.setCell ⟨w7.heap.size,m,none⟩ (.int .i64 (sv+uw))).heap.size:=by simp;have:=HSr.out;omega
      clear y0 q0 z0 lz hoc;generalize w9.setCell ⟨w7.heap.size,m,none⟩ (.int .i64 (sv+uw))=wa at *;have HMe:=hj_ hf2;have HQe:=hj_ hq2;have HOe:=hj_ hod;have HBe:=hj_ hbe;have HSe:=hj_ hse;have hx0:0<X.length:=by have:=HUlt2.out _ (List.getElem_mem HNe.out);omega
      obtain ⟨O,oc,hv,hO1,hO2⟩:=HOe.out.form hx0;subst hv;have hOb:=HOB.out O rfl;have n5:O≠w5.heap.size:=o_
      have n7:O≠w7.heap.size:=by have:=HSl.out;omega
      have HOst:=hj_ (show wa.ownsRow w4.heap.size 45 7 (.slice (some ⟨O,0,none⟩) X.length oc) X.length (shX.vs (setPh X (fun k=>if k ∈ u.take 0 then (m:Int)+1 else ph k))) by
       rw [q0hs (q:=ph) (fun i _=>s_)]
       exact HOe.out)
      clear hf2 hq2 hod hbe hse hwl hO1 hO2;go_wp2_with fail
      go_loopw [69] (fun iv wq=>∃ q:Nat,q≤u.length∧iv=.int .i64 q∧Below w4.heap.size W8 wq∧W8.heap.size≤wq.heap.size∧Cells wq w5.heap.size [.func (.func 31) #[] #[.pointer (some ⟨wk.heap.size,0,none⟩),.pointer (some ⟨w.heap.size,0,none⟩)]]∧Cells wq w7.heap.size [.int .i64 (addS sm m uw).1,.int .i64 (addS sm m uw).2.1,.int .i64 (addS sm m uw).2.2]∧wq.ownsRow w4.heap.size 45 7 (.slice (some ⟨O,0,none⟩) X.length oc) X.length (shX.vs (setPh X (fun k=>if k ∈ u.take q then (m:Int)+1 else ph k)))) (fun iv _=>u.length-(intOf iv).toNat)
      case atStart=>exact ⟨0,Nat.zero_le _,rfl,HBe.out,HSe.out,HQe.out,HMe.out,HOst.out⟩
      case round =>
       obtain ⟨q,hq,rfl,hB2,hS2,hQ2,hM2,hO2⟩:=hrel
       by_cases hltq:q<u.length
       ·obtain ⟨b2,o2,e2,hb2,hc2⟩:=(HIs2.out wr hB2 hS2).at1 (k:=q) (by rw [List.length_map];exact hltq)
        injection e2 with e2
        injection e2 with e2 e3
        subst e2 e3;rw [List.getElem_map,Nat.zero_add] at hc2;have hxl:=HUlt2.out _ (List.getElem_mem hltq);have htk:=fun k=>q0i3 hltq k
        have HTk:=hj_ htk;have j0:(0:Int)≤(q:Int):=o_
        have j1:(q:Int)<(u.length:Int):=o_
        have wq1:IntKind.i64.wrap ((q:Int)+1)=(q:Int)+1:=IntWalk.i64_in _ (oh_ HUle.out)
        have HLq:=hj_ hltq;clear htk hq;generalize u[q]=x at *;have x0:(0:Int)≤(x:Int):=o_
        have x1:(x:Int)<(X.length:Int):=o_
        have fz:=hO2.frozenAt (x*7+5);have cl:=(hO2.cellAt (x*7+5) o_).trans (vs_at5 X _ x hxl)
        have hOl:=(q0g1 hO2 (b:=O) rfl).2.1;have hst:=(hO2.stored (x*7+5) (.int .i64 ((m:Int)+1))).1;rw [q0ix X _ x hxl] at hst;have hst2:(wr.setCell ⟨O,x*7+5,none⟩ (.int .i64 ((m:Int)+1))).ownsRow w4.heap.size 45 7 (.slice (some ⟨O,0,none⟩) X.length oc) X.length (shX.vs (setPh X (fun k=>if k ∈ u.take (q+1) then (m:Int)+1 else ph k))):=by
         rw [q0hs (q:=fun k=>if k=x then (m:Int)+1 else if k ∈ u.take q then (m:Int)+1 else ph k) (fun i _=>by
          by_cases e1:i=x
          ·rw [if_pos e1,if_pos ((HTk.out i).2 (Or.inl e1))]
          ·rw [if_neg e1]
           by_cases e2:i ∈ u.take q
           ·rw [if_pos e2,if_pos ((HTk.out i).2 (Or.inr e2))]
           ·rw [if_neg e2,if_neg (fun h=>by rcases (HTk.out i).1 h with h | h;exact e1 h;exact e2 h)])]
         exact hst
        have HSt2:=hj_ hst2;have HB3:=hj_ (hB2.setCell (p:=⟨O,x*7+5,none⟩) (by show w4.heap.size≤O;omega) (.int .i64 ((m:Int)+1)))
        have HS3:=hj_ (show W8.heap.size≤(wr.setCell ⟨O,x*7+5,none⟩ (.int .i64 ((m:Int)+1))).heap.size by simp;exact hS2)
        have HQ3:=hj_ (hQ2.far (x*7+5) (.int .i64 ((m:Int)+1)) n5);have HM3:=hj_ (hM2.far (x*7+5) (.int .i64 ((m:Int)+1)) n7);clear hst hst2 hB2 hS2 hQ2 hM2 hO2;go_wp2_with fail
        go_roundw
        case rel=>exact ⟨q+1,HLq.out,by go_num,HB3.out,HS3.out,HQ3.out,HM3.out,HSt2.out⟩
        case measure=>have:=HLq.out;simp [intOf];omega
       ·obtain rfl:q=u.length:=by omega
        rw [List.take_length] at hO2;have HB3:=hj_ hB2;have HS3:=hj_ hS2;have HQ3:=hj_ hQ2;have HM3:=hj_ hM2;have HO3:=hj_ hO2;clear hB2 hS2 hQ2 hM2 hO2;go_wp2_with fail
        go_roundw
        case rel=>exact ⟨j+1,HLt.out,by go_num,HB3.out,HS3.out,HQ3.out,by rw [HST1.out,HSt1.out];exact HM3.out,by rw [HST1.out,HSt1.out];exact HO3.out⟩
        case measure=>have:=HLt.out;simp [intOf];omega
     ·go_simp
      go_at_call 31;refine (HWt.out _ HBb.out).mono ?_;rintro e w9 ⟨rfl,hb⟩;have HBc:=hj_ (ht_ HBb.out hb);have HMc:=hj_ (HMb.out.below hb HMb.out.1);have HQc:=hj_ (HQb.out.below hb HQb.out.1);replace y0:=HMc.out.at_ HNth.out;replace q0:=HQc.out.at_ (j:=0) rfl;have z0:=HMc.out.fr HNth.out;have lz:=HMc.out.1;clear hb
      go_wp2_with fail;refine hK.out _ _ (by first | exact q0) (fun hHeld=>?_)
      clear hK K;refine tr 2 fun K hK=>?_
      go_simp
      refine hK.out _ _ (by first | exact q0) (fun hHeld=>?_)
      clear hK K;refine tq 6 ?_;refine tq 7 ?_;refine tr 8 fun K hK=>?_
      go_simp
      refine hK.out _ _ (by first | exact (sf_ n1).trans q0 | exact (sf_ n1.symm).trans q0) (fun hHeld=>?_)
      clear hK K;refine wpAnyH_done k_ ?_ _
      have hf2:=HMc.out.set m (.int .i64 (sv+uw)) (by show m<3;omega)
      rw [HSet.out] at hf2;have hq2:=HQc.out.far m (.int .i64 (sv+uw)) n1;have hwl:wr.heap.size≤w9.heap.size:=HBc.out.size;have hoc:=q0g2 HOr.out (fun q hq=>HBc.out.block q (q0g1 HOr.out hq).2.1)
      have hod:(w9.setCell ⟨w7.heap.size,m,none⟩ (.int .i64 (sv+uw))).ownsRow w4.heap.size 45 7 v' X.length (shX.vs (setPh X ph)):=q0g2 hoc (fun q hq=>Below.heap_setCell _ _ _ _ (by have:=HOB.out q hq;have:=HSl.out;show q≠w7.heap.size;omega))
      have hbe:=(HBr.out.trans (HBc.out.mono (by have:=HSr.out;have:=HSl.out;have:=HMr.out.1;omega))).setCell (p:=⟨w7.heap.size,m,none⟩) (by show w4.heap.size≤w7.heap.size;have:=HSl.out;omega) (.int .i64 (sv+uw))
      have hse:W8.heap.size≤(w9.setCell ⟨w7.heap.size,m,none⟩ (.int .i64 (sv+uw))).heap.size:=by simp;have:=HSr.out;omega
      clear y0 q0 z0 lz hoc;generalize w9.setCell ⟨w7.heap.size,m,none⟩ (.int .i64 (sv+uw))=wa at *;have HMe:=hj_ hf2;have HQe:=hj_ hq2;have HOe:=hj_ hod;have HBe:=hj_ hbe;have HSe:=hj_ hse;have hx0:0<X.length:=by have:=HUlt2.out _ (List.getElem_mem HNe.out);omega
      obtain ⟨O,oc,hv,hO1,hO2⟩:=HOe.out.form hx0;subst hv;have hOb:=HOB.out O rfl;have n5:O≠w5.heap.size:=o_
      have n7:O≠w7.heap.size:=by have:=HSl.out;omega
      have HOst:=hj_ (show wa.ownsRow w4.heap.size 45 7 (.slice (some ⟨O,0,none⟩) X.length oc) X.length (shX.vs (setPh X (fun k=>if k ∈ u.take 0 then (m:Int)+1 else ph k))) by
       rw [q0hs (q:=ph) (fun i _=>s_)]
       exact HOe.out)
      clear hf2 hq2 hod hbe hse hwl hO1 hO2;go_wp2_with fail
      go_loopw [69] (fun iv wq=>∃ q:Nat,q≤u.length∧iv=.int .i64 q∧Below w4.heap.size W8 wq∧W8.heap.size≤wq.heap.size∧Cells wq w5.heap.size [.func (.func 31) #[] #[.pointer (some ⟨wk.heap.size,0,none⟩),.pointer (some ⟨w.heap.size,0,none⟩)]]∧Cells wq w7.heap.size [.int .i64 (addS sm m uw).1,.int .i64 (addS sm m uw).2.1,.int .i64 (addS sm m uw).2.2]∧wq.ownsRow w4.heap.size 45 7 (.slice (some ⟨O,0,none⟩) X.length oc) X.length (shX.vs (setPh X (fun k=>if k ∈ u.take q then (m:Int)+1 else ph k)))) (fun iv _=>u.length-(intOf iv).toNat)
      case atStart=>exact ⟨0,Nat.zero_le _,rfl,HBe.out,HSe.out,HQe.out,HMe.out,HOst.out⟩
      case round =>
       obtain ⟨q,hq,rfl,hB2,hS2,hQ2,hM2,hO2⟩:=hrel
       by_cases hltq:q<u.length
       ·obtain ⟨b2,o2,e2,hb2,hc2⟩:=(HIs2.out wr hB2 hS2).at1 (k:=q) (by rw [List.length_map];exact hltq)
        injection e2 with e2
        injection e2 with e2 e3
        subst e2 e3;rw [List.getElem_map,Nat.zero_add] at hc2;have hxl:=HUlt2.out _ (List.getElem_mem hltq);have htk:=fun k=>q0i3 hltq k
        have HTk:=hj_ htk;have j0:(0:Int)≤(q:Int):=o_
        have j1:(q:Int)<(u.length:Int):=o_
        have wq1:IntKind.i64.wrap ((q:Int)+1)=(q:Int)+1:=IntWalk.i64_in _ (oh_ HUle.out)
        have HLq:=hj_ hltq;clear htk hq;generalize u[q]=x at *;have x0:(0:Int)≤(x:Int):=o_
        have x1:(x:Int)<(X.length:Int):=o_
        have fz:=hO2.frozenAt (x*7+5);have cl:=(hO2.cellAt (x*7+5) o_).trans (vs_at5 X _ x hxl)
        have hOl:=(q0g1 hO2 (b:=O) rfl).2.1;have hst:=(hO2.stored (x*7+5) (.int .i64 ((m:Int)+1))).1;rw [q0ix X _ x hxl] at hst;have hst2:(wr.setCell ⟨O,x*7+5,none⟩ (.int .i64 ((m:Int)+1))).ownsRow w4.heap.size 45 7 (.slice (some ⟨O,0,none⟩) X.length oc) X.length (shX.vs (setPh X (fun k=>if k ∈ u.take (q+1) then (m:Int)+1 else ph k))):=by
         rw [q0hs (q:=fun k=>if k=x then (m:Int)+1 else if k ∈ u.take q then (m:Int)+1 else ph k) (fun i _=>by
          by_cases e1:i=x
          ·rw [if_pos e1,if_pos ((HTk.out i).2 (Or.inl e1))]
          ·rw [if_neg e1]
           by_cases e2:i ∈ u.take q
           ·rw [if_pos e2,if_pos ((HTk.out i).2 (Or.inr e2))]
           ·rw [if_neg e2,if_neg (fun h=>by rcases (HTk.out i).1 h with h | h;exact e1 h;exact e2 h)])]
         exact hst
        have HSt2:=hj_ hst2;have HB3:=hj_ (hB2.setCell (p:=⟨O,x*7+5,none⟩) (by show w4.heap.size≤O;omega) (.int .i64 ((m:Int)+1)))
        have HS3:=hj_ (show W8.heap.size≤(wr.setCell ⟨O,x*7+5,none⟩ (.int .i64 ((m:Int)+1))).heap.size by simp;exact hS2)
        have HQ3:=hj_ (hQ2.far (x*7+5) (.int .i64 ((m:Int)+1)) n5);have HM3:=hj_ (hM2.far (x*7+5) (.int .i64 ((m:Int)+1)) n7);clear hst hst2 hB2 hS2 hQ2 hM2 hO2;go_wp2_with fail
        go_roundw
        case rel=>exact ⟨q+1,HLq.out,by go_num,HB3.out,HS3.out,HQ3.out,HM3.out,HSt2.out⟩
        case measure=>have:=HLq.out;simp [intOf];omega
       ·obtain rfl:q=u.length:=by omega
        rw [List.take_length] at hO2;have HB3:=hj_ hB2;have HS3:=hj_ hS2;have HQ3:=hj_ hQ2;have HM3:=hj_ hM2;have HO3:=hj_ hO2;clear hB2 hS2 hQ2 hM2 hO2;go_wp2_with fail
        go_roundw
        case rel=>exact ⟨j+1,HLt.out,by go_num,HB3.out,HS3.out,HQ3.out,by rw [HST1.out,HSt1.out];exact HM3.out,by rw [HST1.out,HSt1.out];exact HO3.out⟩
        case measure=>have:=HLt.out;simp [intOf];omega
    ·obtain rfl:j=U.length:=by omega
     rw [List.take_length] at hor;obtain ⟨oA,oc,rfl⟩:=qfu hor;have HF:=hj_ hor;have HZ:=hj_ (HB0.out.trans ((HB8.out.trans (hBr.mono (oh_ HB4.out.size))).mono HB0.out.size))
     clear hor hQr hmr hBr hSr;go_wp2_with fail;go_ret2;refine ⟨U,.slice oA X.length oc,?_,HUp.out,HUs.out,oA,oc,by rw [q0ht],by rw [q0ht];exact q0g4 HF.out (by have:=HB4.out.size;have:=HB0.out.size;omega),HZ.out⟩
     go_simp
end Go.Proofs.YtabhjdmmfdfpeaaGreatDoor
