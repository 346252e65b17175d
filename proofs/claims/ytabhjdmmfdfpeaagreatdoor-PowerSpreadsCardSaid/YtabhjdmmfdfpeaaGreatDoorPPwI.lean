/- Lemmas. -/
import Derived.Test.YtabhjdmmfdfpeaaGreatDoorMUniG
import Derived.Test.YtabhjdmmfdfpeaaGreatDoorPPwB
namespace Go.Proofs.YtabhjdmmfdfpeaaGreatDoor
set_option maxHeartbeats 32000000
set_option maxRecDepth 100000
open _root_.Go.Proofs.Tryz
open Go.RowKit
variable {X:List Fx} {P:List PC} {D i n:Nat} {w:World}
theorem q0j6 (A0:Option Addr) (n0 d0:Nat) (A1:Option Addr) (n1 d1:Nat) (A2:Option Addr) (n2 d2:Nat) (w:World) :
  Rt 11 #[.agg #[.slice A0 n0 d0,.slice A1 n1 d1,.slice A2 n2 d2]] w (.agg #[.slice A0 n0 d0,.slice A1 n1 d1,.slice A2 n2 d2]):=by
 go_enter func11,ntmps11
 go_wp2_with fail
 (try simp only [Exit.inBlock,Exit.then])
 refine bodyPost_ret (v:=.agg #[.slice A0 n0 d0,.slice A1 n1 d1,.slice A2 n2 d2]) ?_ rfl ⟨rfl,((Below.refl _ w).alloc lr_ _).alloc s_ _⟩
 rw [qlt rfl]
 go_simp
theorem q0j7 (A0:Option Addr) (n0 d0:Nat) (A1:Option Addr) (n1 d1:Nat) (A2:Option Addr) (n2 d2:Nat) (H:List Hd) (L:List (List PT)) (PL:List (PC × List Fea)) (w:World) (hl:InN w A0 n0 H L) (hn0:n0≤9223372036854775807) (hp:InR w A1 n1 PL) (hn1:n1≤9223372036854775807) :
  Rt 7 #[.agg #[.slice A0 n0 d0,.slice A1 n1 d1,.slice A2 n2 d2],.slice none 0 0] w (.bool (fewRg L PL n2)):=by
 have HOw:=hj_ (fun w=>q0j6 A0 n0 d0 A1 n1 d1 A2 n2 d2 w)
 have HFr:=hj_ (fun w h1 h2=>qm7 A0 n0 d0 H L A1 n1 d1 PL A2 n2 d2 w h1 hn0 h2 hn1)
 have HFa:=hj_ (fun w=>qm4 none 0 0 [] w (Sh.In.nil _ _) d_)
 rw [show fewAm []=true from rfl] at HFa
 generalize fewRg L PL n2=Q at *;obtain ⟨W,HW,HB0,HK⟩:=bx3 w (.slice A0 n0 d0) (.slice A1 n1 d1) (.slice A2 n2 d2) 26;have hB:=Below.refl W.heap.size W;obtain ⟨c0,c1,c2⟩:=HK.out W hB;have HL:=hj_ (fun (w':World) (h:Below W.heap.size W w')=>show InN w' A0 n0 H L∧InR w' A1 n1 PL from ⟨(hl.below HB0.out).below h,(hp.below HB0.out).below h⟩)
 clear hl hp hn0 hn1
 go_enter func7,ntmps7
 go_upto_region 3 with fail
 rw [← HW.out]
 go_loopw [14,5] (fun iv sv wr=>iv=.int .i64 0∧sv=.int .i64 0∧wr=W) (fun _ _ _=>0)
 case atStart=>exact ⟨rfl,rfl,rfl⟩
 case round =>
  obtain ⟨rfl,rfl,rfl⟩:=hrel;obtain ⟨c0,c1,c2⟩:=HK.out _ hB;go_wp2_with fail;refine up_ (HOw.out _) hB ?_;clear hB c0 c1 c2;intro w1 hB;go_wp2_with fail;refine up_ (HFr.out _ (HL.out _ hB).1 (HL.out _ hB).2) hB fun w2 hB=>?_
  cases Q with
  | false =>
   go_wp2_with fail;go_ret;exact ⟨rfl,ht_ HB0.out hB⟩
  | true =>
   go_wp2_with fail;refine up_ (HFa.out _) hB fun w3 hB=>?_;go_wp2_with fail;go_ret;exact ⟨rfl,ht_ HB0.out hB⟩
theorem q0km (A0:Option Addr) (n0 d0:Nat) (A1:Option Addr) (n1 d1:Nat) (A2:Option Addr) (n2 d2:Nat) (P:List PC) (x:Fx) (p:PC) (w:World) (hp:shPr.In w A1 n1 P) (hn:n1≤9223372036854775806) (hx:pcF P x.pr=some p) :
  Rt 16 #[.agg #[.slice A0 n0 d0,.slice A1 n1 d1,.slice A2 n2 d2],x.val] w (.int .i64 p.wa):=by
 obtain rfl:n1=P.length:=hp.1;have hnn:¬ pcI P x.pr<0:=fun h=>by rw [qgv.1 h] at hx;cases hx
 have hat:=pcI_at hnn;rw [hx] at hat;have hge:=pcI_ge P x.pr;have hlt:=pcI_lt P x.pr;obtain ⟨k,hk⟩:∃ k:Nat,pcI P x.pr=k:=⟨(pcI P x.pr).toNat,o_⟩
 have hkl:k<P.length:=o_
 rw [hk,show ((k:Int).toNat)=k by omega,qa1 hkl] at hat
 injection hat with hat
 obtain ⟨ch,pt,pr,un,ad,ph,cb⟩:=x;dsimp only at hk;obtain ⟨b,o,rfl,hbl,hcell⟩:=pc_at hp o_
 have hc:=(hcell k hkl).2.2.1;rw [← hat] at hc;have HPf:=hj_ (fun w' (hb:Below w.heap.size w w')=>(show Calls prog 50 #[.slice (some ⟨b,o,none⟩) P.length d1,.string pr] w' fun e w''=>e=.returned (.int .i64 (k:Int))∧Below w'.heap.size w' w'' from by
  rw [← hk];exact qna (some ⟨b,o,none⟩) P.length d1 P pr w' (hp.below hb) hn))
 show Rt 16 #[.agg #[.slice A0 n0 d0,.slice (some ⟨b,o,none⟩) P.length d1,.slice A2 n2 d2],.agg #[.int .i64 ch,.int .i64 pt,.string pr,.int .i64 un,.int .i64 ad,.int .i64 ph,.string cb]] w (.int .i64 p.wa)
 obtain ⟨W,HW,HB0,HK⟩:=bx3_7 w (.slice A0 n0 d0) (.slice (some ⟨b,o,none⟩) P.length d1) (.slice A2 n2 d2) 34 (.int .i64 ch) (.int .i64 pt) (.string pr) (.int .i64 un) (.int .i64 ad) (.int .i64 ph) (.string cb) 45;have hB:=Below.refl W.heap.size W;obtain ⟨c0,c1,c2,c3,c4,c5,c6,c7,c8,c9⟩:=HK.out W hB;have i0:(0:Int)≤(k:Int):=o_
 have i1:(k:Int)<(P.length:Int):=o_
 have HC:=hj_ (fun w' (hb:Below W.heap.size W w')=>((ht_ HB0.out hb).cell (p:=⟨b,o+k*4+2,none⟩) hbl).trans hc)
 clear hp hnn hge hlt hk hx hcell hc hat;generalize p.wa=pw at *;replace hB:=q18 hB 1;obtain ⟨c0,c1,c2,c3,c4,c5,c6,c7,c8,c9⟩:=HK.out _ hB;have q0:=HC.out _ hB
 go_enter func16,ntmps16
 go_wp2_with fail;rw [← HW.out];refine wp_region_held_drew (S:=fun w'=>w'.cell? ⟨w.heap.size,1,none⟩=some (.slice (some ⟨b,o,none⟩) P.length d1)∧w'.cell? ⟨w.heap.size+1,2,none⟩=some (.string pr)∧w'.cell? ⟨b,o+k*4+2,none⟩=some (.int .i64 pw)) k_ ⟨c1,c5,q0⟩ (fun hHeld=>?_)
 refine tq 0 ?_;refine tq 1 ?_;refine tq 2 ?_;refine tq 3 ?_;refine tq 4 ?_;refine tq 5 ?_;refine tr 6 fun K hK=>?_
 go_simp
 go_at_call 50;refine up_ (HPf.out _ (ht_ HB0.out hB)) hB fun wk hB=>?_;obtain ⟨c0,c1,c2,c3,c4,c5,c6,c7,c8,c9⟩:=HK.out _ hB;replace q0:=HC.out _ hB;have hbw:=Nat.lt_of_lt_of_le hbl (Nat.le_trans HB0.out.size hB.size)
 go_wp2_with fail;refine hK.out _ _ ⟨c1,c5,q0⟩ (fun hHeld=>?_)
 clear hK K;refine tq 7 ?_;refine tq 8 ?_;refine tq 9 ?_;refine tq 10 ?_;refine wpAnyH_done k_ ?_ _
 have hz:=ht_ HB0.out hB;clear c0 c1 c2 c3 c4 c5 c6 c7 c8 c9 q0;go_wp2_with fail;go_ret;exact ⟨by go_simp,hz⟩
def hungW (P:List PC) (X:List Fx) (s:ByteArray):Int:=sumI (fun i=>decide (cbV X i=s)) (wN P X) X.length
theorem q0ko (c:Nat→Bool) (W:Nat→Int) (k:Nat):sumI c W (k+1)=sumI c W k+if c k then W k else 0:=rfl
theorem q0kg (A0:Option Addr) (n0 d0:Nat) (A1:Option Addr) (n1 d1:Nat) (A2:Option Addr) (d2:Nat) (P:List PC) (X:List Fx) (s:ByteArray) (w:World)
  (hp:shPr.In w A1 n1 P) (hn1:n1≤9223372036854775806) (hx:shX.In w A2 X.length X) (hX:X.length≤1000) (hW:WOk P X) :
  Calls prog 71 #[.agg #[.slice A0 n0 d0,.slice A1 n1 d1,.slice A2 X.length d2],.string s] w fun e w'=>∃ n ph,e=.returned (.agg #[.string s,.int .i64 n,.int .i64 (hungW P X s),.int .i64 ph])∧Below w.heap.size w w':=by
 have HX:=hj_ hx;have HWk:=hj_ hW;have HLn:=hj_ hX;have HBd:=hj_ (show ∀ k,k≤X.length→0≤sumI (fun i=>decide (cbV X i=s)) (wN P X) k∧sumI (fun i=>decide (cbV X i=s)) (wN P X) k≤1048576000 from fun k hk=>by
  have h1:=q0hz (c:=fun i=>decide (cbV X i=s)) (W:=wN P X) (n:=k) (fun i hi=>(q0iy hW i o_).1)
  have h2:=q0hx (c:=fun i=>decide (cbV X i=s)) (W:=wN P X) (B:=1048576) o_ (n:=k) (fun i hi=>(q0iy hW i o_).2)
  omega)
 have HWt:=hj_ (fun (x:Fx) (p:PC) w' (hb:Below w.heap.size w w') (h:pcF P x.pr=some p)=>q0km A0 n0 d0 A1 n1 d1 A2 X.length d2 P x p w' (hp.below hb) hn1 h)
 obtain ⟨W,HW,HB0,HK⟩:=bx3_4 w (.slice A0 n0 d0) (.slice A1 n1 d1) (.slice A2 X.length d2) 34 (.string ⟨#[]⟩) (.int .i64 0) (.int .i64 0) (.int .i64 0) 129;have hB:=Below.refl W.heap.size W;obtain ⟨c0,c1,c2,c3,c4,c5,c6⟩:=HK.out W hB;have hwsz:w.heap.size+1<W.heap.size:=by rw [HW.out];simp
 have HFr:=hj_ (show ∀ w',Below W.heap.size W w'→∀ j,w'.frozen? ⟨w.heap.size+1,j,none⟩=false from fun w' h j=>by
  refine (h.frozen (p:=⟨w.heap.size+1,j,none⟩) hwsz).trans ?_;rw [HW.out];exact World.frozen?_alloc_at _ _ _ _ s_)
 obtain ⟨W2,hW2⟩:=ex_ (W.alloc (.cells #[.string s,.int .i64 0,.int .i64 0,.int .i64 (-1)] 129));have hb2:Below W.heap.size W W2:=by rw [hW2];exact (br_).alloc lr_ _
 have hWs:W.heap.size=w.heap.size+1+1:=by rw [HW.out,World.size_alloc,World.size_alloc]
 have HWs:=hj_ hWs;have HO2:=hj_ (show Cells W2 (w.heap.size+1+1) [.string s,.int .i64 0,.int .i64 0,.int .i64 (-1)] by rw [hW2,← hWs];exact Cells.fresh W [.string s,.int .i64 0,.int .i64 0,.int .i64 (-1)] _)
 have HB2:=hj_ hb2;have HW2:=hj_ hW2;have HWsz:=hj_ hwsz;clear hx hW hX hp hB hW2 hb2 hwsz hWs
 go_enter func71,ntmps71
 go_wp2_with fail;rw [← HW.out];go_wp2_with fail;rw [← HW2.out];clear c0 c1 c2 c3 c4 c5 c6
 go_loopw [6] (fun iv wr=>∃ (k:Nat) (n ph:Int),k≤X.length∧iv=.int .i64 k∧Below W.heap.size W wr∧0≤n∧n≤k∧Cells wr (w.heap.size+1+1) [.string s,.int .i64 n,.int .i64 (sumI (fun i=>decide (cbV X i=s)) (wN P X) k),.int .i64 ph]) (fun iv _=>X.length-(intOf iv).toNat)
 case atStart=>exact ⟨0,0,-1,Nat.zero_le _,rfl,HB2.out,o_,o_,HO2.out⟩
 case round =>
  obtain ⟨k,n,phv,hk,rfl,hB,hn0,hnk,hq⟩:=hrel;have HBr:=hj_ hB;have HQ:=hj_ hq;obtain ⟨c0,c1,c2,c3,c4,c5,c6⟩:=HK.out _ hB
  by_cases hlt:k<X.length
  ·obtain ⟨b,o,rfl,hbl,hcell⟩:=fx_at HX.out o_
   have hk7:=hcell k hlt;have kk:=fun (q:Nat)=>(ht_ HB0.out hB).cell (p:=⟨b,q,none⟩) hbl
   have hbw:b<wr.heap.size:=Nat.lt_of_lt_of_le hbl (Nat.le_trans HB0.out.size hB.size);have i0:(0:Int)≤(k:Int):=o_
   have i1:(k:Int)<(X.length:Int):=o_
   have w0:IntKind.i64.wrap ((k:Int)+1)=(k:Int)+1:=IntWalk.i64_in _ (oh_ HLn.out)
   have w1:IntKind.i64.wrap (n+1)=n+1:=IntWalk.i64_in _ (oh_ HLn.out)
   obtain ⟨p,hpc,hw0,hw1⟩:=HWk.out X[k] (List.getElem_mem hlt);have hcb:cbV X k=X[k].cb:=by unfold cbV;rw [List.getD_eq_getElem?_getD,List.getElem?_eq_getElem hlt,Option.getD_some]
   have hwn:wN P X k=p.wa:=by unfold wN;rw [List.getD_eq_getElem?_getD,List.getElem?_eq_getElem hlt,Option.getD_some];exact q0iz hpc
   have hpush:=q0ko (fun i=>decide (cbV X i=s)) (wN P X) k
   rw [hwn] at hpush;simp only [hcb] at hpush;have hbd:=HBd.out k hk;have HWx:=hj_ (fun w' hb=>HWt.out X[k] p w' hb hpc)
   have HLt:=hj_ hlt;have hbq:=q1w X[k].cb s;have HN:=hj_ (And.intro hn0 hnk);clear hcell hpc hq hB hcb hwn hn0 hnk;generalize sumI (fun i=>decide (cbV X i=s)) (wN P X) k=sm at *
   generalize hsm1:sumI (fun i=>decide (cbV X i=s)) (wN P X) (k+1)=sm1 at *
   have HSm1:=hj_ hsm1;generalize X[k]=x at *;obtain ⟨ch,pt,pr,un,ad,ph,cb⟩:=x;generalize p.wa=pw at *;dsimp only at hk7 hpush hbq;obtain ⟨k0,k1,k2,k3,k4,k5,k6⟩:=hk7;have p0:=(kk _).trans k0;have p1:=(kk _).trans k1;have p2:=(kk _).trans k2;have p3:=(kk _).trans k3;have p4:=(kk _).trans k4;have p5:=(kk _).trans k5;have p6:=(kk _).trans k6;have HWx2:=hj_ (show ∀ w',Below w.heap.size w w'→Calls prog 16 #[.agg #[.slice A0 n0 d0,.slice A1 n1 d1,.slice (some ⟨b,o,none⟩) X.length d2],.agg #[.int .i64 ch,.int .i64 pt,.string pr,.int .i64 un,.int .i64 ad,.int .i64 ph,.string cb]] w' fun e w''=>e=.returned (.int .i64 pw)∧Below w'.heap.size w' w'' from HWx.out)
   obtain ⟨W3,hW3⟩:=ex_ (wr.alloc (.cells #[.int .i64 ch,.int .i64 pt,.string pr,.int .i64 un,.int .i64 ad,.int .i64 ph,.string cb] 45));have hb3:Below wr.heap.size wr W3:=by rw [hW3];exact (br_).alloc lr_ _
   have hx3:Cells W3 wr.heap.size [.int .i64 ch,.int .i64 pt,.string pr,.int .i64 un,.int .i64 ad,.int .i64 ph,.string cb]:=by rw [hW3];exact Cells.fresh wr [.int .i64 ch,.int .i64 pt,.string pr,.int .i64 un,.int .i64 ad,.int .i64 ph,.string cb] _
   have HB3:=hj_ (ht_ HBr.out hb3);have HX3:=hj_ hx3;have hq3:=HQ.out.below hb3 HQ.out.1;have HQ3:=hj_ hq3;have HW3:=hj_ hW3;have e1:w.heap.size+1+1≠wr.heap.size:=by have:=HQ.out.1;omega
   have e2:w.heap.size+1+1≠w.heap.size:=o_
   have x6:=hx3.at_ (j:=6) rfl
   have xl:=hx3.1;have hWl:w.heap.size+1+1<wr.heap.size:=HQ.out.1;rw [hW3] at x6;clear k0 k1 k2 k3 k4 k5 k6 kk HWx hb3 hx3 hW3 hq3
   by_cases hcc:cb=s
   ·rw [if_pos (decide_eq_true hcc)] at hpush
    rw [decide_eq_true hcc] at hbq;subst hcc;subst hpush;have wv:IntKind.i64.wrap (sm+pw)=sm+pw:=IntWalk.i64_in _ o_
    have y1:=HQ3.out.at_ (j:=1) rfl
    have z1:=HQ3.out.fr (j:=1) rfl;have yl:=HQ3.out.1;rw [HW3.out] at y1 z1 yl;clear hbd hw0 hw1 xl;go_wp2_with fail;obtain ⟨Vq,hVq⟩:=ex_ (wr.setCell ⟨w.heap.size+1+1,1,none⟩ (.int .i64 (n+1)));have hqs:Vq.heap.size=wr.heap.size:=by rw [hVq];simp
    have hQq:=HQ.out.set 1 (.int .i64 (n+1)) (by show 1<4;decide)
    have hBq:=HBr.out.setCell (p:=⟨w.heap.size+1+1,1,none⟩) (by show W.heap.size≤w.heap.size+1+1;rw [HWs.out];omega) (.int .i64 (n+1))
    rw [← hVq] at hQq hBq;obtain ⟨V4,hV4⟩:=ex_ (Vq.alloc (.cells #[.int .i64 ch,.int .i64 pt,.string pr,.int .i64 un,.int .i64 ad,.int .i64 ph,.string cb] 45));have hb4:Below Vq.heap.size Vq V4:=by rw [hV4];exact (br_).alloc lr_ _
    have HX4:=hj_ (show Cells V4 wr.heap.size [.int .i64 ch,.int .i64 pt,.string pr,.int .i64 un,.int .i64 ad,.int .i64 ph,.string cb] by rw [hV4,← hqs];exact Cells.fresh Vq [.int .i64 ch,.int .i64 pt,.string pr,.int .i64 un,.int .i64 ad,.int .i64 ph,.string cb] _)
    have HQ4:=hj_ (show Cells V4 (w.heap.size+1+1) [.string cb,.int .i64 (n+1),.int .i64 sm,.int .i64 phv] from hQq.below hb4 hQq.1)
    have HB4:=hj_ (ht_ hBq hb4);rw [← hVq,← hV4];clear hQq hBq hb4 hqs hVq hV4 y1 z1 yl x6;obtain ⟨c0,c1,c2,-,-,-,-⟩:=HK.out _ HB4.out;have x0:=HX4.out.at_ (j:=0) rfl
    have x1:=HX4.out.at_ (j:=1) rfl
    have x2:=HX4.out.at_ (j:=2) rfl
    have x3:=HX4.out.at_ (j:=3) rfl
    have x4:=HX4.out.at_ (j:=4) rfl
    have x5:=HX4.out.at_ (j:=5) rfl
    have x6:=HX4.out.at_ (j:=6) rfl
    have y2:=HQ4.out.at_ (j:=2) rfl
    refine wp_region_held_drew (S:=fun w'=>w'.cell? ⟨w.heap.size,0,none⟩=some (.slice A0 n0 d0)∧w'.cell? ⟨w.heap.size,1,none⟩=some (.slice A1 n1 d1)∧w'.cell? ⟨w.heap.size,2,none⟩=some (.slice (some ⟨b,o,none⟩) X.length d2)∧w'.cell? ⟨wr.heap.size,0,none⟩=some (.int .i64 ch)∧w'.cell? ⟨wr.heap.size,1,none⟩=some (.int .i64 pt)∧w'.cell? ⟨wr.heap.size,2,none⟩=some (.string pr)∧w'.cell? ⟨wr.heap.size,3,none⟩=some (.int .i64 un)∧w'.cell? ⟨wr.heap.size,4,none⟩=some (.int .i64 ad)∧w'.cell? ⟨wr.heap.size,5,none⟩=some (.int .i64 ph)∧w'.cell? ⟨wr.heap.size,6,none⟩=some (.string cb)) k_ ⟨c0,c1,c2,x0,x1,x2,x3,x4,x5,x6⟩ (fun hHeld=>?_)
    refine tq 0 ?_;refine tq 2 ?_;refine tq 3 ?_;refine wpAnyH_ready (rs:=[1,4]) k_ s_ ?_
    refine AllReadyH.cons rfl (fun K hK=>?_) (AllReadyH.cons rfl (fun K hK=>?_) AllReadyH.nil)
    ·go_simp
     refine hK.out _ _ ⟨c0,c1,c2,x0,x1,x2,x3,x4,x5,x6⟩ (fun hHeld=>?_)
     clear hK K;refine tr 4 fun K hK=>?_
     go_simp
     go_at_call 16;refine (HWx2.out _ (HB0.out.trans ((q18 HB4.out 1).mono HB0.out.size))).mono ?_;rintro e w5 ⟨rfl,hb⟩;have hb5:=(q18 (Below.refl V4.heap.size V4) 1).trans (hb.mono (q18 (Below.refl V4.heap.size V4) 1).size);have HB5:=hj_ (ht_ HB4.out hb5);have HQ5:=hj_ (HQ4.out.below hb5 HQ4.out.1);have HX5:=hj_ (HX4.out.below hb5 HX4.out.1);obtain ⟨c0,c1,c2,-,-,-,-⟩:=HK.out _ HB5.out;replace x0:=HX5.out.at_ (j:=0) rfl;replace x1:=HX5.out.at_ (j:=1) rfl;replace x2:=HX5.out.at_ (j:=2) rfl;replace x3:=HX5.out.at_ (j:=3) rfl;replace x4:=HX5.out.at_ (j:=4) rfl;replace x5:=HX5.out.at_ (j:=5) rfl;replace x6:=HX5.out.at_ (j:=6) rfl;replace y2:=HQ5.out.at_ (j:=2) rfl;have z2:=HQ5.out.fr (j:=2) rfl;have zl:=HQ5.out.1;clear hb hb5
     go_wp2_with fail;refine hK.out _ _ ⟨c0,c1,c2,x0,x1,x2,x3,x4,x5,x6⟩ (fun hHeld=>?_)
     clear hK K;refine tq 5 ?_;refine tq 6 ?_;refine tr 7 fun K hK=>?_
     go_simp
     refine hK.out _ _ (by first | exact ⟨(sf_ e2).trans c0,(sf_ e2).trans c1,(sf_ e2).trans c2,(sf_ e1).trans x0,(sf_ e1).trans x1,(sf_ e1).trans x2,(sf_ e1).trans x3,(sf_ e1).trans x4,(sf_ e1).trans x5,(sf_ e1).trans x6⟩ | exact ⟨(sf_ e2.symm).trans c0,(sf_ e2.symm).trans c1,(sf_ e2.symm).trans c2,(sf_ e1.symm).trans x0,(sf_ e1.symm).trans x1,(sf_ e1.symm).trans x2,(sf_ e1.symm).trans x3,(sf_ e1.symm).trans x4,(sf_ e1.symm).trans x5,(sf_ e1.symm).trans x6⟩) (fun hHeld=>?_)
     clear hK K;refine wpAnyH_done k_ ?_ _
     have hQ6:=HQ5.out.set 2 (.int .i64 (sm+pw)) (by show 2<4;decide)
     have hX6:=HX5.out.far 2 (.int .i64 (sm+pw)) e1;have hB6:=HB5.out.setCell (p:=⟨w.heap.size+1+1,2,none⟩) (by show W.heap.size≤w.heap.size+1+1;rw [HWs.out];omega) (.int .i64 (sm+pw))
     clear c0 c1 c2 x0 x1 x2 x3 x4 x5 x6 y2 z2 zl;generalize w5.setCell ⟨w.heap.size+1+1,2,none⟩ (.int .i64 (sm+pw))=V6 at *;have HQ6:=hj_ (show Cells V6 (w.heap.size+1+1) [.string cb,.int .i64 (n+1),.int .i64 (sm+pw),.int .i64 phv] from hQ6)
     have HB6:=hj_ hB6;have y3:=HQ6.out.at_ (j:=3) rfl
     have z3:=HQ6.out.fr (j:=3) rfl;have yl:=HQ6.out.1;have x5:=hX6.at_ (j:=5) rfl
     have hne:=e1.symm;clear hQ6 hX6 hB6
     by_cases h1:phv<0
     ·have hQ7:=HQ6.out.set 3 (.int .i64 ph) (by show 3<4;decide)
      have HQ7:=hj_ (show Cells (V6.setCell ⟨w.heap.size+1+1,3,none⟩ (.int .i64 ph)) (w.heap.size+1+1) [.string cb,.int .i64 (n+1),.int .i64 (sm+pw),.int .i64 ph] from hQ7)
      have HB7:=hj_ (HB6.out.setCell (p:=⟨w.heap.size+1+1,3,none⟩) (by show W.heap.size≤w.heap.size+1+1;rw [HWs.out];omega) (.int .i64 ph))
      have x5':=(World.cell?_setCell_far V6 ⟨w.heap.size+1+1,3,none⟩ ⟨wr.heap.size,5,none⟩ (.int .i64 ph) e1).trans x5;clear hQ7;go_wp2_with fail
      go_roundw
      case rel=>exact ⟨k+1,n+1,ph,HLt.out,by go_num,HB7.out,by have:=HN.out.1;omega,by have:=HN.out.2;omega,by rw [HSm1.out];exact HQ7.out⟩
      case measure=>have:=HLt.out;simp [intOf];omega
     ·by_cases h2:phv=ph
      ·subst h2
       go_wp2_with fail
       go_roundw
       case rel=>exact ⟨k+1,n+1,phv,HLt.out,by go_num,HB6.out,by have:=HN.out.1;omega,by have:=HN.out.2;omega,by rw [HSm1.out];exact HQ6.out⟩
       case measure=>have:=HLt.out;simp [intOf];omega
      ·have g1:(phv == ph)=false:=by simpa using h2
       have g2:(phv != ph)=true:=by simpa using h2
       have hQ7:=HQ6.out.set 3 (.int .i64 0) (by show 3<4;decide)
       have HQ7:=hj_ (show Cells (V6.setCell ⟨w.heap.size+1+1,3,none⟩ (.int .i64 0)) (w.heap.size+1+1) [.string cb,.int .i64 (n+1),.int .i64 (sm+pw),.int .i64 0] from hQ7)
       have HB7:=hj_ (HB6.out.setCell (p:=⟨w.heap.size+1+1,3,none⟩) (by show W.heap.size≤w.heap.size+1+1;rw [HWs.out];omega) (.int .i64 0))
       clear hQ7;go_wp2_with fail
       go_roundw
       case rel=>exact ⟨k+1,n+1,0,HLt.out,by go_num,HB7.out,by have:=HN.out.1;omega,by have:=HN.out.2;omega,by rw [HSm1.out];exact HQ7.out⟩
       case measure=>have:=HLt.out;simp [intOf];omega
    ·go_simp
     go_at_call 16;refine (HWx2.out _ (HB0.out.trans ((q18 HB4.out 1).mono HB0.out.size))).mono ?_;rintro e w5 ⟨rfl,hb⟩;have hb5:=(q18 (Below.refl V4.heap.size V4) 1).trans (hb.mono (q18 (Below.refl V4.heap.size V4) 1).size);have HB5:=hj_ (ht_ HB4.out hb5);have HQ5:=hj_ (HQ4.out.below hb5 HQ4.out.1);have HX5:=hj_ (HX4.out.below hb5 HX4.out.1);obtain ⟨c0,c1,c2,-,-,-,-⟩:=HK.out _ HB5.out;replace x0:=HX5.out.at_ (j:=0) rfl;replace x1:=HX5.out.at_ (j:=1) rfl;replace x2:=HX5.out.at_ (j:=2) rfl;replace x3:=HX5.out.at_ (j:=3) rfl;replace x4:=HX5.out.at_ (j:=4) rfl;replace x5:=HX5.out.at_ (j:=5) rfl;replace x6:=HX5.out.at_ (j:=6) rfl;replace y2:=HQ5.out.at_ (j:=2) rfl;have z2:=HQ5.out.fr (j:=2) rfl;have zl:=HQ5.out.1;clear hb hb5
     go_wp2_with fail;refine hK.out _ _ ⟨c0,c1,c2,x0,x1,x2,x3,x4,x5,x6⟩ (fun hHeld=>?_)
     clear hK K;refine tr 1 fun K hK=>?_
     go_simp
     refine hK.out _ _ ⟨c0,c1,c2,x0,x1,x2,x3,x4,x5,x6⟩ (fun hHeld=>?_)
     clear hK K;refine tq 5 ?_;refine tq 6 ?_;refine tr 7 fun K hK=>?_
     go_simp
     refine hK.out _ _ (by first | exact ⟨(sf_ e2).trans c0,(sf_ e2).trans c1,(sf_ e2).trans c2,(sf_ e1).trans x0,(sf_ e1).trans x1,(sf_ e1).trans x2,(sf_ e1).trans x3,(sf_ e1).trans x4,(sf_ e1).trans x5,(sf_ e1).trans x6⟩ | exact ⟨(sf_ e2.symm).trans c0,(sf_ e2.symm).trans c1,(sf_ e2.symm).trans c2,(sf_ e1.symm).trans x0,(sf_ e1.symm).trans x1,(sf_ e1.symm).trans x2,(sf_ e1.symm).trans x3,(sf_ e1.symm).trans x4,(sf_ e1.symm).trans x5,(sf_ e1.symm).trans x6⟩) (fun hHeld=>?_)
     clear hK K;refine wpAnyH_done k_ ?_ _
     have hQ6:=HQ5.out.set 2 (.int .i64 (sm+pw)) (by show 2<4;decide)
     have hX6:=HX5.out.far 2 (.int .i64 (sm+pw)) e1;have hB6:=HB5.out.setCell (p:=⟨w.heap.size+1+1,2,none⟩) (by show W.heap.size≤w.heap.size+1+1;rw [HWs.out];omega) (.int .i64 (sm+pw))
     clear c0 c1 c2 x0 x1 x2 x3 x4 x5 x6 y2 z2 zl;generalize w5.setCell ⟨w.heap.size+1+1,2,none⟩ (.int .i64 (sm+pw))=V6 at *;have HQ6:=hj_ (show Cells V6 (w.heap.size+1+1) [.string cb,.int .i64 (n+1),.int .i64 (sm+pw),.int .i64 phv] from hQ6)
     have HB6:=hj_ hB6;have y3:=HQ6.out.at_ (j:=3) rfl
     have z3:=HQ6.out.fr (j:=3) rfl;have yl:=HQ6.out.1;have x5:=hX6.at_ (j:=5) rfl
     have hne:=e1.symm;clear hQ6 hX6 hB6
     by_cases h1:phv<0
     ·have hQ7:=HQ6.out.set 3 (.int .i64 ph) (by show 3<4;decide)
      have HQ7:=hj_ (show Cells (V6.setCell ⟨w.heap.size+1+1,3,none⟩ (.int .i64 ph)) (w.heap.size+1+1) [.string cb,.int .i64 (n+1),.int .i64 (sm+pw),.int .i64 ph] from hQ7)
      have HB7:=hj_ (HB6.out.setCell (p:=⟨w.heap.size+1+1,3,none⟩) (by show W.heap.size≤w.heap.size+1+1;rw [HWs.out];omega) (.int .i64 ph))
      have x5':=(World.cell?_setCell_far V6 ⟨w.heap.size+1+1,3,none⟩ ⟨wr.heap.size,5,none⟩ (.int .i64 ph) e1).trans x5;clear hQ7;go_wp2_with fail
      go_roundw
      case rel=>exact ⟨k+1,n+1,ph,HLt.out,by go_num,HB7.out,by have:=HN.out.1;omega,by have:=HN.out.2;omega,by rw [HSm1.out];exact HQ7.out⟩
      case measure=>have:=HLt.out;simp [intOf];omega
     ·by_cases h2:phv=ph
      ·subst h2
       go_wp2_with fail
       go_roundw
       case rel=>exact ⟨k+1,n+1,phv,HLt.out,by go_num,HB6.out,by have:=HN.out.1;omega,by have:=HN.out.2;omega,by rw [HSm1.out];exact HQ6.out⟩
       case measure=>have:=HLt.out;simp [intOf];omega
      ·have g1:(phv == ph)=false:=by simpa using h2
       have g2:(phv != ph)=true:=by simpa using h2
       have hQ7:=HQ6.out.set 3 (.int .i64 0) (by show 3<4;decide)
       have HQ7:=hj_ (show Cells (V6.setCell ⟨w.heap.size+1+1,3,none⟩ (.int .i64 0)) (w.heap.size+1+1) [.string cb,.int .i64 (n+1),.int .i64 (sm+pw),.int .i64 0] from hQ7)
       have HB7:=hj_ (HB6.out.setCell (p:=⟨w.heap.size+1+1,3,none⟩) (by show W.heap.size≤w.heap.size+1+1;rw [HWs.out];omega) (.int .i64 0))
       clear hQ7;go_wp2_with fail
       go_roundw
       case rel=>exact ⟨k+1,n+1,0,HLt.out,by go_num,HB7.out,by have:=HN.out.1;omega,by have:=HN.out.2;omega,by rw [HSm1.out];exact HQ7.out⟩
       case measure=>have:=HLt.out;simp [intOf];omega
   ·rw [if_neg (by rw [decide_eq_true_eq];exact hcc),Int.add_zero] at hpush
    rw [decide_eq_false hcc] at hbq;clear hbd hw0 hw1 xl;go_wp2_with fail;rw [← HW3.out]
    go_roundw
    case rel=>exact ⟨k+1,n,phv,HLt.out,by go_num,HB3.out,HN.out.1,by have:=HN.out.2;omega,by rw [HSm1.out,hpush];exact HQ3.out⟩
    case measure=>have:=HLt.out;simp [intOf];omega
  ·obtain rfl:k=X.length:=by omega
   have s0:=hq.at_ (j:=0) rfl
   have s1:=hq.at_ (j:=1) rfl
   have s2:=hq.at_ (j:=2) rfl
   rw [show sumI (fun i=>decide (cbV X i=s)) (wN P X) X.length=hungW P X s from rfl] at s2
   have s3:=hq.at_ (j:=3) rfl
   have l2:=hq.1;have f0:=HFr.out _ hB 0;have f1:=HFr.out _ hB 1;have f2:=HFr.out _ hB 2;have f3:=HFr.out _ hB 3;have hs2':=Nat.lt_of_lt_of_le HWsz.out hB.size;have hz:=ht_ HB0.out hB;clear hq;go_wp2_with fail
   (try simp only [Exit.inBlock,Exit.then])
   refine bodyPost_ret (v:=.agg #[.string s,.int .i64 n,.int .i64 (hungW P X s),.int .i64 phv]) ?_ rfl ⟨n,phv,rfl,?_⟩
   ·rw [qlt rfl]
    go_simp
   ·(repeat' first | exact br_ | assumption | apply Below.drew | apply q18 | refine Below.alloc ?_ ?_ _ | refine Below.setCell ?_ ?_ _ | refine Below.trans ?_ (Below.mono ‹_› ?_) | omega | (simp;omega) | simp)
theorem cb_at (hi:i<X.length):cbV X i=X[i].cb:=by unfold cbV;rw [List.getD_eq_getElem?_getD,List.getElem?_eq_getElem hi,Option.getD_some]
theorem q0kn {W:Nat→Int}:∀ {n},i<n→sumI (fun k=>decide (k=i)) W n=W i:=by
 intro n
 induction n with
 | zero=>intro h;omega
 | succ n ih =>
  intro h;rw [q0ko]
  by_cases e:n=i
  ·subst e
   rw [q0hy (fun k hk=>decide_eq_false o_),if_pos (decide_eq_true rfl)]
   omega
  ·rw [ih o_,if_neg (by rw [decide_eq_true_eq];exact e)]
   omega
theorem unit_w (hi:i<X.length):uW (wN P X) (unitAt X i)=if cbV X i=⟨#[]⟩ then wN P X i else hungW P X (cbV X i):=by
 unfold unitAt;rw [q0ic]
 by_cases h:cbV X i=⟨#[]⟩
 ·rw [if_pos h]
  refine (q0hw (fun k _=>?_) (fun _ _=>rfl)).trans (q0kn hi)
  rw [decide_eq_decide,q0i5];refine ⟨fun e=>?_,fun e=>Or.inl e⟩
  rcases e with e | ⟨e1,e2⟩
  ·exact e
  ·exact absurd (e2.trans h) e1
 ·rw [if_neg h]
  unfold hungW;refine q0hw (fun k _=>?_) (fun _ _=>rfl)
  rw [decide_eq_decide,q0i5];refine ⟨fun e=>?_,fun e=>Or.inr ⟨by rw [e];exact h,e⟩⟩
  rcases e with e | ⟨e1,e2⟩
  ·rw [e]
  ·exact e2
theorem q0kl (A0:Option Addr) (n0 d0:Nat) (A1:Option Addr) (n1 d1:Nat) (A2:Option Addr) (d2:Nat) (P:List PC) (X:List Fx) (i:Nat) (w:World)
  (hp:shPr.In w A1 n1 P) (hn1:n1≤9223372036854775806) (hx:shX.In w A2 X.length X) (hX:X.length≤1000) (hW:WOk P X) (hi:i<X.length) :
  Rt 41 #[.agg #[.slice A0 n0 d0,.slice A1 n1 d1,.slice A2 X.length d2],.int .i64 (i:Int)] w (.int .i64 (uW (wN P X) (unitAt X i))):=by
 have hu:=unit_w (P:=P) hi;rw [cb_at hi] at hu;have hwn:∃ p,pcF P X[i].pr=some p∧wN P X i=p.wa:=by
  obtain ⟨p,hp,_⟩:=hW _ (List.getElem_mem hi);exact ⟨p,hp,by unfold wN;rw [List.getD_eq_getElem?_getD,List.getElem?_eq_getElem hi,Option.getD_some];exact q0iz hp⟩
 obtain ⟨p,hpc,hwn⟩:=hwn;rw [hwn] at hu;rw [hu];have hbq:=q1w X[i].cb ⟨#[]⟩;have HWt:=hj_ (fun w' (hb:Below w.heap.size w w')=>q0km A0 n0 d0 A1 n1 d1 A2 X.length d2 P X[i] p w' (hp.below hb) hn1 hpc)
 have HHu:=hj_ (fun s w' (hb:Below w.heap.size w w')=>q0kg A0 n0 d0 A1 n1 d1 A2 d2 P X s w' (hp.below hb) hn1 (hx.below hb) hX hW)
 obtain ⟨b,o,rfl,hbl,hcell⟩:=fx_at hx o_
 have hk7:=hcell i hi;have i0:(0:Int)≤(i:Int):=o_
 have i1:(i:Int)<(X.length:Int):=o_
 clear hcell hpc hp hx hu hwn hW;generalize X[i]=x at *;obtain ⟨ch,pt,pr,un,ad,ph,cb⟩:=x;generalize p.wa=pw at *;dsimp only at hk7 hbq;dsimp only;have HWt2:=hj_ (show ∀ w',Below w.heap.size w w'→Calls prog 16 #[.agg #[.slice A0 n0 d0,.slice A1 n1 d1,.slice (some ⟨b,o,none⟩) X.length d2],.agg #[.int .i64 ch,.int .i64 pt,.string pr,.int .i64 un,.int .i64 ad,.int .i64 ph,.string cb]] w' fun e w''=>e=.returned (.int .i64 pw)∧Below w'.heap.size w' w'' from HWt.out)
 obtain ⟨W,HW,HB0,HK⟩:=bx3 w (.slice A0 n0 d0) (.slice A1 n1 d1) (.slice (some ⟨b,o,none⟩) X.length d2) 34;have hB:=Below.refl W.heap.size W;obtain ⟨c0,c1,c2⟩:=HK.out W hB;have HXc:=hj_ (show ∀ w',Below W.heap.size W w'→w'.cell? ⟨b,o+i*7,none⟩=some (.int .i64 ch)∧w'.cell? ⟨b,o+i*7+1,none⟩=some (.int .i64 pt)∧w'.cell? ⟨b,o+i*7+2,none⟩=some (.string pr)∧w'.cell? ⟨b,o+i*7+3,none⟩=some (.int .i64 un)∧w'.cell? ⟨b,o+i*7+4,none⟩=some (.int .i64 ad)∧w'.cell? ⟨b,o+i*7+5,none⟩=some (.int .i64 ph)∧w'.cell? ⟨b,o+i*7+6,none⟩=some (.string cb) from fun w' hb=>by
  have hb2:=ht_ HB0.out hb;exact ⟨(hb2.cell (p:=⟨b,_,none⟩) hbl).trans hk7.1,(hb2.cell (p:=⟨b,_,none⟩) hbl).trans hk7.2.1,(hb2.cell (p:=⟨b,_,none⟩) hbl).trans hk7.2.2.1,(hb2.cell (p:=⟨b,_,none⟩) hbl).trans hk7.2.2.2.1,(hb2.cell (p:=⟨b,_,none⟩) hbl).trans hk7.2.2.2.2.1,(hb2.cell (p:=⟨b,_,none⟩) hbl).trans hk7.2.2.2.2.2.1,(hb2.cell (p:=⟨b,_,none⟩) hbl).trans hk7.2.2.2.2.2.2⟩)
 obtain ⟨p0,p1,p2,p3,p4,p5,p6⟩:=HXc.out W hB;have hbw:b<W.heap.size:=Nat.lt_of_lt_of_le hbl HB0.out.size;clear hk7 HWt
 by_cases hc:cb=⟨#[]⟩
 ·rw [if_pos hc]
  subst hc;rw [decide_eq_true rfl] at hbq;have HP:=hj_ p6;have eW:=HW.out;have p6':=p6;have c2':=c2;rw [eW] at p6' c2' hbw;rw [World.size_alloc] at hbw;clear p0 p1 p2 p3 p4 p5 p6 c0 c1 c2 eW
  go_enter func41,ntmps41
  go_wp2_with fail;rw [← HW.out];clear p6' c2';replace hB:=q18 hB 1;obtain ⟨c0,c1,c2⟩:=HK.out _ hB;obtain ⟨p0,p1,p2,p3,p4,p5,p6⟩:=HXc.out _ hB;have hbl2:=Nat.lt_of_lt_of_le hbl (Nat.le_trans HB0.out.size hB.size);refine wp_region_held_drew (S:=fun w'=>w'.cell? ⟨w.heap.size,0,none⟩=some (.slice A0 n0 d0)∧w'.cell? ⟨w.heap.size,1,none⟩=some (.slice A1 n1 d1)∧w'.cell? ⟨w.heap.size,2,none⟩=some (.slice (some ⟨b,o,none⟩) X.length d2)∧w'.cell? ⟨b,o+i*7,none⟩=some (.int .i64 ch)∧w'.cell? ⟨b,o+i*7+1,none⟩=some (.int .i64 pt)∧w'.cell? ⟨b,o+i*7+2,none⟩=some (.string pr)∧w'.cell? ⟨b,o+i*7+3,none⟩=some (.int .i64 un)∧w'.cell? ⟨b,o+i*7+4,none⟩=some (.int .i64 ad)∧w'.cell? ⟨b,o+i*7+5,none⟩=some (.int .i64 ph)∧w'.cell? ⟨b,o+i*7+6,none⟩=some (.string ⟨#[]⟩)) k_ ⟨c0,c1,c2,p0,p1,p2,p3,p4,p5,p6⟩ (fun hHeld=>?_)
  refine tq 0 ?_;refine tq 1 ?_;refine tq 2 ?_;refine tq 3 ?_;refine tq 4 ?_;refine tq 5 ?_;refine tr 6 fun K hK=>?_
  go_simp
  go_at_call 16;refine up_ (HWt2.out _ (ht_ HB0.out hB)) hB fun wk hB=>?_;obtain ⟨c0,c1,c2⟩:=HK.out _ hB;obtain ⟨p0,p1,p2,p3,p4,p5,p6⟩:=HXc.out _ hB
  go_wp2_with fail;refine hK.out _ _ ⟨c0,c1,c2,p0,p1,p2,p3,p4,p5,p6⟩ (fun hHeld=>?_)
  clear hK K;refine tq 7 ?_;refine wpAnyH_done k_ ?_ _
  have hz:=ht_ HB0.out hB;clear c0 c1 c2 p0 p1 p2 p3 p4 p5 p6;go_wp2_with fail;go_ret;exact ⟨by go_simp,hz⟩
 ·rw [if_neg hc]
  rw [decide_eq_false hc] at hbq;have hce:cb.toList.isEmpty=false:=by
   rw [ByteArray.toList_eq]
   cases h:cb.data.toList with
   | nil=>exact absurd (ByteArray.ext (Array.ext' h)) hc
   | cons a l=>rfl
  have eW:=HW.out;have p6':=p6;have c2':=c2;rw [eW] at p6' c2' hbw;rw [World.size_alloc] at hbw;have HH2:=hj_ (HHu.out cb);generalize hungW P X cb=hw at *;clear p0 p1 p2 p3 p4 p5 p6 c0 c1 c2 eW HHu HWt2
  go_enter func41,ntmps41
  go_wp2_with fail;rw [← HW.out];clear p6' c2';obtain ⟨c0,c1,c2⟩:=HK.out _ hB;go_wp2_with fail;refine (HH2.out _ (ht_ HB0.out hB)).mono ?_;rintro e wk ⟨n,phv,rfl,hb⟩;have hz:=(ht_ HB0.out hB).trans (hb.mono (Nat.le_trans HB0.out.size hB.size));have hfd:∀ w,(Instr.field 129 (.agg #[.string cb,.int .i64 n,.int .i64 hw,.int .i64 phv]) 2).run prog w=.ok (.int .i64 hw) w:=fun w=>k_
  clear hb c0 c1 c2;go_wp2_with fail;go_ret;exact ⟨rfl,hz⟩
theorem q0kh (A:Option Addr) (c:Nat) (X:List Fx) (i:Nat) (w:World) (hx:shX.In w A X.length X) (hX:X.length≤1000) (hi:i<X.length) :
  Rt 70 #[.slice A X.length c,.int .i64 (i:Int)] w (.bool (leadsB X i)):=by
 obtain ⟨b,o,rfl,hbl,hcell⟩:=fx_at hx o_
 have hci:=cb_at hi;have hk6:=(hcell i hi).2.2.2.2.2.2;obtain ⟨E,hE⟩:=ex_ (leadsB X i);rw [← hE];have HE:=hj_ hE;have HC:=hj_ hcell;have hci2:X[i].cb=cbV X i:=hci.symm;rw [hci2] at hk6;have j0:(0:Int)≤(i:Int):=o_
 have j1:(i:Int)<(X.length:Int):=o_
 have HI:=hj_ hi;generalize hcbi:cbV X i=cbi at *;have HCbi:=hj_ hcbi;have hbq:=q1w cbi ⟨#[]⟩;clear hx hcell hci hE hci2 hi hcbi
 go_enter func70,ntmps70
 go_wp2_with fail
 go_loopw [5] (fun iv wr=>∃ k:Nat,k≤i∧iv=.int .i64 k∧Below w.heap.size w wr∧Hid (∀ q,q<k→(decide (cbi≠⟨#[]⟩) && decide (cbV X q=cbi))=false)) (fun iv _=>i-(intOf iv).toNat)
 case atStart=>exact ⟨0,Nat.zero_le _,rfl,br_,hj_ (fun q h=>absurd h (Nat.not_lt_zero _))⟩
 case round =>
  obtain ⟨k,hk,rfl,hB,HAll⟩:=hrel
  by_cases hlt:k<i
  ·have hltz:(k:Int)<(i:Int):=by omega
   have hkX:k<X.length:=by have:=HI.out;omega
   have hB1:=q18 hB 1;have pk:=(hB1.cell (p:=⟨b,_,none⟩) hbl).trans (HC.out k hkX).2.2.2.2.2.2;have pi':=(hB1.cell (p:=⟨b,_,none⟩) hbl).trans hk6;have hbw:=Nat.lt_of_lt_of_le hbl hB1.size;have hck:=cb_at hkX;rw [← hck] at pk;have i0:(0:Int)≤(k:Int):=o_
   have i1:(k:Int)<(X.length:Int):=o_
   have w0:IntKind.i64.wrap ((k:Int)+1)=(k:Int)+1:=IntWalk.i64_in _ o_
   have hbk:=q1w (cbV X k) cbi;have HLt:=hj_ hlt;have HBk:=hj_ hB1;generalize hcbk:cbV X k=cbk at *;have HCk:=hj_ hcbk;clear hck hcbk hB hlt hk hkX hB1
   by_cases h1:cbi=⟨#[]⟩
   ·have hce:cbi.toList.isEmpty=true:=by rw [h1,ByteArray.toList_eq];rfl
    rw [decide_eq_true h1] at hbq;go_wp2_with fail;refine wp_region_held_drew (S:=fun w'=>w'.cell? ⟨b,o+i*7+6,none⟩=some (.string cbi)∧w'.cell? ⟨b,o+k*7+6,none⟩=some (.string cbk)) k_ ⟨pi',pk⟩ (fun hHeld=>?_)
    refine tq 0 ?_;refine tq 1 ?_;refine tq 2 ?_;refine tq 3 ?_;refine tq 4 ?_;refine tq 5 ?_;refine tq 6 ?_;refine tq 7 ?_;refine tq 8 ?_;refine tq 9 ?_;refine tq 10 ?_;refine tq 11 ?_;refine tq 12 ?_;refine tq 13 ?_;refine tq 14 ?_;refine tq 15 ?_;refine tq 16 ?_;refine tq 17 ?_;refine tq 18 ?_;refine wpAnyH_done k_ ?_ _
    clear pk pi';go_wp2_with fail
    go_roundw
    case rel=>exact ⟨k+1,HLt.out,by go_num,HBk.out,hj_ (fun q _=>by rw [decide_eq_false (fun h=>h h1),Bool.false_and])⟩
    case measure=>have:=HLt.out;simp [intOf];omega
   ·have hce:cbi.toList.isEmpty=false:=by
     rw [ByteArray.toList_eq]
     cases h:cbi.data.toList with
     | nil=>exact absurd (ByteArray.ext (Array.ext' h)) h1
     | cons a l=>rfl
    rw [decide_eq_false h1] at hbq
    by_cases h2:cbk=cbi
    ·rw [decide_eq_true h2] at hbk
     have hE0:E=false:=by
      rw [HE.out];unfold leadsB;rw [Bool.not_eq_false',List.any_eq_true];exact ⟨k,List.mem_range.2 HLt.out,by rw [Bool.and_eq_true,decide_eq_true_eq,decide_eq_true_eq,HCbi.out,HCk.out];exact ⟨h1,h2⟩⟩
     subst hE0;go_wp2_with fail;refine wp_region_held_drew (S:=fun w'=>w'.cell? ⟨b,o+i*7+6,none⟩=some (.string cbi)∧w'.cell? ⟨b,o+k*7+6,none⟩=some (.string cbk)) k_ ⟨pi',pk⟩ (fun hHeld=>?_)
     refine tq 0 ?_;refine tq 1 ?_;refine tq 2 ?_;refine tq 3 ?_;refine tq 4 ?_;refine tq 5 ?_;refine tq 6 ?_;refine tq 7 ?_;refine tq 8 ?_;refine tq 9 ?_;refine tq 10 ?_;refine tq 11 ?_;refine tq 12 ?_;refine tq 13 ?_;refine tq 14 ?_;refine tq 15 ?_;refine tq 16 ?_;refine tq 17 ?_;refine tq 18 ?_;refine wpAnyH_done k_ ?_ _
     clear pk pi';go_wp2_with fail;go_ret;exact ⟨rfl,HBk.out⟩
    ·rw [decide_eq_false h2] at hbk
     go_wp2_with fail;refine wp_region_held_drew (S:=fun w'=>w'.cell? ⟨b,o+i*7+6,none⟩=some (.string cbi)∧w'.cell? ⟨b,o+k*7+6,none⟩=some (.string cbk)) k_ ⟨pi',pk⟩ (fun hHeld=>?_)
     refine tq 0 ?_;refine tq 1 ?_;refine tq 2 ?_;refine tq 3 ?_;refine tq 4 ?_;refine tq 5 ?_;refine tq 6 ?_;refine tq 7 ?_;refine tq 8 ?_;refine tq 9 ?_;refine tq 10 ?_;refine tq 11 ?_;refine tq 12 ?_;refine tq 13 ?_;refine tq 14 ?_;refine tq 15 ?_;refine tq 16 ?_;refine tq 17 ?_;refine tq 18 ?_;refine wpAnyH_done k_ ?_ _
     clear pk pi';go_wp2_with fail
     go_roundw
     case rel=>exact ⟨k+1,HLt.out,by go_num,HBk.out,hj_ (fun q hq=>by
      rcases Nat.lt_or_eq_of_le (Nat.le_of_lt_succ hq) with h | h
      ·exact HAll.out q h
      ·rw [h,HCk.out,decide_eq_false h2,Bool.and_false])⟩
     case measure=>have:=HLt.out;simp [intOf];omega
  ·obtain rfl:k=i:=by omega
   have hltz:¬ (k:Int)<(k:Int):=o_
   have hE1:E=true:=by
    rw [HE.out];unfold leadsB;rw [Bool.not_eq_true',← Bool.not_eq_true,List.any_eq_true];rintro ⟨q,hq,h⟩;rw [HCbi.out,HAll.out q (List.mem_range.1 hq)] at h
    cases h
   subst hE1;go_wp2_with fail;go_ret;exact ⟨rfl,hB⟩
theorem q0ki (sm:Int × Int × Int) (w:World) :
  Rt 40 #[.agg #[.int .i64 sm.1,.int .i64 sm.2.1,.int .i64 sm.2.2]] w (.int .i64 ((lgt sm:Int)+1)):=by
 obtain ⟨a,b,c⟩:=sm;show Rt 40 #[.agg #[.int .i64 a,.int .i64 b,.int .i64 c]] w (.int .i64 ((lgt (a,b,c):Int)+1))
 obtain ⟨L,hL⟩:=ex_ (lgt (a,b,c));rw [← hL];have HL:=hj_ (show L=if a≤b∧a≤c then 0 else if b≤c then 1 else 2 from hL)
 clear hL;obtain ⟨W,HW,HB0,HK⟩:=bx3 w (.int .i64 a) (.int .i64 b) (.int .i64 c) 47;have hB:=Below.refl W.heap.size W;obtain ⟨c0,c1,c2⟩:=HK.out W hB;have hl:w.heap.size<W.heap.size:=by rw [HW.out];simp
 have HLw:=hj_ hl;clear hl
 go_enter func40,ntmps40
 go_wp2_with fail;rw [← HW.out];clear c0 c1 c2 hB
 go_loopw [3,4] (fun bv iv wr=>∃ (q k:Nat),bv=.int .i64 q∧iv=.int .i64 k∧1≤k∧k≤3∧(k=1→q=0)∧(k=2→q=if b<a then 1 else 0)∧(k=3→q=L)∧Below W.heap.size W wr) (fun _ iv _=>3-(intOf iv).toNat)
 case atStart=>exact ⟨0,1,rfl,rfl,o_,o_,fun _=>rfl,fun h=>absurd h o_,fun h=>absurd h o_,br_⟩
 case round =>
  obtain ⟨q,k,rfl,rfl,hk1,hk3,e1,e2,e3,hB⟩:=hrel;have hB1:=q18 hB 1;have HB1:=hj_ hB1;obtain ⟨c0,c1,c2⟩:=HK.out _ hB1;have hlw:=Nat.lt_of_lt_of_le HLw.out hB1.size;obtain rfl | rfl | rfl:k=1∨k=2∨k=3:=o_
  ·obtain rfl:=e1 rfl
   clear e1 e2 e3 hB hB1
   by_cases h:b<a
   ·go_wp2_with fail
    refine wp_region_held_drew (S:=fun w'=>w'.cell? ⟨w.heap.size,0,none⟩=some (.int .i64 a)∧w'.cell? ⟨w.heap.size,1,none⟩=some (.int .i64 b)∧w'.cell? ⟨w.heap.size,2,none⟩=some (.int .i64 c)) k_ ⟨c0,c1,c2⟩ (fun hHeld=>?_)
    refine tq 0 ?_;refine tq 1 ?_;refine tq 2 ?_;refine tq 3 ?_;refine tq 4 ?_;refine tq 5 ?_;refine tq 6 ?_;refine wpAnyH_done k_ ?_ _
    clear c0 c1 c2;go_wp2_with fail
    go_roundw
    case rel=>exact ⟨1,2,rfl,rfl,o_,o_,fun h=>absurd h o_,fun _=>by rw [if_pos o_],fun h=>absurd h o_,HB1.out⟩
    case measure=>simp [intOf]
   ·go_wp2_with fail
    refine wp_region_held_drew (S:=fun w'=>w'.cell? ⟨w.heap.size,0,none⟩=some (.int .i64 a)∧w'.cell? ⟨w.heap.size,1,none⟩=some (.int .i64 b)∧w'.cell? ⟨w.heap.size,2,none⟩=some (.int .i64 c)) k_ ⟨c0,c1,c2⟩ (fun hHeld=>?_)
    refine tq 0 ?_;refine tq 1 ?_;refine tq 2 ?_;refine tq 3 ?_;refine tq 4 ?_;refine tq 5 ?_;refine tq 6 ?_;refine wpAnyH_done k_ ?_ _
    clear c0 c1 c2;go_wp2_with fail
    go_roundw
    case rel=>exact ⟨0,2,rfl,rfl,o_,o_,fun h=>absurd h o_,fun _=>by rw [if_neg o_],fun h=>absurd h o_,HB1.out⟩
    case measure=>simp [intOf]
  ·have eq:=e2 rfl
   clear e1 e2 e3 hB hB1
   by_cases h:b<a
   ·rw [if_pos h] at eq
    subst eq
    by_cases h2:c<b
    ·go_wp2_with fail
     refine wp_region_held_drew (S:=fun w'=>w'.cell? ⟨w.heap.size,0,none⟩=some (.int .i64 a)∧w'.cell? ⟨w.heap.size,1,none⟩=some (.int .i64 b)∧w'.cell? ⟨w.heap.size,2,none⟩=some (.int .i64 c)) k_ ⟨c0,c1,c2⟩ (fun hHeld=>?_)
     refine tq 0 ?_;refine tq 1 ?_;refine tq 2 ?_;refine tq 3 ?_;refine tq 4 ?_;refine tq 5 ?_;refine tq 6 ?_;refine wpAnyH_done k_ ?_ _
     clear c0 c1 c2;go_wp2_with fail
     go_roundw
     case rel=>exact ⟨2,3,rfl,rfl,o_,o_,fun h=>absurd h o_,fun h=>absurd h o_,fun _=>by rw [HL.out,if_neg o_,if_neg o_],HB1.out⟩
     case measure=>simp [intOf]
    ·go_wp2_with fail
     refine wp_region_held_drew (S:=fun w'=>w'.cell? ⟨w.heap.size,0,none⟩=some (.int .i64 a)∧w'.cell? ⟨w.heap.size,1,none⟩=some (.int .i64 b)∧w'.cell? ⟨w.heap.size,2,none⟩=some (.int .i64 c)) k_ ⟨c0,c1,c2⟩ (fun hHeld=>?_)
     refine tq 0 ?_;refine tq 1 ?_;refine tq 2 ?_;refine tq 3 ?_;refine tq 4 ?_;refine tq 5 ?_;refine tq 6 ?_;refine wpAnyH_done k_ ?_ _
     clear c0 c1 c2;go_wp2_with fail
     go_roundw
     case rel=>exact ⟨1,3,rfl,rfl,o_,o_,fun h=>absurd h o_,fun h=>absurd h o_,fun _=>by rw [HL.out,if_neg o_,if_pos o_],HB1.out⟩
     case measure=>simp [intOf]
   ·rw [if_neg h] at eq
    subst eq
    by_cases h2:c<a
    ·go_wp2_with fail
     refine wp_region_held_drew (S:=fun w'=>w'.cell? ⟨w.heap.size,0,none⟩=some (.int .i64 a)∧w'.cell? ⟨w.heap.size,1,none⟩=some (.int .i64 b)∧w'.cell? ⟨w.heap.size,2,none⟩=some (.int .i64 c)) k_ ⟨c0,c1,c2⟩ (fun hHeld=>?_)
     refine tq 0 ?_;refine tq 1 ?_;refine tq 2 ?_;refine tq 3 ?_;refine tq 4 ?_;refine tq 5 ?_;refine tq 6 ?_;refine wpAnyH_done k_ ?_ _
     clear c0 c1 c2;go_wp2_with fail
     go_roundw
     case rel=>exact ⟨2,3,rfl,rfl,o_,o_,fun h=>absurd h o_,fun h=>absurd h o_,fun _=>by rw [HL.out,if_neg o_,if_neg o_],HB1.out⟩
     case measure=>simp [intOf]
    ·go_wp2_with fail
     refine wp_region_held_drew (S:=fun w'=>w'.cell? ⟨w.heap.size,0,none⟩=some (.int .i64 a)∧w'.cell? ⟨w.heap.size,1,none⟩=some (.int .i64 b)∧w'.cell? ⟨w.heap.size,2,none⟩=some (.int .i64 c)) k_ ⟨c0,c1,c2⟩ (fun hHeld=>?_)
     refine tq 0 ?_;refine tq 1 ?_;refine tq 2 ?_;refine tq 3 ?_;refine tq 4 ?_;refine tq 5 ?_;refine tq 6 ?_;refine wpAnyH_done k_ ?_ _
     clear c0 c1 c2;go_wp2_with fail
     go_roundw
     case rel=>exact ⟨0,3,rfl,rfl,o_,o_,fun h=>absurd h o_,fun h=>absurd h o_,fun _=>by rw [HL.out,if_pos o_],HB1.out⟩
     case measure=>simp [intOf]
  ·obtain rfl:=e3 rfl
   have hz:=ht_ HB0.out hB;have hLl:q≤2:=by rw [HL.out];repeat' split <;> try omega
   have wq:IntKind.i64.wrap ((q:Int)+1)=(q:Int)+1:=IntWalk.i64_in _ o_
   clear e1 e2 e3 c0 c1 c2 hLl;go_wp2_with fail;go_ret;exact ⟨rfl,hz⟩
def Mk (w:World) (b:Nat) (n:Nat) (m:Nat→Bool):Prop:=b<w.heap.size∧∀ i,i<n→w.cell? ⟨b,i,none⟩=some (.bool (m i))∧w.frozen? ⟨b,i,none⟩=false
def nxR (c:Nat→Bool) (wl:Nat→Int) (n:Nat):Int:=match nxV c wl n with
 | none=>-1
 | some b=>b
theorem q0jc (c:Nat→Bool) (wl:Nat→Int) (n:Nat):nxR c wl (n+1)=if c n=false then nxR c wl n else if nxR c wl n<0 then n else if wl (nxR c wl n).toNat<wl n then n else nxR c wl n:=by
 unfold nxR;rw [nxV]
 cases h:nxV c wl n with
 | none =>
  dsimp only
  cases hc:c n with
  | false=>rw [if_pos rfl,if_neg Bool.false_ne_true]
  | true=>rw [if_neg (show ¬ (true=false) by decide),if_pos rfl,if_pos o_]
 | some b =>
  dsimp only
  cases hc:c n with
  | false=>rw [if_pos rfl,Bool.false_and,if_neg Bool.false_ne_true]
  | true =>
   rw [if_neg (show ¬ (true=false) by decide),if_neg (show ¬ ((b:Int)<0) by omega),Bool.true_and]
   by_cases hw:wl b<wl n
   ·rw [if_pos (decide_eq_true hw),if_pos (show wl ((b:Int)).toNat<wl n by exact hw)]
   ·rw [if_neg (by rw [decide_eq_true_eq];exact hw),if_neg (show ¬ wl ((b:Int)).toNat<wl n by exact hw)]
theorem nxR_bd (c:Nat→Bool) (wl:Nat→Int) (n:Nat):-1≤nxR c wl n∧nxR c wl n<n:=by
 unfold nxR
 have:=q0fz c wl n
 cases h:nxV c wl n with
 | none=>dsimp only;omega
 | some b=>rw [h] at this;have:=this.1;dsimp only;omega
theorem q0kj (A0:Option Addr) (n0 d0:Nat) (A1:Option Addr) (n1 d1:Nat) (A2:Option Addr) (d2:Nat) (P:List PC) (X:List Fx) (M mc:Nat) (mk:Nat→Bool) (w:World)
  (hp:shPr.In w A1 n1 P) (hn1:n1≤9223372036854775806) (hx:shX.In w A2 X.length X) (hX:X.length≤1000) (hW:WOk P X) (hm:Mk w M X.length mk) :
  Rt 39 #[.agg #[.slice A0 n0 d0,.slice A1 n1 d1,.slice A2 X.length d2],.slice (some ⟨M,0,none⟩) X.length mc] w (.int .i64 (nxR (fun i=>!mk i && leadsB X i) (fun i=>uW (wN P X) (unitAt X i)) X.length)):=by
 have HX:=hj_ hx;have HLn:=hj_ hX;have HM:=hj_ hm;have HUn:=hj_ (fun (i:Nat) (hi:i<X.length) w' (hb:Below w.heap.size w w')=>q0kl A0 n0 d0 A1 n1 d1 A2 d2 P X i w' (hp.below hb) hn1 (hx.below hb) hX hW hi)
 have HLd:=hj_ (fun (i:Nat) (hi:i<X.length) w' (hb:Below w.heap.size w w')=>q0kh A2 d2 X i w' (hx.below hb) hX hi)
 have HSt:=hj_ (q0jc (fun i=>!mk i && leadsB X i) (fun i=>uW (wN P X) (unitAt X i)))
 have HNb:=hj_ (nxR_bd (fun i=>!mk i && leadsB X i) (fun i=>uW (wN P X) (unitAt X i)))
 obtain ⟨W,HW,HB0,HK⟩:=bx3 w (.slice A0 n0 d0) (.slice A1 n1 d1) (.slice A2 X.length d2) 34;have hB:=Below.refl W.heap.size W;obtain ⟨c0,c1,c2⟩:=HK.out W hB;clear hx hX hW hp hm
 go_enter func39,ntmps39
 go_wp2_with fail;rw [← HW.out];clear c0 c1 c2 hB
 go_loopw [5,6] (fun bv iv wr=>∃ k:Nat,k≤X.length∧iv=.int .i64 k∧bv=.int .i64 (nxR (fun i=>!mk i && leadsB X i) (fun i=>uW (wN P X) (unitAt X i)) k)∧Below W.heap.size W wr) (fun _ iv _=>X.length-(intOf iv).toNat)
 case atStart=>exact ⟨0,Nat.zero_le _,rfl,rfl,br_⟩
 case round =>
  obtain ⟨k,hk,rfl,rfl,hB⟩:=hrel;obtain ⟨c0,c1,c2⟩:=HK.out _ hB
  by_cases hlt:k<X.length
  ·have i0:(0:Int)≤(k:Int):=by omega
   have i1:(k:Int)<(X.length:Int):=o_
   have w0:IntKind.i64.wrap ((k:Int)+1)=(k:Int)+1:=IntWalk.i64_in _ (oh_ HLn.out)
   have hst:=HSt.out k;have hnb:=HNb.out k;have hld:=HLd.out k hlt;have hun:=HUn.out k hlt;have hmk:=(HM.out.2 k hlt).1;have hml:=HM.out.1;have HLt:=hj_ hlt;have hB1:=q18 hB 1;have HBd:=hj_ hB1;have mk0:=((ht_ HB0.out hB1).cell (p:=⟨M,k,none⟩) hml).trans hmk;have hmw:=Nat.lt_of_lt_of_le hml (Nat.le_trans HB0.out.size hB1.size);obtain ⟨nx1,hnx1⟩:=ex_ (nxR (fun i=>!mk i && leadsB X i) (fun i=>uW (wN P X) (unitAt X i)) (k+1))
   rw [← hnx1] at hst;have HNx1:=hj_ hnx1;generalize hnx:nxR (fun i=>!mk i && leadsB X i) (fun i=>uW (wN P X) (unitAt X i)) k=nx at *
   generalize uW (wN P X) (unitAt X k)=uk at *;generalize hlb:leadsB X k=lb at *;generalize hdb:mk k=db at *;have HMk:=hj_ (fun w' (hb:Below W.heap.size W w')=>((ht_ HB0.out hb).cell (p:=⟨M,k,none⟩) hml).trans hmk)
   have HLd2:=hj_ hld;have HUn2:=hj_ hun;obtain ⟨c0,c1,c2⟩:=HK.out _ hB1;clear hmk hld hun hnx1 hnx hlb hdb hlt hB hml
   cases db with
   | true =>
    rw [Bool.not_true,Bool.false_and,if_pos rfl] at hst;go_wp2_with fail;refine wp_region_held_drew (S:=fun w'=>w'.cell? ⟨w.heap.size,0,none⟩=some (.slice A0 n0 d0)∧w'.cell? ⟨w.heap.size,1,none⟩=some (.slice A1 n1 d1)∧w'.cell? ⟨w.heap.size,2,none⟩=some (.slice A2 X.length d2)∧w'.cell? ⟨M,k,none⟩=some (.bool true)) k_ ⟨c0,c1,c2,mk0⟩ (fun hHeld=>?_)
    refine tq 0 ?_;refine tq 1 ?_;refine tq 2 ?_;refine tq 3 ?_;refine tq 4 ?_;refine tq 5 ?_;refine tq 6 ?_;refine tq 7 ?_;refine tq 8 ?_;refine tq 9 ?_;refine tq 10 ?_;refine tq 11 ?_;refine tq 12 ?_;refine tq 13 ?_;refine tq 14 ?_;refine tq 15 ?_;refine tq 16 ?_;refine tq 17 ?_;refine tq 18 ?_;refine tq 19 ?_;refine tq 20 ?_;refine tq 21 ?_;refine tq 22 ?_;refine tq 23 ?_;refine wpAnyH_done k_ ?_ _
    clear c0 c1 c2 mk0;go_wp2_with fail
    go_roundw
    case rel=>exact ⟨k+1,HLt.out,by go_num,by rw [← HNx1.out,hst],HBd.out⟩
    case measure=>have:=HLt.out;simp [intOf];omega
   | false =>
    cases lb with
    | false =>
     rw [Bool.and_false,if_pos rfl] at hst;replace hB:=HBd.out;go_wp2_with fail;refine wp_region_held_drew (S:=fun w'=>w'.cell? ⟨w.heap.size,0,none⟩=some (.slice A0 n0 d0)∧w'.cell? ⟨w.heap.size,1,none⟩=some (.slice A1 n1 d1)∧w'.cell? ⟨w.heap.size,2,none⟩=some (.slice A2 X.length d2)∧w'.cell? ⟨M,k,none⟩=some (.bool false)) k_ ⟨c0,c1,c2,mk0⟩ (fun hHeld=>?_)
     refine tq 0 ?_;refine tq 1 ?_;refine tq 2 ?_;refine tq 3 ?_;refine tq 4 ?_;refine tq 5 ?_;refine tq 6 ?_;refine tq 7 ?_;refine tq 8 ?_;refine tr 9 fun K hK=>?_
     go_simp
     go_at_call 70;refine up_ (HLd2.out _ (ht_ HB0.out hB)) hB fun wk hB=>?_;obtain ⟨c0,c1,c2⟩:=HK.out _ hB;replace mk0:=HMk.out _ hB
     go_wp2_with fail;refine hK.out _ _ ⟨c0,c1,c2,mk0⟩ (fun hHeld=>?_)
     clear hK K;refine tq 10 ?_;refine tq 11 ?_;refine tq 12 ?_;refine tq 13 ?_;refine tq 14 ?_;refine tq 15 ?_;refine tq 16 ?_;refine tq 17 ?_;refine tq 18 ?_;refine tq 19 ?_;refine tq 20 ?_;refine tq 21 ?_;refine tq 22 ?_;refine tq 23 ?_;refine wpAnyH_done k_ ?_ _
     clear c0 c1 c2 mk0;have HBz:=hj_ hB;go_wp2_with fail
     go_roundw
     case rel=>exact ⟨k+1,HLt.out,by go_num,by rw [← HNx1.out,hst],HBz.out⟩
     case measure=>have:=HLt.out;simp [intOf];omega
    | true =>
     rw [Bool.not_false,Bool.true_and,if_neg (show ¬ (true=false) by decide)] at hst
     replace hB:=HBd.out
     by_cases hneg:nx<0
     ·rw [if_pos hneg] at hst
      go_wp2_with fail;refine wp_region_held_drew (S:=fun w'=>w'.cell? ⟨w.heap.size,0,none⟩=some (.slice A0 n0 d0)∧w'.cell? ⟨w.heap.size,1,none⟩=some (.slice A1 n1 d1)∧w'.cell? ⟨w.heap.size,2,none⟩=some (.slice A2 X.length d2)∧w'.cell? ⟨M,k,none⟩=some (.bool false)) k_ ⟨c0,c1,c2,mk0⟩ (fun hHeld=>?_)
      refine tq 0 ?_;refine tq 1 ?_;refine tq 2 ?_;refine tq 3 ?_;refine tq 4 ?_;refine tq 5 ?_;refine tq 6 ?_;refine tq 7 ?_;refine tq 8 ?_;refine tr 9 fun K hK=>?_
      go_simp
      go_at_call 70;refine up_ (HLd2.out _ (ht_ HB0.out hB)) hB fun wk hB=>?_;obtain ⟨c0,c1,c2⟩:=HK.out _ hB;replace mk0:=HMk.out _ hB
      go_wp2_with fail;refine hK.out _ _ ⟨c0,c1,c2,mk0⟩ (fun hHeld=>?_)
      clear hK K;refine tq 10 ?_;refine tq 11 ?_;refine tq 12 ?_;refine tq 13 ?_;refine tq 14 ?_;refine tq 15 ?_;refine tq 16 ?_;refine tq 17 ?_;refine tq 18 ?_;refine tq 19 ?_;refine tq 20 ?_;refine tq 21 ?_;refine tq 22 ?_;refine tq 23 ?_;refine wpAnyH_done k_ ?_ _
      clear c0 c1 c2 mk0;have HBz:=hj_ hB;go_wp2_with fail
      go_roundw
      case rel=>exact ⟨k+1,HLt.out,by go_num,by rw [← HNx1.out,hst],HBz.out⟩
      case measure=>have:=HLt.out;simp [intOf];omega
     ·rw [if_neg hneg] at hst
      obtain ⟨q,rfl⟩:∃ q:Nat,nx=q:=⟨nx.toNat,o_⟩
      have hqX:q<X.length:=by have:=HLt.out;omega
      have HUq:=hj_ (HUn.out q hqX);rw [show ((q:Int)).toNat=q by omega] at hst
      generalize uW (wN P X) (unitAt X q)=uq at *
      by_cases hgt:uq<uk
      ·rw [if_pos hgt] at hst
       go_wp2_with fail;refine wp_region_held_drew (S:=fun w'=>w'.cell? ⟨w.heap.size,0,none⟩=some (.slice A0 n0 d0)∧w'.cell? ⟨w.heap.size,1,none⟩=some (.slice A1 n1 d1)∧w'.cell? ⟨w.heap.size,2,none⟩=some (.slice A2 X.length d2)∧w'.cell? ⟨M,k,none⟩=some (.bool false)) k_ ⟨c0,c1,c2,mk0⟩ (fun hHeld=>?_)
       refine tq 0 ?_;refine tq 1 ?_;refine tq 2 ?_;refine tq 3 ?_;refine tq 4 ?_;refine tq 5 ?_;refine tq 6 ?_;refine tq 7 ?_;refine tq 8 ?_;refine tr 9 fun K hK=>?_
       go_simp
       go_at_call 70;refine up_ (HLd2.out _ (ht_ HB0.out hB)) hB fun wk hB=>?_;obtain ⟨c0,c1,c2⟩:=HK.out _ hB;replace mk0:=HMk.out _ hB
       go_wp2_with fail;refine hK.out _ _ ⟨c0,c1,c2,mk0⟩ (fun hHeld=>?_)
       clear hK K;refine tq 10 ?_;refine tq 11 ?_;refine tq 12 ?_;refine tq 13 ?_;refine tq 14 ?_;refine tq 15 ?_;refine tq 16 ?_;refine tq 18 ?_;refine tq 19 ?_;refine tr 17 fun K hK=>?_
       go_simp
       go_at_call 41;refine up_ (HUn2.out _ (ht_ HB0.out hB)) hB fun wk hB=>?_;obtain ⟨c0,c1,c2⟩:=HK.out _ hB;replace mk0:=HMk.out _ hB
       go_wp2_with fail;refine hK.out _ _ ⟨c0,c1,c2,mk0⟩ (fun hHeld=>?_)
       clear hK K;refine tr 20 fun K hK=>?_
       go_simp
       go_at_call 41;refine up_ (HUq.out _ (ht_ HB0.out hB)) hB fun wk hB=>?_;obtain ⟨c0,c1,c2⟩:=HK.out _ hB;replace mk0:=HMk.out _ hB
       go_wp2_with fail;refine hK.out _ _ ⟨c0,c1,c2,mk0⟩ (fun hHeld=>?_)
       clear hK K;refine tq 21 ?_;refine tq 22 ?_;refine tq 23 ?_;refine wpAnyH_done k_ ?_ _
       clear c0 c1 c2 mk0;have HBz:=hj_ hB;go_wp2_with fail
       go_roundw
       case rel=>exact ⟨k+1,HLt.out,by go_num,by rw [← HNx1.out,hst],HBz.out⟩
       case measure=>have:=HLt.out;simp [intOf];omega
      ·rw [if_neg hgt] at hst
       go_wp2_with fail;refine wp_region_held_drew (S:=fun w'=>w'.cell? ⟨w.heap.size,0,none⟩=some (.slice A0 n0 d0)∧w'.cell? ⟨w.heap.size,1,none⟩=some (.slice A1 n1 d1)∧w'.cell? ⟨w.heap.size,2,none⟩=some (.slice A2 X.length d2)∧w'.cell? ⟨M,k,none⟩=some (.bool false)) k_ ⟨c0,c1,c2,mk0⟩ (fun hHeld=>?_)
       refine tq 0 ?_;refine tq 1 ?_;refine tq 2 ?_;refine tq 3 ?_;refine tq 4 ?_;refine tq 5 ?_;refine tq 6 ?_;refine tq 7 ?_;refine tq 8 ?_;refine tr 9 fun K hK=>?_
       go_simp
       go_at_call 70;refine up_ (HLd2.out _ (ht_ HB0.out hB)) hB fun wk hB=>?_;obtain ⟨c0,c1,c2⟩:=HK.out _ hB;replace mk0:=HMk.out _ hB
       go_wp2_with fail;refine hK.out _ _ ⟨c0,c1,c2,mk0⟩ (fun hHeld=>?_)
       clear hK K;refine tq 10 ?_;refine tq 11 ?_;refine tq 12 ?_;refine tq 13 ?_;refine tq 14 ?_;refine tq 15 ?_;refine tq 16 ?_;refine tq 18 ?_;refine tq 19 ?_;refine tr 17 fun K hK=>?_
       go_simp
       go_at_call 41;refine up_ (HUn2.out _ (ht_ HB0.out hB)) hB fun wk hB=>?_;obtain ⟨c0,c1,c2⟩:=HK.out _ hB;replace mk0:=HMk.out _ hB
       go_wp2_with fail;refine hK.out _ _ ⟨c0,c1,c2,mk0⟩ (fun hHeld=>?_)
       clear hK K;refine tr 20 fun K hK=>?_
       go_simp
       go_at_call 41;refine up_ (HUq.out _ (ht_ HB0.out hB)) hB fun wk hB=>?_;obtain ⟨c0,c1,c2⟩:=HK.out _ hB;replace mk0:=HMk.out _ hB
       go_wp2_with fail;refine hK.out _ _ ⟨c0,c1,c2,mk0⟩ (fun hHeld=>?_)
       clear hK K;refine tq 21 ?_;refine tq 22 ?_;refine tq 23 ?_;refine wpAnyH_done k_ ?_ _
       clear c0 c1 c2 mk0;have HBz:=hj_ hB;go_wp2_with fail
       go_roundw
       case rel=>exact ⟨k+1,HLt.out,by go_num,by rw [← HNx1.out,hst],HBz.out⟩
       case measure=>have:=HLt.out;simp [intOf];omega
  ·obtain rfl:k=X.length:=by omega
   have hz:=ht_ HB0.out hB;go_wp2_with fail;go_ret;exact ⟨rfl,hz⟩
def mkL (n:Nat) (m:Nat→Bool):List Value:=(List.range n).map fun i=>.bool (m i)
theorem mkL_at (m:Nat→Bool) (hi:i<n):(mkL n m)[i]? = some (.bool (m i)):=by unfold mkL;simp [hi]
theorem q0jb (m:Nat→Bool) (hi:i<n) (v:Bool):(mkL n m).set i (.bool v)=mkL n (fun k=>if k=i then v else m k):=by
 apply List.ext_getElem?
 intro k;rw [List.getElem?_set]
 by_cases h:i=k
 ·subst h
  rw [if_pos rfl,if_pos (by unfold mkL;simpa using hi),mkL_at _ hi,if_pos rfl]
 ·rw [if_neg h]
  rcases Nat.lt_or_ge k n with h2 | h2
  ·rw [mkL_at m h2,mkL_at _ h2,if_neg (fun e=>h e.symm)]
  ·rw [List.getElem?_eq_none (by unfold mkL;simpa using h2),List.getElem?_eq_none (by unfold mkL;simpa using h2)]
theorem q0j9 {m k:Nat→Bool} (h:∀ i,i<n→m i=k i):mkL n m=mkL n k:=by
 unfold mkL;exact List.map_congr_left fun i hi=>by rw [h i (List.mem_range.1 hi)]
theorem q0ja (n:Nat) (m:Nat→Bool):(mkL n m).length=n:=by unfold mkL;simp
theorem Mk.of {m:Nat→Bool} (h:Cells w D (mkL n m)):Mk w D n m:=⟨h.1,fun _ hi=>⟨h.at_ (mkL_at m hi),h.fr (mkL_at m hi)⟩⟩
theorem q0j8 (n:Nat):(madeCells (Value.bool false).cells (n*1)).toList=mkL n (fun _=>false):=by
 unfold mkL;refine List.ext_getElem (by simp [madeCells]) fun i h1 h2=>?_
 simp [madeCells,Value.cells,Nat.mod_one]
theorem infoBo:(prog.info? 4).map (fun i=>(i.zero,i.size,i.bytes))=some (some (.bool false),1,1):=k_
theorem q0j3 {base:Nat} {e:TypeId} {g c:Nat} {xs:List Value} (h:w.ownsRow base e 1 (.slice (some ⟨g,0,none⟩) n c) n xs):Cells w g xs :=
 ⟨(q0g1 h (b:=g) rfl).2.1,fun j u hu=>⟨(h.cellAt j (by have:=(List.getElem?_eq_some_iff.1 hu).1;have:=h.1;omega)).trans hu,h.frozenAt j⟩⟩
theorem q0j5 {U:List (List Nat)} {j:Nat} (hj:j<U.length) (k:Nat):doneB (U.take (j+1)) k=(doneB (U.take j) k || decide (k ∈ U[j])):=by
 unfold doneB;rw [List.take_succ_eq_append_getElem hj,List.any_append];simp
theorem nx_is {U:List (List Nat)} (hU:U.Perm (unitsV X)) (hs:U.Pairwise (ltU (wN P X))) (j:Nat) (hj:j≤U.length) :
  nxR (fun i=>!doneB (U.take j) i && leadsB X i) (fun i=>uW (wN P X) (unitAt X i)) X.length=if h:j<U.length then ((headN U[j]:Nat):Int) else -1:=by
 unfold nxR;rw [q0fw (fun u=>hU.mem_iff) hs j hj]
 by_cases h:j<U.length
 ·rw [dif_pos h,List.getElem?_eq_getElem h];rfl
 ·rw [dif_neg h,List.getElem?_eq_none o_];rfl
open Classical in
noncomputable def cntD (w:World) (D n:Nat):Nat:=((List.range n).filter fun i=>decide (w.cell? ⟨D,i,none⟩=some (.bool true))).length
theorem q0j4 {m:Nat→Bool} (h:Cells w D (mkL n m)):cntD w D n=((List.range n).filter m).length:=by
 unfold cntD
 congr 1
 apply List.filter_congr
 intro i hi;rw [h.at_ (mkL_at m (List.mem_range.1 hi))]
 cases m i <;> simp
theorem cnt_lt {m k:Nat→Bool} (h:∀ i,m i=true→k i=true) (h1:m i=false) (h2:k i=true):∀ {n},i<n→((List.range n).filter m).length<((List.range n).filter k).length:=by
 have le:∀ n,((List.range n).filter m).length≤((List.range n).filter k).length:=by
  intro n
  induction n with
  | zero=>exact Nat.le_refl _
  | succ n ih =>
   rw [List.range_succ,List.filter_append,List.filter_append,List.length_append,List.length_append]
   have:=h n
   cases hm:m n <;> cases hk:k n <;> simp [hm,hk] at * <;> omega
 intro n
 induction n with
 | zero=>intro h;omega
 | succ n ih =>
  intro hi;rw [List.range_succ,List.filter_append,List.filter_append,List.length_append,List.length_append]
  by_cases e:i=n
  ·subst e
   have:=le i
   simp [h1,h2];omega
  ·have h3:=ih o_
   have:=h n
   cases hm:m n <;> cases hk:k n <;> simp [hm,hk] at * <;> omega
theorem cnt_le (m:Nat→Bool) (n:Nat):((List.range n).filter m).length≤n:=by
 have:=List.length_filter_le m (List.range n)
 rwa [List.length_range] at this
theorem vs_at6 (X:List Fx) (p:Nat→Int) (x:Nat) (hx:x<X.length):(shX.vs (setPh X p))[x*7+6]? = some (.string (cbV X x)):=by
 have hx2:x<(setPh X p).length:=by rw [q0ht];exact hx
 have h:=shX.vs_at (setPh X p) x hx2 6 d_
 rw [q0hr X p x hx2 hx] at h;rw [cb_at hx];exact h
theorem q0kd (A0:Option Addr) (n0 d0:Nat) (A1:Option Addr) (n1 d1:Nat) (A2:Option Addr) (n2 d2:Nat) (E:Int) (hE:E≠0) (w:World) (hck:∀ w',Below w.heap.size w w'→Calls prog 38 #[.agg #[.slice A0 n0 d0,.slice A1 n1 d1,.slice A2 n2 d2]] w' fun e w''=>e=.returned (.int .i64 E)∧Below w'.heap.size w' w'') :
  Rt 10 #[.agg #[.slice A0 n0 d0,.slice A1 n1 d1,.slice A2 n2 d2]] w (.tuple #[.slice none 0 0,.int .i64 E]):=by
 have HO:=hj_ hck;have g1:(E == 0)=false:=by simpa using hE
 have g2:(E != 0)=true:=by simpa using hE
 obtain ⟨W,HW,HB0,HK⟩:=bx3 w (.slice A0 n0 d0) (.slice A1 n1 d1) (.slice A2 n2 d2) 34;have hB:=Below.refl W.heap.size W;obtain ⟨c0,c1,c2⟩:=HK.out W hB;clear hck hE
 go_enter func10,ntmps10
 go_wp2_with fail;rw [← HW.out];go_wp2_with fail;refine (HO.out _ (ht_ HB0.out hB)).mono ?_;rintro e wk ⟨rfl,hb⟩;replace hB:=ht_ hB hb;have hz:=ht_ HB0.out hB;clear hb c0 c1 c2;go_wp2_with fail;go_ret2;refine ⟨?_,hz⟩
 go_simp
theorem q0kf (A0:Option Addr) (n0 d0:Nat) (A1:Option Addr) (n1 d1:Nat) (ad:Addr) (d2:Nat) (P:List PC) (X:List Fx) (U:List (List Nat)) (w:World) (hck:∀ w',Below w.heap.size w w'→Calls prog 38 #[.agg #[.slice A0 n0 d0,.slice A1 n1 d1,.slice (some ad) X.length d2]] w' fun e w''=>e=.returned (.int .i64 0)∧Below w'.heap.size w' w'')
  (hp:shPr.In w A1 n1 P) (hn1:n1≤9223372036854775806) (hx:shX.In w (some ad) X.length X) (hX:X.length≤64) (hW:WOk P X) (hU:U.Perm (unitsV X)) (hUs:U.Pairwise (ltU (wN P X))) :
  Calls prog 10 #[.agg #[.slice A0 n0 d0,.slice A1 n1 d1,.slice (some ad) X.length d2]] w fun e w'=>∃ r,e=.returned (.tuple #[r,.int .i64 0])∧shX.Out 45 (setPh X (runU (wN P X) (fun i=>(X.getD i fx0).ph) U).2) w r w':=by
 obtain ⟨px,hpx⟩:∃ px:Nat→Int,px=fun i=>(X.getD i fx0).ph:=⟨_,rfl⟩
 rw [← hpx];have HPx:=hj_ hpx;have HO:=hj_ hck;have HXw:=hj_ (fun w' (hb:Below w.heap.size w w')=>hx.below hb)
 have HPw:=hj_ (fun w' (hb:Below w.heap.size w w')=>hp.below hb)
 have HX64:=hj_ hX;have HWk:=hj_ hW;have HN1:=hj_ hn1;have HUp:=hj_ hU;have HNx:=hj_ (nx_is (P:=P) hU hUs);have hUlt:∀ u ∈ U,∀ i ∈ u,i<X.length:=fun u hu=>q0ik u (hU.subset hu)
 have hUl2:U.length≤64:=by have:=hU.length_eq;have:=q0ij (X:=X);omega
 have hUm:∀ u ∈ U,u.length≤64:=fun u hu=>by
  obtain ⟨i,hi,e⟩:=q0il.1 (hU.subset hu);rw [e];unfold unitAt
  have:=List.length_filter_le (fun k=>decide (uKey X k=uKey X i)) (List.range X.length)
  rw [List.length_range] at this;omega
 have HBd:=hj_ (spr_bd (ph:=px) hW hX hUlt hUm hUl2);have HHd:=hj_ (show ∀ u ∈ U,headN u<X.length∧∀ k,k ∈ u↔k<X.length∧uKey X k=uKey X (headN u) from fun u hu=>by
  obtain ⟨i,hi,rfl⟩:=q0il.1 (hU.subset hu);have h1:=q0ih.1 (q0ii hi).1;exact ⟨h1.1,fun k=>by rw [q0ih,h1.2]⟩)
 obtain ⟨i0,hi,hz0,hzz1,hz2⟩:=info_parts q056;obtain ⟨j0,hj,hw0,hwz1,hw2⟩:=info_parts infoBo;have HI:=hj_ (And.intro hi (And.intro hz0 (And.intro hzz1 hz2)));have HJ:=hj_ (And.intro hj (And.intro hw0 (And.intro hwz1 hw2)));have hlen:(shX.vs X).length=X.length*7:=by rw [shX.vs_length];rfl
 have hnews:Hid (∀ w',Below w.heap.size w w'→∀ j u,(shX.vs X)[j]? = some u→w'.cell? (ad.add j)=some u):=hj_ (fun w' hb' j u hu=>by
  have hlt:j<(shX.vs X).length:=(List.getElem?_eq_some_iff.1 hu).1;obtain ⟨b,o,e,hb,hc⟩:=hx.2.2 o_
  injection e with e
  subst e
  have:=(hb'.cell (p:=⟨b,o+j,none⟩) hb).trans (hc j u hu)
  rwa [show ((⟨b,o,none⟩:Addr).add j)=⟨b,o+j,none⟩ by unfold Addr.add;split <;> simp_all])
 have HLen:=hj_ hlen;have HOne:=hj_ (q04x X);obtain ⟨W,HW,HB0,HK⟩:=bx3 w (.slice A0 n0 d0) (.slice A1 n1 d1) (.slice (some ad) X.length d2) 34;have hB:=Below.refl W.heap.size W;obtain ⟨c0,c1,c2⟩:=HK.out W hB;clear hck hp hn1 hx hX hW hU hUs hUlt hUl2 hUm hpx hi hz0 hzz1 hz2 hj hw0 hwz1 hw2 hlen
 go_enter func10,ntmps10
 go_wp2_with fail;rw [← HW.out];go_wp2_with fail;refine (HO.out _ (ht_ HB0.out hB)).mono ?_;rintro e wk ⟨rfl,hb⟩;replace hB:=ht_ hB hb;have HBk:=hj_ hB;obtain ⟨c0,c1,c2⟩:=HK.out _ hB;have c2':(wk.alloc (.cells #[] 45)).cell? ⟨w.heap.size,2,none⟩=some (.slice (some ad) X.length d2):=Lib.cell?_alloc_some _ c2;clear hb c0 c1 c2 hB;go_wp2_with (first | (at_builtin;refine wpList_append_own _ rfl _ _ 24 rfl wk.heap.size 45 i0 _ 7 72 underlying24 HI.out.1 HI.out.2.1 HI.out.2.2.1 HI.out.2.2.2 rfl d_ _ _ _ rfl (World.ownsRow_made wk #[] 0 lr_ (Nat.zero_le _) s_) ad X.length d2 (shX.vs X) rfl HLen.out (fun j u hj=>Lib.cell?_alloc_some _ (hnews.out wk (ht_ HB0.out HBk.out) j u hj)) HOne.out (by unfold maxLen;have:=HX64.out;omega) (oh_ HX64.out) s_ ?_;intro v' w3 hown hgrow hnil;have ho3:w3.ownsRow wk.heap.size 45 7 v' X.length (shX.vs X):=(by simpa using hown);obtain ⟨oA,oc,rfl⟩:=qfu ho3;have HO3:=hj_ ho3;have HB3:=hj_ (HBk.out.trans ((((Below.refl _ wk).alloc lr_ _).grown hgrow s_ (fun k e=>by have e:some wk.heap.size=some k:=e;injection e with e;omega)).mono HBk.out.size));clear hown hgrow hnil ho3) | (refine wpList_make_full _ rfl _ _ _ rfl w3.heap.size 4 j0 (.bool false) 1 underlying95 HJ.out.1 HJ.out.2.1 HJ.out.2.2.1 .i64 .i64 _ _ X.length rfl rfl rfl rfl (by rw [HJ.out.2.2.2];have:=HX64.out;omega) (by unfold maxLen;have:=HX64.out;omega) lr_ ?_;intro w4 hown4 hg4;rw [q0j8] at hown4;have HD4:=hj_ (q0j3 hown4);have hb4:Below w3.heap.size w3 w4:=((br_).grown hg4 lr_ (fun k e=>by cases e));have HB4:=hj_ (ht_ HB3.out hb4);have HO4:=hj_ (q0g2 HO3.out fun q hq=>hb4.block q (q0g1 HO3.out hq).2.1);have HS4:=hj_ (show w3.heap.size<w4.heap.size from HD4.out.1);obtain ⟨k0,k1,k2⟩:=HK.out _ HB4.out;have c0:(w4.alloc (.cells #[.int .i64 0,.int .i64 0,.int .i64 0] 47)).cell? ⟨w.heap.size,0,none⟩=some (.slice A0 n0 d0):=Lib.cell?_alloc_some _ k0;have c1:(w4.alloc (.cells #[.int .i64 0,.int .i64 0,.int .i64 0] 47)).cell? ⟨w.heap.size,1,none⟩=some (.slice A1 n1 d1):=Lib.cell?_alloc_some _ k1;have c2:(w4.alloc (.cells #[.int .i64 0,.int .i64 0,.int .i64 0] 47)).cell? ⟨w.heap.size,2,none⟩=some (.slice (some ad) X.length d2):=Lib.cell?_alloc_some _ k2;clear hown4 hg4 hb4 k0 k1 k2))
 obtain ⟨W5,hW5⟩:=ex_ (w4.alloc (.cells #[.int .i64 0,.int .i64 0,.int .i64 0] 47));have hb5:Below w4.heap.size w4 W5:=by rw [hW5];exact (br_).alloc lr_ _
 have HS5:=hj_ (show Cells W5 w4.heap.size [.int .i64 0,.int .i64 0,.int .i64 0] by rw [hW5];exact Cells.fresh w4 [.int .i64 0,.int .i64 0,.int .i64 0] _)
 have HD5:=hj_ (show Cells W5 w3.heap.size (mkL X.length (doneB (U.take 0))) from HD4.out.below hb5 HD4.out.1)
 have HO5:=hj_ (q0g2 HO4.out fun q hq=>hb5.block q (q0g1 HO4.out hq).2.1)
 have HB5:=hj_ (ht_ HB4.out hb5);have HOB:=hj_ (show ∀ q,(Value.slice oA X.length oc).ownBlock=some q→wk.heap.size≤q∧q<w3.heap.size from fun q hq=>⟨(q0g1 HO3.out hq).1,(q0g1 HO3.out hq).2.1⟩)
 have HWk2:=hj_ (show W.heap.size≤wk.heap.size from HBk.out.size)
 have HWk3:=hj_ (show W.heap.size≤w3.heap.size from HB3.out.size)
 have HW5:=hj_ hW5;have HNt:=hj_ (fun (j:Nat) (hj:j≤U.length) w' (hb:Below W.heap.size W w') (hm:Cells w' w3.heap.size (mkL X.length (doneB (U.take j)))) (z:Int) (hz:z=if h:j<U.length then ((headN U[j]:Nat):Int) else -1)=>(show Calls prog 39 #[.agg #[.slice A0 n0 d0,.slice A1 n1 d1,.slice (some ad) X.length d2],.slice (some ⟨w3.heap.size,0,none⟩) X.length X.length] w' fun e w''=>e=.returned (.int .i64 z)∧Below w'.heap.size w' w'' from by
  rw [hz,← HNx.out j hj];exact q0kj A0 n0 d0 A1 n1 d1 (some ad) d2 P X w3.heap.size X.length (doneB (U.take j)) w' (HPw.out _ (ht_ HB0.out hb)) HN1.out (HXw.out _ (ht_ HB0.out hb)) (oh_ HX64.out) HWk.out (Mk.of hm)))
 have HUn:=hj_ (fun (i:Nat) (hi:i<X.length) w' (hb:Below W.heap.size W w')=>q0kl A0 n0 d0 A1 n1 d1 (some ad) d2 P X i w' (HPw.out _ (ht_ HB0.out hb)) HN1.out (HXw.out _ (ht_ HB0.out hb)) (oh_ HX64.out) HWk.out hi)
 clear hb5 hW5 HD4 HO4 HO3 HB3 HB4 HBk hnews HOne HLen c0 c1 c2;rw [← HW5.out];obtain ⟨z0,hz0⟩:∃ z0:Int,z0=if h:0<U.length then ((headN U[0]:Nat):Int) else -1:=⟨_,rfl⟩
 have HZ0:=hj_ hz0;refine (HNt.out 0 (Nat.zero_le _) W5 HB5.out HD5.out z0 hz0).mono ?_;clear hz0;rintro e w6 ⟨rfl,hb⟩;have HB6:=hj_ (ht_ HB5.out hb);have HS6:=hj_ (HS5.out.below hb HS5.out.1);have HD6:=hj_ (HD5.out.below hb HD5.out.1);have HO6:=hj_ (show w6.ownsRow wk.heap.size 45 7 (.slice oA X.length oc) X.length (shX.vs (setPh X (runU (wN P X) px (U.take 0)).2)) by
  show w6.ownsRow wk.heap.size 45 7 (.slice oA X.length oc) X.length (shX.vs (setPh X px))
  rw [HPx.out,q0hu X];exact q0g2 HO5.out fun q hq=>hb.block q (q0g1 HO5.out hq).2.1)
 have HS34:=hj_ (show w3.heap.size<w4.heap.size from HS4.out)
 clear hb HS5 HD5 HO5 HB5;go_wp2_with fail
 go_loopw [8] (fun iv wr=>∃ (j:Nat) (z:Int),j≤U.length∧iv=.int .i64 z∧Hid (z=if h:j<U.length then ((headN U[j]:Nat):Int) else -1)∧Below W.heap.size W wr∧Cells wr w3.heap.size (mkL X.length (doneB (U.take j)))∧Cells wr w4.heap.size [.int .i64 (runU (wN P X) px (U.take j)).1.1,.int .i64 (runU (wN P X) px (U.take j)).1.2.1,.int .i64 (runU (wN P X) px (U.take j)).1.2.2]∧wr.ownsRow wk.heap.size 45 7 (.slice oA X.length oc) X.length (shX.vs (setPh X (runU (wN P X) px (U.take j)).2))) (fun _ wr=>X.length-cntD wr w3.heap.size X.length)
 case atStart=>exact ⟨0,z0,Nat.zero_le _,rfl,HZ0,HB6.out,HD6.out,HS6.out,HO6.out⟩
 case round =>
  obtain ⟨j,z,hj,rfl,hz,hBr,hDr,hSr,hOr⟩:=hrel;have HBr:=hj_ hBr;have HDr:=hj_ hDr;have HSr:=hj_ hSr;have HOr:=hj_ hOr
  by_cases hlt:j<U.length
  ·obtain rfl:z=((headN U[j]:Nat):Int):=by rw [hz.out,dif_pos hlt]
   have hmem:=List.getElem_mem hlt;obtain ⟨hh1,hh2⟩:=HHd.out _ hmem;have hpush:=q0hl (wN P X) px (U.take j) U[j];rw [← List.take_succ_eq_append_getElem hlt] at hpush;have hdn:=fun k=>q0j5 hlt k
   have hbd0:=HBd.out j hj;have hbd1:=HBd.out (j+1) hlt;have huu:uW (wN P X) (unitAt X (headN U[j]))=uW (wN P X) U[j]:=by
    congr 1
    obtain ⟨q,hq,e⟩:=q0il.1 (HUp.out.subset hmem);have h1:=q0ih.1 (q0ii hq).1;rw [e];exact q0ig h1.2
   have hun:=HUn.out (headN U[j]) hh1;rw [huu] at hun;have hnd:doneB (U.take j) (headN U[j])=false:=by
    have hn:U.Nodup:=(HUp.out.nodup_iff).2 (q0in X)
    cases hd:doneB (U.take j) (headN U[j]) with
    | false=>rfl
    | true =>
     exfalso
     unfold doneB at hd;rw [List.any_eq_true] at hd;obtain ⟨v,hv,e⟩:=hd;rw [decide_eq_true_eq] at e;obtain ⟨q,hq,rfl⟩:=List.mem_take_iff_getElem.1 hv;obtain ⟨a,ha,ea⟩:=q0il.1 (HUp.out.subset (List.getElem_mem (l:=U) (n:=q) o_))
     obtain ⟨b,hb,eb⟩:=q0il.1 (HUp.out.subset hmem);rw [ea] at e;have qa:=q0ih.1 e;have qb:=q0ih.1 (q0ii hb).1;rw [eb] at qa
     have:U[q]'o_=U[j]:=by rw [ea,eb];exact q0ig (qa.2.symm.trans qb.2)
     exact absurd this ((List.pairwise_iff_getElem.1 hn) q j o_ hlt o_)
   have HLt:=hj_ hlt;have HDn:=hj_ hdn;have HNd:=hj_ hnd;have HUk:=hj_ hh2;clear hmem hj hdn hnd huu hh2 hDr hOr hBr;generalize hst:runU (wN P X) px (U.take j)=st at *;generalize hst1:runU (wN P X) px (U.take (j+1))=st1 at *;have HST1:=hj_ hst1;generalize U[j]=u at *;obtain ⟨sm,ph⟩:=st;dsimp only at hbd0 hpush hSr;obtain ⟨m,hm⟩:=ex_ (lgt sm);have hm3:m<3:=by rw [hm];exact lgt_lt _
   obtain ⟨uw,huw⟩:=ex_ (uW (wN P X) u);rw [← huw] at hun;have HSt1:=hj_ (show st1=(addS sm m uw,fun k=>if k ∈ u then (m:Int)+1 else ph k) from hpush.trans (by unfold stepU;rw [← hm,← huw]))
   have hlg:=q0ki sm;rw [← hm] at hlg;have HLg:=hj_ hlg;have HUn2:=hj_ hun;have hnth:([Value.int .i64 sm.1,.int .i64 sm.2.1,.int .i64 sm.2.2]:List Value)[m]? = some (.int .i64 (nthS sm m)):=by
    rcases (by omega:m=0∨m=1∨m=2) with e | e | e <;> rw [e] <;> rfl
   have hset:([Value.int .i64 sm.1,.int .i64 sm.2.1,.int .i64 sm.2.2]:List Value).set m (.int .i64 (nthS sm m+uw))=[.int .i64 (addS sm m uw).1,.int .i64 (addS sm m uw).2.1,.int .i64 (addS sm m uw).2.2]:=by
    rcases (by omega:m=0∨m=1∨m=2) with e | e | e <;> rw [e] <;> rfl
   have hb1:0≤nthS sm m∧nthS sm m≤6710886400:=hbd0 m hm3;have hb2:0≤nthS sm m+uw∧nthS sm m+uw≤6710886400:=by
    have h:=hbd1 m hm3;rw [HSt1.out] at h;have e:=q0fy sm m uw m hm3 hm3;rw [if_pos rfl] at e;rw [← e];exact h
   have wv:IntKind.i64.wrap (nthS sm m+uw)=nthS sm m+uw:=IntWalk.i64_in _ o_
   have wm:IntKind.i64.wrap ((m:Int)+1-1)=(m:Int):=by rw [show (m:Int)+1-1=(m:Int) by omega];exact IntWalk.i64_in _ o_
   have wm2:IntKind.i64.wrap (m:Int)=(m:Int):=IntWalk.i64_in _ o_
   have m0:(0:Int)≤(m:Int):=o_
   have m1:(m:Int)<3:=o_
   have HSet:=hj_ hset;have HNth:=hj_ hnth;have s0:=hSr.at_ (j:=0) rfl
   have s1:=hSr.at_ (j:=1) rfl
   have s2:=hSr.at_ (j:=2) rfl
   have sl:=hSr.1;have hx0:(0:Int)≤((headN u:Nat):Int):=o_
   clear hset hnth hb1 hb2 hbd0 hbd1 hm huw hst hst1 hpush hun hlg hSr;generalize nthS sm m=sv at *;generalize headN u=hd at *;go_wp2_with fail;refine (HLg.out _).mono ?_;rintro e w7 ⟨rfl,hb⟩;have HB7:=hj_ (ht_ HBr.out hb);have HS7:=hj_ (HSr.out.below hb HSr.out.1);have HD7:=hj_ (HDr.out.below hb HDr.out.1);have HO7:=hj_ (q0g2 HOr.out fun q hq=>hb.block q (q0g1 HOr.out hq).2.1)
   obtain ⟨c0,c1,c2⟩:=HK.out _ HB7.out;have y0:=HS7.out.at_ HNth.out
   have hne1:w4.heap.size≠w.heap.size:=by
    have h1:=HWk3.out;rw [HW.out] at h1;simp at h1
    have:=HS34.out
    omega
   clear hb s0 s1 s2 sl;go_wp2_with fail;refine wp_region_held_drew (S:=fun w'=>w'.cell? ⟨w.heap.size,0,none⟩=some (.slice A0 n0 d0)∧w'.cell? ⟨w.heap.size,1,none⟩=some (.slice A1 n1 d1)∧w'.cell? ⟨w.heap.size,2,none⟩=some (.slice (some ad) X.length d2)) k_ ⟨c0,c1,c2⟩ (fun hHeld=>?_)
   refine tq 0 ?_;refine tq 1 ?_;refine tq 2 ?_;refine tq 4 ?_;refine tq 5 ?_;refine wpAnyH_ready (rs:=[3,6]) k_ s_ ?_
   refine AllReadyH.cons rfl (fun K hK=>?_) (AllReadyH.cons rfl (fun K hK=>?_) AllReadyH.nil)
   ·go_simp
    refine hK.out _ _ ⟨c0,c1,c2⟩ (fun hHeld=>?_)
    clear hK K;refine tr 6 fun K hK=>?_
    go_simp
    go_at_call 41;refine (HUn2.out _ (q18 HB7.out 1)).mono ?_;rintro e w8 ⟨rfl,hb⟩;have hb8:=(q18 (Below.refl w7.heap.size w7) 1).trans (hb.mono (q18 (Below.refl w7.heap.size w7) 1).size);have HB8:=hj_ (ht_ HB7.out hb8);have HS8:=hj_ (HS7.out.below hb8 HS7.out.1);have HD8:=hj_ (HD7.out.below hb8 HD7.out.1);have HO8:=hj_ (q0g2 HO7.out fun q hq=>hb8.block q (q0g1 HO7.out hq).2.1);obtain ⟨c0,c1,c2⟩:=HK.out _ HB8.out;replace y0:=HS8.out.at_ HNth.out;have z0:=HS8.out.fr HNth.out;have lz:=HS8.out.1;clear hb hb8
    go_wp2_with fail;refine hK.out _ _ ⟨c0,c1,c2⟩ (fun hHeld=>?_)
    clear hK K;refine tq 7 ?_;refine tq 8 ?_;refine tr 9 fun K hK=>?_
    go_simp
    refine hK.out _ _ (by first | exact ⟨(sf_ hne1).trans c0,(sf_ hne1).trans c1,(sf_ hne1).trans c2⟩ | exact ⟨(sf_ hne1.symm).trans c0,(sf_ hne1.symm).trans c1,(sf_ hne1.symm).trans c2⟩) (fun hHeld=>?_)
    clear hK K;refine wpAnyH_done k_ ?_ _
    have hf2:=HS8.out.set m (.int .i64 (sv+uw)) (by show m<3;omega)
    rw [HSet.out] at hf2;have hd2:=HD8.out.far m (.int .i64 (sv+uw)) (show w4.heap.size≠w3.heap.size by have:=HS34.out;omega)
    have ho2:(w8.setCell ⟨w4.heap.size,m,none⟩ (.int .i64 (sv+uw))).ownsRow wk.heap.size 45 7 (.slice oA X.length oc) X.length (shX.vs (setPh X ph)):=q0g2 HO8.out (fun q hq=>Below.heap_setCell _ _ _ _ (by have:=HOB.out q hq;have:=HS34.out;show q≠w4.heap.size;omega))
    have hb9:=HB8.out.setCell (p:=⟨w4.heap.size,m,none⟩) (by show W.heap.size≤w4.heap.size;have:=HB8.out.size;have:=HS34.out;have:=HWk2.out;have:=HWk3.out;omega) (.int .i64 (sv+uw))
    clear c0 c1 c2 y0 z0 lz;generalize w8.setCell ⟨w4.heap.size,m,none⟩ (.int .i64 (sv+uw))=wa at *;have HSa:=hj_ hf2;have HDa:=hj_ hd2;have HOa:=hj_ ho2;have HBa:=hj_ hb9;obtain ⟨O,oc2,hv,hO1,hO2⟩:=HOa.out.form o_
    injection hv with hv hv2 hv3
    subst hv hv3;have hOb:wk.heap.size≤O∧O<w3.heap.size:=HOB.out O rfl;have n5:O≠w3.heap.size:=o_
    have n7:O≠w4.heap.size:=by have:=HS34.out;omega
    have n8:w3.heap.size≠w4.heap.size:=by have:=HS34.out;omega
    have hwO:W.heap.size≤O:=by have:=HWk2.out;omega
    have hwD:W.heap.size≤w3.heap.size:=HWk3.out;have HDs:=hj_ (show Cells wa w3.heap.size (mkL X.length (fun k=>doneB (U.take j) k || (decide (k<0) && decide (k ∈ u)))) by
     rw [q0j9 (k:=doneB (U.take j)) (fun i _=>s_)]
     exact HDa.out)
    have HOs:=hj_ (show wa.ownsRow wk.heap.size 45 7 (.slice (some ⟨O,0,none⟩) X.length oc) X.length (shX.vs (setPh X (fun k=>if k<0∧k ∈ u then (m:Int)+1 else ph k))) by
     rw [q0hs (q:=ph) (fun i _=>s_)]
     exact HOa.out)
    have HC0:=hj_ (q0j4 HDr.out);clear hf2 hd2 ho2 hb9 hO1 hO2;go_wp2_with fail
    go_loopw [10] (fun iv wr=>∃ q:Nat,q≤X.length∧iv=.int .i64 q∧Below W.heap.size W wr∧Cells wr w3.heap.size (mkL X.length (fun k=>doneB (U.take j) k || (decide (k<q) && decide (k ∈ u))))∧Cells wr w4.heap.size [.int .i64 (addS sm m uw).1,.int .i64 (addS sm m uw).2.1,.int .i64 (addS sm m uw).2.2]∧wr.ownsRow wk.heap.size 45 7 (.slice (some ⟨O,0,none⟩) X.length oc) X.length (shX.vs (setPh X (fun k=>if k<q∧k ∈ u then (m:Int)+1 else ph k)))) (fun iv _=>X.length-(intOf iv).toNat)
    case atStart=>exact ⟨0,Nat.zero_le _,rfl,HBa.out,HDs.out,HSa.out,HOs.out⟩
    case round =>
     obtain ⟨q,hq,rfl,hB2,hD2,hS2,hO2⟩:=hrel;have HB2:=hj_ hB2;have HD2:=hj_ hD2;have HS2:=hj_ hS2;have HO2:=hj_ hO2
     by_cases hltq:q<X.length
     ·have i2:(0:Int)≤(q:Int):=by omega
      have i3:(q:Int)<(X.length:Int):=o_
      have i4:(hd:Int)<(X.length:Int):=o_
      have wq1:IntKind.i64.wrap ((q:Int)+1)=(q:Int)+1:=IntWalk.i64_in _ (oh_ HX64.out)
      have hO3:=q0g2 hO2 (fun z hz=>(q18 (Below.refl wr.heap.size wr) 1).block z (q0g1 hO2 hz).2.1)
      have pq:=(hO3.cellAt (q*7+6) o_).trans (vs_at6 X _ q hltq)
      have ph6:=(hO3.cellAt (hd*7+6) o_).trans (vs_at6 X _ hd hh1)
      have hOl:=(q0g1 hO3 (b:=O) rfl).2.1;have hOl2:=(q0g1 hO2 (b:=O) rfl).2.1;have fz:=hO2.frozenAt (q*7+5);have cl:=(hO2.cellAt (q*7+5) o_).trans (vs_at5 X _ q hltq)
      have dz:=hD2.fr (mkL_at _ hltq);have dc:=hD2.at_ (mkL_at _ hltq)
      have dl:=hD2.1;have huq:q ∈ u↔q=hd∨(cbV X q≠⟨#[]⟩∧cbV X q=cbV X hd):=by rw [HUk.out,q0i5];exact ⟨fun h=>h.2,fun h=>⟨hltq,h⟩⟩
      have HUq:=hj_ huq;have HLq:=hj_ hltq;have HNot:=hj_ (show q ∉ u→Cells wr w3.heap.size (mkL X.length (fun k=>doneB (U.take j) k || (decide (k<q+1) && decide (k ∈ u))))∧wr.ownsRow wk.heap.size 45 7 (.slice (some ⟨O,0,none⟩) X.length oc) X.length (shX.vs (setPh X (fun k=>if k<q+1∧k ∈ u then (m:Int)+1 else ph k))) from fun hn=>by
       refine ⟨?_,?_⟩
       ·rw [q0j9 (k:=fun k=>doneB (U.take j) k || (decide (k<q) && decide (k ∈ u))) (fun i _=>by
         by_cases e:i ∈ u
         ·have hne:i≠q:=fun h=>hn (h ▸ e)
          rw [decide_eq_decide.2 (show i<q+1↔i<q by omega)]
         ·rw [decide_eq_false e,Bool.and_false,Bool.and_false])]
        exact HD2.out
       ·rw [q0hs (q:=fun k=>if k<q∧k ∈ u then (m:Int)+1 else ph k) (fun i _=>by
         by_cases e:i ∈ u
         ·have hne:i≠q:=fun h=>hn (h ▸ e)
          by_cases e2:i<q
          ·rw [if_pos ⟨o_,e⟩,if_pos ⟨e2,e⟩]
          ·rw [if_neg (fun h=>o_),if_neg (fun h=>e2 h.1)]
         ·rw [if_neg (fun h=>e h.2),if_neg (fun h=>e h.2)])]
        exact HO2.out)
      have HYes:=hj_ (show q ∈ u→Cells ((wr.setCell ⟨O,q*7+5,none⟩ (.int .i64 ((m:Int)+1))).setCell ⟨w3.heap.size,q,none⟩ (.bool true)) w3.heap.size (mkL X.length (fun k=>doneB (U.take j) k || (decide (k<q+1) && decide (k ∈ u))))∧((wr.setCell ⟨O,q*7+5,none⟩ (.int .i64 ((m:Int)+1))).setCell ⟨w3.heap.size,q,none⟩ (.bool true)).ownsRow wk.heap.size 45 7 (.slice (some ⟨O,0,none⟩) X.length oc) X.length (shX.vs (setPh X (fun k=>if k<q+1∧k ∈ u then (m:Int)+1 else ph k))) from fun hy=>by
       refine ⟨?_,?_⟩
       ·have h1:=(HD2.out.far (q*7+5) (.int .i64 ((m:Int)+1)) n5).set q (.bool true) (by rw [q0ja];exact HLq.out)
        rw [q0jb _ HLq.out] at h1;rw [q0j9 (k:=fun k=>if k=q then true else doneB (U.take j) k || (decide (k<q) && decide (k ∈ u))) (fun i _=>by
         by_cases e:i=q
         ·rw [if_pos e,e,decide_eq_true (Nat.lt_succ_self q),decide_eq_true hy];simp
         ·rw [if_neg e,decide_eq_decide.2 (show i<q+1↔i<q by omega)])]
        exact h1
       ·have h1:=(HO2.out.stored (q*7+5) (.int .i64 ((m:Int)+1))).1
        rw [q0ix X _ q HLq.out] at h1;rw [q0hs (q:=fun k=>if k=q then (m:Int)+1 else if k<q∧k ∈ u then (m:Int)+1 else ph k) (fun i _=>by
         by_cases e:i=q
         ·rw [if_pos e,if_pos ⟨o_,e ▸ hy⟩]
         ·rw [if_neg e]
          by_cases e2:i<q∧i ∈ u
          ·rw [if_pos e2,if_pos ⟨o_,e2.2⟩]
          ·rw [if_neg e2,if_neg (fun h=>e2 ⟨o_,h.2⟩)])]
        exact q0g2 h1 (fun z hz=>Below.heap_setCell _ _ _ _ (by have:=(q0g1 h1 hz);injection hz with hz;subst hz;exact n5)))
      have HS3:=hj_ ((HS2.out.far (q*7+5) (.int .i64 ((m:Int)+1)) n7).far q (.bool true) n8);have HB3:=hj_ ((HB2.out.setCell (p:=⟨O,q*7+5,none⟩) hwO (.int .i64 ((m:Int)+1))).setCell (p:=⟨w3.heap.size,q,none⟩) hwD (.bool true));have dc':=(World.cell?_setCell_far wr ⟨O,q*7+5,none⟩ ⟨w3.heap.size,q,none⟩ (.int .i64 ((m:Int)+1)) n5).trans dc;have hbq:=q1w (cbV X hd) ⟨#[]⟩;have hbk:=q1w (cbV X q) (cbV X hd);have wmp:IntKind.i64.wrap ((m:Int)+1)=(m:Int)+1:=IntWalk.i64_in _ o_
      clear huq hltq hB2 hD2 hS2 hO2 hO3;generalize (doneB (U.take j) q || (decide (q<q) && decide (q ∈ u)))=dq at *
      generalize (if q<q∧q ∈ u then (m:Int)+1 else ph q)=pq0 at *
      generalize hcq:cbV X q=cq at *;generalize hch:cbV X hd=chd at *
      by_cases hqh:q=hd
      ·have hin:=HUq.out.2 (Or.inl hqh)
       have HY:=hj_ (HYes.out hin);subst hqh;go_wp2_with fail;refine wp_region_held_drew (S:=fun w'=>w'.cell? ⟨O,q*7+6,none⟩=some (.string chd)∧w'.cell? ⟨O,q*7+6,none⟩=some (.string cq)) k_ ⟨ph6,pq⟩ (fun hHeld=>?_)
       refine tq 0 ?_;refine tq 1 ?_;refine tq 2 ?_;refine tq 3 ?_;refine tq 4 ?_;refine tq 5 ?_;refine tq 6 ?_;refine tq 7 ?_;refine tq 8 ?_;refine tq 9 ?_;refine tq 10 ?_;refine tq 11 ?_;refine tq 12 ?_;refine tq 13 ?_;refine tq 14 ?_;refine tq 15 ?_;refine tq 16 ?_;refine tq 17 ?_;refine tq 18 ?_;refine tq 19 ?_;refine tq 20 ?_;refine tq 21 ?_;refine tq 22 ?_;refine tq 23 ?_;refine wpAnyH_done k_ ?_ _
       clear pq ph6 hbq hbk;go_wp2_with fail
       go_roundw
       case rel=>exact ⟨q+1,HLq.out,by go_num,HB3.out.drew,HY.out.1,HS3.out,HY.out.2⟩
       case measure=>have:=HLq.out;simp [intOf];omega
      ·have hqz:((q:Int) == (hd:Int))=false:=by rw [beq_eq_false_iff_ne];omega
       have hqz2:¬ (q:Int)=(hd:Int):=o_
       by_cases he:chd=⟨#[]⟩
       ·have hce:chd.toList.isEmpty=true:=by rw [he,ByteArray.toList_eq];rfl
        rw [decide_eq_true he] at hbq;have hin:q ∉ u:=fun h=>by
         rcases HUq.out.1 h with h | ⟨h1,h2⟩
         ·exact hqh h
         ·exact h1 (h2.trans he)
        have HN:=hj_ (HNot.out hin);go_wp2_with fail;refine wp_region_held_drew (S:=fun w'=>w'.cell? ⟨O,hd*7+6,none⟩=some (.string chd)∧w'.cell? ⟨O,q*7+6,none⟩=some (.string cq)) k_ ⟨ph6,pq⟩ (fun hHeld=>?_)
        refine tq 0 ?_;refine tq 1 ?_;refine tq 2 ?_;refine tq 3 ?_;refine tq 4 ?_;refine tq 5 ?_;refine tq 6 ?_;refine tq 7 ?_;refine tq 8 ?_;refine tq 9 ?_;refine tq 10 ?_;refine tq 11 ?_;refine tq 12 ?_;refine tq 13 ?_;refine tq 14 ?_;refine tq 15 ?_;refine tq 16 ?_;refine tq 17 ?_;refine tq 18 ?_;refine tq 19 ?_;refine tq 20 ?_;refine tq 21 ?_;refine tq 22 ?_;refine tq 23 ?_;refine wpAnyH_done k_ ?_ _
        clear pq ph6 hbq hbk hqz hqz2 dc dz dc' fz cl;go_wp2_with fail
        go_roundw
        case rel=>exact ⟨q+1,HLq.out,by go_num,HB2.out.drew,HN.out.1,HS2.out,HN.out.2⟩
        case measure=>have:=HLq.out;simp [intOf];omega
       ·have hce:chd.toList.isEmpty=false:=by
         rw [ByteArray.toList_eq]
         cases h:chd.data.toList with
         | nil=>exact absurd (ByteArray.ext (Array.ext' h)) he
         | cons a l=>rfl
        rw [decide_eq_false he] at hbq
        by_cases hc:cq=chd
        ·rw [decide_eq_true hc] at hbk
         have hin:=HUq.out.2 (Or.inr ⟨by rw [hc];exact he,hc⟩)
         have HY:=hj_ (HYes.out hin);go_wp2_with fail;refine wp_region_held_drew (S:=fun w'=>w'.cell? ⟨O,hd*7+6,none⟩=some (.string chd)∧w'.cell? ⟨O,q*7+6,none⟩=some (.string cq)) k_ ⟨ph6,pq⟩ (fun hHeld=>?_)
         refine tq 0 ?_;refine tq 1 ?_;refine tq 2 ?_;refine tq 3 ?_;refine tq 4 ?_;refine tq 5 ?_;refine tq 6 ?_;refine tq 7 ?_;refine tq 8 ?_;refine tq 9 ?_;refine tq 10 ?_;refine tq 11 ?_;refine tq 12 ?_;refine tq 13 ?_;refine tq 14 ?_;refine tq 15 ?_;refine tq 16 ?_;refine tq 17 ?_;refine tq 18 ?_;refine tq 19 ?_;refine tq 20 ?_;refine tq 21 ?_;refine tq 22 ?_;refine tq 23 ?_;refine wpAnyH_done k_ ?_ _
         clear pq ph6 hbq hbk hqz hqz2 hce;go_wp2_with fail
         go_roundw
         case rel=>exact ⟨q+1,HLq.out,by go_num,HB3.out.drew,HY.out.1,HS3.out,HY.out.2⟩
         case measure=>have:=HLq.out;simp [intOf];omega
        ·rw [decide_eq_false hc] at hbk
         have hin:q ∉ u:=fun h=>by
          rcases HUq.out.1 h with h | ⟨h1,h2⟩
          ·exact hqh h
          ·exact hc h2
         have HN:=hj_ (HNot.out hin);go_wp2_with fail;refine wp_region_held_drew (S:=fun w'=>w'.cell? ⟨O,hd*7+6,none⟩=some (.string chd)∧w'.cell? ⟨O,q*7+6,none⟩=some (.string cq)) k_ ⟨ph6,pq⟩ (fun hHeld=>?_)
         refine tq 0 ?_;refine tq 1 ?_;refine tq 2 ?_;refine tq 3 ?_;refine tq 4 ?_;refine tq 5 ?_;refine tq 6 ?_;refine tq 7 ?_;refine tq 8 ?_;refine tq 9 ?_;refine tq 10 ?_;refine tq 11 ?_;refine tq 12 ?_;refine tq 13 ?_;refine tq 14 ?_;refine tq 15 ?_;refine tq 16 ?_;refine tq 17 ?_;refine tq 18 ?_;refine tq 19 ?_;refine tq 20 ?_;refine tq 21 ?_;refine tq 22 ?_;refine tq 23 ?_;refine wpAnyH_done k_ ?_ _
         clear pq ph6 hbq hbk hqz hqz2 hce dc dz dc' fz cl;go_wp2_with fail
         go_roundw
         case rel=>exact ⟨q+1,HLq.out,by go_num,HB2.out.drew,HN.out.1,HS2.out,HN.out.2⟩
         case measure=>have:=HLq.out;simp [intOf];omega
     ·obtain rfl:q=X.length:=by omega
      have HDf:=hj_ (show Cells wr w3.heap.size (mkL X.length (doneB (U.take (j+1)))) by
       rw [q0j9 (k:=fun k=>doneB (U.take j) k || (decide (k<X.length) && decide (k ∈ u))) (fun i hi=>by rw [HDn.out i,decide_eq_true hi,Bool.true_and])]
       exact HD2.out)
      have HOf:=hj_ (show wr.ownsRow wk.heap.size 45 7 (.slice (some ⟨O,0,none⟩) X.length oc) X.length (shX.vs (setPh X st1.2)) by
       rw [HSt1.out];rw [q0hs (q:=fun k=>if k<X.length∧k ∈ u then (m:Int)+1 else ph k) (fun i hi=>by
        show (if i ∈ u then (m:Int)+1 else ph i)=_
        by_cases e:i ∈ u
        ·rw [if_pos e,if_pos ⟨hi,e⟩]
        ·rw [if_neg e,if_neg (fun h=>e h.2)])]
       exact HO2.out)
      obtain ⟨z1,hz1⟩:∃ z1:Int,z1=if h:j+1<U.length then ((headN U[j+1]:Nat):Int) else -1:=⟨_,rfl⟩
      have HZ1:=hj_ hz1;have hNt:=HNt.out (j+1) HLt.out wr HB2.out HDf.out z1 hz1;obtain ⟨c0,c1,c2⟩:=HK.out _ HB2.out;clear hB2 hD2 hS2 hO2 hz1;go_wp2_with fail;refine hNt.mono ?_;rintro e w9 ⟨rfl,hb⟩;have HB9:=hj_ (ht_ HB2.out hb);have HS9:=hj_ (HS2.out.below hb HS2.out.1);have HD9:=hj_ (HDf.out.below hb HDf.out.1);have HO9:=hj_ (q0g2 HOf.out fun q hq=>hb.block q (q0g1 HOf.out hq).2.1)
      clear hb c0 c1 c2 hNt;go_wp2_with fail
      go_roundw
      case rel=>exact ⟨j+1,z1,HLt.out,rfl,HZ1,HB9.out,HD9.out,by rw [HST1.out,HSt1.out];exact HS9.out,by rw [HST1.out];exact HO9.out⟩
      case measure =>
       have h1:=q0j4 HD9.out;have h2:=cnt_lt (m:=doneB (U.take j)) (k:=doneB (U.take (j+1))) (fun i hi=>by rw [HDn.out i,hi,Bool.true_or]) HNd.out (show doneB (U.take (j+1)) hd=true by rw [HDn.out hd,decide_eq_true ((HUk.out hd).2 ⟨hh1,rfl⟩),Bool.or_true]) hh1
       have h3:=cnt_le (doneB (U.take (j+1))) X.length;rw [h1,HC0.out];omega
   ·go_simp
    go_at_call 41;refine (HUn2.out _ (q18 HB7.out 1)).mono ?_;rintro e w8 ⟨rfl,hb⟩;have hb8:=(q18 (Below.refl w7.heap.size w7) 1).trans (hb.mono (q18 (Below.refl w7.heap.size w7) 1).size);have HB8:=hj_ (ht_ HB7.out hb8);have HS8:=hj_ (HS7.out.below hb8 HS7.out.1);have HD8:=hj_ (HD7.out.below hb8 HD7.out.1);have HO8:=hj_ (q0g2 HO7.out fun q hq=>hb8.block q (q0g1 HO7.out hq).2.1);obtain ⟨c0,c1,c2⟩:=HK.out _ HB8.out;replace y0:=HS8.out.at_ HNth.out;have z0:=HS8.out.fr HNth.out;have lz:=HS8.out.1;clear hb hb8
    go_wp2_with fail;refine hK.out _ _ ⟨c0,c1,c2⟩ (fun hHeld=>?_)
    clear hK K;refine tr 3 fun K hK=>?_
    go_simp
    refine hK.out _ _ ⟨c0,c1,c2⟩ (fun hHeld=>?_)
    clear hK K;refine tq 7 ?_;refine tq 8 ?_;refine tr 9 fun K hK=>?_
    go_simp
    refine hK.out _ _ (by first | exact ⟨(sf_ hne1).trans c0,(sf_ hne1).trans c1,(sf_ hne1).trans c2⟩ | exact ⟨(sf_ hne1.symm).trans c0,(sf_ hne1.symm).trans c1,(sf_ hne1.symm).trans c2⟩) (fun hHeld=>?_)
    clear hK K;refine wpAnyH_done k_ ?_ _
    have hf2:=HS8.out.set m (.int .i64 (sv+uw)) (by show m<3;omega)
    rw [HSet.out] at hf2;have hd2:=HD8.out.far m (.int .i64 (sv+uw)) (show w4.heap.size≠w3.heap.size by have:=HS34.out;omega)
    have ho2:(w8.setCell ⟨w4.heap.size,m,none⟩ (.int .i64 (sv+uw))).ownsRow wk.heap.size 45 7 (.slice oA X.length oc) X.length (shX.vs (setPh X ph)):=q0g2 HO8.out (fun q hq=>Below.heap_setCell _ _ _ _ (by have:=HOB.out q hq;have:=HS34.out;show q≠w4.heap.size;omega))
    have hb9:=HB8.out.setCell (p:=⟨w4.heap.size,m,none⟩) (by show W.heap.size≤w4.heap.size;have:=HB8.out.size;have:=HS34.out;have:=HWk2.out;have:=HWk3.out;omega) (.int .i64 (sv+uw))
    clear c0 c1 c2 y0 z0 lz;generalize w8.setCell ⟨w4.heap.size,m,none⟩ (.int .i64 (sv+uw))=wa at *;have HSa:=hj_ hf2;have HDa:=hj_ hd2;have HOa:=hj_ ho2;have HBa:=hj_ hb9;obtain ⟨O,oc2,hv,hO1,hO2⟩:=HOa.out.form o_
    injection hv with hv hv2 hv3
    subst hv hv3;have hOb:wk.heap.size≤O∧O<w3.heap.size:=HOB.out O rfl;have n5:O≠w3.heap.size:=o_
    have n7:O≠w4.heap.size:=by have:=HS34.out;omega
    have n8:w3.heap.size≠w4.heap.size:=by have:=HS34.out;omega
    have hwO:W.heap.size≤O:=by have:=HWk2.out;omega
    have hwD:W.heap.size≤w3.heap.size:=HWk3.out;have HDs:=hj_ (show Cells wa w3.heap.size (mkL X.length (fun k=>doneB (U.take j) k || (decide (k<0) && decide (k ∈ u)))) by
     rw [q0j9 (k:=doneB (U.take j)) (fun i _=>s_)]
     exact HDa.out)
    have HOs:=hj_ (show wa.ownsRow wk.heap.size 45 7 (.slice (some ⟨O,0,none⟩) X.length oc) X.length (shX.vs (setPh X (fun k=>if k<0∧k ∈ u then (m:Int)+1 else ph k))) by
     rw [q0hs (q:=ph) (fun i _=>s_)]
     exact HOa.out)
    have HC0:=hj_ (q0j4 HDr.out);clear hf2 hd2 ho2 hb9 hO1 hO2;go_wp2_with fail
    go_loopw [10] (fun iv wr=>∃ q:Nat,q≤X.length∧iv=.int .i64 q∧Below W.heap.size W wr∧Cells wr w3.heap.size (mkL X.length (fun k=>doneB (U.take j) k || (decide (k<q) && decide (k ∈ u))))∧Cells wr w4.heap.size [.int .i64 (addS sm m uw).1,.int .i64 (addS sm m uw).2.1,.int .i64 (addS sm m uw).2.2]∧wr.ownsRow wk.heap.size 45 7 (.slice (some ⟨O,0,none⟩) X.length oc) X.length (shX.vs (setPh X (fun k=>if k<q∧k ∈ u then (m:Int)+1 else ph k)))) (fun iv _=>X.length-(intOf iv).toNat)
    case atStart=>exact ⟨0,Nat.zero_le _,rfl,HBa.out,HDs.out,HSa.out,HOs.out⟩
    case round =>
     obtain ⟨q,hq,rfl,hB2,hD2,hS2,hO2⟩:=hrel;have HB2:=hj_ hB2;have HD2:=hj_ hD2;have HS2:=hj_ hS2;have HO2:=hj_ hO2
     by_cases hltq:q<X.length
     ·have i2:(0:Int)≤(q:Int):=by omega
      have i3:(q:Int)<(X.length:Int):=o_
      have i4:(hd:Int)<(X.length:Int):=o_
      have wq1:IntKind.i64.wrap ((q:Int)+1)=(q:Int)+1:=IntWalk.i64_in _ (oh_ HX64.out)
      have hO3:=q0g2 hO2 (fun z hz=>(q18 (Below.refl wr.heap.size wr) 1).block z (q0g1 hO2 hz).2.1)
      have pq:=(hO3.cellAt (q*7+6) o_).trans (vs_at6 X _ q hltq)
      have ph6:=(hO3.cellAt (hd*7+6) o_).trans (vs_at6 X _ hd hh1)
      have hOl:=(q0g1 hO3 (b:=O) rfl).2.1;have hOl2:=(q0g1 hO2 (b:=O) rfl).2.1;have fz:=hO2.frozenAt (q*7+5);have cl:=(hO2.cellAt (q*7+5) o_).trans (vs_at5 X _ q hltq)
      have dz:=hD2.fr (mkL_at _ hltq);have dc:=hD2.at_ (mkL_at _ hltq)
      have dl:=hD2.1;have huq:q ∈ u↔q=hd∨(cbV X q≠⟨#[]⟩∧cbV X q=cbV X hd):=by rw [HUk.out,q0i5];exact ⟨fun h=>h.2,fun h=>⟨hltq,h⟩⟩
      have HUq:=hj_ huq;have HLq:=hj_ hltq;have HNot:=hj_ (show q ∉ u→Cells wr w3.heap.size (mkL X.length (fun k=>doneB (U.take j) k || (decide (k<q+1) && decide (k ∈ u))))∧wr.ownsRow wk.heap.size 45 7 (.slice (some ⟨O,0,none⟩) X.length oc) X.length (shX.vs (setPh X (fun k=>if k<q+1∧k ∈ u then (m:Int)+1 else ph k))) from fun hn=>by
       refine ⟨?_,?_⟩
       ·rw [q0j9 (k:=fun k=>doneB (U.take j) k || (decide (k<q) && decide (k ∈ u))) (fun i _=>by
         by_cases e:i ∈ u
         ·have hne:i≠q:=fun h=>hn (h ▸ e)
          rw [decide_eq_decide.2 (show i<q+1↔i<q by omega)]
         ·rw [decide_eq_false e,Bool.and_false,Bool.and_false])]
        exact HD2.out
       ·rw [q0hs (q:=fun k=>if k<q∧k ∈ u then (m:Int)+1 else ph k) (fun i _=>by
         by_cases e:i ∈ u
         ·have hne:i≠q:=fun h=>hn (h ▸ e)
          by_cases e2:i<q
          ·rw [if_pos ⟨o_,e⟩,if_pos ⟨e2,e⟩]
          ·rw [if_neg (fun h=>o_),if_neg (fun h=>e2 h.1)]
         ·rw [if_neg (fun h=>e h.2),if_neg (fun h=>e h.2)])]
        exact HO2.out)
      have HYes:=hj_ (show q ∈ u→Cells ((wr.setCell ⟨O,q*7+5,none⟩ (.int .i64 ((m:Int)+1))).setCell ⟨w3.heap.size,q,none⟩ (.bool true)) w3.heap.size (mkL X.length (fun k=>doneB (U.take j) k || (decide (k<q+1) && decide (k ∈ u))))∧((wr.setCell ⟨O,q*7+5,none⟩ (.int .i64 ((m:Int)+1))).setCell ⟨w3.heap.size,q,none⟩ (.bool true)).ownsRow wk.heap.size 45 7 (.slice (some ⟨O,0,none⟩) X.length oc) X.length (shX.vs (setPh X (fun k=>if k<q+1∧k ∈ u then (m:Int)+1 else ph k))) from fun hy=>by
       refine ⟨?_,?_⟩
       ·have h1:=(HD2.out.far (q*7+5) (.int .i64 ((m:Int)+1)) n5).set q (.bool true) (by rw [q0ja];exact HLq.out)
        rw [q0jb _ HLq.out] at h1;rw [q0j9 (k:=fun k=>if k=q then true else doneB (U.take j) k || (decide (k<q) && decide (k ∈ u))) (fun i _=>by
         by_cases e:i=q
         ·rw [if_pos e,e,decide_eq_true (Nat.lt_succ_self q),decide_eq_true hy];simp
         ·rw [if_neg e,decide_eq_decide.2 (show i<q+1↔i<q by omega)])]
        exact h1
       ·have h1:=(HO2.out.stored (q*7+5) (.int .i64 ((m:Int)+1))).1
        rw [q0ix X _ q HLq.out] at h1;rw [q0hs (q:=fun k=>if k=q then (m:Int)+1 else if k<q∧k ∈ u then (m:Int)+1 else ph k) (fun i _=>by
         by_cases e:i=q
         ·rw [if_pos e,if_pos ⟨o_,e ▸ hy⟩]
         ·rw [if_neg e]
          by_cases e2:i<q∧i ∈ u
          ·rw [if_pos e2,if_pos ⟨o_,e2.2⟩]
          ·rw [if_neg e2,if_neg (fun h=>e2 ⟨o_,h.2⟩)])]
        exact q0g2 h1 (fun z hz=>Below.heap_setCell _ _ _ _ (by have:=(q0g1 h1 hz);injection hz with hz;subst hz;exact n5)))
      have HS3:=hj_ ((HS2.out.far (q*7+5) (.int .i64 ((m:Int)+1)) n7).far q (.bool true) n8);have HB3:=hj_ ((HB2.out.setCell (p:=⟨O,q*7+5,none⟩) hwO (.int .i64 ((m:Int)+1))).setCell (p:=⟨w3.heap.size,q,none⟩) hwD (.bool true));have dc':=(World.cell?_setCell_far wr ⟨O,q*7+5,none⟩ ⟨w3.heap.size,q,none⟩ (.int .i64 ((m:Int)+1)) n5).trans dc;have hbq:=q1w (cbV X hd) ⟨#[]⟩;have hbk:=q1w (cbV X q) (cbV X hd);have wmp:IntKind.i64.wrap ((m:Int)+1)=(m:Int)+1:=IntWalk.i64_in _ o_
      clear huq hltq hB2 hD2 hS2 hO2 hO3;generalize (doneB (U.take j) q || (decide (q<q) && decide (q ∈ u)))=dq at *
      generalize (if q<q∧q ∈ u then (m:Int)+1 else ph q)=pq0 at *
      generalize hcq:cbV X q=cq at *;generalize hch:cbV X hd=chd at *
      by_cases hqh:q=hd
      ·have hin:=HUq.out.2 (Or.inl hqh)
       have HY:=hj_ (HYes.out hin);subst hqh;go_wp2_with fail;refine wp_region_held_drew (S:=fun w'=>w'.cell? ⟨O,q*7+6,none⟩=some (.string chd)∧w'.cell? ⟨O,q*7+6,none⟩=some (.string cq)) k_ ⟨ph6,pq⟩ (fun hHeld=>?_)
       refine tq 0 ?_;refine tq 1 ?_;refine tq 2 ?_;refine tq 3 ?_;refine tq 4 ?_;refine tq 5 ?_;refine tq 6 ?_;refine tq 7 ?_;refine tq 8 ?_;refine tq 9 ?_;refine tq 10 ?_;refine tq 11 ?_;refine tq 12 ?_;refine tq 13 ?_;refine tq 14 ?_;refine tq 15 ?_;refine tq 16 ?_;refine tq 17 ?_;refine tq 18 ?_;refine tq 19 ?_;refine tq 20 ?_;refine tq 21 ?_;refine tq 22 ?_;refine tq 23 ?_;refine wpAnyH_done k_ ?_ _
       clear pq ph6 hbq hbk;go_wp2_with fail
       go_roundw
       case rel=>exact ⟨q+1,HLq.out,by go_num,HB3.out.drew,HY.out.1,HS3.out,HY.out.2⟩
       case measure=>have:=HLq.out;simp [intOf];omega
      ·have hqz:((q:Int) == (hd:Int))=false:=by rw [beq_eq_false_iff_ne];omega
       have hqz2:¬ (q:Int)=(hd:Int):=o_
       by_cases he:chd=⟨#[]⟩
       ·have hce:chd.toList.isEmpty=true:=by rw [he,ByteArray.toList_eq];rfl
        rw [decide_eq_true he] at hbq;have hin:q ∉ u:=fun h=>by
         rcases HUq.out.1 h with h | ⟨h1,h2⟩
         ·exact hqh h
         ·exact h1 (h2.trans he)
        have HN:=hj_ (HNot.out hin);go_wp2_with fail;refine wp_region_held_drew (S:=fun w'=>w'.cell? ⟨O,hd*7+6,none⟩=some (.string chd)∧w'.cell? ⟨O,q*7+6,none⟩=some (.string cq)) k_ ⟨ph6,pq⟩ (fun hHeld=>?_)
        refine tq 0 ?_;refine tq 1 ?_;refine tq 2 ?_;refine tq 3 ?_;refine tq 4 ?_;refine tq 5 ?_;refine tq 6 ?_;refine tq 7 ?_;refine tq 8 ?_;refine tq 9 ?_;refine tq 10 ?_;refine tq 11 ?_;refine tq 12 ?_;refine tq 13 ?_;refine tq 14 ?_;refine tq 15 ?_;refine tq 16 ?_;refine tq 17 ?_;refine tq 18 ?_;refine tq 19 ?_;refine tq 20 ?_;refine tq 21 ?_;refine tq 22 ?_;refine tq 23 ?_;refine wpAnyH_done k_ ?_ _
        clear pq ph6 hbq hbk hqz hqz2 dc dz dc' fz cl;go_wp2_with fail
        go_roundw
        case rel=>exact ⟨q+1,HLq.out,by go_num,HB2.out.drew,HN.out.1,HS2.out,HN.out.2⟩
        case measure=>have:=HLq.out;simp [intOf];omega
       ·have hce:chd.toList.isEmpty=false:=by
         rw [ByteArray.toList_eq]
         cases h:chd.data.toList with
         | nil=>exact absurd (ByteArray.ext (Array.ext' h)) he
         | cons a l=>rfl
        rw [decide_eq_false he] at hbq
        by_cases hc:cq=chd
        ·rw [decide_eq_true hc] at hbk
         have hin:=HUq.out.2 (Or.inr ⟨by rw [hc];exact he,hc⟩)
         have HY:=hj_ (HYes.out hin);go_wp2_with fail;refine wp_region_held_drew (S:=fun w'=>w'.cell? ⟨O,hd*7+6,none⟩=some (.string chd)∧w'.cell? ⟨O,q*7+6,none⟩=some (.string cq)) k_ ⟨ph6,pq⟩ (fun hHeld=>?_)
         refine tq 0 ?_;refine tq 1 ?_;refine tq 2 ?_;refine tq 3 ?_;refine tq 4 ?_;refine tq 5 ?_;refine tq 6 ?_;refine tq 7 ?_;refine tq 8 ?_;refine tq 9 ?_;refine tq 10 ?_;refine tq 11 ?_;refine tq 12 ?_;refine tq 13 ?_;refine tq 14 ?_;refine tq 15 ?_;refine tq 16 ?_;refine tq 17 ?_;refine tq 18 ?_;refine tq 19 ?_;refine tq 20 ?_;refine tq 21 ?_;refine tq 22 ?_;refine tq 23 ?_;refine wpAnyH_done k_ ?_ _
         clear pq ph6 hbq hbk hqz hqz2 hce;go_wp2_with fail
         go_roundw
         case rel=>exact ⟨q+1,HLq.out,by go_num,HB3.out.drew,HY.out.1,HS3.out,HY.out.2⟩
         case measure=>have:=HLq.out;simp [intOf];omega
        ·rw [decide_eq_false hc] at hbk
         have hin:q ∉ u:=fun h=>by
          rcases HUq.out.1 h with h | ⟨h1,h2⟩
          ·exact hqh h
          ·exact hc h2
         have HN:=hj_ (HNot.out hin);go_wp2_with fail;refine wp_region_held_drew (S:=fun w'=>w'.cell? ⟨O,hd*7+6,none⟩=some (.string chd)∧w'.cell? ⟨O,q*7+6,none⟩=some (.string cq)) k_ ⟨ph6,pq⟩ (fun hHeld=>?_)
         refine tq 0 ?_;refine tq 1 ?_;refine tq 2 ?_;refine tq 3 ?_;refine tq 4 ?_;refine tq 5 ?_;refine tq 6 ?_;refine tq 7 ?_;refine tq 8 ?_;refine tq 9 ?_;refine tq 10 ?_;refine tq 11 ?_;refine tq 12 ?_;refine tq 13 ?_;refine tq 14 ?_;refine tq 15 ?_;refine tq 16 ?_;refine tq 17 ?_;refine tq 18 ?_;refine tq 19 ?_;refine tq 20 ?_;refine tq 21 ?_;refine tq 22 ?_;refine tq 23 ?_;refine wpAnyH_done k_ ?_ _
         clear pq ph6 hbq hbk hqz hqz2 hce dc dz dc' fz cl;go_wp2_with fail
         go_roundw
         case rel=>exact ⟨q+1,HLq.out,by go_num,HB2.out.drew,HN.out.1,HS2.out,HN.out.2⟩
         case measure=>have:=HLq.out;simp [intOf];omega
     ·obtain rfl:q=X.length:=by omega
      have HDf:=hj_ (show Cells wr w3.heap.size (mkL X.length (doneB (U.take (j+1)))) by
       rw [q0j9 (k:=fun k=>doneB (U.take j) k || (decide (k<X.length) && decide (k ∈ u))) (fun i hi=>by rw [HDn.out i,decide_eq_true hi,Bool.true_and])]
       exact HD2.out)
      have HOf:=hj_ (show wr.ownsRow wk.heap.size 45 7 (.slice (some ⟨O,0,none⟩) X.length oc) X.length (shX.vs (setPh X st1.2)) by
       rw [HSt1.out];rw [q0hs (q:=fun k=>if k<X.length∧k ∈ u then (m:Int)+1 else ph k) (fun i hi=>by
        show (if i ∈ u then (m:Int)+1 else ph i)=_
        by_cases e:i ∈ u
        ·rw [if_pos e,if_pos ⟨hi,e⟩]
        ·rw [if_neg e,if_neg (fun h=>e h.2)])]
       exact HO2.out)
      obtain ⟨z1,hz1⟩:∃ z1:Int,z1=if h:j+1<U.length then ((headN U[j+1]:Nat):Int) else -1:=⟨_,rfl⟩
      have HZ1:=hj_ hz1;have hNt:=HNt.out (j+1) HLt.out wr HB2.out HDf.out z1 hz1;obtain ⟨c0,c1,c2⟩:=HK.out _ HB2.out;clear hB2 hD2 hS2 hO2 hz1;go_wp2_with fail;refine hNt.mono ?_;rintro e w9 ⟨rfl,hb⟩;have HB9:=hj_ (ht_ HB2.out hb);have HS9:=hj_ (HS2.out.below hb HS2.out.1);have HD9:=hj_ (HDf.out.below hb HDf.out.1);have HO9:=hj_ (q0g2 HOf.out fun q hq=>hb.block q (q0g1 HOf.out hq).2.1)
      clear hb c0 c1 c2 hNt;go_wp2_with fail
      go_roundw
      case rel=>exact ⟨j+1,z1,HLt.out,rfl,HZ1,HB9.out,HD9.out,by rw [HST1.out,HSt1.out];exact HS9.out,by rw [HST1.out];exact HO9.out⟩
      case measure =>
       have h1:=q0j4 HD9.out;have h2:=cnt_lt (m:=doneB (U.take j)) (k:=doneB (U.take (j+1))) (fun i hi=>by rw [HDn.out i,hi,Bool.true_or]) HNd.out (show doneB (U.take (j+1)) hd=true by rw [HDn.out hd,decide_eq_true ((HUk.out hd).2 ⟨hh1,rfl⟩),Bool.or_true]) hh1
       have h3:=cnt_le (doneB (U.take (j+1))) X.length;rw [h1,HC0.out];omega
  ·obtain rfl:j=U.length:=by omega
   obtain rfl:z=-1:=by rw [hz.out,dif_neg hlt]
   rw [List.take_length] at hOr;have HF:=hj_ hOr;have hz2:=ht_ HB0.out hBr;clear hDr hSr hOr hz;go_wp2_with fail;go_ret2;refine ⟨.slice oA X.length oc,?_,oA,oc,by rw [q0ht],by rw [q0ht];exact q0g4 HF.out (by have:=HWk2.out;have:=HB0.out.size;omega),hz2⟩
   go_simp
theorem q0ke (A0:Option Addr) (n0 d0:Nat) (A1:Option Addr) (n1 d1:Nat) (d2:Nat) (P:List PC) (w:World) (hck:∀ w',Below w.heap.size w w'→Calls prog 38 #[.agg #[.slice A0 n0 d0,.slice A1 n1 d1,.slice none 0 d2]] w' fun e w''=>e=.returned (.int .i64 0)∧Below w'.heap.size w' w'')
  (hp:shPr.In w A1 n1 P) (hn1:n1≤9223372036854775806) :
  Calls prog 10 #[.agg #[.slice A0 n0 d0,.slice A1 n1 d1,.slice none 0 d2]] w fun e w'=>∃ r,e=.returned (.tuple #[r,.int .i64 0])∧shX.Out 45 [] w r w':=by
 have HO:=hj_ hck;have HPw:=hj_ (fun w' (hb:Below w.heap.size w w')=>hp.below hb)
 have HN1:=hj_ hn1;obtain ⟨j0,hj,hw0,hwz1,hw2⟩:=info_parts infoBo;have HJ:=hj_ (And.intro hj (And.intro hw0 (And.intro hwz1 hw2)));clear hj hw0 hwz1 hw2;obtain ⟨W,HW,HB0,HK⟩:=bx3 w (.slice A0 n0 d0) (.slice A1 n1 d1) (.slice none 0 d2) 34;have hB:=Below.refl W.heap.size W;obtain ⟨c0,c1,c2⟩:=HK.out W hB;clear hck hp hn1
 go_enter func10,ntmps10
 go_wp2_with fail;rw [← HW.out];go_wp2_with fail;refine (HO.out _ (ht_ HB0.out hB)).mono ?_;rintro e wk ⟨rfl,hb⟩;replace hB:=ht_ hB hb;have HBk:=hj_ hB;obtain ⟨c0,c1,c2⟩:=HK.out _ hB;have c2':(wk.alloc (.cells #[] 45)).cell? ⟨w.heap.size,2,none⟩=some (.slice none 0 d2):=Lib.cell?_alloc_some _ c2;clear hb c0 c1 c2 hB;obtain ⟨w3,hw3⟩:=ex_ (wk.alloc (.cells #[] 45));have hb3:Below wk.heap.size wk w3:=by rw [hw3];exact (br_).alloc lr_ _
 have HB3:=hj_ (ht_ HBk.out hb3);have HO3:=hj_ (show w3.ownsRow wk.heap.size 45 7 (.slice (some ⟨wk.heap.size,0,none⟩) 0 0) 0 [] by rw [hw3];exact World.ownsRow_made wk #[] 0 lr_ (Nat.zero_le _) s_)
 have HW3:=hj_ hw3;clear hb3 hw3;go_wp2_with (rw [← HW3.out];refine wpList_make_full _ rfl _ _ _ rfl w3.heap.size 4 j0 (.bool false) 1 underlying95 HJ.out.1 HJ.out.2.1 HJ.out.2.2.1 .i64 .i64 _ _ 0 rfl rfl rfl rfl (by rw [HJ.out.2.2.2];decide) d_ lr_ ?_;intro w4 hown4 hg4;rw [q0j8] at hown4;have HD4:=hj_ (q0j3 hown4);have hb4:Below w3.heap.size w3 w4:=((br_).grown hg4 lr_ (fun k e=>by cases e));have HB34:=hj_ hb4;have HB4:=hj_ (ht_ HB3.out hb4);obtain ⟨k0,k1,k2⟩:=HK.out _ HB4.out;have c0:(w4.alloc (.cells #[.int .i64 0,.int .i64 0,.int .i64 0] 47)).cell? ⟨w.heap.size,0,none⟩=some (.slice A0 n0 d0):=Lib.cell?_alloc_some _ k0;have c1:(w4.alloc (.cells #[.int .i64 0,.int .i64 0,.int .i64 0] 47)).cell? ⟨w.heap.size,1,none⟩=some (.slice A1 n1 d1):=Lib.cell?_alloc_some _ k1;have c2:(w4.alloc (.cells #[.int .i64 0,.int .i64 0,.int .i64 0] 47)).cell? ⟨w.heap.size,2,none⟩=some (.slice none 0 d2):=Lib.cell?_alloc_some _ k2;clear hown4 hg4 hb4 k0 k1 k2)
 obtain ⟨W5,hW5⟩:=ex_ (w4.alloc (.cells #[.int .i64 0,.int .i64 0,.int .i64 0] 47));have hb5:Below w4.heap.size w4 W5:=by rw [hW5];exact (br_).alloc lr_ _
 have hB5:=ht_ HB4.out hb5;have hfin:w4.ownsRow wk.heap.size 45 7 (.slice (some ⟨wk.heap.size,0,none⟩) 0 0) 0 []:=qfq HO3.out HB34.out;have HFi:=hj_ (qfq hfin hb5);have hnx:=q0kj A0 n0 d0 A1 n1 d1 none d2 P [] w3.heap.size 0 (fun _=>false) W5 (HPw.out _ (ht_ HB0.out hB5)) HN1.out (Sh.In.nil _ _) d_ (fun x h=>by cases h) (Mk.of (HD4.out.below hb5 HD4.out.1))
 have HNx:=hj_ (show Rt 39 #[.agg #[.slice A0 n0 d0,.slice A1 n1 d1,.slice none 0 d2],.slice (some ⟨w3.heap.size,0,none⟩) 0 0] W5 (.int .i64 (-1)) from hnx)
 have HB5:=hj_ (ht_ HB0.out hB5);have HWw:=hj_ (show w.heap.size≤wk.heap.size from Nat.le_trans HB0.out.size HBk.out.size)
 rw [← hW5];clear hnx hfin hb5 hB5 hW5 c0 c1 c2;refine HNx.out.mono ?_;rintro e w6 ⟨rfl,hb⟩;have HO6:=hj_ (qfy (qfq HFi.out hb) HWw.out);have HB6:=hj_ (ht_ HB5.out hb);clear hb;go_wp2_with fail
 go_loopw [8] (fun iv wr=>iv=.int .i64 (-1)∧wr=w6) (fun _ _=>0)
 case atStart=>exact ⟨rfl,rfl⟩
 case round =>
  obtain ⟨rfl,rfl⟩:=hrel;go_wp2_with fail;go_ret2;refine ⟨_,?_,some ⟨wk.heap.size,0,none⟩,0,rfl,HO6.out,HB6.out⟩
  go_simp
theorem q0kk (A B:Option Addr) (c d:Nat) (l:List Fx) (w:World) (ha:shX.In w A l.length l) (hb:shX.In w B l.length l) (hn:l.length≤1000) :
  Rt 12 #[.slice A l.length c,.slice B l.length d] w (.bool true):=by
 have HA:=hj_ ha;have HB:=hj_ hb;have HN:=hj_ hn;clear ha hb hn
 go_enter func12,ntmps12
 go_wp2_with fail
 go_loopw [5] (fun iv wr=>∃ k:Nat,k≤l.length∧iv=.int .i64 k∧Below w.heap.size w wr) (fun iv _=>l.length-(intOf iv).toNat)
 case atStart=>exact ⟨0,Nat.zero_le _,rfl,br_⟩
 case round =>
  obtain ⟨k,hk,rfl,hbw⟩:=hrel;have HBw:=hj_ hbw
  by_cases hlt:k<l.length
  case neg =>
   obtain rfl:k=l.length:=o_
   clear hbw;go_wp2_with fail;go_ret;exact ⟨rfl,HBw.out⟩
  case pos =>
   obtain ⟨b,o,rfl,hbl,hcell⟩:=fx_at HA.out o_
   obtain ⟨b2,o2,rfl,hbl2,hcell2⟩:=fx_at HB.out o_
   obtain ⟨k0,k1,k2,k3,k4,k5,k6⟩:=hcell k hlt;obtain ⟨j0,j1,j2,j3,j4,j5,j6⟩:=hcell2 k hlt;have p0:=(hbw.cell (p:=⟨b,o+k*7,none⟩) hbl).trans k0;have p1:=(hbw.cell (p:=⟨b,o+k*7+1,none⟩) hbl).trans k1;have p2:=(hbw.cell (p:=⟨b,o+k*7+2,none⟩) hbl).trans k2;have p3:=(hbw.cell (p:=⟨b,o+k*7+3,none⟩) hbl).trans k3;have p4:=(hbw.cell (p:=⟨b,o+k*7+4,none⟩) hbl).trans k4;have p5:=(hbw.cell (p:=⟨b,o+k*7+5,none⟩) hbl).trans k5;have p6:=(hbw.cell (p:=⟨b,o+k*7+6,none⟩) hbl).trans k6;have r0:=(hbw.cell (p:=⟨b2,o2+k*7,none⟩) hbl2).trans j0;have r1:=(hbw.cell (p:=⟨b2,o2+k*7+1,none⟩) hbl2).trans j1;have r2:=(hbw.cell (p:=⟨b2,o2+k*7+2,none⟩) hbl2).trans j2;have r3:=(hbw.cell (p:=⟨b2,o2+k*7+3,none⟩) hbl2).trans j3;have r4:=(hbw.cell (p:=⟨b2,o2+k*7+4,none⟩) hbl2).trans j4;have r5:=(hbw.cell (p:=⟨b2,o2+k*7+5,none⟩) hbl2).trans j5;have r6:=(hbw.cell (p:=⟨b2,o2+k*7+6,none⟩) hbl2).trans j6;have i0:(0:Int)≤(k:Int):=o_
   have i1:(k:Int)<(l.length:Int):=o_
   have w0:IntKind.i64.wrap ((k:Int)+1)=(k:Int)+1:=IntWalk.i64_in _ (oh_ HN.out)
   clear hcell hcell2 k0 k1 k2 k3 k4 k5 k6 j0 j1 j2 j3 j4 j5 j6 hbw;generalize l[k]=x at *;obtain ⟨xch,xpt,xpr,xun,xad,xph,xcb⟩:=x;dsimp only at p0 p1 p2 p3 p4 p5 p6 r0 r1 r2 r3 r4 r5 r6
   go_upto_region 6 with fail
   refine wp_region_held_drew (S:=fun w'=>w'.cell? ⟨b,o+k*7,none⟩=some (.int .i64 xch)∧w'.cell? ⟨b,o+k*7+1,none⟩=some (.int .i64 xpt)∧w'.cell? ⟨b,o+k*7+2,none⟩=some (.string xpr)∧w'.cell? ⟨b,o+k*7+3,none⟩=some (.int .i64 xun)∧w'.cell? ⟨b,o+k*7+4,none⟩=some (.int .i64 xad)∧w'.cell? ⟨b,o+k*7+5,none⟩=some (.int .i64 xph)∧w'.cell? ⟨b,o+k*7+6,none⟩=some (.string xcb)∧w'.cell? ⟨b2,o2+k*7,none⟩=some (.int .i64 xch)∧w'.cell? ⟨b2,o2+k*7+1,none⟩=some (.int .i64 xpt)∧w'.cell? ⟨b2,o2+k*7+2,none⟩=some (.string xpr)∧w'.cell? ⟨b2,o2+k*7+3,none⟩=some (.int .i64 xun)∧w'.cell? ⟨b2,o2+k*7+4,none⟩=some (.int .i64 xad)∧w'.cell? ⟨b2,o2+k*7+5,none⟩=some (.int .i64 xph)∧w'.cell? ⟨b2,o2+k*7+6,none⟩=some (.string xcb)) k_ (by first | exact ⟨p0,p1,p2,p3,p4,p5,p6,r0,r1,r2,r3,r4,r5,r6⟩) (fun hHeld=>?_)
   refine tq 0 ?_;refine tq 1 ?_;refine tq 2 ?_;refine tq 3 ?_;refine tq 4 ?_;refine tq 5 ?_;refine tq 6 ?_;refine tq 7 ?_;refine tq 8 ?_;refine wpAnyH_done k_ ?_ _
   clear p0 p1 p2 p3 p4 p5 p6 r0 r1 r2 r3 r4 r5 r6;go_wp2_with fail
   go_roundw
   case rel=>exact ⟨k+1,hlt,by go_num,by first | exact HBw.out | exact HBw.out.drew⟩
   case measure=>simp [intOf];omega
end Go.Proofs.YtabhjdmmfdfpeaaGreatDoor
