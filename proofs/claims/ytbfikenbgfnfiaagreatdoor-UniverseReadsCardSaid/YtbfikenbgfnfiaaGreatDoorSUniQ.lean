/- Lemmas. -/
import Derived.Test.YtbfikenbgfnfiaaGreatDoorSUniP
import Derived.Test.YtbfikenbgfnfiaaGreatDoorKUniH
namespace Go.Proofs.YtbfikenbgfnfiaaGreatDoor
set_option maxHeartbeats 32000000
set_option maxRecDepth 100000
open _root_.Go.Proofs.Tryz

section
open Go.RowKit
theorem q08e (A0:Option Addr) (n0 d0:Nat) (L:List (List PT)) (A1:Option Addr) (n1 d1:Nat) (PL:List (PC × List Fea)) (A2:Option Addr) (n2 d2:Nat) (X:List Fx) (A:Option Addr) (n c:Nat) (l:List Fm) (w:World)
  (hp:InPs w A1 n1 PL) (hn1:n1≤9223372036854775806) (hx:shX.In w A2 n2 X) (hu:uniE L PL X=0) (h40:∀ x ∈ X,(featV PL x.pr).length≤40) (hf:shFm.In w A n l) (hn:n≤9223372036854775806) (hri:rightE l=0) (hpl:∀ x ∈ X,¬ plI l x.un<0) :
  Calls prog 91 #[.agg #[.slice A0 n0 d0,.slice A1 n1 d1,.slice A2 n2 d2],.slice A n c] w fun e w'=>∃ A' c',e=.returned (.slice A' ((offX l PL X).foldl putQ []).length c')∧shP.In w' A' ((offX l PL X).foldl putQ []).length ((offX l PL X).foldl putQ [])∧Below w.heap.size w w':=by
 obtain ⟨-,hX64,hFx,-⟩:=qu8 hu;obtain rfl:n2=X.length:=hx.1;have HFe:=hj_ (fun (x:Fx) (p:PC) (w:World) (h:shPr.In w A1 n1 (PL.map Prod.fst)) hx=>qm3 A0 n0 d0 A1 n1 d1 A2 X.length d2 (PL.map Prod.fst) x p w h hn1 hx)
 have HSh:=hj_ (fun (x:Fx) (f:FC) (wl:List Slt) (w:World) (h:shFm.In w A n l) k hk hkl hsz had hf=>q08i A n c l x f wl w h hn k hk hkl hsz had hf)
 have HPut:=hj_ (fun (B:Option Addr) (m d:Nat) (q:List PT) (p:PT) (w:World) (h:shP.In w B m q) hm=>q08g B m d q p w h hm)
 have HRg:=hj_ (rig_ok hu);have HFx:=hj_ hFx;have H64:=hj_ hX64;have H40:=hj_ h40;have HRi:=hj_ hri;have HPl:=hj_ hpl;have HP:=hj_ hp;have HX:=hj_ hx;have HF:=hj_ hf;clear hp hn1 hx hu h40 hf hn hri hpl hX64 hFx;obtain ⟨W,hW⟩:∃ W,W=(w.alloc (.cells #[.slice A0 n0 d0,.slice A1 n1 d1,.slice A2 X.length d2] 29)):=⟨_,rfl⟩;obtain ⟨hB0,hK0⟩:=box1 #[.slice A0 n0 d0,.slice A1 n1 d1,.slice A2 X.length d2] 29 w W hW;have hK:∀ w',Below W.heap.size W w'→w'.cell? ⟨w.heap.size,0,none⟩=some (.slice A0 n0 d0)∧w'.cell? ⟨w.heap.size,1,none⟩=some (.slice A1 n1 d1)∧w'.cell? ⟨w.heap.size,2,none⟩=some (.slice A2 X.length d2):=fun w' h=>⟨(hK0 w' h) 0 _ rfl,(hK0 w' h) 1 _ rfl,(hK0 w' h) 2 _ rfl⟩
 have HK:=hj_ hK;have HW:=hj_ hW;have HB0:=hj_ hB0;have hB:=Below.refl W.heap.size W;obtain ⟨c0,c1,c2⟩:=hK W hB;clear hW hB0 hK hK0;replace HP:=hj_ (HP.out.below HB0.out);replace HX:=hj_ (HX.out.below HB0.out);replace HF:=hj_ (HF.out.below HB0.out)
 go_enter func91,ntmps91
 go_wp2_with fail;rw [← HW.out]
 go_loopw [5,6] (fun ov iv wr=>∃ i:Nat,i≤X.length∧iv=.int .i64 i∧(∃ A' c',ov=.slice A' ((offX l PL (X.take i)).foldl putQ []).length c'∧shP.In wr A' ((offX l PL (X.take i)).foldl putQ []).length ((offX l PL (X.take i)).foldl putQ []))∧Below W.heap.size W wr) (fun _ iv _=>X.length-(intOf iv).toNat)
 case atStart=>exact ⟨0,Nat.zero_le _,rfl,⟨none,0,rfl,Sh.In.nil _ _⟩,br_⟩
 case round =>
  obtain ⟨i,hi,rfl,⟨Ao,co,rfl,hin⟩,hB⟩:=hrel;have HIn:=hj_ hin;have HBr:=hj_ hB
  rename World=>V3
  clear hin
  by_cases hlt:i<X.length
  case neg =>
   obtain rfl:i=X.length:=by omega
   rw [List.take_length] at HIn ⊢;obtain ⟨c0,c1,c2⟩:=HK.out _ hB;go_wp2_with fail;go_ret;exact ⟨Ao,co,rfl,HIn.out,ht_ HB0.out HBr.out⟩
  case pos =>
   obtain ⟨bx,ox,rfl,hbx,hcell⟩:=fx_at HX.out (by omega)
   have hk:=hcell i hlt;have hxm:X[i] ∈ X:=List.getElem_mem hlt;obtain ⟨hrn,-,-,pp,hpc⟩:=HFx.out i hlt;have had:1≤X[i].ad∧X[i].ad≤512:=by
    unfold qkt at hrn;simp only [Bool.and_eq_true,decide_eq_true_eq] at hrn;exact hrn.1.2
   have hpf:=q83 PL X[i].pr;rw [hpc] at hpf;obtain ⟨y,hyf,rfl⟩:∃ y,PL.find? (fun z=>decide (z.1.s=X[i].pr))=some y∧pp=y.1:=by
    cases hq:PL.find? (fun z=>decide (z.1.s=X[i].pr)) with
    | none=>rw [hq] at hpf;cases hpf
    | some y=>rw [hq] at hpf;injection hpf with hpf;exact ⟨y,rfl,hpf⟩
   have hym:=List.mem_of_find?_eq_some hyf;have hfv:featV PL X[i].pr=y.2:=by unfold featV;rw [hyf]
   obtain ⟨Hy,hIn⟩:=HP.out.2 y hym;have hge:-1≤plI l X[i].un:=qb9 l;have hltp:plI l X[i].un<l.length:=qbb l;have hnp:=HPl.out _ hxm;obtain ⟨kp,hkp⟩:∃ k:Nat,plI l X[i].un=k:=⟨(plI l X[i].un).toNat,by omega⟩
   have hkl:kp<l.length:=by omega
   have hsz:=(rg_ok ((q9q HRi.out).2 kp hkl)).2.2.1;rw [qa1 hkl] at hsz;have HS1:=hj_ (fun (f:FC) (wl:List Slt) (hm:f.fea wl ∈ y.2) (w:World) (h:shFm.In w A n l)=>HSh.out X[i] f wl w h kp hkp hkl hsz had (HRg.out.fit _ hxm _ (by rw [hfv];exact hm)))
   have HFe1:=hj_ (fun (w:World) (h:shPr.In w A1 n1 (PL.map Prod.fst))=>HFe.out X[i] y.1 w h hpc)
   have HSx:=hj_ (q07v (l:=l) (PL:=PL) hlt);rw [hfv] at HSx;have hy40:y.2.length≤40:=by rw [← hfv];exact H40.out _ hxm
   have HY40:=hj_ hy40;have HLt:=hj_ hlt;clear hcell hrn had hpf hyf hfv hym hxm hge hltp hnp hkp hkl hsz hpc HSh HFe hy40;generalize X[i]=x at *;obtain ⟨xc,xt,xr,xu,xa,xp,xb⟩:=x;obtain ⟨⟨ys,yf,yw,yA,yn,yc⟩,yl⟩:=y;dsimp only at hk HS1 HFe1 hIn HSx HY40;have hynl:yn=yl.length:=by have:=hIn.1.1.1;have:=hIn.1.2.1;omega
   subst hynl;have HIny:=hj_ hIn;have kk:=fun (w':World) (h:Below W.heap.size W w') (q:Nat)=>h.cell (p:=⟨bx,q,none⟩) hbx
   obtain ⟨k0,k1,k2,k3,k4,k5,k6⟩:=hk;have p0:=(kk _ HBr.out _).trans k0;have p1:=(kk _ HBr.out _).trans k1;have p2:=(kk _ HBr.out _).trans k2;have p3:=(kk _ HBr.out _).trans k3;have p4:=(kk _ HBr.out _).trans k4;have p5:=(kk _ HBr.out _).trans k5;have p6:=(kk _ HBr.out _).trans k6;have hbw:bx<V3.heap.size:=Nat.lt_of_lt_of_le hbx HBr.out.size;have i0:(0:Int)≤(i:Int):=by omega
   have i1:(i:Int)<(X.length:Int):=by omega
   have w0:IntKind.i64.wrap ((i:Int)+1)=(i:Int)+1:=IntWalk.i64_in _ (by have:=H64.out;omega)
   obtain ⟨W4,hW4⟩:∃ W4,W4=V3.alloc (.cells #[.int .i64 xc,.int .i64 xt,.string xr,.int .i64 xu,.int .i64 xa,.int .i64 xp,.string xb] 55):=⟨_,rfl⟩;have hb4:Below V3.heap.size V3 W4:=by rw [hW4];exact (br_).alloc (Nat.le_refl _) _
   have hX4:Cells W4 V3.heap.size [.int .i64 xc,.int .i64 xt,.string xr,.int .i64 xu,.int .i64 xa,.int .i64 xp,.string xb]:=by
    rw [hW4];exact Cells.fresh V3 [.int .i64 xc,.int .i64 xt,.string xr,.int .i64 xu,.int .i64 xa,.int .i64 xp,.string xb] _
   have HX4:=hj_ hX4;have H34:=hj_ hb4;have HB4:=hj_ (ht_ HBr.out hb4);have HW4:=hj_ hW4;clear kk k0 k1 k2 k3 k4 k5 k6 hIn hbx hW4 hb4 hX4;obtain ⟨c0,c1,c2⟩:=HK.out _ hB
   go_upto_region 6 with fail
   rw [← HW4.out];clear p0 p1 p2 p3 p4 p5 p6 c0 c1 c2;obtain ⟨c0,c1,c2⟩:=HK.out _ HB4.out;have x0:=HX4.out.at_ (j:=0) rfl
   have x1:=HX4.out.at_ (j:=1) rfl
   have x2:=HX4.out.at_ (j:=2) rfl
   have x3:=HX4.out.at_ (j:=3) rfl
   have x4:=HX4.out.at_ (j:=4) rfl
   have x5:=HX4.out.at_ (j:=5) rfl
   have x6:=HX4.out.at_ (j:=6) rfl
   go_wp2_with fail;refine (HFe1.out _ (HP.out.1.below HB4.out)).mono ?_;rintro e W5 ⟨rfl,hb⟩;have HX5:=hj_ (HX4.out.below hb HX4.out.1);have H35:=hj_ (ht_ H34.out hb);have HB5:=hj_ (ht_ HB4.out hb);clear hb x0 x1 x2 x3 x4 x5 x6 c0 c1 c2;go_wp2_with fail;have HOut:=hj_ (HIn.out.below ((br_).trans H35.out));have hql:(offX l PL (X.take i)).length≤2560:=by
    have h1:=q07u (l:=l) (PL:=PL) (X:=X.take i) fun y hy=>H40.out y (List.mem_of_mem_take hy)
    have h2:=H64.out;rw [List.length_take] at h1;omega
   generalize hQ0:offX l PL (X.take i)=Q0 at *;have HQL:=hj_ hql;clear hql
   go_loopw [5,9] (fun ov jv wr=>∃ j:Nat,j≤yl.length∧jv=.int .i64 j∧(∃ A' c',ov=.slice A' ((Q0 ++ offF l ⟨xc,xt,xr,xu,xa,xp,xb⟩ (yl.take j)).foldl putQ []).length c'∧shP.In wr A' ((Q0 ++ offF l ⟨xc,xt,xr,xu,xa,xp,xb⟩ (yl.take j)).foldl putQ []).length ((Q0 ++ offF l ⟨xc,xt,xr,xu,xa,xp,xb⟩ (yl.take j)).foldl putQ []))∧Below W5.heap.size W5 wr) (fun _ jv _=>yl.length-(intOf jv).toNat)
   case atStart =>
    refine ⟨0,Nat.zero_le _,rfl,⟨Ao,co,?_,?_⟩,br_⟩
    ·rw [List.take_zero,show offF l ⟨xc,xt,xr,xu,xa,xp,xb⟩ []=[] from rfl,List.append_nil]
    ·rw [List.take_zero,show offF l ⟨xc,xt,xr,xu,xa,xp,xb⟩ []=[] from rfl,List.append_nil];exact HOut.out
   case round =>
    obtain ⟨j,hj,rfl,⟨Bo,bo,rfl,hin2⟩,hR⟩:=hrel;have HIn2:=hj_ hin2;have HR:=hj_ hR
    rename World=>V5
    clear hin2
    by_cases hlj:j<yl.length
    case neg =>
     obtain rfl:j=yl.length:=by omega
     rw [List.take_length] at HIn2 ⊢;have HB6:=hj_ (ht_ HB5.out hR);go_wp2_with fail
     go_roundw
     case rel=>exact ⟨i+1,by have:=HLt.out;omega,by go_num,⟨Bo,bo,by rw [HSx.out],by rw [HSx.out];exact HIn2.out⟩,HB6.out⟩
     case measure=>simp [intOf];have:=HLt.out;omega
    case pos =>
     generalize hQQ:(Q0 ++ offF l ⟨xc,xt,xr,xu,xa,xp,xb⟩ (yl.take j)).foldl putQ []=QQ at *;have HQQ:=hj_ hQQ;clear hQQ;have hjH:j<Hy.length:=by have:=HIny.out.1.2.1;omega
     obtain ⟨bf,of_,rfl,hbf,hcf⟩:=ft_at HIny.out.1.1 (by omega)
     have hkf:=hcf j hjH;have hfx:=(HIny.out.1.2.2 j hjH hlj).1;have hmem:yl[j] ∈ yl:=List.getElem_mem hlj;have hstep:=q07t (l:=l) (x:=⟨xc,xt,xr,xu,xa,xp,xb⟩) hlj;rw [hfx] at hmem hstep;have HShj:=hj_ (HS1.out Hy[j] yl[j].wh hmem);have HStep:=hj_ hstep;have j0:(0:Int)≤(j:Int):=by omega
     have j1:(j:Int)<(yl.length:Int):=by omega
     have w2':IntKind.i64.wrap ((j:Int)+1)=(j:Int)+1:=IntWalk.i64_in _ (by have:=HIny.out.2.1;omega)
     have HLj:=hj_ hlj;clear hfx hcf hmem hstep;generalize yl[j].wh=wh at *;generalize Hy[j]=f at *;obtain ⟨fat,bits,co,fi,cu,ho,lo,hi,sn,fA,fn,fc⟩:=f;have HKf:=hj_ (fun (w':World) (h:Below W.heap.size W w')=>show w'.cell? ⟨bf,of_+j*10,none⟩=some (.int .i64 fat)∧w'.cell? ⟨bf,of_+j*10+1,none⟩=some (.int .i64 bits)∧w'.cell? ⟨bf,of_+j*10+2,none⟩=some (.int .i64 co)∧w'.cell? ⟨bf,of_+j*10+3,none⟩=some (.int .i64 fi)∧w'.cell? ⟨bf,of_+j*10+4,none⟩=some (.int .i64 cu)∧w'.cell? ⟨bf,of_+j*10+5,none⟩=some (.int .i64 ho)∧w'.cell? ⟨bf,of_+j*10+6,none⟩=some (.int .i64 lo)∧w'.cell? ⟨bf,of_+j*10+7,none⟩=some (.int .i64 hi)∧w'.cell? ⟨bf,of_+j*10+8,none⟩=some (.bool sn)∧w'.cell? ⟨bf,of_+j*10+9,none⟩=some (.slice fA fn fc) from by
      obtain ⟨z0,z1,z2,z3,z4,z5,z6,z7,z8,z9⟩:=hkf;have cc:=fun (q:Nat)=>h.cell (p:=⟨bf,q,none⟩) hbf
      exact ⟨(cc _).trans z0,(cc _).trans z1,(cc _).trans z2,(cc _).trans z3,(cc _).trans z4,(cc _).trans z5,(cc _).trans z6,(cc _).trans z7,(cc _).trans z8,(cc _).trans z9⟩)
     clear hkf hjH;have HAll:=hj_ (fun (w':World) (h:Below W5.heap.size W5 w')=>show (w'.cell? ⟨V3.heap.size,0,none⟩=some (.int .i64 xc)∧w'.cell? ⟨V3.heap.size,1,none⟩=some (.int .i64 xt)∧w'.cell? ⟨V3.heap.size,2,none⟩=some (.string xr)∧w'.cell? ⟨V3.heap.size,3,none⟩=some (.int .i64 xu)∧w'.cell? ⟨V3.heap.size,4,none⟩=some (.int .i64 xa)∧w'.cell? ⟨V3.heap.size,5,none⟩=some (.int .i64 xp)∧w'.cell? ⟨V3.heap.size,6,none⟩=some (.string xb))∧w'.cell? ⟨bf,of_+j*10,none⟩=some (.int .i64 fat)∧w'.cell? ⟨bf,of_+j*10+1,none⟩=some (.int .i64 bits)∧w'.cell? ⟨bf,of_+j*10+2,none⟩=some (.int .i64 co)∧w'.cell? ⟨bf,of_+j*10+3,none⟩=some (.int .i64 fi)∧w'.cell? ⟨bf,of_+j*10+4,none⟩=some (.int .i64 cu)∧w'.cell? ⟨bf,of_+j*10+5,none⟩=some (.int .i64 ho)∧w'.cell? ⟨bf,of_+j*10+6,none⟩=some (.int .i64 lo)∧w'.cell? ⟨bf,of_+j*10+7,none⟩=some (.int .i64 hi)∧w'.cell? ⟨bf,of_+j*10+8,none⟩=some (.bool sn)∧w'.cell? ⟨bf,of_+j*10+9,none⟩=some (.slice fA fn fc) from by
      have hx:=HX5.out.below h HX5.out.1;exact ⟨⟨hx.at_ (j:=0) rfl,hx.at_ (j:=1) rfl,hx.at_ (j:=2) rfl,hx.at_ (j:=3) rfl,hx.at_ (j:=4) rfl,hx.at_ (j:=5) rfl,hx.at_ (j:=6) rfl⟩,HKf.out _ (ht_ HB5.out h)⟩)
     have HFr:=hj_ (fun (w':World) (h:Below W5.heap.size W5 w')=>HF.out.below (ht_ HB5.out h))
     have hd:=q18 HR.out 1;obtain ⟨⟨x0,x1,x2,x3,x4,x5,x6⟩,y0,y1,y2,y3,y4,y5,y6,y7,y8,y9⟩:=HAll.out _ hd;go_wp2_with fail;refine wp_region_held_drew (S:=fun w'=>w'.cell? ⟨V3.heap.size,0,none⟩=some (.int .i64 xc)∧w'.cell? ⟨V3.heap.size,1,none⟩=some (.int .i64 xt)∧w'.cell? ⟨V3.heap.size,2,none⟩=some (.string xr)∧w'.cell? ⟨V3.heap.size,3,none⟩=some (.int .i64 xu)∧w'.cell? ⟨V3.heap.size,4,none⟩=some (.int .i64 xa)∧w'.cell? ⟨V3.heap.size,5,none⟩=some (.int .i64 xp)∧w'.cell? ⟨V3.heap.size,6,none⟩=some (.string xb)∧w'.cell? ⟨bf,of_+j*10,none⟩=some (.int .i64 fat)∧w'.cell? ⟨bf,of_+j*10+1,none⟩=some (.int .i64 bits)∧w'.cell? ⟨bf,of_+j*10+2,none⟩=some (.int .i64 co)∧w'.cell? ⟨bf,of_+j*10+3,none⟩=some (.int .i64 fi)∧w'.cell? ⟨bf,of_+j*10+4,none⟩=some (.int .i64 cu)∧w'.cell? ⟨bf,of_+j*10+5,none⟩=some (.int .i64 ho)∧w'.cell? ⟨bf,of_+j*10+6,none⟩=some (.int .i64 lo)∧w'.cell? ⟨bf,of_+j*10+7,none⟩=some (.int .i64 hi)∧w'.cell? ⟨bf,of_+j*10+8,none⟩=some (.bool sn)∧w'.cell? ⟨bf,of_+j*10+9,none⟩=some (.slice fA fn fc)) (by kernel_rfl) (by first | exact ⟨x0,x1,x2,x3,x4,x5,x6,y0,y1,y2,y3,y4,y5,y6,y7,y8,y9⟩) (fun hHeld=>?_)
     refine wpAnyH_take (i:=0) (oi:=?_) (v:=?_) ?_ (by kernel_rfl) (by kernel_rfl) (by kernel_rfl) ?_ (Or.inl ⟨?_,?_⟩) (by assumption) ?_
     rotate_left 2
     ·(simp only [List.getElem?_toArray,List.getElem?_cons_zero];rfl)
     ·exact fun _ _ _ h=>h
     ·rfl
     ·(intro w hSw;(try dsimp only at hSw);go_simp;try with_reducible rfl)
     simp only [Act.put,List.setIfInBounds_toArray,List.set_cons_zero,List.set_cons_succ];refine wpAnyH_take (i:=1) (oi:=?_) (v:=?_) ?_ (by kernel_rfl) (by kernel_rfl) (by kernel_rfl) ?_ (Or.inl ⟨?_,?_⟩) (by assumption) ?_
     rotate_left 2
     ·(simp only [List.getElem?_toArray,List.getElem?_cons_succ,List.getElem?_cons_zero];rfl)
     ·exact fun _ _ _ h=>h
     ·rfl
     ·(intro w hSw;(try dsimp only at hSw);go_simp;try with_reducible rfl)
     simp only [Act.put,List.setIfInBounds_toArray,List.set_cons_zero,List.set_cons_succ];refine wpAnyH_take (i:=2) (oi:=?_) (v:=?_) ?_ (by kernel_rfl) (by kernel_rfl) (by kernel_rfl) ?_ (Or.inl ⟨?_,?_⟩) (by assumption) ?_
     rotate_left 2
     ·(simp only [List.getElem?_toArray,List.getElem?_cons_succ,List.getElem?_cons_zero];rfl)
     ·exact fun _ _ _ h=>h
     ·rfl
     ·(intro w hSw;(try dsimp only at hSw);go_simp;try with_reducible rfl)
     simp only [Act.put,List.setIfInBounds_toArray,List.set_cons_zero,List.set_cons_succ];refine wpAnyH_take (i:=3) (oi:=?_) (v:=?_) ?_ (by kernel_rfl) (by kernel_rfl) (by kernel_rfl) ?_ (Or.inl ⟨?_,?_⟩) (by assumption) ?_
     rotate_left 2
     ·(simp only [List.getElem?_toArray,List.getElem?_cons_succ,List.getElem?_cons_zero];rfl)
     ·exact fun _ _ _ h=>h
     ·rfl
     ·(intro w hSw;(try dsimp only at hSw);go_simp;try with_reducible rfl)
     simp only [Act.put,List.setIfInBounds_toArray,List.set_cons_zero,List.set_cons_succ];refine wpAnyH_take (i:=4) (oi:=?_) (v:=?_) ?_ (by kernel_rfl) (by kernel_rfl) (by kernel_rfl) ?_ (Or.inl ⟨?_,?_⟩) (by assumption) ?_
     rotate_left 2
     ·(simp only [List.getElem?_toArray,List.getElem?_cons_succ,List.getElem?_cons_zero];rfl)
     ·exact fun _ _ _ h=>h
     ·rfl
     ·(intro w hSw;(try dsimp only at hSw);go_simp;try with_reducible rfl)
     simp only [Act.put,List.setIfInBounds_toArray,List.set_cons_zero,List.set_cons_succ];refine wpAnyH_take (i:=5) (oi:=?_) (v:=?_) ?_ (by kernel_rfl) (by kernel_rfl) (by kernel_rfl) ?_ (Or.inl ⟨?_,?_⟩) (by assumption) ?_
     rotate_left 2
     ·(simp only [List.getElem?_toArray,List.getElem?_cons_succ,List.getElem?_cons_zero];rfl)
     ·exact fun _ _ _ h=>h
     ·rfl
     ·(intro w hSw;(try dsimp only at hSw);go_simp;try with_reducible rfl)
     simp only [Act.put,List.setIfInBounds_toArray,List.set_cons_zero,List.set_cons_succ];refine wpAnyH_ready (rs:=[6]) (by kernel_rfl) (by simp) ?_
     refine AllReadyH.cons rfl (fun K hK=>?_) AllReadyH.nil
     go_simp
     go_at_call 90;refine (HShj.out _ (HFr.out _ hd)).mono ?_;rintro e wk ⟨rfl,hb⟩;have hk:=ht_ hd hb;obtain ⟨⟨x0,x1,x2,x3,x4,x5,x6⟩,y0,y1,y2,y3,y4,y5,y6,y7,y8,y9⟩:=HAll.out _ hk
     go_wp2_with fail;refine hK.out _ _ (by first | exact ⟨x0,x1,x2,x3,x4,x5,x6,y0,y1,y2,y3,y4,y5,y6,y7,y8,y9⟩) (fun hHeld=>?_)
     clear hK K
     try simp only [Act.put,List.setIfInBounds_toArray,List.set_cons_zero,List.set_cons_succ]
     refine wpAnyH_take (i:=7) (oi:=?_) (v:=?_) ?_ (by kernel_rfl) (by kernel_rfl) (by kernel_rfl) ?_ (Or.inl ⟨?_,?_⟩) (by assumption) ?_
     rotate_left 2
     ·(simp only [List.getElem?_toArray,List.getElem?_cons_succ,List.getElem?_cons_zero];rfl)
     ·exact fun _ _ _ h=>h
     ·rfl
     ·(intro w hSw;(try dsimp only at hSw);go_simp;try with_reducible rfl)
     simp only [Act.put,List.setIfInBounds_toArray,List.set_cons_zero,List.set_cons_succ];refine wpAnyH_done (by kernel_rfl) ?_ _
     have hoff:offB l ⟨xc,xt,xr,xu,xa,xp,xb⟩ (FC.fea ⟨fat,bits,co,fi,cu,ho,lo,hi,sn,fA,fn,fc⟩ wh)=(decide (shV (pgOf l xu) xa (FC.fea ⟨fat,bits,co,fi,cu,ho,lo,hi,sn,fA,fn,fc⟩ wh)<lo) || decide (hi<shV (pgOf l xu) xa (FC.fea ⟨fat,bits,co,fi,cu,ho,lo,hi,sn,fA,fn,fc⟩ wh))):=rfl
     have hst:=HStep.out;rw [hoff] at hst;clear hoff HStep HShj hHeld;generalize shV (pgOf l xu) xa (FC.fea ⟨fat,bits,co,fi,cu,ho,lo,hi,sn,fA,fn,fc⟩ wh)=v at *;have HSt:=hj_ hst;have HK9:=hj_ hk;have h5k:=(q18 (Below.refl V5.heap.size V5) 1).trans (hb.mono (q18 (Below.refl V5.heap.size V5) 1).size);have H5K:=hj_ h5k;clear hst hk hd hb h5k;have hB9:=ht_ HB5.out HK9.out;have HB9:=hj_ hB9;clear hB9;have hl1:=q08a (Q0 ++ offF l ⟨xc,xt,xr,xu,xa,xp,xb⟩ (yl.take j)) [];have hl2:=q07s l ⟨xc,xt,xr,xu,xa,xp,xb⟩ (yl.take j);rw [List.length_take] at hl2;rw [List.length_append,List.length_nil] at hl1;have hlen:QQ.length≤100000:=by rw [← HQQ.out];have:=HQL.out;have:=HY40.out;omega
     have HIn3:=hj_ (fun (w':World) (h2:Below V5.heap.size V5 w')=>show Calls prog 138 #[.slice Bo QQ.length bo,.agg #[.int .i64 xc,.int .i64 fat]] w' fun e w''=>∃ A' c',e=.returned (.slice A' (putQ QQ (xc,fat)).length c')∧shP.In w'' A' (putQ QQ (xc,fat)).length (putQ QQ (xc,fat))∧Below w'.heap.size w' w'' from HPut.out Bo QQ.length bo QQ (xc,fat) w' (HIn2.out.below h2) hlen)
     clear hl1 hl2 hlen
     by_cases o1:v<lo
     case pos =>
      have hs1:=HSt.out;rw [if_pos (by rw [decide_eq_true o1];rfl)] at hs1
      have hs3:(Q0 ++ offF l ⟨xc,xt,xr,xu,xa,xp,xb⟩ (yl.take (j+1))).foldl putQ []=putQ QQ (xc,fat):=by rw [hs1,← List.append_assoc,q088,HQQ.out];rfl
      have HS2:=hj_ hs3;clear HSt hs1 hs3;have hd9:=q18 HK9.out 1;clear x0 x1 x2 x3 x4 x5 x6 y0 y1 y2 y3 y4 y5 y6 y7 y8 y9;obtain ⟨⟨x0,x1,x2,x3,x4,x5,x6⟩,y0,y1,y2,y3,y4,y5,y6,y7,y8,y9⟩:=HAll.out _ HK9.out
      go_upto_region 12 with fail
      clear x0 x1 x2 x3 x4 x5 x6 y0 y1 y2 y3 y4 y5 y6 y7 y8 y9;obtain ⟨⟨x0,x1,x2,x3,x4,x5,x6⟩,y0,y1,y2,y3,y4,y5,y6,y7,y8,y9⟩:=HAll.out _ hd9;go_wp2_with fail;refine wp_region_held_drew (S:=fun w'=>w'.cell? ⟨V3.heap.size,0,none⟩=some (.int .i64 xc)∧w'.cell? ⟨V3.heap.size,1,none⟩=some (.int .i64 xt)∧w'.cell? ⟨V3.heap.size,2,none⟩=some (.string xr)∧w'.cell? ⟨V3.heap.size,3,none⟩=some (.int .i64 xu)∧w'.cell? ⟨V3.heap.size,4,none⟩=some (.int .i64 xa)∧w'.cell? ⟨V3.heap.size,5,none⟩=some (.int .i64 xp)∧w'.cell? ⟨V3.heap.size,6,none⟩=some (.string xb)∧w'.cell? ⟨bf,of_+j*10,none⟩=some (.int .i64 fat)∧w'.cell? ⟨bf,of_+j*10+1,none⟩=some (.int .i64 bits)∧w'.cell? ⟨bf,of_+j*10+2,none⟩=some (.int .i64 co)∧w'.cell? ⟨bf,of_+j*10+3,none⟩=some (.int .i64 fi)∧w'.cell? ⟨bf,of_+j*10+4,none⟩=some (.int .i64 cu)∧w'.cell? ⟨bf,of_+j*10+5,none⟩=some (.int .i64 ho)∧w'.cell? ⟨bf,of_+j*10+6,none⟩=some (.int .i64 lo)∧w'.cell? ⟨bf,of_+j*10+7,none⟩=some (.int .i64 hi)∧w'.cell? ⟨bf,of_+j*10+8,none⟩=some (.bool sn)∧w'.cell? ⟨bf,of_+j*10+9,none⟩=some (.slice fA fn fc)) (by kernel_rfl) (by first | exact ⟨x0,x1,x2,x3,x4,x5,x6,y0,y1,y2,y3,y4,y5,y6,y7,y8,y9⟩) (fun hHeld=>?_)
      refine wpAnyH_take (i:=0) (oi:=?_) (v:=?_) ?_ (by kernel_rfl) (by kernel_rfl) (by kernel_rfl) ?_ (Or.inl ⟨?_,?_⟩) (by assumption) ?_
      rotate_left 2
      ·(simp only [List.getElem?_toArray,List.getElem?_cons_zero];rfl)
      ·exact fun _ _ _ h=>h
      ·rfl
      ·(intro w hSw;(try dsimp only at hSw);go_simp;try with_reducible rfl)
      simp only [Act.put,List.setIfInBounds_toArray,List.set_cons_zero,List.set_cons_succ];refine wpAnyH_take (i:=1) (oi:=?_) (v:=?_) ?_ (by kernel_rfl) (by kernel_rfl) (by kernel_rfl) ?_ (Or.inl ⟨?_,?_⟩) (by assumption) ?_
      rotate_left 2
      ·(simp only [List.getElem?_toArray,List.getElem?_cons_succ,List.getElem?_cons_zero];rfl)
      ·exact fun _ _ _ h=>h
      ·rfl
      ·(intro w hSw;(try dsimp only at hSw);go_simp;try with_reducible rfl)
      simp only [Act.put,List.setIfInBounds_toArray,List.set_cons_zero,List.set_cons_succ];refine wpAnyH_take (i:=2) (oi:=?_) (v:=?_) ?_ (by kernel_rfl) (by kernel_rfl) (by kernel_rfl) ?_ (Or.inl ⟨?_,?_⟩) (by assumption) ?_
      rotate_left 2
      ·(simp only [List.getElem?_toArray,List.getElem?_cons_succ,List.getElem?_cons_zero];rfl)
      ·exact fun _ _ _ h=>h
      ·rfl
      ·(intro w hSw;(try dsimp only at hSw);go_simp;try with_reducible rfl)
      simp only [Act.put,List.setIfInBounds_toArray,List.set_cons_zero,List.set_cons_succ];refine wpAnyH_take (i:=3) (oi:=?_) (v:=?_) ?_ (by kernel_rfl) (by kernel_rfl) (by kernel_rfl) ?_ (Or.inl ⟨?_,?_⟩) (by assumption) ?_
      rotate_left 2
      ·(simp only [List.getElem?_toArray,List.getElem?_cons_succ,List.getElem?_cons_zero];rfl)
      ·exact fun _ _ _ h=>h
      ·rfl
      ·(intro w hSw;(try dsimp only at hSw);go_simp;try with_reducible rfl)
      simp only [Act.put,List.setIfInBounds_toArray,List.set_cons_zero,List.set_cons_succ];refine wpAnyH_take (i:=4) (oi:=?_) (v:=?_) ?_ (by kernel_rfl) (by kernel_rfl) (by kernel_rfl) ?_ (Or.inl ⟨?_,?_⟩) (by assumption) ?_
      rotate_left 2
      ·(simp only [List.getElem?_toArray,List.getElem?_cons_succ,List.getElem?_cons_zero];rfl)
      ·exact fun _ _ _ h=>h
      ·rfl
      ·(intro w hSw;(try dsimp only at hSw);go_simp;try with_reducible rfl)
      simp only [Act.put,List.setIfInBounds_toArray,List.set_cons_zero,List.set_cons_succ];refine wpAnyH_take (i:=5) (oi:=?_) (v:=?_) ?_ (by kernel_rfl) (by kernel_rfl) (by kernel_rfl) ?_ (Or.inl ⟨?_,?_⟩) (by assumption) ?_
      rotate_left 2
      ·(simp only [List.getElem?_toArray,List.getElem?_cons_succ,List.getElem?_cons_zero];rfl)
      ·exact fun _ _ _ h=>h
      ·rfl
      ·(intro w hSw;(try dsimp only at hSw);go_simp;try with_reducible rfl)
      simp only [Act.put,List.setIfInBounds_toArray,List.set_cons_zero,List.set_cons_succ];refine wpAnyH_take (i:=6) (oi:=?_) (v:=?_) ?_ (by kernel_rfl) (by kernel_rfl) (by kernel_rfl) ?_ (Or.inl ⟨?_,?_⟩) (by assumption) ?_
      rotate_left 2
      ·(simp only [List.getElem?_toArray,List.getElem?_cons_succ,List.getElem?_cons_zero];rfl)
      ·exact fun _ _ _ h=>h
      ·rfl
      ·(intro w hSw;(try dsimp only at hSw);go_simp;try with_reducible rfl)
      simp only [Act.put,List.setIfInBounds_toArray,List.set_cons_zero,List.set_cons_succ];refine wpAnyH_take (i:=7) (oi:=?_) (v:=?_) ?_ (by kernel_rfl) (by kernel_rfl) (by kernel_rfl) ?_ (Or.inl ⟨?_,?_⟩) (by assumption) ?_
      rotate_left 2
      ·(simp only [List.getElem?_toArray,List.getElem?_cons_succ,List.getElem?_cons_zero];rfl)
      ·exact fun _ _ _ h=>h
      ·rfl
      ·(intro w hSw;(try dsimp only at hSw);go_simp;try with_reducible rfl)
      simp only [Act.put,List.setIfInBounds_toArray,List.set_cons_zero,List.set_cons_succ];refine wpAnyH_take (i:=8) (oi:=?_) (v:=?_) ?_ (by kernel_rfl) (by kernel_rfl) (by kernel_rfl) ?_ (Or.inl ⟨?_,?_⟩) (by assumption) ?_
      rotate_left 2
      ·(simp only [List.getElem?_toArray,List.getElem?_cons_succ,List.getElem?_cons_zero];rfl)
      ·exact fun _ _ _ h=>h
      ·rfl
      ·(intro w hSw;(try dsimp only at hSw);go_simp;try with_reducible rfl)
      simp only [Act.put,List.setIfInBounds_toArray,List.set_cons_zero,List.set_cons_succ];refine wpAnyH_ready (rs:=[9]) (by kernel_rfl) (by simp) ?_
      refine AllReadyH.cons rfl (fun K hK=>?_) AllReadyH.nil
      go_simp
      go_at_call 138;refine (HIn3.out _ (q18 H5K.out 1)).mono ?_;rintro e wk2 ⟨A2,c2,rfl,hin5,hb5⟩;have hk9:=ht_ hd9 hb5;obtain ⟨⟨x0,x1,x2,x3,x4,x5,x6⟩,y0,y1,y2,y3,y4,y5,y6,y7,y8,y9⟩:=HAll.out _ hk9
      go_wp2_with fail;refine hK.out _ _ (by first | exact ⟨x0,x1,x2,x3,x4,x5,x6,y0,y1,y2,y3,y4,y5,y6,y7,y8,y9⟩) (fun hHeld=>?_)
      clear hK K
      try simp only [Act.put,List.setIfInBounds_toArray,List.set_cons_zero,List.set_cons_succ]
      refine wpAnyH_take (i:=10) (oi:=?_) (v:=?_) ?_ (by kernel_rfl) (by kernel_rfl) (by kernel_rfl) ?_ (Or.inl ⟨?_,?_⟩) (by assumption) ?_
      rotate_left 2
      ·(simp only [List.getElem?_toArray,List.getElem?_cons_succ,List.getElem?_cons_zero];rfl)
      ·exact fun _ _ _ h=>h
      ·rfl
      ·(intro w hSw;(try dsimp only at hSw);go_simp;try with_reducible rfl)
      simp only [Act.put,List.setIfInBounds_toArray,List.set_cons_zero,List.set_cons_succ];refine wpAnyH_done (by kernel_rfl) ?_ _
      have HI5:=hj_ hin5;have HK8:=hj_ hk9;clear hin5 hb5 hk9;go_wp2_with fail
      go_roundw
      case rel=>exact ⟨j+1,HLj.out,by go_num,⟨A2,c2,by rw [HS2.out],by rw [HS2.out];exact HI5.out⟩,HK8.out⟩
      case measure=>simp [intOf];have:=HLj.out;omega
     case neg =>
      have hst1:=HSt.out;rw [decide_eq_false o1,Bool.false_or] at hst1
      by_cases o2:hi<v
      case pos =>
       rw [decide_eq_true o2,if_pos rfl] at hst1;have hs3:(Q0 ++ offF l ⟨xc,xt,xr,xu,xa,xp,xb⟩ (yl.take (j+1))).foldl putQ []=putQ QQ (xc,fat):=by rw [hst1,← List.append_assoc,q088,HQQ.out];rfl
       have HS2:=hj_ hs3;clear HSt hst1 hs3;have hd9:=q18 HK9.out 1;clear x0 x1 x2 x3 x4 x5 x6 y0 y1 y2 y3 y4 y5 y6 y7 y8 y9;obtain ⟨⟨x0,x1,x2,x3,x4,x5,x6⟩,y0,y1,y2,y3,y4,y5,y6,y7,y8,y9⟩:=HAll.out _ HK9.out
       go_upto_region 12 with fail
       clear x0 x1 x2 x3 x4 x5 x6 y0 y1 y2 y3 y4 y5 y6 y7 y8 y9;obtain ⟨⟨x0,x1,x2,x3,x4,x5,x6⟩,y0,y1,y2,y3,y4,y5,y6,y7,y8,y9⟩:=HAll.out _ hd9;go_wp2_with fail;refine wp_region_held_drew (S:=fun w'=>w'.cell? ⟨V3.heap.size,0,none⟩=some (.int .i64 xc)∧w'.cell? ⟨V3.heap.size,1,none⟩=some (.int .i64 xt)∧w'.cell? ⟨V3.heap.size,2,none⟩=some (.string xr)∧w'.cell? ⟨V3.heap.size,3,none⟩=some (.int .i64 xu)∧w'.cell? ⟨V3.heap.size,4,none⟩=some (.int .i64 xa)∧w'.cell? ⟨V3.heap.size,5,none⟩=some (.int .i64 xp)∧w'.cell? ⟨V3.heap.size,6,none⟩=some (.string xb)∧w'.cell? ⟨bf,of_+j*10,none⟩=some (.int .i64 fat)∧w'.cell? ⟨bf,of_+j*10+1,none⟩=some (.int .i64 bits)∧w'.cell? ⟨bf,of_+j*10+2,none⟩=some (.int .i64 co)∧w'.cell? ⟨bf,of_+j*10+3,none⟩=some (.int .i64 fi)∧w'.cell? ⟨bf,of_+j*10+4,none⟩=some (.int .i64 cu)∧w'.cell? ⟨bf,of_+j*10+5,none⟩=some (.int .i64 ho)∧w'.cell? ⟨bf,of_+j*10+6,none⟩=some (.int .i64 lo)∧w'.cell? ⟨bf,of_+j*10+7,none⟩=some (.int .i64 hi)∧w'.cell? ⟨bf,of_+j*10+8,none⟩=some (.bool sn)∧w'.cell? ⟨bf,of_+j*10+9,none⟩=some (.slice fA fn fc)) (by kernel_rfl) (by first | exact ⟨x0,x1,x2,x3,x4,x5,x6,y0,y1,y2,y3,y4,y5,y6,y7,y8,y9⟩) (fun hHeld=>?_)
       refine wpAnyH_take (i:=0) (oi:=?_) (v:=?_) ?_ (by kernel_rfl) (by kernel_rfl) (by kernel_rfl) ?_ (Or.inl ⟨?_,?_⟩) (by assumption) ?_
       rotate_left 2
       ·(simp only [List.getElem?_toArray,List.getElem?_cons_zero];rfl)
       ·exact fun _ _ _ h=>h
       ·rfl
       ·(intro w hSw;(try dsimp only at hSw);go_simp;try with_reducible rfl)
       simp only [Act.put,List.setIfInBounds_toArray,List.set_cons_zero,List.set_cons_succ];refine wpAnyH_take (i:=1) (oi:=?_) (v:=?_) ?_ (by kernel_rfl) (by kernel_rfl) (by kernel_rfl) ?_ (Or.inl ⟨?_,?_⟩) (by assumption) ?_
       rotate_left 2
       ·(simp only [List.getElem?_toArray,List.getElem?_cons_succ,List.getElem?_cons_zero];rfl)
       ·exact fun _ _ _ h=>h
       ·rfl
       ·(intro w hSw;(try dsimp only at hSw);go_simp;try with_reducible rfl)
       simp only [Act.put,List.setIfInBounds_toArray,List.set_cons_zero,List.set_cons_succ];refine wpAnyH_take (i:=2) (oi:=?_) (v:=?_) ?_ (by kernel_rfl) (by kernel_rfl) (by kernel_rfl) ?_ (Or.inl ⟨?_,?_⟩) (by assumption) ?_
       rotate_left 2
       ·(simp only [List.getElem?_toArray,List.getElem?_cons_succ,List.getElem?_cons_zero];rfl)
       ·exact fun _ _ _ h=>h
       ·rfl
       ·(intro w hSw;(try dsimp only at hSw);go_simp;try with_reducible rfl)
       simp only [Act.put,List.setIfInBounds_toArray,List.set_cons_zero,List.set_cons_succ];refine wpAnyH_take (i:=3) (oi:=?_) (v:=?_) ?_ (by kernel_rfl) (by kernel_rfl) (by kernel_rfl) ?_ (Or.inl ⟨?_,?_⟩) (by assumption) ?_
       rotate_left 2
       ·(simp only [List.getElem?_toArray,List.getElem?_cons_succ,List.getElem?_cons_zero];rfl)
       ·exact fun _ _ _ h=>h
       ·rfl
       ·(intro w hSw;(try dsimp only at hSw);go_simp;try with_reducible rfl)
       simp only [Act.put,List.setIfInBounds_toArray,List.set_cons_zero,List.set_cons_succ];refine wpAnyH_take (i:=4) (oi:=?_) (v:=?_) ?_ (by kernel_rfl) (by kernel_rfl) (by kernel_rfl) ?_ (Or.inl ⟨?_,?_⟩) (by assumption) ?_
       rotate_left 2
       ·(simp only [List.getElem?_toArray,List.getElem?_cons_succ,List.getElem?_cons_zero];rfl)
       ·exact fun _ _ _ h=>h
       ·rfl
       ·(intro w hSw;(try dsimp only at hSw);go_simp;try with_reducible rfl)
       simp only [Act.put,List.setIfInBounds_toArray,List.set_cons_zero,List.set_cons_succ];refine wpAnyH_take (i:=5) (oi:=?_) (v:=?_) ?_ (by kernel_rfl) (by kernel_rfl) (by kernel_rfl) ?_ (Or.inl ⟨?_,?_⟩) (by assumption) ?_
       rotate_left 2
       ·(simp only [List.getElem?_toArray,List.getElem?_cons_succ,List.getElem?_cons_zero];rfl)
       ·exact fun _ _ _ h=>h
       ·rfl
       ·(intro w hSw;(try dsimp only at hSw);go_simp;try with_reducible rfl)
       simp only [Act.put,List.setIfInBounds_toArray,List.set_cons_zero,List.set_cons_succ];refine wpAnyH_take (i:=6) (oi:=?_) (v:=?_) ?_ (by kernel_rfl) (by kernel_rfl) (by kernel_rfl) ?_ (Or.inl ⟨?_,?_⟩) (by assumption) ?_
       rotate_left 2
       ·(simp only [List.getElem?_toArray,List.getElem?_cons_succ,List.getElem?_cons_zero];rfl)
       ·exact fun _ _ _ h=>h
       ·rfl
       ·(intro w hSw;(try dsimp only at hSw);go_simp;try with_reducible rfl)
       simp only [Act.put,List.setIfInBounds_toArray,List.set_cons_zero,List.set_cons_succ];refine wpAnyH_take (i:=7) (oi:=?_) (v:=?_) ?_ (by kernel_rfl) (by kernel_rfl) (by kernel_rfl) ?_ (Or.inl ⟨?_,?_⟩) (by assumption) ?_
       rotate_left 2
       ·(simp only [List.getElem?_toArray,List.getElem?_cons_succ,List.getElem?_cons_zero];rfl)
       ·exact fun _ _ _ h=>h
       ·rfl
       ·(intro w hSw;(try dsimp only at hSw);go_simp;try with_reducible rfl)
       simp only [Act.put,List.setIfInBounds_toArray,List.set_cons_zero,List.set_cons_succ];refine wpAnyH_take (i:=8) (oi:=?_) (v:=?_) ?_ (by kernel_rfl) (by kernel_rfl) (by kernel_rfl) ?_ (Or.inl ⟨?_,?_⟩) (by assumption) ?_
       rotate_left 2
       ·(simp only [List.getElem?_toArray,List.getElem?_cons_succ,List.getElem?_cons_zero];rfl)
       ·exact fun _ _ _ h=>h
       ·rfl
       ·(intro w hSw;(try dsimp only at hSw);go_simp;try with_reducible rfl)
       simp only [Act.put,List.setIfInBounds_toArray,List.set_cons_zero,List.set_cons_succ];refine wpAnyH_ready (rs:=[9]) (by kernel_rfl) (by simp) ?_
       refine AllReadyH.cons rfl (fun K hK=>?_) AllReadyH.nil
       go_simp
       go_at_call 138;refine (HIn3.out _ (q18 H5K.out 1)).mono ?_;rintro e wk2 ⟨A2,c2,rfl,hin5,hb5⟩;have hk9:=ht_ hd9 hb5;obtain ⟨⟨x0,x1,x2,x3,x4,x5,x6⟩,y0,y1,y2,y3,y4,y5,y6,y7,y8,y9⟩:=HAll.out _ hk9
       go_wp2_with fail;refine hK.out _ _ (by first | exact ⟨x0,x1,x2,x3,x4,x5,x6,y0,y1,y2,y3,y4,y5,y6,y7,y8,y9⟩) (fun hHeld=>?_)
       clear hK K
       try simp only [Act.put,List.setIfInBounds_toArray,List.set_cons_zero,List.set_cons_succ]
       refine wpAnyH_take (i:=10) (oi:=?_) (v:=?_) ?_ (by kernel_rfl) (by kernel_rfl) (by kernel_rfl) ?_ (Or.inl ⟨?_,?_⟩) (by assumption) ?_
       rotate_left 2
       ·(simp only [List.getElem?_toArray,List.getElem?_cons_succ,List.getElem?_cons_zero];rfl)
       ·exact fun _ _ _ h=>h
       ·rfl
       ·(intro w hSw;(try dsimp only at hSw);go_simp;try with_reducible rfl)
       simp only [Act.put,List.setIfInBounds_toArray,List.set_cons_zero,List.set_cons_succ];refine wpAnyH_done (by kernel_rfl) ?_ _
       have HI5:=hj_ hin5;have HK8:=hj_ hk9;clear hin5 hb5 hk9;go_wp2_with fail
       go_roundw
       case rel=>exact ⟨j+1,HLj.out,by go_num,⟨A2,c2,by rw [HS2.out],by rw [HS2.out];exact HI5.out⟩,HK8.out⟩
       case measure=>simp [intOf];have:=HLj.out;omega
      case neg =>
       rw [decide_eq_false o2,if_neg Bool.false_ne_true] at hst1;have HS2:=hj_ hst1;have HI5:=hj_ (HIn2.out.below H5K.out);clear HSt hst1;go_wp2_with fail
       go_roundw
       case rel=>exact ⟨j+1,HLj.out,by go_num,⟨Bo,bo,by rw [HS2.out,HQQ.out],by rw [HS2.out,HQQ.out];exact HI5.out⟩,HK9.out⟩
       case measure=>simp [intOf];have:=HLj.out;omega
end

section
open Go.RowKit
def outE (L:List (List PT)) (PL:List (PC × List Fea)) (X:List Fx) (l:List Fm):Int:=if bothE L PL X l≠0 then bothE L PL X l else if X.any (fun x=>decide (plI l x.un<0))=true then 6 else 0
def outV (L:List (List PT)) (PL:List (PC × List Fea)) (X:List Fx) (l:List Fm):List PT:=if outE L PL X l=0 then (offX l PL X).foldl putQ [] else []
theorem q07w {L:List (List PT)} {PL:List (PC × List Fea)} {X:List Fx} {l:List Fm} (h:bothE L PL X l≠0):outE L PL X l=bothE L PL X l:=by unfold outE;rw [if_pos h]
theorem q07y {L:List (List PT)} {PL:List (PC × List Fea)} {X:List Fx} {l:List Fm} (h:bothE L PL X l=0) {i:Nat} (hi:i<X.length) (hp:plI l X[i].un<0):outE L PL X l=6:=by
 unfold outE;rw [if_neg (fun q=>q h),if_pos]
 rw [List.any_eq_true];exact ⟨X[i],List.getElem_mem hi,by simpa using hp⟩
theorem q07x {L:List (List PT)} {PL:List (PC × List Fea)} {X:List Fx} {l:List Fm} (h:bothE L PL X l=0) (hp:∀ j (hj:j<X.length),¬ plI l X[j].un<0):outE L PL X l=0:=by
 unfold outE;rw [if_neg (fun q=>q h),if_neg]
 rw [List.any_eq_true];rintro ⟨x,hx,hq⟩;obtain ⟨j,hj,rfl⟩:=List.getElem_of_mem hx;exact hp j hj (by simpa using hq)
theorem q080 {L:List (List PT)} {PL:List (PC × List Fea)} {X:List Fx} {l:List Fm} (h:outE L PL X l≠0):outV L PL X l=[]:=by unfold outV;rw [if_neg h]
theorem q081 {L:List (List PT)} {PL:List (PC × List Fea)} {X:List Fx} {l:List Fm} (h:outE L PL X l=0):outV L PL X l=(offX l PL X).foldl putQ []:=by unfold outV;rw [if_pos h]
theorem q07b {L:List (List PT)} {PL:List (PC × List Fea)} {X:List Fx} {l:List Fm} (h:bothE L PL X l=0):uniE L PL X=0∧rightE l=0:=by
 unfold bothE at h
 by_cases hu:uniE L PL X=0
 ·rw [if_neg (fun q=>q hu)] at h;exact ⟨hu,h⟩
 ·rw [if_pos hu] at h;exact absurd h hu
theorem q08b (A0:Option Addr) (n0 d0:Nat) (H:List Hd) (L:List (List PT)) (A1:Option Addr) (n1 d1:Nat) (PL:List (PC × List Fea)) (A2:Option Addr) (n2 d2:Nat) (X:List Fx) (A:Option Addr) (n c:Nat) (l:List Fm) (w:World)
  (hl:InN w A0 n0 H L) (hm:∀ h ∈ H,h.n≤9223372036854775807) (hn0:n0≤9223372036854775807) (hp:InPs w A1 n1 PL) (hpo:PsOK PL) (hnd1:n1≤d1) (hd1:d1≤9223372036854775807) (hn1:n1≤9223372036854775806) (hx:shX.In w A2 n2 X) (hn2:n2≤9223372036854775806) (hcb:∀ x ∈ X,x.cb.size≤9223372036854775807)
  (hf:shFm.In w A n l) (hn:n≤9223372036854775806) (hs:∀ x ∈ l,x.sl.size≤9223372036854775807) (h40:∀ x ∈ X,(featV PL x.pr).length≤40) :
  Calls prog 37 #[.agg #[.slice A0 n0 d0,.slice A1 n1 d1,.slice A2 n2 d2],.slice A n c] w fun e w'=>∃ A' c',e=.returned (.tuple #[.slice A' (outV L PL X l).length c',.int .i64 (outE L PL X l)])∧shP.In w' A' (outV L PL X l).length (outV L PL X l)∧Below w.heap.size w w':=by
 have HBo:=hj_ (fun w h1 h2 h3 h4=>q08f A0 n0 d0 H L A1 n1 d1 PL A2 n2 d2 X A n c l w h1 hm hn0 h2 hpo hnd1 hd1 hn1 h3 hn2 hcb h4 hn hs)
 have HBy:=hj_ (fun hu hr hpl w h2 h3 h4=>q08e A0 n0 d0 L A1 n1 d1 PL A2 n2 d2 X A n c l w h2 hn1 h3 hu h40 h4 hn hr hpl)
 have HPl:=hj_ (fun u w h=>qnb A n c l u w h hn)
 obtain rfl:n2=X.length:=hx.1;have HN2:=hj_ hn2;have H6:=hj_ (fun (hb:bothE L PL X l=0) (i:Nat) (hi:i<X.length) (hp:plI l X[i].un<0)=>q07y hb hi hp)
 have HOk:=hj_ (fun (hb:bothE L PL X l=0) (hp:∀ j (hj:j<X.length),¬ plI l X[j].un<0)=>q07x hb hp)
 have HVn:=hj_ (fun (h:outE L PL X l≠0)=>q080 h)
 have HVk:=hj_ (fun (h:outE L PL X l=0)=>q081 h)
 obtain ⟨W,hW⟩:∃ W,W=(w.alloc (.cells #[.slice A0 n0 d0,.slice A1 n1 d1,.slice A2 X.length d2] 29)):=⟨_,rfl⟩;obtain ⟨hB0,hK0⟩:=box1 #[.slice A0 n0 d0,.slice A1 n1 d1,.slice A2 X.length d2] 29 w W hW;have hK:∀ w',Below W.heap.size W w'→w'.cell? ⟨w.heap.size,0,none⟩=some (.slice A0 n0 d0)∧w'.cell? ⟨w.heap.size,1,none⟩=some (.slice A1 n1 d1)∧w'.cell? ⟨w.heap.size,2,none⟩=some (.slice A2 X.length d2):=fun w' h=>⟨(hK0 w' h) 0 _ rfl,(hK0 w' h) 1 _ rfl,(hK0 w' h) 2 _ rfl⟩
 have HK:=hj_ hK;have HW:=hj_ hW;have HB0:=hj_ hB0;have hB:=Below.refl W.heap.size W;obtain ⟨c0,c1,c2⟩:=hK W hB;clear hW hB0 hK hK0;have HL:=hj_ (hl.below HB0.out);have HP:=hj_ (hp.below HB0.out);have HX:=hj_ (hx.below HB0.out);have HF:=hj_ (hf.below HB0.out);clear hl hm hn0 hp hpo hnd1 hd1 hn1 hx hn2 hcb hf hn hs h40
 by_cases hb0:bothE L PL X l=0
 case neg =>
  have hE:=q07w hb0;have hv:=HVn.out (by rw [hE];exact hb0)
  rw [hE,hv];generalize bothE L PL X l=E at *;have g1:(E == 0)=false:=by simpa using hb0
  have g2:(E != 0)=true:=by simpa using hb0
  clear hE hv H6 HOk HVn HVk HBy
  go_enter func37,ntmps37
  go_wp2_with fail;rw [← HW.out];refine (HBo.out _ (HL.out.below hB) (HP.out.below hB) (HX.out.below hB) (HF.out.below hB)).mono ?_;rintro e wk ⟨rfl,hb⟩;have HB2:=hj_ (HB0.out.trans ((ht_ hB hb).mono HB0.out.size));clear hb;go_wp2_with fail;go_ret2;exact ⟨none,0,rfl,Sh.In.nil _ _,HB2.out⟩
 case pos =>
  obtain ⟨hu,hr⟩:=q07b hb0;replace HBy:=hj_ (HBy.out hu hr);replace H6:=hj_ (H6.out hb0);replace HOk:=hj_ (HOk.out hb0);rw [hb0] at HBo;clear hu hr hb0;generalize outE L PL X l=E at *;generalize outV L PL X l=V at *
  go_enter func37,ntmps37
  go_wp2_with fail;rw [← HW.out];refine (HBo.out _ (HL.out.below hB) (HP.out.below hB) (HX.out.below hB) (HF.out.below hB)).mono ?_;rintro e wk ⟨rfl,hb⟩;replace hB:=ht_ hB hb;have HBk:=hj_ hB;clear hb hB HBo;obtain ⟨c0,c1,c2⟩:=HK.out _ HBk.out;go_wp2_with fail;clear c0 c1 c2
  go_loopw [7] (fun iv wr=>∃ i:Nat,i≤X.length∧iv=.int .i64 i∧(∀ j (hj:j<X.length),j<i→¬ plI l X[j].un<0)∧Below W.heap.size W wr) (fun iv _=>X.length-(intOf iv).toNat)
  case atStart=>exact ⟨0,Nat.zero_le _,rfl,fun j _ h=>absurd h (Nat.not_lt_zero _),HBk.out⟩
  case round =>
   obtain ⟨i,hi,rfl,hno,hB⟩:=hrel;have HNo:=hj_ hno;have HBr:=hj_ hB
   rename World=>V3
   clear hno
   by_cases hlt:i<X.length
   case neg =>
    obtain rfl:i=X.length:=by omega
    have hpl:∀ j (hj:j<X.length),¬ plI l X[j].un<0:=fun j hj=>HNo.out j hj hj
    have hE:=HOk.out (fun j hj=>by have:=hpl j hj;omega)
    have hV:=HVk.out hE;have HBz:=hj_ (HBy.out (fun x hx=>by
     obtain ⟨j,hj,rfl⟩:=List.getElem_of_mem hx
     have:=hpl j hj
     omega))
    have HV:=hj_ hV;subst hE;clear hpl hV HVk HVn HOk H6 HNo HBy;obtain ⟨c0,c1,c2⟩:=HK.out _ hB;go_wp2_with fail;refine (HBz.out _ (HP.out.below HBr.out) (HX.out.below HBr.out) (HF.out.below HBr.out)).mono ?_;rintro e wk2 ⟨Ao,co,rfl,hin,hb⟩;have HI:=hj_ hin;have HB2:=hj_ (HB0.out.trans ((ht_ HBr.out hb).mono HB0.out.size));clear hin hb c0 c1 c2 hB;go_wp2_with fail;go_ret2;exact ⟨Ao,co,by rw [HV.out];rfl,by rw [HV.out];exact HI.out,HB2.out⟩
   case pos =>
    obtain ⟨bx,ox,rfl,hbx,hcell⟩:=fx_at HX.out (by omega)
    have hk:=hcell i hlt;have HX6:=hj_ (H6.out i hlt);have HNx:=hj_ (show ¬ plI l X[i].un<0→∀ j (hj:j<X.length),j<i+1→¬ plI l X[j].un<0 from fun h j hj hji=>by
     by_cases e:j=i
     ·subst e;exact h
     ·exact HNo.out j hj (by omega))
    have HP1:=hj_ (HPl.out X[i].un);have p3:V3.cell? ⟨bx,ox+i*7+3,none⟩=some (.int .i64 X[i].un):=by
     obtain ⟨k0,k1,k2,k3,k4,k5,k6⟩:=hk;exact (HBr.out.cell (p:=⟨bx,_,none⟩) hbx).trans k3
    have i0:(0:Int)≤(i:Int):=by omega
    have i1:(i:Int)<(X.length:Int):=by omega
    have w0:IntKind.i64.wrap ((i:Int)+1)=(i:Int)+1:=IntWalk.i64_in _ (by have:=HN2.out;omega)
    have HLt:=hj_ hlt;have hbw:bx<V3.heap.size:=Nat.lt_of_lt_of_le hbx HBr.out.size;clear hcell hk HNo H6 HPl HOk HVk HBy hbx;generalize X[i].un=u at *;generalize plI l u=v at *;clear hlt hi
    by_cases hv:v<0
    case pos =>
     have hE:=HX6.out hv;have hV:=HVn.out (by rw [hE];decide)
     subst hE hV;clear HX6 HNx HVn;obtain ⟨c0,c1,c2⟩:=HK.out _ hB;go_wp2_with fail;refine (HP1.out _ (HF.out.below HBr.out)).mono ?_;rintro e wk2 ⟨rfl,hb⟩;have HB2:=hj_ (HB0.out.trans ((ht_ HBr.out hb).mono HB0.out.size));clear hb c0 c1 c2 hB p3;go_wp2_with fail;go_ret2;exact ⟨none,0,rfl,Sh.In.nil _ _,HB2.out⟩
    case neg =>
     have HN3:=hj_ (HNx.out hv);clear HX6 HNx HVn;obtain ⟨c0,c1,c2⟩:=HK.out _ hB;go_wp2_with fail;refine (HP1.out _ (HF.out.below HBr.out)).mono ?_;rintro e wk2 ⟨rfl,hb⟩;have HB2:=hj_ (ht_ HBr.out hb);clear hb c0 c1 c2 hB p3;go_wp2_with fail
     go_roundw
     case rel=>exact ⟨i+1,HLt.out,by go_num,fun j hj hji=>by have:=HN3.out j hj hji;omega,HB2.out⟩
     case measure=>simp [intOf];have:=HLt.out;omega
end

end Go.Proofs.YtbfikenbgfnfiaaGreatDoor
