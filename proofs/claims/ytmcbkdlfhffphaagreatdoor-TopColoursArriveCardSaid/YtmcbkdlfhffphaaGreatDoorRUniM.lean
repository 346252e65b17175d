/- Lemmas. -/
import Derived.Test.YtmcbkdlfhffphaaGreatDoorRUniL
namespace Go.Proofs.YtmcbkdlfhffphaaGreatDoor
set_option maxHeartbeats 32000000
set_option maxRecDepth 100000
open _root_.Go.Proofs.Tryz

section
open Go.RowKit
theorem q05n {fn:Func} {p q u v:Tmp} {ty tz:TypeId} (h:fn.results=#[.cell p ty,.cell q tz,.tmp u,.tmp v]) (tmps:Array Value) (P:Program) (w:World) :
  (results fn tmps).run P w =
   ((asAddr (tmps.getD p undef)).run P w).andThen fun a w₁=>((loadVar ty a).run P w₁).andThen fun x w₂=>((asAddr (tmps.getD q undef)).run P w₂).andThen fun b w₃=>((loadVar tz b).run P w₃).andThen fun y w₄=>.ok (.tuple #[x,y,tmps.getD u undef,tmps.getD v undef]) w₄:=by
 simp only [results,h];simp [Sem.run_bind,Result.andThen]
theorem q05y (A:Option Addr) (n c:Nat) (A':Option Addr) (n' c':Nat) (P:List PC) (l:List Fx) (w:World) (hl:shX.In w A n l) (hnc:n≤c) (hc:c≤9223372036854775807) (hp:shPr.In w A' n' P) (hn':n'≤9223372036854775806) (hcb:∀ x ∈ l,x.cb.size≤9223372036854775807) (hE:patE P l=0) :
  Calls prog 25 #[.slice A n c,.slice A' n' c'] w fun e w'=>∃ b,e=.returned (.tuple #[.agg #[.slice A n c,.map (some b)],.int .i64 0])∧w.heap.size≤b∧MapAt sK w' b (profM P)∧Below w.heap.size w w':=by
 have HCk:=hj_ (fun (w:World) hl hp=>qy1 A n c A' n' c' P l w hl hnc hc hp hn' hcb)
 rw [hE] at HCk;have HNw:=hj_ (fun (w:World) h=>qu7 A n c A' n' c' P w h hn')
 have HL:=hj_ hl;have HP:=hj_ hp;clear hl hp hE hnc hc hcb;obtain ⟨W,hW⟩:∃ W,W=w.alloc (.cells #[.slice none 0 0,.map none] 81):=⟨_,rfl⟩;have hb0:Below w.heap.size w W:=by rw [hW];exact (br_).alloc (Nat.le_refl _) _
 have HC0:=hj_ (show Cells W w.heap.size [.slice none 0 0,.map none] by rw [hW];exact Cells.fresh w [.slice none 0 0,.map none] _)
 have hWs:W.heap.size=w.heap.size+1:=by rw [hW];simp
 have HW:=hj_ hW;have HB0:=hj_ hb0;have HS:=hj_ hWs;clear hW hb0 hWs
 go_enter func25,ntmps25
 go_wp2_with fail;rw [← HW.out];refine (HCk.out _ (HL.out.below HB0.out) (HP.out.below HB0.out)).mono ?_;rintro e w1 ⟨rfl,hb⟩;have HB1:=hj_ hb;clear hb;go_wp2_with fail;refine (HNw.out _ (HP.out.below (ht_ HB0.out HB1.out))).mono ?_;rintro e w2 ⟨b,rfl,hbl,hM,hb⟩;have hB2:=ht_ HB1.out hb;have hC:=HC0.out.below hB2 HC0.out.1;have k0:=hC.at_ (j:=0) rfl
 have k1:=hC.at_ (j:=1) rfl
 have f0:=hC.fr (j:=0) rfl;have f1:=hC.fr (j:=1) rfl;have hne:w.heap.size≠b:=by have:=HB1.out.size;have:=HS.out;omega
 have HM:=hj_ ((hM.far 0 (.slice A n c) hne).far 1 (.map (some b)) hne);have HB:=hj_ (((ht_ HB0.out hB2).setCell (p:=⟨w.heap.size,0,none⟩) (Nat.le_refl _) (.slice A n c)).setCell (p:=⟨w.heap.size,1,none⟩) (Nat.le_refl _) (.map (some b)));have hle:w.heap.size≤b:=by have:=HB1.out.size;have:=HS.out;omega
 clear hM hb hB2 hC hbl hne;go_wp2_with fail;refine bodyPost_ret ?_ rfl ⟨b,rfl,hle,HM.out,HB.out⟩;rw [results_cell_tmp rfl];clear HM HB
 go_simp
end

section
open Go.RowKit
def fcZ:FC:=⟨0,0,0,0,0,0,0,0,false,none,0,0⟩
def FirstR (w:World):Option (Fx × Fea)→Value→Value→Bool→Prop
 | none,xv,fv,ok=>xv=fx0.val∧fv=fcZ.val∧ok=false
 | some (x,f),xv,fv,ok=>xv=x.val∧ok=true∧∃ c:FC,fv=c.val∧c.fea f.wh=f∧FW w c f.wh
theorem q052 {PL:List (PC × List Fea)} {at_:Int} {Q:List Fx} {i:Nat} (h:(Q.take i).findSome? (hitP PL at_)=none) (hi:i<Q.length) (hn:hitP PL at_ Q[i]=none):(Q.take (i+1)).findSome? (hitP PL at_)=none:=by
 rw [List.take_succ_eq_append_getElem hi,List.findSome?_append,h];simp [hn]
theorem q051 {PL:List (PC × List Fea)} {at_:Int} {Q:List Fx} {i:Nat} {r:Fx × Fea} (h:(Q.take i).findSome? (hitP PL at_)=none) (hi:i<Q.length) (hn:hitP PL at_ Q[i]=some r):Q.findSome? (hitP PL at_)=some r:=by
 have e:Q=Q.take i ++ Q[i] :: Q.drop (i+1):=by rw [List.getElem_cons_drop,List.take_append_drop]
 conv=>lhs;rw [e]
 rw [List.findSome?_append,h,List.findSome?_cons,hn]
 rfl
theorem q04q {F:List Fea} {at_:Int} {j:Nat} (h:(F.take j).find? (fun f=>decide (f.at_=at_))=none) (hj:j<F.length) (hn:F[j].at_≠at_):(F.take (j+1)).find? (fun f=>decide (f.at_=at_))=none:=by
 rw [List.take_succ_eq_append_getElem hj,List.find?_append,h];simp [hn]
theorem q04p {F:List Fea} {at_:Int} {j:Nat} (h:(F.take j).find? (fun f=>decide (f.at_=at_))=none) (hj:j<F.length) (hn:F[j].at_=at_):F.find? (fun f=>decide (f.at_=at_))=some F[j]:=by
 have e:F=F.take j ++ F[j] :: F.drop (j+1):=by rw [List.getElem_cons_drop,List.take_append_drop]
 conv=>lhs;rw [e]
 rw [List.find?_append,h,List.find?_cons,decide_eq_true hn]
 rfl
theorem q04t {w w':World} {r:Option (Fx × Fea)} {x:Fx} {c:FC} {wh:List Slt} (hr:r=some (x,c.fea wh)) (hw:FW w c wh) (hb:Below w.heap.size w w') :
  ∃ xv fv ok,Ending.returned (.tuple #[x.val,c.val,.bool true,.int .i64 0])=.returned (.tuple #[xv,fv,.bool ok,.int .i64 0])∧Below w.heap.size w w'∧FirstR w' r xv fv ok:=by
 rw [hr];exact ⟨_,_,_,rfl,hb,rfl,rfl,c,rfl,rfl,hw.below hb⟩
theorem q05z (A2:Option Addr) (n2 d2:Nat) (A1:Option Addr) (n1 d1:Nat) (PL:List (PC × List Fea)) (X:List Fx) (ch at_:Int) (w:World) (hl:shX.In w A2 n2 X) (hnc:n2≤d2) (hc:d2≤9223372036854775807) (hp:InPs w A1 n1 PL) (hn':n1≤9223372036854775806) (hcb:∀ x ∈ X,x.cb.size≤9223372036854775807) (h100:n2≤100) (hE:patE (PL.map Prod.fst) X=0) (hFx:∀ i (hi:i<X.length),FxOK (PL.map Prod.fst) X[i]) :
  Calls prog 47 #[.slice A2 n2 d2,.slice A1 n1 d1,.agg #[.int .i64 ch,.int .i64 at_]] w fun e w'=>∃ xv fv ok,e=.returned (.tuple #[xv,fv,.bool ok,.int .i64 0])∧Below w.heap.size w w'∧FirstR w' (havV PL X ch at_) xv fv ok:=by
 obtain ⟨h1,hr⟩:=q05g hE;have HCk:=hj_ (fun (w:World) h1 h2=>q05y A2 n2 d2 A1 n1 d1 (PL.map Prod.fst) X w h1 hnc hc h2 hn' hcb hE)
 have HPa:=hj_ (fun (b:Nat) (w:World) h=>q071 A2 n2 d2 X (some b) ch w h h100 h1 hr)
 have HX:=hj_ hl;have HP:=hj_ hp;have hmem:∀ x ∈ partsL X ch,∃ y ∈ PL,PL.find? (fun z=>decide (z.1.s=x.pr))=some y∧pcF (PL.map Prod.fst) x.pr=some y.1:=fun x hx=>by
  obtain ⟨hX,-⟩:=q05a.1 hx;obtain ⟨i,hi,rfl⟩:=List.getElem_of_mem hX;obtain ⟨-,-,-,p,hp⟩:=hFx i hi;have hpf:=q83 PL X[i].pr;rw [hp] at hpf
  cases hq:PL.find? (fun z=>decide (z.1.s=X[i].pr)) with
  | none=>rw [hq] at hpf;cases hpf
  | some y=>rw [hq] at hpf;injection hpf with hpf;exact ⟨y,List.mem_of_find?_eq_some hq,rfl,by rw [hp,hpf]⟩
 have HMem:=hj_ hmem;have hQl:(partsL X ch).length≤100:=by
  have h2:=q05f h1 hr ch;have h3:n2=X.length:=hl.1;omega
 have HQl:=hj_ hQl;have hav:havV PL X ch at_=(partsL X ch).findSome? (hitP PL at_):=rfl
 rw [hav];clear hl hp hmem hQl hav h1 hr hE hFx hnc hc hn' hcb h100;generalize partsL X ch=Q at *;obtain ⟨W,hW⟩:∃ W,W=((w.alloc (.cells #[.int .i64 ch,.int .i64 at_] 58)).alloc (.cells #[.int .i64 0,.int .i64 0,.string ⟨#[]⟩,.int .i64 0,.int .i64 0,.int .i64 0,.string ⟨#[]⟩] 36)).alloc (.cells #[.int .i64 0,.int .i64 0,.int .i64 0,.int .i64 0,.int .i64 0,.int .i64 0,.int .i64 0,.int .i64 0,.bool false,.slice none 0 0] 52):=⟨_,rfl⟩
 have hWs:W.heap.size=w.heap.size+3:=by rw [hW];simp
 have hb0:Below w.heap.size w W:=by rw [hW];exact (((br_).alloc (Nat.le_refl _) _).alloc (by simp) _).alloc (by simp;omega) _
 have hK0:Cells W w.heap.size [.int .i64 ch,.int .i64 at_]:=by
  rw [hW];exact (Cells.fresh w [.int .i64 ch,.int .i64 at_] _).below (B:=w.heap.size+1) (((br_).alloc (by simp) _).alloc (by simp) _) (by omega)
 have hK1:Cells W (w.heap.size+1) [.int .i64 0,.int .i64 0,.string ⟨#[]⟩,.int .i64 0,.int .i64 0,.int .i64 0,.string ⟨#[]⟩]:=by
  rw [hW]
  have:=Cells.fresh (w.alloc (.cells #[.int .i64 ch,.int .i64 at_] 58)) [.int .i64 0,.int .i64 0,.string ⟨#[]⟩,.int .i64 0,.int .i64 0,.int .i64 0,.string ⟨#[]⟩] 36
  rw [World.size_alloc] at this;exact this.below (B:=w.heap.size+2) ((br_).alloc (by simp) _) (by omega)
 have hK2:Cells W (w.heap.size+2) [.int .i64 0,.int .i64 0,.int .i64 0,.int .i64 0,.int .i64 0,.int .i64 0,.int .i64 0,.int .i64 0,.bool false,.slice none 0 0]:=by
  rw [hW]
  have:=Cells.fresh ((w.alloc (.cells #[.int .i64 ch,.int .i64 at_] 58)).alloc (.cells #[.int .i64 0,.int .i64 0,.string ⟨#[]⟩,.int .i64 0,.int .i64 0,.int .i64 0,.string ⟨#[]⟩] 36)) [.int .i64 0,.int .i64 0,.int .i64 0,.int .i64 0,.int .i64 0,.int .i64 0,.int .i64 0,.int .i64 0,.bool false,.slice none 0 0] 52
  rw [World.size_alloc,World.size_alloc] at this;exact this
 have HW:=hj_ hW;have HS:=hj_ hWs;have HB0:=hj_ hb0;have HK0:=hj_ hK0;have HK1:=hj_ hK1;have HK2:=hj_ hK2;clear hW hWs hb0 hK0 hK1 hK2
 go_enter func47,ntmps47
 go_wp2_with fail;rw [← HW.out];refine (HCk.out _ (HX.out.below HB0.out) (HP.out.1.below HB0.out)).mono ?_;rintro e w1 ⟨b,rfl,hbl,hM,hb⟩;obtain ⟨W1,hW1⟩:∃ W1,W1=w1.alloc (.cells #[.slice A2 n2 d2,.map (some b)] 81):=⟨_,rfl⟩;have hb1:Below w1.heap.size w1 W1:=by rw [hW1];exact (br_).alloc (Nat.le_refl _) _
 have HR1:=hj_ (show Cells W1 w1.heap.size [.slice A2 n2 d2,.map (some b)] by rw [hW1];exact Cells.fresh w1 [.slice A2 n2 d2,.map (some b)] _)
 have HM1:=hj_ (hM.keep (hb1.block _ hM.lt));have HB1:=hj_ (ht_ hb hb1);have HW1:=hj_ hW1;have c0:=(HK0.out.below hb HK0.out.1).at_ (j:=0) rfl
 have m0:w.heap.size<W1.heap.size:=by have:=HB1.out.size;have:=HS.out;omega
 have m1:w.heap.size<w1.heap.size:=by have:=hb.size;have:=HS.out;omega
 have m2:¬ w.heap.size=w1.heap.size:=by omega
 have hbW:=HB1.out.size;clear hW1 hb1 hM hb hbl;go_wp2_with fail;rw [← HW1.out];refine (HPa.out b _ (HX.out.below (ht_ HB0.out HB1.out))).mono ?_;rintro e w2 ⟨A,c,rfl,hI,hb⟩;have HI:=hj_ hI;have HM2:=hj_ (HM1.out.keep (hb.block _ HM1.out.lt));have HR2:=hj_ (HR1.out.below hb HR1.out.1);have HB2:=hj_ (ht_ HB1.out hb);clear hI hb c0 m0 m1 m2 hbW;go_wp2_with fail;have HB2W:=hj_ (fun (w':World) (h:Below w2.heap.size w2 w')=>ht_ HB2.out h)
 have HFx:=hj_ (fun (y:PC × List Fea) (hy:y ∈ PL)=>HP.out.2 y hy)
 have HWf:=hj_ (fun (w':World) (h:Below W.heap.size W w')=>ht_ HB0.out h)
 go_loopw [8,9,32] (fun _ _ iv wr=>∃ i:Nat,i≤Q.length∧iv=.int .i64 i∧(Q.take i).findSome? (hitP PL at_)=none∧Below w2.heap.size w2 wr) (fun _ _ iv _=>Q.length-(intOf iv).toNat)
 case atStart=>exact ⟨0,Nat.zero_le _,rfl,rfl,br_⟩
 case round =>
  obtain ⟨i,hi,rfl,hno,hR⟩:=hrel;have HNo:=hj_ hno;have HRr:=hj_ hR
  rename World=>V3
  clear hno;have hBV:=HB2W.out _ hR;have HBV:=hj_ hBV
  by_cases hlt:i<Q.length
  case neg =>
   obtain rfl:i=Q.length:=by omega
   have hno:=HNo.out;rw [List.take_length] at hno;have HNn:=hj_ hno;have hC1:=HK1.out.below hBV HK1.out.1;have hC2:=HK2.out.below hBV HK2.out.1;have q0:=hC1.at_ (j:=0) rfl
   have qf0:=hC1.fr (j:=0) rfl;have q1:=hC1.at_ (j:=1) rfl
   have qf1:=hC1.fr (j:=1) rfl;have q2:=hC1.at_ (j:=2) rfl
   have qf2:=hC1.fr (j:=2) rfl;have q3:=hC1.at_ (j:=3) rfl
   have qf3:=hC1.fr (j:=3) rfl;have q4:=hC1.at_ (j:=4) rfl
   have qf4:=hC1.fr (j:=4) rfl;have q5:=hC1.at_ (j:=5) rfl
   have qf5:=hC1.fr (j:=5) rfl;have q6:=hC1.at_ (j:=6) rfl
   have qf6:=hC1.fr (j:=6) rfl;have r0:=hC2.at_ (j:=0) rfl
   have rf0:=hC2.fr (j:=0) rfl;have r1:=hC2.at_ (j:=1) rfl
   have rf1:=hC2.fr (j:=1) rfl;have r2:=hC2.at_ (j:=2) rfl
   have rf2:=hC2.fr (j:=2) rfl;have r3:=hC2.at_ (j:=3) rfl
   have rf3:=hC2.fr (j:=3) rfl;have r4:=hC2.at_ (j:=4) rfl
   have rf4:=hC2.fr (j:=4) rfl;have r5:=hC2.at_ (j:=5) rfl
   have rf5:=hC2.fr (j:=5) rfl;have r6:=hC2.at_ (j:=6) rfl
   have rf6:=hC2.fr (j:=6) rfl;have r7:=hC2.at_ (j:=7) rfl
   have rf7:=hC2.fr (j:=7) rfl;have r8:=hC2.at_ (j:=8) rfl
   have rf8:=hC2.fr (j:=8) rfl;have r9:=hC2.at_ (j:=9) rfl
   have rf9:=hC2.fr (j:=9) rfl;have HZ:=hj_ (HWf.out _ hBV);clear hC1 hC2 hBV hR hno;go_wp2_with fail;refine bodyPost_ret ?_ rfl ⟨fx0.val,fcZ.val,false,rfl,?_,by rw [HNn.out];exact ⟨rfl,rfl,rfl⟩⟩
   ·rw [q05n rfl]
    go_simp
    exact ⟨rfl,rfl⟩
   ·repeat (refine Below.setCell ?_ (by dsimp only;omega) _)
    exact HZ.out
  case pos =>
   have HV3:=hj_ hBV.size;obtain ⟨y,hym,hyf,hyp⟩:=HMem.out Q[i] (List.getElem_mem hlt);obtain ⟨bq,oq,rfl,hbl,hcell⟩:=fx_at HI.out (by omega)
   have hk:=hcell i hlt;have hfv:featV PL Q[i].pr=y.2:=by unfold featV;rw [hyf]
   obtain ⟨Hy,hIn⟩:=HFx.out y hym;have HSt:=hj_ (fun (hn:hitP PL at_ Q[i]=none)=>q052 HNo.out hlt hn)
   have HHi:=hj_ (fun r (hn:hitP PL at_ Q[i]=some r)=>q051 HNo.out hlt hn)
   have HDef:=hj_ (show hitP PL at_ Q[i]=(y.2.find? fun f=>decide (f.at_=at_)).map fun f=>(Q[i],f) by unfold hitP;rw [hfv])
   have HLV:=hj_ (show lookV false (profM (PL.map Prod.fst)) Q[i].pr pc0.val=y.1.val by unfold lookV;rw [if_neg Bool.false_ne_true,qde,hyp];rfl)
   have kk:=fun (q:Nat)=>hR.cell (p:=⟨bq,q,none⟩) hbl
   have hbw:bq<V3.heap.size:=Nat.lt_of_lt_of_le hbl hR.size;have i0:(0:Int)≤(i:Int):=by omega
   have i1:(i:Int)<(Q.length:Int):=by omega
   have w0:IntKind.i64.wrap ((i:Int)+1)=(i:Int)+1:=IntWalk.i64_in _ (by have:=HQl.out;omega)
   have HLt:=hj_ hlt;clear hcell hyf hyp hfv hym;generalize Q[i]=x at *;obtain ⟨xc,xt,xr,xu,xa,xp,xb⟩:=x;obtain ⟨k0,k1,k2,k3,k4,k5,k6⟩:=hk;have p0:=(kk _).trans k0;have p1:=(kk _).trans k1;have p2:=(kk _).trans k2;have p3:=(kk _).trans k3;have p4:=(kk _).trans k4;have p5:=(kk _).trans k5;have p6:=(kk _).trans k6;clear k0 k1 k2 k3 k4 k5 k6 kk;obtain ⟨⟨ys,yf,yw,yA,yn,yc⟩,yl⟩:=y;dsimp only at p0 p1 p2 p3 p4 p5 p6 hIn HSt HHi HDef HLV;have HLV2:=hj_ (show lookV false (profM (PL.map Prod.fst)) xr pc0.val=.agg #[.string ys,.int .i64 yf,.int .i64 yw,.slice yA yn yc] from HLV.out)
   have hynl:yn=yl.length:=by have:=hIn.1.1.1;have:=hIn.1.2.1;omega
   subst hynl;have HIn:=hj_ hIn;obtain ⟨W4,hW4⟩:∃ W4,W4=V3.alloc (.cells #[.int .i64 xc,.int .i64 xt,.string xr,.int .i64 xu,.int .i64 xa,.int .i64 xp,.string xb] 36):=⟨_,rfl⟩;have hb4:Below V3.heap.size V3 W4:=by rw [hW4];exact (br_).alloc (Nat.le_refl _) _
   have HX4:=hj_ (show Cells W4 V3.heap.size [.int .i64 xc,.int .i64 xt,.string xr,.int .i64 xu,.int .i64 xa,.int .i64 xp,.string xb] by rw [hW4];exact Cells.fresh V3 [.int .i64 xc,.int .i64 xt,.string xr,.int .i64 xu,.int .i64 xa,.int .i64 xp,.string xb] _)
   have HR4:=hj_ (ht_ hR hb4);have hM3:=HM2.out.keep (hR.block _ HM2.out.lt);have HM4:=hj_ (hM3.keep (hb4.block _ hM3.lt));have HW4:=hj_ hW4;have s1:=(HR2.out.below hR HR2.out.1).at_ (j:=1) rfl
   have m1:w1.heap.size<V3.heap.size:=Nat.lt_of_lt_of_le HR2.out.1 hR.size;have m2:¬ w1.heap.size=V3.heap.size:=by omega
   have HZr:=hj_ (fun w=>show (zeroValue 39).run prog w=.ok pc0.val w by kernel_rfl)
   have hfd:∀ w,(Instr.field 39 (.agg #[.string ys,.int .i64 yf,.int .i64 yw,.slice yA yl.length yc]) 3).run prog w=.ok (.slice yA yl.length yc) w:=fun w=>by rfl
   clear hW4 hb4 hM3 hIn HLV hBV hR;go_wp2_with (at_lookup;refine q002 _ rfl _ _ _ _ rfl _ _ underlying79 sK (KeyTy.str underlying9) b (profM (PL.map Prod.fst)) xr rfl rfl (by rw [← HW4.out];exact HM4.out) pc0.val (HZr.out _) ?_;rw [HLV2.out])
   rw [← HW4.out];clear p0 p1 p2 p3 p4 p5 p6 s1 hfd
   go_loopw [8,9,43] (fun _ _ iv wr=>∃ j:Nat,j≤yl.length∧iv=.int .i64 j∧(yl.take j).find? (fun f=>decide (f.at_=at_))=none∧Below W4.heap.size W4 wr) (fun _ _ iv _=>yl.length-(intOf iv).toNat)
   case atStart=>exact ⟨0,Nat.zero_le _,rfl,rfl,br_⟩
   case round =>
    obtain ⟨j,hj,rfl,hno,hR⟩:=hrel;have HNj:=hj_ hno
    rename World=>V5
    clear hno;have hR2:=ht_ HR4.out hR;have HR5:=hj_ hR2;have hBW:=HB2W.out _ hR2;have HBW:=hj_ hBW
    by_cases hlj:j<yl.length
    case neg =>
     obtain rfl:j=yl.length:=by omega
     have hno:=HNj.out;rw [List.take_length] at hno;have HSx:=hj_ (HSt.out (by rw [HDef.out,hno];rfl))
     clear hR hR2 hBW hno;go_wp2_with fail
     go_roundw
     case rel=>exact ⟨i+1,HLt.out,by go_num,HSx.out,HR5.out⟩
     case measure=>have:=HLt.out;simp [intOf];omega
    case pos =>
     have hjH:j<Hy.length:=by have:=HIn.out.1.2.1;omega
     obtain ⟨bf,of_,rfl,hbf,hcf⟩:=ft_at HIn.out.1.1 (by omega)
     have hkf:=hcf j hjH;have hfx:=(HIn.out.1.2.2 j hjH hlj).1;have hfw:=HIn.out.2.2 j hjH hlj;have HFs:=hj_ (fun (hn:yl[j].at_≠at_)=>q04q HNj.out hlj hn)
     have HFh:=hj_ (fun (hn:yl[j].at_=at_)=>q04p HNj.out hlj hn)
     have kf:=fun (q:Nat)=>(HWf.out _ hBW).cell (p:=⟨bf,q,none⟩) hbf
     have hbf2:bf<V5.heap.size:=Nat.lt_of_lt_of_le hbf (HWf.out _ hBW).size;have j0:(0:Int)≤(j:Int):=by omega
     have j1:(j:Int)<(yl.length:Int):=by omega
     have w2':IntKind.i64.wrap ((j:Int)+1)=(j:Int)+1:=IntWalk.i64_in _ (by have:=HIn.out.2.1;omega)
     have HLj:=hj_ hlj;rw [hfx] at HFs HFh;generalize yl[j].wh=wh at *;clear hfx hcf;generalize Hy[j]=f at *;obtain ⟨fat,bits,co,fi,cu,ho,lo,hi,sn,fA,fn,fc⟩:=f;obtain ⟨r0,r1,r2,r3,r4,r5,r6,r7,r8,r9⟩:=hkf;replace r0:=(kf _).trans r0;replace r1:=(kf _).trans r1;replace r2:=(kf _).trans r2;replace r3:=(kf _).trans r3;replace r4:=(kf _).trans r4;replace r5:=(kf _).trans r5;replace r6:=(kf _).trans r6;replace r7:=(kf _).trans r7;replace r8:=(kf _).trans r8;replace r9:=(kf _).trans r9;dsimp only at r0 r1 r2 r3 r4 r5 r6 r7 r8 r9;obtain ⟨W6,hW6⟩:∃ W6,W6=V5.alloc (.cells #[.int .i64 fat,.int .i64 bits,.int .i64 co,.int .i64 fi,.int .i64 cu,.int .i64 ho,.int .i64 lo,.int .i64 hi,.bool sn,.slice fA fn fc] 52):=⟨_,rfl⟩;have hb6:Below V5.heap.size V5 W6:=by rw [hW6];exact (br_).alloc (Nat.le_refl _) _
     have HF6:=hj_ (show Cells W6 V5.heap.size [.int .i64 fat,.int .i64 bits,.int .i64 co,.int .i64 fi,.int .i64 cu,.int .i64 ho,.int .i64 lo,.int .i64 hi,.bool sn,.slice fA fn fc] by rw [hW6];exact Cells.fresh V5 [.int .i64 fat,.int .i64 bits,.int .i64 co,.int .i64 fi,.int .i64 cu,.int .i64 ho,.int .i64 lo,.int .i64 hi,.bool sn,.slice fA fn fc] _)
     have hX5:=HX4.out.below hR HX4.out.1;have HX6:=hj_ (hX5.below hb6 hX5.1);have HB6:=hj_ (ht_ hBW hb6);have HR6:=hj_ (ht_ hR hb6);have HW6:=hj_ hW6;have c1:=(HK0.out.below hBW HK0.out.1).at_ (j:=1) rfl
     have n1:w.heap.size<V5.heap.size:=Nat.lt_of_lt_of_le HK0.out.1 hBW.size;have n2:¬ w.heap.size=V5.heap.size:=by omega
     have HFW:=hj_ hfw;have HV5:=hj_ hBW.size;clear kf hW6 hb6 hX5 hR hR2 hBW hfw hjH
     by_cases hat:fat=at_
     case neg =>
      have g1:(fat == at_)=false:=by simpa using hat
      have HSx:=hj_ (HFs.out hat);clear hat;go_wp2_with fail;rw [← HW6.out]
      go_roundw
      case rel=>exact ⟨j+1,HLj.out,by go_num,HSx.out,HR6.out⟩
      case measure=>have:=HLj.out;simp [intOf];omega
     case pos =>
      have g1:(fat == at_)=true:=by simpa using hat
      have HHv:=hj_ (HHi.out _ (by rw [HDef.out,HFh.out hat];rfl))
      clear hat;go_wp2_with fail;rw [← HW6.out];clear r0 r1 r2 r3 r4 r5 r6 r7 r8 r9 c1 n1 n2;have hX6:=HX6.out;have hF6:=HF6.out;have hC1:=HK1.out.below HB6.out HK1.out.1;have hC2:=HK2.out.below HB6.out HK2.out.1;have x0:=hX6.at_ (j:=0) rfl
      have x1:=hX6.at_ (j:=1) rfl
      have x2:=hX6.at_ (j:=2) rfl
      have x3:=hX6.at_ (j:=3) rfl
      have x4:=hX6.at_ (j:=4) rfl
      have x5:=hX6.at_ (j:=5) rfl
      have x6:=hX6.at_ (j:=6) rfl
      have y0:=hF6.at_ (j:=0) rfl
      have y1:=hF6.at_ (j:=1) rfl
      have y2:=hF6.at_ (j:=2) rfl
      have y3:=hF6.at_ (j:=3) rfl
      have y4:=hF6.at_ (j:=4) rfl
      have y5:=hF6.at_ (j:=5) rfl
      have y6:=hF6.at_ (j:=6) rfl
      have y7:=hF6.at_ (j:=7) rfl
      have y8:=hF6.at_ (j:=8) rfl
      have y9:=hF6.at_ (j:=9) rfl
      have q0:=hC1.at_ (j:=0) rfl
      have qf0:=hC1.fr (j:=0) rfl;have q1:=hC1.at_ (j:=1) rfl
      have qf1:=hC1.fr (j:=1) rfl;have q2:=hC1.at_ (j:=2) rfl
      have qf2:=hC1.fr (j:=2) rfl;have q3:=hC1.at_ (j:=3) rfl
      have qf3:=hC1.fr (j:=3) rfl;have q4:=hC1.at_ (j:=4) rfl
      have qf4:=hC1.fr (j:=4) rfl;have q5:=hC1.at_ (j:=5) rfl
      have qf5:=hC1.fr (j:=5) rfl;have q6:=hC1.at_ (j:=6) rfl
      have qf6:=hC1.fr (j:=6) rfl;have r0:=hC2.at_ (j:=0) rfl
      have rf0:=hC2.fr (j:=0) rfl;have r1:=hC2.at_ (j:=1) rfl
      have rf1:=hC2.fr (j:=1) rfl;have r2:=hC2.at_ (j:=2) rfl
      have rf2:=hC2.fr (j:=2) rfl;have r3:=hC2.at_ (j:=3) rfl
      have rf3:=hC2.fr (j:=3) rfl;have r4:=hC2.at_ (j:=4) rfl
      have rf4:=hC2.fr (j:=4) rfl;have r5:=hC2.at_ (j:=5) rfl
      have rf5:=hC2.fr (j:=5) rfl;have r6:=hC2.at_ (j:=6) rfl
      have rf6:=hC2.fr (j:=6) rfl;have r7:=hC2.at_ (j:=7) rfl
      have rf7:=hC2.fr (j:=7) rfl;have r8:=hC2.at_ (j:=8) rfl
      have rf8:=hC2.fr (j:=8) rfl;have r9:=hC2.at_ (j:=9) rfl
      have rf9:=hC2.fr (j:=9) rfl;have n3:V3.heap.size<W6.heap.size:=hX6.1;have n4:V5.heap.size<W6.heap.size:=hF6.1;have n5:=HV3.out;have n6:=HV5.out;have hs:=HS.out;have e1:¬ w.heap.size+1=V3.heap.size:=by omega
      have e2:¬ w.heap.size+1=V5.heap.size:=by omega
      have e3:¬ w.heap.size+2=V3.heap.size:=by omega
      have e4:¬ w.heap.size+2=V5.heap.size:=by omega
      have e5:¬ V3.heap.size=w.heap.size+1:=by omega
      have e6:¬ V5.heap.size=w.heap.size+1:=by omega
      have e7:¬ V3.heap.size=w.heap.size+2:=by omega
      have e8:¬ V5.heap.size=w.heap.size+2:=by omega
      clear n5 n6 hs;clear hX6 hF6 hC1 hC2
      go_region
      all_goals
       have HZ:=hj_ (HWf.out _ HB6.out);have HBz:=hj_ (fun (w':World) (h:Below w.heap.size w w')=>HFW.out.below h)
       go_wp2_with fail;refine bodyPost_ret (v:=.tuple #[Fx.val ⟨xc,xt,xr,xu,xa,xp,xb⟩,FC.val ⟨fat,bits,co,fi,cu,ho,lo,hi,sn,fA,fn,fc⟩,.bool true,.int .i64 0]) ?_ rfl ?_
       ·rw [q05n rfl]
        clear HHi HSt HDef HFs HFh
        go_simp
        exact ⟨rfl,rfl⟩
       ·refine q04t (x:=⟨xc,xt,xr,xu,xa,xp,xb⟩) (c:=⟨fat,bits,co,fi,cu,ho,lo,hi,sn,fA,fn,fc⟩) (wh:=wh) HHv.out HFW.out ?_
        have hz:=HZ.out;have g1:w.heap.size≤w.heap.size+1:=by omega
        have g2:w.heap.size≤w.heap.size+1+1:=by omega
        clear HHi HSt HDef HFs HFh HHv HFW;refine Below.drew ?_
        iterate 10 refine Below.setCell ?_ g2 _
        iterate 7 refine Below.setCell ?_ g1 _
        exact hz
end

section
open Go.RowKit
theorem q05w {κ:Type} [DecidableEq κ] {P:Program} {ops:Array Oper} {o:Oper} {a:Act} {w:World} {K:Act→World→Prop} {Q:Exit→Act→World→Prop} {E:Prop}
  (hg:o.guard=none) (m x:Operand) (t:TypeId) (ok:Bool) (hop:o.op=Op.lookup t m x ok) (kt et:TypeId) (hm:P.underlying t=some (.map kt et)) (enc:κ→Value) (Kt:KeyTy P kt enc) (b:Nat) (L:List (κ × Value)) (k:κ)
  (he:a.eval m=.map (some b)) (hx:a.eval x=enc k) (hM:MapAt enc w b L) (z:Value) (hz:(zeroValue et).run P w=.ok z w)
  (hK:K (a.put o.dst (lookV ok L k z)) w) :
  if Region.wanted o (yielded ops a.tmps)=true then Oper.wp P o a w K Q else E:=by
 have hw:Region.wanted o (yielded ops a.tmps)=true:=by simp [Region.wanted,hg]
 rw [if_pos hw];have hrun:=qnx hm Kt hM k hz ok;unfold Oper.wp;simp [execOp,hop,he,hx,hrun,Result.andThen];exact hK
theorem q05l {L:List (List PT)} {PL:List (PC × List Fea)} {X:List Fx} {l:List Fm} {ch at_:Int} (h:bothE L PL X l≠0):rawUE L PL X l ch at_=bothE L PL X l∧rawUV L PL X l ch at_=0:=by
 have h1:rawUE L PL X l ch at_=bothE L PL X l:=by
  unfold rawUE bothE at *
  by_cases hu:uniE L PL X≠0
  ·rw [if_pos hu,if_pos hu]
  ·rw [if_neg hu] at h ⊢
   rw [if_neg hu,if_pos h]
 refine ⟨h1,?_⟩;unfold rawUV;rw [h1,if_pos h]
theorem q05m {L:List (List PT)} {PL:List (PC × List Fea)} {X:List Fx} {l:List Fm} {ch at_:Int} (h:bothE L PL X l=0):uniE L PL X=0∧rightE l=0∧rawUE L PL X l ch at_=(if paramE ch at_≠0 then paramE ch at_ else
  match havV PL X ch at_ with
  | none=>6
  | some (x,_)=>if plI l x.un<0 then 6 else 0):=by
 unfold bothE at h
 by_cases hu:uniE L PL X≠0
 ·rw [if_pos hu] at h;exact absurd h hu
 ·rw [if_neg hu] at h
  refine ⟨Classical.not_not.1 hu,h,?_⟩;unfold rawUE;rw [if_neg hu,if_neg (fun q=>q h)]
  rfl
theorem q060 {L:List (List PT)} {PL:List (PC × List Fea)} {X:List Fx} (h:uniE L PL X=0):patE (PL.map Prod.fst) X=0:=by
 unfold uniE at h
 by_cases h1:errA L≠0
 ·rw [if_pos h1] at h;exact absurd h h1
 rw [if_neg h1] at h
 by_cases h2:32<PL.length
 ·rw [if_pos h2] at h;cases h
 rw [if_neg h2] at h
 by_cases h3:firstE (prE L PL) PL.length≠0
 ·rw [if_pos h3] at h;exact absurd h h3
 rw [if_neg h3] at h;exact h
theorem q04r {w:World} {r:Option (Fx × Fea)} {xv fv:Value} {ok:Bool} (h:FirstR w r xv fv ok):∃ (x:Fx) (cf:FC),xv=x.val∧fv=cf.val∧((ok=false∧r=none)∨(ok=true∧∃ wl,r=some (x,cf.fea wl)∧FW w cf wl)):=by
 match r,h with
 | none,⟨h1,h2,h3⟩=>exact ⟨fx0,fcZ,h1,h2,.inl ⟨h3,rfl⟩⟩
 | some (x,f),⟨h1,h2,c,h3,h4,h5⟩=>exact ⟨x,c,h1,h3,.inr ⟨h2,f.wh,by rw [h4],h5⟩⟩
theorem q05x (A0:Option Addr) (n0 d0:Nat) (H:List Hd) (L:List (List PT)) (A1:Option Addr) (n1 d1:Nat) (PL:List (PC × List Fea)) (A2:Option Addr) (n2 d2:Nat) (X:List Fx) (A:Option Addr) (n c:Nat) (l:List Fm) (ch at_:Int) (w:World)
  (hl:InN w A0 n0 H L) (hm:∀ h ∈ H,h.n≤9223372036854775807) (hp:InPs w A1 n1 PL) (hn1:n1≤9223372036854775806) (hx:shX.In w A2 n2 X) (hn2:n2≤d2) (hd2:d2≤9223372036854775807) (hcb:∀ x ∈ X,x.cb.size≤9223372036854775807)
  (hf:shFm.In w A n l) (hn:n≤9223372036854775806) (hs:∀ x ∈ l,x.sl.size≤9223372036854775807) :
  Calls prog 17 #[.agg #[.slice A0 n0 d0,.slice A1 n1 d1,.slice A2 n2 d2],.slice A n c,.agg #[.int .i64 ch,.int .i64 at_]] w fun e w'=>e=.returned (.tuple #[.int .i64 (rawUV L PL X l ch at_),.int .i64 (rawUE L PL X l ch at_)])∧Below w.heap.size w w':=by
 have HBo:=hj_ (fun (w:World) h1 h2 h3 h4=>q01c A0 n0 d0 H L A1 n1 d1 PL A2 n2 d2 X A n c l w h1 hm h2 hn1 h3 hn2 hd2 hcb h4 hn hs)
 have HPr:=hj_ (fun w=>qyh ch at_ w)
 have HL:=hj_ hl;have HP:=hj_ hp;have HX:=hj_ hx;have HF:=hj_ hf;have HFi:=hj_ (fun (w:World) (h100:n2≤100) (h1:shX.In w A2 n2 X) (h2:InPs w A1 n1 PL) (hE:patE (PL.map Prod.fst) X=0) hFx=>q05z A2 n2 d2 A1 n1 d1 PL X ch at_ w h1 hn2 hd2 h2 hn1 hcb h100 hE hFx)
 clear hl hp hx hf hm hn1 hn2 hd2 hcb hn hs;obtain ⟨W,hW⟩:∃ W,W=((w.alloc (.cells #[.slice A0 n0 d0,.slice A1 n1 d1,.slice A2 n2 d2] 26)).alloc (.cells #[.int .i64 ch,.int .i64 at_] 58)):=⟨_,rfl⟩
 obtain ⟨hB0,hK0⟩:=box2 #[.slice A0 n0 d0,.slice A1 n1 d1,.slice A2 n2 d2] 26 #[.int .i64 ch,.int .i64 at_] 58 w W hW
 have hK:∀ w',Below W.heap.size W w'→w'.cell? ⟨w.heap.size,0,none⟩=some (.slice A0 n0 d0)∧w'.cell? ⟨w.heap.size,1,none⟩=some (.slice A1 n1 d1)∧w'.cell? ⟨w.heap.size,2,none⟩=some (.slice A2 n2 d2)∧w'.cell? ⟨w.heap.size+1,0,none⟩=some (.int .i64 ch)∧w'.cell? ⟨w.heap.size+1,1,none⟩=some (.int .i64 at_):=fun w' h=>⟨(hK0 w' h).1 0 _ rfl,(hK0 w' h).1 1 _ rfl,(hK0 w' h).1 2 _ rfl,(hK0 w' h).2 0 _ rfl,(hK0 w' h).2 1 _ rfl⟩
 have HK:=hj_ hK;have HW:=hj_ hW;have HB0:=hj_ hB0;have hB:=Below.refl W.heap.size W;obtain ⟨c0,c1,c2,c3,c4⟩:=hK W hB;clear hW hB0 hK hK0;replace HL:=hj_ (HL.out.below HB0.out);replace HP:=hj_ (HP.out.below HB0.out);replace HX:=hj_ (HX.out.below HB0.out);replace HF:=hj_ (HF.out.below HB0.out)
 by_cases hbo:bothE L PL X l=0
 case neg =>
  obtain ⟨e1,e2⟩:=q05l (ch:=ch) (at_:=at_) hbo
  rw [e1,e2];have g1:(bothE L PL X l == 0)=false:=by simpa using hbo
  clear e1 e2 hbo;generalize bothE L PL X l=E at *
  go_enter func17,ntmps17
  go_wp2_with fail;rw [← HW.out];refine uq_ (HBo.out _ (HL.out.below hB) (HP.out.below hB) (HX.out.below hB) (HF.out.below hB)) hB ?_;clear hB;intro wk hB;obtain ⟨c0,c1,c2,c3,c4⟩:=HK.out _ hB;go_wp2_with fail;go_ret2;exact ⟨rfl,ht_ HB0.out hB⟩
 case pos =>
  obtain ⟨hu,hri,hrw⟩:=q05m (ch:=ch) (at_:=at_) hbo
  rw [hbo] at HBo
  by_cases hpa:paramE ch at_=0
  case neg =>
   have e1:rawUE L PL X l ch at_=paramE ch at_:=by rw [hrw,if_pos hpa]
   have e2:rawUV L PL X l ch at_=0:=by unfold rawUV;rw [e1,if_pos hpa]
   rw [e1,e2];have g1:(paramE ch at_ == 0)=false:=by simpa using hpa
   clear e1 e2 hpa hrw hbo hu hri;generalize paramE ch at_=E at *
   go_enter func17,ntmps17
   go_wp2_with fail;rw [← HW.out];refine uq_ (HBo.out _ (HL.out.below hB) (HP.out.below hB) (HX.out.below hB) (HF.out.below hB)) hB ?_;clear hB;intro wk hB;obtain ⟨c0,c1,c2,c3,c4⟩:=HK.out _ hB;go_wp2_with fail;refine uq_ (HPr.out _) hB ?_;clear hB;intro wk hB;obtain ⟨c0,c1,c2,c3,c4⟩:=HK.out _ hB;go_wp2_with fail;go_ret2;exact ⟨rfl,ht_ HB0.out hB⟩
  case pos =>
   rw [hpa] at HPr;rw [if_neg (fun q=>q hpa)] at hrw
   obtain ⟨-,hX64,hFx,hFe⟩:=qu8 hu;have h100:n2≤100:=by have:n2=X.length:=HX.out.1;omega
   have hRd:=fun (w:World) (h:shFm.In w A n l)=>qyk A n c l w h hri
   have HRd:=hj_ hRd;replace HFi:=hj_ (fun (w:World) h1 h2=>HFi.out w h100 h1 h2 (q060 hu) hFx)
   have HRw:=hj_ hrw;have HU:=hj_ hu;have HRi:=hj_ hri;clear hrw hbo hu hri hpa hFx hFe hRd h100 hX64
   go_enter func17,ntmps17
   go_wp2_with fail;rw [← HW.out];refine uq_ (HBo.out _ (HL.out.below hB) (HP.out.below hB) (HX.out.below hB) (HF.out.below hB)) hB ?_;clear hB;intro wk hB;obtain ⟨c0,c1,c2,c3,c4⟩:=HK.out _ hB;go_wp2_with fail;refine uq_ (HPr.out _) hB ?_;clear hB;intro wk hB;obtain ⟨c0,c1,c2,c3,c4⟩:=HK.out _ hB;go_wp2_with fail;refine (HFi.out _ (HX.out.below hB) (HP.out.below hB)).mono ?_;rintro e w5 ⟨xv,fv,ok,rfl,hb,hfr⟩;obtain ⟨x,cf,rfl,rfl,hcase⟩:=q04r hfr;have HCa:=hj_ hcase;have HB5:=hj_ (ht_ hB hb);clear hfr hcase hb;obtain ⟨xc,xt,xr,xu,xa,xp,xb⟩:=x;obtain ⟨fat,bits,co,fi,cu,ho,lo,hi,sn,fA,fn,fc⟩:=cf;dsimp only [Fx.val,FC.val];obtain ⟨W6,hW6⟩:∃ W6,W6=(w5.alloc (.cells #[.int .i64 xc,.int .i64 xt,.string xr,.int .i64 xu,.int .i64 xa,.int .i64 xp,.string xb] 36)).alloc (.cells #[.int .i64 fat,.int .i64 bits,.int .i64 co,.int .i64 fi,.int .i64 cu,.int .i64 ho,.int .i64 lo,.int .i64 hi,.bool sn,.slice fA fn fc] 52):=⟨_,rfl⟩;have hb6:Below w5.heap.size w5 W6:=by rw [hW6];exact ((br_).alloc (Nat.le_refl _) _).alloc (by simp) _
   have hX6:Cells W6 w5.heap.size [.int .i64 xc,.int .i64 xt,.string xr,.int .i64 xu,.int .i64 xa,.int .i64 xp,.string xb]:=by
    rw [hW6];exact (Cells.fresh w5 [.int .i64 xc,.int .i64 xt,.string xr,.int .i64 xu,.int .i64 xa,.int .i64 xp,.string xb] _).below (B:=w5.heap.size+1) ((br_).alloc (by simp) _) (by omega)
   have hF6:Cells W6 (w5.heap.size+1) [.int .i64 fat,.int .i64 bits,.int .i64 co,.int .i64 fi,.int .i64 cu,.int .i64 ho,.int .i64 lo,.int .i64 hi,.bool sn,.slice fA fn fc]:=by
    rw [hW6]
    have:=Cells.fresh (w5.alloc (.cells #[.int .i64 xc,.int .i64 xt,.string xr,.int .i64 xu,.int .i64 xa,.int .i64 xp,.string xb] 36)) [.int .i64 fat,.int .i64 bits,.int .i64 co,.int .i64 fi,.int .i64 cu,.int .i64 ho,.int .i64 lo,.int .i64 hi,.bool sn,.slice fA fn fc] 52
    rw [World.size_alloc] at this;exact this
   have HX6:=hj_ hX6;have HF6:=hj_ hF6;have HB6:=hj_ (ht_ HB5.out hb6);have HW6:=hj_ hW6;clear hW6 hb6 hX6 hF6 c0 c1 c2 c3 c4;go_wp2_with fail;rw [← HW6.out];have hX:=q18 (Below.refl W6.heap.size W6) 1;have s3:=(HX6.out.below hX HX6.out.1).at_ (j:=3) rfl
   refine wp_region_held_drew (S:=fun w'=>w'.cell? ⟨w5.heap.size,3,none⟩=some (.int .i64 xu)) (by kernel_rfl) (by first | exact s3) (fun hHeld=>?_)
   repeat
    refine tk (i:=?_) (oi:=?_) (v:=?_) ?_ ?_ ?_ ?_ ?_ ?_ ?_ ?_ ?_
    rotate_left 3
    ·first | exact Eq.refl 0
    ·simp only [List.getElem?_toArray,List.getElem?_cons_zero];rfl
    ·kernel_rfl
    ·kernel_rfl
    ·kernel_rfl
    rotate_left 1
    ·first | (refine Or.inl ⟨?_,?_⟩;(· rfl);intro w hSw;(try dsimp only at hSw);go_simp;try with_reducible rfl) | exact Or.inr ⟨rfl,rfl⟩
    ·assumption
    rotate_left 1
    ·exact fun _ _ _ h=>h
    simp only [Act.put,List.setIfInBounds_toArray,List.set_cons_zero,List.set_cons_succ]
   refine wpAnyH_take (i:=2) (oi:=?_) (v:=?_) ?_ (by kernel_rfl) (by kernel_rfl) (by kernel_rfl) ?_ (Or.inl ⟨?_,?_⟩) (by assumption) ?_
   rotate_left 2
   ·(simp only [List.getElem?_toArray,List.getElem?_cons_succ,List.getElem?_cons_zero];rfl)
   ·exact fun _ _ _ h=>h
   ·rfl
   ·(intro w hSw;(try dsimp only at hSw);go_simp;try with_reducible rfl)
   simp only [Act.put,List.setIfInBounds_toArray,List.set_cons_zero,List.set_cons_succ];refine wpAnyH_take (i:=3) (oi:=?_) (v:=?_) ?_ (by kernel_rfl) (by kernel_rfl) (by kernel_rfl) ?_ (Or.inl ⟨?_,?_⟩) (by assumption) ?_
   rotate_left 2
   ·(simp only [List.getElem?_toArray,List.getElem?_cons_succ,List.getElem?_cons_zero];rfl)
   ·exact fun _ _ _ h=>h
   ·rfl
   ·(intro w hSw;(try dsimp only at hSw);go_simp;try with_reducible rfl)
   simp only [Act.put,List.setIfInBounds_toArray,List.set_cons_zero,List.set_cons_succ];refine wpAnyH_ready (rs:=[1]) (by kernel_rfl) (by simp) ?_
   refine AllReadyH.cons rfl (fun Kn hK=>?_) AllReadyH.nil
   go_simp
   go_at_call 48
   refine (HRd.out _ (HF.out.below (ht_ HB6.out hX))).mono ?_;rintro e w7 ⟨M,R,rfl,hRd,hb⟩;go_wp2_with fail;have HRD:=hj_ hRd;have hX7:=ht_ hX hb;have HX7:=hj_ hX7;have s3':=(HX6.out.below hX7 HX6.out.1).at_ (j:=3) rfl
   obtain ⟨sv,is,hLV⟩:∃ sv is,lookV true (rdL R) xu (.slice none 0 0)=.tuple #[sv,.bool is]:=⟨_,_,rfl⟩;have HLV:=hj_ hLV;clear hRd hX hb hX7 s3 hLV;refine hK.out _ _ (by first | exact s3') (fun hHeld=>?_)
   clear hK Kn
   try simp only [Act.put,List.setIfInBounds_toArray]
   refine wpAnyH_ready (rs:=[4]) (by kernel_rfl) (by simp) ?_
   refine AllReadyH.cons rfl (fun Kn hK=>?_) AllReadyH.nil
   refine q05w rfl _ _ _ _ rfl _ _ underlying103 iK (KeyTy.int underlying3) M (rdL R) xu (by simp [Act.eval]) (by simp [Act.eval]) HRD.out.1 (.slice none 0 0) (by kernel_rfl) ?_
   rw [HLV.out];refine hK.out _ _ (by first | exact s3') (fun hHeld=>?_)
   clear hK Kn
   try simp only [Act.put,List.setIfInBounds_toArray]
   repeat
    refine tk (i:=?_) (oi:=?_) (v:=?_) ?_ ?_ ?_ ?_ ?_ ?_ ?_ ?_ ?_
    rotate_left 3
    ·first | exact Eq.refl 0 | exact Eq.refl 1 | exact Eq.refl 2 | exact Eq.refl 3 | exact Eq.refl 4 | exact Eq.refl 5 | exact Eq.refl 6 | exact Eq.refl 7 | exact Eq.refl 8 | exact Eq.refl 9
    ·simp only [List.getElem?_toArray,List.getElem?_cons_succ,List.getElem?_cons_zero];rfl
    ·kernel_rfl
    ·kernel_rfl
    ·kernel_rfl
    rotate_left 1
    ·first | (refine Or.inl ⟨?_,?_⟩;(· rfl);intro w hSw;(try dsimp only at hSw);go_simp;try with_reducible rfl) | exact Or.inr ⟨rfl,rfl⟩
    ·assumption
    rotate_left 1
    ·exact fun _ _ _ h=>h
    simp only [Act.put]
   refine wpAnyH_done (by kernel_rfl) ?_ _
   clear hHeld s3';have hlv:=HLV.out;unfold lookV at hlv;rw [if_pos rfl] at hlv
   injection hlv with hlv
   have hsv:(lookL (rdL R) xu).getD (.slice none 0 0)=sv:=congrArg (fun a:Array Value=>a.getD 0 undef) hlv
   have his:(lookL (rdL R) xu).isSome=is:=by
    have:=congrArg (fun a:Array Value=>a.getD 1 undef) hlv
    injection this
   have hlk:=qdf HRD.out xu;have HZ7:=hj_ (HB0.out.trans ((ht_ HB6.out HX7.out).mono HB0.out.size));clear hlv
   rcases HCa.out with ⟨rfl,hno⟩ | ⟨rfl,wl,hso,hfw⟩
   ·have e1:rawUE L PL X l ch at_=6:=by rw [HRw.out,hno]
    have e2:rawUV L PL X l ch at_=0:=by unfold rawUV;rw [e1,if_pos (by decide)]
    have HE:=hj_ (And.intro e1 e2);clear e1 e2 hno hsv his hlk;go_wp2_with fail;go_ret2;exact ⟨by rw [HE.out.1,HE.out.2];rfl,HZ7.out⟩
   ·by_cases hpl:plI l xu<0
    ·rw [if_pos hpl] at hlk
     rw [hlk] at his;obtain rfl:is=false:=his.symm;have e1:rawUE L PL X l ch at_=6:=by rw [HRw.out,hso];exact if_pos hpl
     have e2:rawUV L PL X l ch at_=0:=by unfold rawUV;rw [e1,if_pos (by decide)]
     have HE:=hj_ (And.intro e1 e2);clear e1 e2 hso hsv his hlk hpl hfw;go_wp2_with fail;go_ret2;exact ⟨by rw [HE.out.1,HE.out.2];rfl,HZ7.out⟩
    ·have hpll:=qbb (p:=fun f:Fm=>decide (f.un=xu)) l
     obtain ⟨i,hi'⟩:∃ i:Nat,plI l xu=i:=⟨(plI l xu).toNat,by omega⟩
     have hil:i<l.length:=by have:plI l xu<l.length:=hpll;omega
     have hiR:i<R.length:=by rw [HRD.out.2.2.1];exact hil
     obtain ⟨-,-,-,hcc⟩:=HRD.out.2.2.2.1 i hiR hil;rw [if_neg hpl,hi',Int.toNat_natCast,List.getElem?_eq_getElem hiR] at hlk;rw [hlk] at his hsv;obtain rfl:is=true:=his.symm;have hsv2:Value.slice (some ⟨R[i].2.1,0,none⟩) 512 R[i].2.2=sv:=hsv;subst hsv2;obtain ⟨hxX,-,hxf,-⟩:=q050 hso;have hfit:=(rig_ok HU.out).fit _ hxX _ hxf;obtain ⟨-,-,hFx,-⟩:=qu8 HU.out;obtain ⟨q,hq,hqe⟩:=List.getElem_of_mem hxX;have had:1≤xa∧xa≤512:=by
      have hrn:=(hFx q hq).1;rw [hqe] at hrn;unfold qkt at hrn;simp only [Bool.and_eq_true,decide_eq_true_eq] at hrn;exact hrn.1.2
     have hsz:=((rgL_of HRi.out).2 l[i] (List.getElem_mem hil)).2.2;have hlen:l[i].sl.data.toList.length=512:=by
      have:l[i].sl.data.toList.length=l[i].sl.size:=by simp
      omega
     have hpg:pgOf l xu=l[i].sl.data.toList:=by unfold pgOf;rw [hi',Int.toNat_natCast,qa1 hil]
     have e1:rawUE L PL X l ch at_=0:=by rw [HRw.out,hso];exact if_neg hpl
     have e2:rawUV L PL X l ch at_=shV l[i].sl.data.toList xa (FC.fea ⟨fat,bits,co,fi,cu,ho,lo,hi,sn,fA,fn,fc⟩ wl):=by
      unfold rawUV;rw [e1,if_neg (fun h=>h rfl),hso,← hpg]
     have HE:=hj_ (And.intro e1 e2);have HRa:=hj_ (show Calls prog 49 #[.slice (some ⟨R[i].2.1,0,none⟩) 512 R[i].2.2,.agg #[.int .i64 xc,.int .i64 xt,.string xr,.int .i64 xu,.int .i64 xa,.int .i64 xp,.string xb],.agg #[.int .i64 fat,.int .i64 bits,.int .i64 co,.int .i64 fi,.int .i64 cu,.int .i64 ho,.int .i64 lo,.int .i64 hi,.bool sn,.slice fA fn fc]] w7 fun e w'=>e=.returned (.int .i64 (shV l[i].sl.data.toList xa (FC.fea ⟨fat,bits,co,fi,cu,ho,lo,hi,sn,fA,fn,fc⟩ wl)))∧Below w7.heap.size w7 w' from q01e R[i].2.1 R[i].2.2 l[i].sl.data.toList ⟨xc,xt,xr,xu,xa,xp,xb⟩ ⟨fat,bits,co,fi,cu,ho,lo,hi,sn,fA,fn,fc⟩ wl w7 hcc hlen had hfit)
     clear e1 e2 hso hsv his hlk hpl hfw hpll hi' hcc hxX hxf hfit hFx hqe had hsz hlen hpg;generalize shV l[i].sl.data.toList xa (FC.fea ⟨fat,bits,co,fi,cu,ho,lo,hi,sn,fA,fn,fc⟩ wl)=RAW at *;generalize R[i].2.1=RB at *;generalize R[i].2.2=RC at *;have hX8:=HX6.out.below HX7.out HX6.out.1;have hF8:=HF6.out.below HX7.out HF6.out.1;have x0:=hX8.at_ (j:=0) rfl
     have x1:=hX8.at_ (j:=1) rfl
     have x2:=hX8.at_ (j:=2) rfl
     have x3:=hX8.at_ (j:=3) rfl
     have x4:=hX8.at_ (j:=4) rfl
     have x5:=hX8.at_ (j:=5) rfl
     have x6:=hX8.at_ (j:=6) rfl
     have y0:=hF8.at_ (j:=0) rfl
     have y1:=hF8.at_ (j:=1) rfl
     have y2:=hF8.at_ (j:=2) rfl
     have y3:=hF8.at_ (j:=3) rfl
     have y4:=hF8.at_ (j:=4) rfl
     have y5:=hF8.at_ (j:=5) rfl
     have y6:=hF8.at_ (j:=6) rfl
     have y7:=hF8.at_ (j:=7) rfl
     have y8:=hF8.at_ (j:=8) rfl
     have y9:=hF8.at_ (j:=9) rfl
     clear hX8 hF8;go_wp2_with fail;refine HRa.out.mono ?_;rintro e w8 ⟨rfl,hb⟩;have HZ8:=hj_ (ht_ HZ7.out hb);clear hb;go_wp2_with fail;go_ret2;exact ⟨by rw [HE.out.1,HE.out.2];rfl,HZ8.out⟩
end

end Go.Proofs.YtmcbkdlfhffphaaGreatDoor
