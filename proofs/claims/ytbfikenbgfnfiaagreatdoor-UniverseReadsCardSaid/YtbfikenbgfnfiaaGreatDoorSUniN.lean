/- Lemmas. -/
import Derived.Test.YtbfikenbgfnfiaaGreatDoorSUniM
namespace Go.Proofs.YtbfikenbgfnfiaaGreatDoor
set_option maxHeartbeats 32000000
set_option maxRecDepth 100000
open _root_.Go.Proofs.Tryz

section
open Go.RowKit
theorem fx_one (a b d e f:Int) (s t:ByteArray):∀ u ∈ [Value.int .i64 a,.int .i64 b,.string s,.int .i64 d,.int .i64 e,.int .i64 f,.string t],u.oneCell' = true:=by simp;exact ⟨rfl,rfl,rfl,rfl,rfl,rfl,rfl⟩
theorem q05c (X:List Fx) (ch:Int):∀ n,(partsN X ch n).length≤n*X.length
 | 0=>Nat.zero_le _
 | n+1=>by
  rw [q05d,List.length_append,Nat.add_mul,Nat.one_mul];exact Nat.add_le_add (q05c X ch n) (List.length_filter_le ..)
def prtB (ch:Int) (k:Nat) (x:Fx):Bool:=chB ch x && decide (x.pt=(k:Int)+1)
theorem q05k (A:Option Addr) (n c:Nat) (l:List Fx) (ch:Int) (w:World) (hl:shX.In w A n l) (hn:n≤100) :
  Calls prog 127 #[.slice A n c,.int .i64 ch] w fun e w'=>∃ A' c',e=.returned (.slice A' (partsL l ch).length c')∧shX.In w' A' (partsL l ch).length (partsL l ch)∧Below w.heap.size w w':=by
 obtain ⟨rfl,_⟩:=id hl;have HL:=hj_ hl;have HN:=hj_ hn;clear hl hn
 go_enter func127,ntmps127
 go_wp2_with fail
 go_loopw [5,6] (fun vo nv wr=>∃ k:Nat,k≤64∧nv=.int .i64 ((k:Int)+1)∧wr.ownsRow w.heap.size 55 7 vo (partsN l ch k).length (shX.vs (partsN l ch k))∧Below w.heap.size w wr) (fun _ nv _=>65-(intOf nv).toNat)
 case atStart=>exact ⟨0,by omega,rfl,World.ownsRow_nil _ _ _ _,br_⟩
 case round =>
  obtain ⟨k,hk,rfl,hown,hB⟩:=hrel;have HO:=hj_ hown;have HB:=hj_ hB;obtain ⟨Ao,co,rfl⟩:=qfu hown
  by_cases hlt:k<64
  case neg =>
   obtain rfl:k=64:=by omega
   have hI:=Sh.In.of_own (S:=shX) hown rfl;have HI:=hj_ hI;clear hown hB hI;go_wp2_with fail;go_ret;exact ⟨Ao,co,rfl,HI.out,HB.out⟩
  case pos =>
   have k1:(k:Int)+1≤64:=by omega
   have w0:IntKind.i64.wrap ((k:Int)+1+1)=(k:Int)+1+1:=IntWalk.i64_in _ (by omega)
   have HLen:=hj_ (q05c l ch k);have HSu:=hj_ (show partsN l ch (k+1)=partsN l ch k ++ l.filter (prtB ch k) from q05d l ch k)
   have HKl:=hj_ hlt;clear hown hB;generalize partsN l ch k=D at *;go_wp2_with fail
   go_loopw [5,7] (fun vo iv wr=>∃ i:Nat,i≤l.length∧iv=.int .i64 i∧wr.ownsRow w.heap.size 55 7 vo (D ++ (l.take i).filter (prtB ch k)).length (shX.vs (D ++ (l.take i).filter (prtB ch k)))∧Below w.heap.size w wr) (fun _ iv _=>l.length-(intOf iv).toNat)
   case atStart=>exact ⟨0,Nat.zero_le _,rfl,by simpa using HO.out,HB.out⟩
   case round =>
    obtain ⟨i,hi,rfl,hown,hB⟩:=hrel;have HO2:=hj_ hown;have HB2:=hj_ hB
    rename World=>V3
    obtain ⟨Ai,ci,rfl⟩:=qfu hown
    by_cases hli:i<l.length
    case neg =>
     obtain rfl:i=l.length:=by omega
     have h3:=HO2.out;rw [List.take_length,← HSu.out] at h3;have HO3:=hj_ h3;have HLn:=hj_ (show (D ++ (l.take l.length).filter (prtB ch k)).length=(partsN l ch (k+1)).length by rw [List.take_length,HSu.out])
     clear hown hB h3;go_wp2_with fail
     go_roundw
     case rel=>exact ⟨k+1,by have:=HKl.out;omega,by go_num,by rw [HLn.out];exact HO3.out,HB2.out⟩
     case measure=>have:=HKl.out;simp [intOf];omega
    case pos =>
     obtain ⟨b,o,rfl,hbl,hcell⟩:=fx_at HL.out (by omega)
     have hk2:=hcell i hli;have kk:=fun (q:Nat)=>hB.cell (p:=⟨b,q,none⟩) hbl
     have hbw:b<V3.heap.size:=Nat.lt_of_lt_of_le hbl hB.size;have i0:(0:Int)≤(i:Int):=by omega
     have i1:(i:Int)<(l.length:Int):=by omega
     have w1:IntKind.i64.wrap ((i:Int)+1)=(i:Int)+1:=IntWalk.i64_in _ (by have:=HN.out;omega)
     have hst:(l.take (i+1)).filter (prtB ch k)=(l.take i).filter (prtB ch k) ++ [l[i]].filter (prtB ch k):=by rw [List.take_succ_eq_append_getElem hli,List.filter_append]
     have hlb:(D ++ (l.take i).filter (prtB ch k)).length≤6500:=by
      have h1:=HLen.out;have h2:=HN.out;have h3:((l.take i).filter (prtB ch k)).length≤(l.take i).length:=List.length_filter_le ..;rw [List.length_take] at h3;rw [List.length_append];have h4:k*l.length≤64*100:=Nat.mul_le_mul (by have:=HKl.out;omega) h2
      omega
     have HLi:=hj_ hli;clear hcell;generalize l[i]=x at *;obtain ⟨xc,xt,xr,xu,xa,xp,xb⟩:=x;obtain ⟨p0,p1,p2,p3,p4,p5,p6⟩:=hk2;replace p0:=(kk _).trans p0;replace p1:=(kk _).trans p1;replace p2:=(kk _).trans p2;replace p3:=(kk _).trans p3;replace p4:=(kk _).trans p4;replace p5:=(kk _).trans p5;replace p6:=(kk _).trans p6;dsimp only at p0 p1 p2 p3 p4 p5 p6;clear kk
     by_cases e1:xc=ch∧xt=(k:Int)+1
     case neg =>
      have hst2:(l.take (i+1)).filter (prtB ch k)=(l.take i).filter (prtB ch k):=by
       rw [hst,List.filter_cons_of_neg (by unfold prtB chB;simp;intro h;exact fun h2=>e1 ⟨h,h2⟩),List.filter_nil,List.append_nil]
      have HSt:=hj_ hst2;clear hst hst2 hown hB hlb
      by_cases e2:xc=ch
      ·have g1:(xc == ch)=true:=by simpa using e2
       have g2:(xt == (k:Int)+1)=false:=by simpa using fun h=>e1 ⟨e2,h⟩
       clear e1 e2;go_wp2_with fail
       go_roundw
       case rel=>exact ⟨i+1,HLi.out,by go_num,by rw [HSt.out];exact HO2.out,HB2.out⟩
       case measure=>have:=HLi.out;simp [intOf];omega
      ·have g1:(xc == ch)=false:=by simpa using e2
       clear e1 e2;go_wp2_with fail
       go_roundw
       case rel=>exact ⟨i+1,HLi.out,by go_num,by rw [HSt.out];exact HO2.out,HB2.out⟩
       case measure=>have:=HLi.out;simp [intOf];omega
     case pos =>
      have hst2:(l.take (i+1)).filter (prtB ch k)=(l.take i).filter (prtB ch k) ++ [⟨xc,xt,xr,xu,xa,xp,xb⟩]:=by
       rw [hst,List.filter_cons_of_pos (by unfold prtB chB;simp [e1.1,e1.2]),List.filter_nil]
      have hvs:shX.vs (D ++ (l.take (i+1)).filter (prtB ch k))=shX.vs (D ++ (l.take i).filter (prtB ch k)) ++ [.int .i64 xc,.int .i64 xt,.string xr,.int .i64 xu,.int .i64 xa,.int .i64 xp,.string xb]:=by rw [hst2,← List.append_assoc,Sh.vs_append,Sh.vs_one1];rfl
      have hln:(D ++ (l.take (i+1)).filter (prtB ch k)).length=(D ++ (l.take i).filter (prtB ch k)).length+1:=by rw [hst2,← List.append_assoc,List.length_append];rfl
      have HSt:=hj_ (And.intro hln hvs);have g1:(xc == ch)=true:=by simpa using e1.1
      have g2:(xt == (k:Int)+1)=true:=by simpa using e1.2
      have hsz:=HB2.out.size;clear hst hst2 hvs hln hB e1;generalize D ++ (l.take i).filter (prtB ch k)=DD at *;go_wp2_with (at_builtin;refine q003 rfl _ _ _ rfl w.heap.size _ _ 7 72 underlying24 q056 rfl (by omega) _ DD.length (shX.vs DD) rfl hown [.int .i64 xc,.int .i64 xt,.string xr,.int .i64 xu,.int .i64 xa,.int .i64 xp,.string xb] _ _ _ rfl (by first | rfl | simp) rfl (fx_one _ _ _ _ _ _ _) (by unfold maxLen;omega) (by omega) hsz ?_;intro g cap w4 hown1 hg1;have HO4:=hj_ hown1;have HB4:=hj_ (q1a HB2.out (Nat.le_refl _) hown hg1);clear hown1 hg1)
      go_roundw
      case rel=>exact ⟨i+1,HLi.out,by go_num,by rw [HSt.out.1,HSt.out.2];exact HO4.out,HB4.out⟩
      case measure=>have:=HLi.out;simp [intOf];omega
end

section
open Go.RowKit
theorem q05o {fn:Func} {p q u:Tmp} {ty tz:TypeId} (h:fn.results=#[.cell p ty,.cell q tz,.tmp u]) (tmps:Array Value) (P:Program) (w:World) :
  (results fn tmps).run P w =
   ((asAddr (tmps.getD p undef)).run P w).andThen fun a w₁=>((loadVar ty a).run P w₁).andThen fun x w₂=>((asAddr (tmps.getD q undef)).run P w₂).andThen fun b w₃=>((loadVar tz b).run P w₃).andThen fun y w₄=>.ok (.tuple #[x,y,tmps.getD u undef]) w₄:=by
 simp only [results,h];simp [Sem.run_bind,Result.andThen]
theorem q04u {w w':World} {r:Option (Fx × Fea)} {x:Fx} {c:FC} {wh:List Slt} (hr:r=some (x,c.fea wh)) (hw:FW w c wh) (hb:Below w.heap.size w w') :
  ∃ xv fv ok,Ending.returned (.tuple #[x.val,c.val,.bool true])=.returned (.tuple #[xv,fv,.bool ok])∧Below w.heap.size w w'∧FirstR w' r xv fv ok:=by
 rw [hr];exact ⟨_,_,_,rfl,hb,rfl,rfl,c,rfl,rfl,hw.below hb⟩
theorem q05p (A2:Option Addr) (n2 d2:Nat) (A1:Option Addr) (n1 d1:Nat) (PL:List (PC × List Fea)) (X:List Fx) (ch at_:Int) (w:World) (hl:shX.In w A2 n2 X) (hp:InPs w A1 n1 PL) (hn':n1≤9223372036854775806) (h100:n2≤100) (hE:patE (PL.map Prod.fst) X=0) (hFx:∀ i (hi:i<X.length),FxOK (PL.map Prod.fst) X[i]) :
  Calls prog 78 #[.slice A2 n2 d2,.slice A1 n1 d1,.agg #[.int .i64 ch,.int .i64 at_]] w fun e w'=>∃ xv fv ok,e=.returned (.tuple #[xv,fv,.bool ok])∧Below w.heap.size w w'∧FirstR w' (havV PL X ch at_) xv fv ok:=by
 obtain ⟨h1,hr⟩:=q05g hE;have HPa:=hj_ (fun (w:World) h=>q05k A2 n2 d2 X ch w h h100)
 have HPf:=hj_ (fun (s:ByteArray) (w:World) h=>qna A1 n1 d1 (PL.map Prod.fst) s w h hn')
 have HX:=hj_ hl;have HP:=hj_ hp;have hmem:∀ x ∈ partsL X ch,∃ y ∈ PL,PL.find? (fun z=>decide (z.1.s=x.pr))=some y∧pcF (PL.map Prod.fst) x.pr=some y.1:=fun x hx=>by
  obtain ⟨hX,-⟩:=q05a.1 hx;obtain ⟨i,hi,rfl⟩:=List.getElem_of_mem hX;obtain ⟨-,-,-,p,hp⟩:=hFx i hi;have hpf:=q83 PL X[i].pr;rw [hp] at hpf
  cases hq:PL.find? (fun z=>decide (z.1.s=X[i].pr)) with
  | none=>rw [hq] at hpf;cases hpf
  | some y=>rw [hq] at hpf;injection hpf with hpf;exact ⟨y,List.mem_of_find?_eq_some hq,rfl,by rw [hp,hpf]⟩
 have HMem:=hj_ hmem;have hQl:(partsL X ch).length≤100:=by
  have h2:=q05f h1 hr ch;have h3:n2=X.length:=hl.1;omega
 have HQl:=hj_ hQl;have hav:havV PL X ch at_=(partsL X ch).findSome? (hitP PL at_):=rfl
 rw [hav];clear hl hp hmem hQl hav h1 hr hE hFx hn' h100;generalize partsL X ch=Q at *;obtain ⟨W,hW⟩:∃ W,W=((w.alloc (.cells #[.int .i64 ch,.int .i64 at_] 43)).alloc (.cells #[.int .i64 0,.int .i64 0,.string ⟨#[]⟩,.int .i64 0,.int .i64 0,.int .i64 0,.string ⟨#[]⟩] 55)).alloc (.cells #[.int .i64 0,.int .i64 0,.int .i64 0,.int .i64 0,.int .i64 0,.int .i64 0,.int .i64 0,.int .i64 0,.bool false,.slice none 0 0] 90):=⟨_,rfl⟩
 have hWs:W.heap.size=w.heap.size+3:=by rw [hW];simp
 have hb0:Below w.heap.size w W:=by rw [hW];exact (((br_).alloc (Nat.le_refl _) _).alloc (by simp) _).alloc (by simp;omega) _
 have hK0:Cells W w.heap.size [.int .i64 ch,.int .i64 at_]:=by
  rw [hW];exact (Cells.fresh w [.int .i64 ch,.int .i64 at_] _).below (B:=w.heap.size+1) (((br_).alloc (by simp) _).alloc (by simp) _) (by omega)
 have hK1:Cells W (w.heap.size+1) [.int .i64 0,.int .i64 0,.string ⟨#[]⟩,.int .i64 0,.int .i64 0,.int .i64 0,.string ⟨#[]⟩]:=by
  rw [hW]
  have:=Cells.fresh (w.alloc (.cells #[.int .i64 ch,.int .i64 at_] 43)) [.int .i64 0,.int .i64 0,.string ⟨#[]⟩,.int .i64 0,.int .i64 0,.int .i64 0,.string ⟨#[]⟩] 55
  rw [World.size_alloc] at this;exact this.below (B:=w.heap.size+2) ((br_).alloc (by simp) _) (by omega)
 have hK2:Cells W (w.heap.size+2) [.int .i64 0,.int .i64 0,.int .i64 0,.int .i64 0,.int .i64 0,.int .i64 0,.int .i64 0,.int .i64 0,.bool false,.slice none 0 0]:=by
  rw [hW]
  have:=Cells.fresh ((w.alloc (.cells #[.int .i64 ch,.int .i64 at_] 43)).alloc (.cells #[.int .i64 0,.int .i64 0,.string ⟨#[]⟩,.int .i64 0,.int .i64 0,.int .i64 0,.string ⟨#[]⟩] 55)) [.int .i64 0,.int .i64 0,.int .i64 0,.int .i64 0,.int .i64 0,.int .i64 0,.int .i64 0,.int .i64 0,.bool false,.slice none 0 0] 90
  rw [World.size_alloc,World.size_alloc] at this;exact this
 have HW:=hj_ hW;have HS:=hj_ hWs;have HB0:=hj_ hb0;have HK0:=hj_ hK0;have HK1:=hj_ hK1;have HK2:=hj_ hK2;clear hW hWs hb0 hK0 hK1 hK2
 go_enter func78,ntmps78
 go_wp2_with fail;rw [← HW.out];refine (HPa.out _ (HX.out.below HB0.out)).mono ?_;rintro e w2 ⟨A,c,rfl,hI,hb⟩;have HI:=hj_ hI;have HB2:=hj_ hb;clear hI hb;go_wp2_with fail;have HB2W:=hj_ (fun (w':World) (h:Below w2.heap.size w2 w')=>ht_ HB2.out h)
 have HFx:=hj_ (fun (y:PC × List Fea) (hy:y ∈ PL)=>HP.out.2 y hy)
 have HWf:=hj_ (fun (w':World) (h:Below W.heap.size W w')=>ht_ HB0.out h)
 go_loopw [8,10] (fun _ iv wr=>∃ i:Nat,i≤Q.length∧iv=.int .i64 i∧(Q.take i).findSome? (hitP PL at_)=none∧Below w2.heap.size w2 wr) (fun _ iv _=>Q.length-(intOf iv).toNat)
 case atStart=>exact ⟨0,Nat.zero_le _,rfl,rfl,br_⟩
 case round =>
  obtain ⟨i,hi,rfl,hno,hR⟩:=hrel;have HNo:=hj_ hno;have HRr:=hj_ hR
  rename World=>V3
  clear hno;have hBV:=HB2W.out _ hR;have HBV:=hj_ hBV
  by_cases hlt:i<Q.length
  case neg =>
   obtain rfl:i=Q.length:=by omega
   have hno:=HNo.out;rw [List.take_length] at hno;have HNn:=hj_ hno;have hC1:=HK1.out.below hBV HK1.out.1;have hC2:=HK2.out.below hBV HK2.out.1;have q0:=hC1.at_ (j:=0) rfl
   have qf0:=hC1.fr (j:=0) rfl;have q1:=hC1.at_ (j:=1) rfl
   have qf1:=hC1.fr (j:=1) rfl;have q2:=hC1.at_ (j:=2) rfl
   have qf2:=hC1.fr (j:=2) rfl;have q3:=hC1.at_ (j:=3) rfl
   have qf3:=hC1.fr (j:=3) rfl;have q4:=hC1.at_ (j:=4) rfl
   have qf4:=hC1.fr (j:=4) rfl;have q5:=hC1.at_ (j:=5) rfl
   have qf5:=hC1.fr (j:=5) rfl;have q6:=hC1.at_ (j:=6) rfl
   have qf6:=hC1.fr (j:=6) rfl;have r0:=hC2.at_ (j:=0) rfl
   have rf0:=hC2.fr (j:=0) rfl;have r1:=hC2.at_ (j:=1) rfl
   have rf1:=hC2.fr (j:=1) rfl;have r2:=hC2.at_ (j:=2) rfl
   have rf2:=hC2.fr (j:=2) rfl;have r3:=hC2.at_ (j:=3) rfl
   have rf3:=hC2.fr (j:=3) rfl;have r4:=hC2.at_ (j:=4) rfl
   have rf4:=hC2.fr (j:=4) rfl;have r5:=hC2.at_ (j:=5) rfl
   have rf5:=hC2.fr (j:=5) rfl;have r6:=hC2.at_ (j:=6) rfl
   have rf6:=hC2.fr (j:=6) rfl;have r7:=hC2.at_ (j:=7) rfl
   have rf7:=hC2.fr (j:=7) rfl;have r8:=hC2.at_ (j:=8) rfl
   have rf8:=hC2.fr (j:=8) rfl;have r9:=hC2.at_ (j:=9) rfl
   have rf9:=hC2.fr (j:=9) rfl;have HZ:=hj_ (HWf.out _ hBV);clear hC1 hC2 hBV hR hno;go_wp2_with fail;refine bodyPost_ret ?_ rfl ⟨fx0.val,fcZ.val,false,rfl,?_,by rw [HNn.out];exact ⟨rfl,rfl,rfl⟩⟩
   ·rw [q05o rfl]
    go_simp
    exact ⟨rfl,rfl⟩
   ·have hz:=HZ.out
    have g1:w.heap.size≤w.heap.size+1:=by omega
    have g2:w.heap.size≤w.heap.size+1+1:=by omega
    iterate 10 refine Below.setCell ?_ g2 _
    iterate 7 refine Below.setCell ?_ g1 _
    exact hz
  case pos =>
   have HV3:=hj_ hBV.size;obtain ⟨y,hym,hyf,hyp⟩:=HMem.out Q[i] (List.getElem_mem hlt);obtain ⟨bq,oq,rfl,hbl,hcell⟩:=fx_at HI.out (by omega)
   have hk:=hcell i hlt;have hfv:featV PL Q[i].pr=y.2:=by unfold featV;rw [hyf]
   obtain ⟨Hy,hIn⟩:=HFx.out y hym;have HSt:=hj_ (fun (hn:hitP PL at_ Q[i]=none)=>q052 HNo.out hlt hn)
   have HHi:=hj_ (fun r (hn:hitP PL at_ Q[i]=some r)=>q051 HNo.out hlt hn)
   have HDef:=hj_ (show hitP PL at_ Q[i]=(y.2.find? fun f=>decide (f.at_=at_)).map fun f=>(Q[i],f) by unfold hitP;rw [hfv])
   have hnn:¬ pcI (PL.map Prod.fst) Q[i].pr<0:=fun h=>by rw [qgv.1 h] at hyp;cases hyp
   have hat:=pcI_at hnn;rw [hyp] at hat;have hge:=pcI_ge (PL.map Prod.fst) Q[i].pr;have hlt2:=pcI_lt (PL.map Prod.fst) Q[i].pr;obtain ⟨kp,hkp⟩:∃ kp:Nat,pcI (PL.map Prod.fst) Q[i].pr=kp:=⟨(pcI (PL.map Prod.fst) Q[i].pr).toNat,by omega⟩
   have hkl:kp<(PL.map Prod.fst).length:=by omega
   rw [hkp,show ((kp:Int).toNat)=kp by omega,qa1 hkl] at hat
   injection hat with hat
   have HPf2:=hj_ (fun w' hl=>HPf.out Q[i].pr w' hl)
   rw [hkp] at HPf2;obtain ⟨b1,o1,rfl,hbl1,hcell1⟩:=pc_at HP.out.1 (by omega)
   have hpk:=(hcell1 kp hkl).2.2.2;rw [← hat] at hpk;have HC:=hj_ (fun (w':World) (h:Below w.heap.size w w')=>And.intro ((h.cell (p:=⟨b1,o1+kp*4+3,none⟩) hbl1).trans hpk) (Nat.lt_of_lt_of_le hbl1 h.size))
   have q0:(0:Int)≤(kp:Int):=by omega
   have q1:(kp:Int)<(n1:Int):=by have:=HP.out.1.1;omega
   have kk:=fun (w':World) (h:Below w2.heap.size w2 w') (q:Nat)=>h.cell (p:=⟨bq,q,none⟩) hbl
   have hbw:bq<V3.heap.size:=Nat.lt_of_lt_of_le hbl hR.size;have i0:(0:Int)≤(i:Int):=by omega
   have i1:(i:Int)<(Q.length:Int):=by omega
   have w0:IntKind.i64.wrap ((i:Int)+1)=(i:Int)+1:=IntWalk.i64_in _ (by have:=HQl.out;omega)
   have HLt:=hj_ hlt;clear hcell hyf hyp hfv hym hnn hat hge hlt2 hkp hcell1 hpk;generalize Q[i]=x at *;obtain ⟨xc,xt,xr,xu,xa,xp,xb⟩:=x;have HKk:=hj_ (fun (w':World) (h:Below w2.heap.size w2 w')=>show (w'.cell? ⟨bq,oq+i*7,none⟩=some (.int .i64 xc)∧w'.cell? ⟨bq,oq+i*7+1,none⟩=some (.int .i64 xt)∧w'.cell? ⟨bq,oq+i*7+2,none⟩=some (.string xr)∧w'.cell? ⟨bq,oq+i*7+3,none⟩=some (.int .i64 xu)∧w'.cell? ⟨bq,oq+i*7+4,none⟩=some (.int .i64 xa)∧w'.cell? ⟨bq,oq+i*7+5,none⟩=some (.int .i64 xp)∧w'.cell? ⟨bq,oq+i*7+6,none⟩=some (.string xb))∧bq<w'.heap.size from ⟨⟨(kk w' h _).trans hk.1,(kk w' h _).trans hk.2.1,(kk w' h _).trans hk.2.2.1,(kk w' h _).trans hk.2.2.2.1,(kk w' h _).trans hk.2.2.2.2.1,(kk w' h _).trans hk.2.2.2.2.2.1,(kk w' h _).trans hk.2.2.2.2.2.2⟩,Nat.lt_of_lt_of_le hbl h.size⟩)
   have p2:=(HKk.out _ hR).1.2.2.1;obtain ⟨⟨ys,yf,yw,yA,yn,yc⟩,yl⟩:=y;dsimp only at hIn HSt HHi HDef HC HPf2;have hynl:yn=yl.length:=by have:=hIn.1.1.1;have:=hIn.1.2.1;omega
   subst hynl;have HIn:=hj_ hIn;clear hIn hk kk hbl hbl1;go_wp2_with fail;refine (HPf2.out _ (HP.out.1.below (HWf.out _ hBV))).mono ?_;rintro e W4 ⟨rfl,hb⟩;have HR4:=hj_ (ht_ hR hb);have hB4:=ht_ hBV hb;have HB4:=hj_ hB4;obtain ⟨z1,z2⟩:=HC.out _ (HWf.out _ hB4);clear hb p2 hBV hR;go_wp2_with fail;clear z1 z2 hB4
   go_loopw [8,12] (fun _ iv wr=>∃ j:Nat,j≤yl.length∧iv=.int .i64 j∧(yl.take j).find? (fun f=>decide (f.at_=at_))=none∧Below W4.heap.size W4 wr) (fun _ iv _=>yl.length-(intOf iv).toNat)
   case atStart=>exact ⟨0,Nat.zero_le _,rfl,rfl,br_⟩
   case round =>
    obtain ⟨j,hj,rfl,hno,hR⟩:=hrel;have HNj:=hj_ hno
    rename World=>V5
    clear hno;have HR5:=hj_ (ht_ HR4.out hR);have HB5:=hj_ (HB2W.out _ HR5.out);have HRj:=hj_ hR;clear hR
    by_cases hlj:j<yl.length
    case neg =>
     obtain rfl:j=yl.length:=by omega
     have hno:=HNj.out;rw [List.take_length] at hno;have HSx:=hj_ (HSt.out (by rw [HDef.out,hno];rfl))
     clear hno;go_wp2_with fail
     go_roundw
     case rel=>exact ⟨i+1,HLt.out,by go_num,HSx.out,HR5.out⟩
     case measure=>have:=HLt.out;simp [intOf];omega
    case pos =>
     have hjH:j<Hy.length:=by have:=HIn.out.1.2.1;omega
     obtain ⟨bf,of_,rfl,hbf,hcf⟩:=ft_at HIn.out.1.1 (by omega)
     have hkf:=hcf j hjH;have hfx:=(HIn.out.1.2.2 j hjH hlj).1;have hfw:=HIn.out.2.2 j hjH hlj;have HFs:=hj_ (fun (hn:yl[j].at_≠at_)=>q04q HNj.out hlj hn)
     have HFh:=hj_ (fun (hn:yl[j].at_=at_)=>q04p HNj.out hlj hn)
     have j0:(0:Int)≤(j:Int):=by omega
     have j1:(j:Int)<(yl.length:Int):=by omega
     have w2':IntKind.i64.wrap ((j:Int)+1)=(j:Int)+1:=IntWalk.i64_in _ (by have:=HIn.out.2.1;omega)
     have HLj:=hj_ hlj;rw [hfx] at HFs HFh;generalize yl[j].wh=wh at *;clear hfx hcf;generalize Hy[j]=f at *;obtain ⟨fat,bits,co,fi,cu,ho,lo,hi,sn,fA,fn,fc⟩:=f;have HKf:=hj_ (fun (w':World) (h:Below w.heap.size w w')=>show (w'.cell? ⟨bf,of_+j*10,none⟩=some (.int .i64 fat)∧w'.cell? ⟨bf,of_+j*10+1,none⟩=some (.int .i64 bits)∧w'.cell? ⟨bf,of_+j*10+2,none⟩=some (.int .i64 co)∧w'.cell? ⟨bf,of_+j*10+3,none⟩=some (.int .i64 fi)∧w'.cell? ⟨bf,of_+j*10+4,none⟩=some (.int .i64 cu)∧w'.cell? ⟨bf,of_+j*10+5,none⟩=some (.int .i64 ho)∧w'.cell? ⟨bf,of_+j*10+6,none⟩=some (.int .i64 lo)∧w'.cell? ⟨bf,of_+j*10+7,none⟩=some (.int .i64 hi)∧w'.cell? ⟨bf,of_+j*10+8,none⟩=some (.bool sn)∧w'.cell? ⟨bf,of_+j*10+9,none⟩=some (.slice fA fn fc))∧bf<w'.heap.size from ⟨⟨(h.cell (p:=⟨bf,_,none⟩) hbf).trans hkf.1,(h.cell (p:=⟨bf,_,none⟩) hbf).trans hkf.2.1,(h.cell (p:=⟨bf,_,none⟩) hbf).trans hkf.2.2.1,(h.cell (p:=⟨bf,_,none⟩) hbf).trans hkf.2.2.2.1,(h.cell (p:=⟨bf,_,none⟩) hbf).trans hkf.2.2.2.2.1,(h.cell (p:=⟨bf,_,none⟩) hbf).trans hkf.2.2.2.2.2.1,(h.cell (p:=⟨bf,_,none⟩) hbf).trans hkf.2.2.2.2.2.2.1,(h.cell (p:=⟨bf,_,none⟩) hbf).trans hkf.2.2.2.2.2.2.2.1,(h.cell (p:=⟨bf,_,none⟩) hbf).trans hkf.2.2.2.2.2.2.2.2.1,(h.cell (p:=⟨bf,_,none⟩) hbf).trans hkf.2.2.2.2.2.2.2.2.2⟩,Nat.lt_of_lt_of_le hbf h.size⟩)
     have HBf:=hj_ hbf;have HFW:=hj_ hfw;have HV5:=hj_ HB5.out.size;have hd:=q18 (Below.refl V5.heap.size V5) 1;have x0:=((HKf.out _ ((HWf.out _ HB5.out).trans (hd.mono (HWf.out _ HB5.out).size))).1).1;have x1:=(HK0.out.below (ht_ HB5.out hd) HK0.out.1).at_ (j:=1) rfl
     have HD5:=hj_ (show Below V5.heap.size V5 V5.drew from (br_).drew)
     clear hkf hbf hjH hfw hd;go_wp2_with fail;refine wp_region_held_drew (S:=fun w'=>w'.cell? ⟨bf,of_+j*10,none⟩=some (.int .i64 fat)∧w'.cell? ⟨w.heap.size,1,none⟩=some (.int .i64 at_)) (by kernel_rfl) (by first | exact ⟨x0,x1⟩) (fun hHeld=>?_)
     repeat
      refine tk (i:=?_) (oi:=?_) (v:=?_) ?_ ?_ ?_ ?_ ?_ ?_ ?_ ?_ ?_
      rotate_left 3
      ·first | exact Eq.refl 0 | exact Eq.refl 1 | exact Eq.refl 2 | exact Eq.refl 3 | exact Eq.refl 4 | exact Eq.refl 5 | exact Eq.refl 6 | exact Eq.refl 7
      ·simp only [List.getElem?_toArray,List.getElem?_cons_succ,List.getElem?_cons_zero];rfl
      ·kernel_rfl
      ·kernel_rfl
      ·kernel_rfl
      rotate_left 1
      ·first | (refine Or.inl ⟨?_,?_⟩;(· rfl);intro w hSw;(try dsimp only at hSw);go_simp;try with_reducible rfl) | exact Or.inr ⟨rfl,rfl⟩
      ·assumption
      rotate_left 1
      ·exact fun _ _ _ h=>h
      simp only [Act.put,List.setIfInBounds_toArray,List.set_cons_zero,List.set_cons_succ]
     refine wpAnyH_done (by kernel_rfl) ?_ _
     have HR6:=hj_ (ht_ HRj.out HD5.out);have HR7:=hj_ (ht_ HR5.out HD5.out);have HB6:=hj_ (ht_ HB5.out HD5.out);clear hHeld x0 x1
     by_cases hat:fat=at_
     case neg =>
      have g1:(fat == at_)=false:=by simpa using hat
      have HSx:=hj_ (HFs.out hat);clear hat;go_wp2_with fail
      go_roundw
      case rel=>exact ⟨j+1,HLj.out,by go_num,HSx.out,HR6.out⟩
      case measure=>have:=HLj.out;simp [intOf];omega
     case pos =>
      have g1:(fat == at_)=true:=by simpa using hat
      have HHv:=hj_ (HHi.out _ (by rw [HDef.out,HFh.out hat];rfl))
      clear hat;go_wp2_with fail;generalize V5.drew=V6 at *;obtain ⟨⟨x0,x1,x2,x3,x4,x5,x6⟩,n7⟩:=HKk.out _ HR7.out;obtain ⟨⟨y0,y1,y2,y3,y4,y5,y6,y7,y8,y9⟩,n8⟩:=HKf.out _ (HWf.out _ HB6.out);have hC1:=HK1.out.below HB6.out HK1.out.1;have hC2:=HK2.out.below HB6.out HK2.out.1;have q0:=hC1.at_ (j:=0) rfl
      have qf0:=hC1.fr (j:=0) rfl;have q1:=hC1.at_ (j:=1) rfl
      have qf1:=hC1.fr (j:=1) rfl;have q2:=hC1.at_ (j:=2) rfl
      have qf2:=hC1.fr (j:=2) rfl;have q3:=hC1.at_ (j:=3) rfl
      have qf3:=hC1.fr (j:=3) rfl;have q4:=hC1.at_ (j:=4) rfl
      have qf4:=hC1.fr (j:=4) rfl;have q5:=hC1.at_ (j:=5) rfl
      have qf5:=hC1.fr (j:=5) rfl;have q6:=hC1.at_ (j:=6) rfl
      have qf6:=hC1.fr (j:=6) rfl;have r0:=hC2.at_ (j:=0) rfl
      have rf0:=hC2.fr (j:=0) rfl;have r1:=hC2.at_ (j:=1) rfl
      have rf1:=hC2.fr (j:=1) rfl;have r2:=hC2.at_ (j:=2) rfl
      have rf2:=hC2.fr (j:=2) rfl;have r3:=hC2.at_ (j:=3) rfl
      have rf3:=hC2.fr (j:=3) rfl;have r4:=hC2.at_ (j:=4) rfl
      have rf4:=hC2.fr (j:=4) rfl;have r5:=hC2.at_ (j:=5) rfl
      have rf5:=hC2.fr (j:=5) rfl;have r6:=hC2.at_ (j:=6) rfl
      have rf6:=hC2.fr (j:=6) rfl;have r7:=hC2.at_ (j:=7) rfl
      have rf7:=hC2.fr (j:=7) rfl;have r8:=hC2.at_ (j:=8) rfl
      have rf8:=hC2.fr (j:=8) rfl;have r9:=hC2.at_ (j:=9) rfl
      have rf9:=hC2.fr (j:=9) rfl;have hbf:=HBf.out;have e1:¬ bf=w.heap.size+1:=by omega
      have e2:¬ bf=w.heap.size+2:=by omega
      have e3:¬ w.heap.size+1=bf:=by omega
      have e4:¬ w.heap.size+2=bf:=by omega
      have HZ:=hj_ (HWf.out _ HB6.out);clear hC1 hC2 hbf
      go_region
      all_goals
       go_wp2_with fail;refine bodyPost_ret (v:=.tuple #[Fx.val ⟨xc,xt,xr,xu,xa,xp,xb⟩,FC.val ⟨fat,bits,co,fi,cu,ho,lo,hi,sn,fA,fn,fc⟩,.bool true]) ?_ rfl ?_
       ·rw [q05o rfl]
        go_simp
        exact ⟨rfl,rfl⟩
       ·refine q04u (x:=⟨xc,xt,xr,xu,xa,xp,xb⟩) (c:=⟨fat,bits,co,fi,cu,ho,lo,hi,sn,fA,fn,fc⟩) (wh:=wh) HHv.out HFW.out ?_
        have hz:=HZ.out;have g1:w.heap.size≤w.heap.size+1:=by omega
        have g2:w.heap.size≤w.heap.size+1+1:=by omega
        clear HHi HSt HDef HFs HFh HHv HFW;refine Below.drew ?_
        iterate 10 refine Below.setCell ?_ g2 _
        iterate 7 refine Below.setCell ?_ g1 _
        exact hz
end

section
open Go.RowKit
end

section
open Go.RowKit
theorem q04s {w:World} {r:Option (Fx × Fea)} {xv fv:Value} {ok:Bool} (h:FirstR w r xv fv ok):∃ (x:Fx) (cf:FC),xv=x.val∧fv=cf.val∧((ok=false∧r=none)∨(ok=true∧∃ wl,r=some (x,cf.fea wl))):=by
 obtain ⟨x,cf,h1,h2,h3⟩:=q04r h;exact ⟨x,cf,h1,h2,h3.imp id fun ⟨a,wl,b,_⟩=>⟨a,wl,b⟩⟩
end

end Go.Proofs.YtbfikenbgfnfiaaGreatDoor
