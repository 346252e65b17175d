/- Lemmas. -/
import Derived.Test.YtabhjdmmfdfpeaaGreatDoorKProK
namespace Go.Proofs.YtabhjdmmfdfpeaaGreatDoor
set_option maxHeartbeats 32000000
set_option maxRecDepth 100000
open _root_.Go.Proofs.Tryz
open Go.RowKit
theorem q0p {α β:Type} {p:α→Bool} {q:β→Bool}:∀ {H:List α} {l:List β} (k:Nat),H.length=l.length→(∀ i (h:i<H.length) (h':i<l.length),p H[i]=q l[i])→(H.take k).any p=(l.take k).any q
 | [],[],k,_,_=>s_
 | a :: H,b :: l,0,_,_=>s_
 | a :: H,b :: l,k+1,hl,h=>by
  rw [List.take_succ_cons,List.take_succ_cons,List.any_cons,List.any_cons,q0p k (by simpa using hl) (fun i h1 h2=>h (i+1) (by simpa using h1) (by simpa using h2)),show p a=q b from h 0 s_ s_]
theorem feaE_H {H:List FC} {l:List Fea} {i:Nat} (hl:H.length=l.length) (he:∀ i (h:i<H.length) (h':i<l.length),l[i]=H[i].fea l[i].wh) (hi:i<H.length) (hi':i<l.length) (foot:Int) (nc:Nat) :
  feaE l foot nc i=if H[i].at_<0∨15≤H[i].at_ then 1 else if 0≤atI (H.take i) H[i].at_ then 7 else if bitsV H[i].bits≠0 then 1 else if H[i].co<0∨foot≤H[i].co∨H[i].bits=16∧(H[i].fi<0∨foot≤H[i].fi) then 2 else if H[i].bits=8∧H[i].fi≠0 then 3 else if usedH (H.take i) H[i].co=true∨H[i].bits=16∧(usedH (H.take i) H[i].fi=true∨H[i].fi=H[i].co) then 11 else innerE (H[i].fea l[i].wh) nc:=by
 have e1:∀ a,(l.take i).any (fun x=>decide (x.at_=a))=decide (0≤atI (H.take i) a):=fun a=>by
  unfold atI;rw [qbe];exact (q0p (p:=fun f:FC=>decide (f.at_=a)) (q:=fun f:Fea=>decide (f.at_=a)) i hl (fun j h h'=>by rw [he j h h'];rfl)).symm
 have e2:∀ o,usedB (l.take i) o=usedH (H.take i) o:=fun o=>by
  unfold usedB usedH;exact (q0p (p:=fun f:FC=>decide (f.co=o) || (decide (f.bits=16) && decide (f.fi=o))) (q:=fun f:Fea=>decide (f.co=o) || (decide (f.bits=16) && decide (f.fi=o))) i hl (fun j h h'=>by rw [he j h h'];rfl)).symm
 unfold feaE bitsE;rw [qa1 hi'];simp only [e1,e2,decide_eq_true_eq];have e:=he i hi hi';generalize l[i]=x at *;rw [e]
 rfl
theorem q79 (f:FC) (P0:Nat) (ft:Int) (W W6:World) (tf:TypeId) (_:P0<W.heap.size) (h1:∀ w',Below W.heap.size W w'→w'.cell? ⟨P0,1,none⟩=some (.int .i64 ft)) (hW:W6=(W.alloc (.cells (f.cells).toArray tf)).drew) :
  Below W.heap.size W W6∧∀ w',Below W6.heap.size W6 w'→w'.cell? ⟨W.heap.size,0,none⟩=some (.int .i64 f.at_)∧w'.cell? ⟨W.heap.size,1,none⟩=some (.int .i64 f.bits)∧w'.cell? ⟨W.heap.size,2,none⟩=some (.int .i64 f.co)∧w'.cell? ⟨W.heap.size,3,none⟩=some (.int .i64 f.fi)∧w'.cell? ⟨W.heap.size,4,none⟩=some (.int .i64 f.cu)∧w'.cell? ⟨W.heap.size,5,none⟩=some (.int .i64 f.ho)∧w'.cell? ⟨W.heap.size,6,none⟩=some (.int .i64 f.lo)∧w'.cell? ⟨W.heap.size,7,none⟩=some (.int .i64 f.hi)∧w'.cell? ⟨W.heap.size,8,none⟩=some (.bool f.sn)∧w'.cell? ⟨W.heap.size,9,none⟩=some (.slice f.A f.n f.c)∧w'.cell? ⟨P0,1,none⟩=some (.int .i64 ft):=by
 obtain ⟨W1,hW1⟩:=ex_ (W.alloc (.cells (f.cells).toArray tf));rw [← hW1] at hW;have b1:Below W.heap.size W W1:=by rw [hW1];exact (br_).alloc lr_ _
 have s1:W.heap.size<W1.heap.size:=by rw [hW1];simp
 have b2:Below W1.heap.size W1 W6:=by rw [hW];exact q18 (br_) 1
 have s2:W1.heap.size≤W6.heap.size:=b2.size;refine ⟨ht_ b1 b2,fun w' h=>?_⟩
 have hb:=ht_ b2 h;have key:∀ t u,(f.cells)[t]? = some u→w'.cell? ⟨W.heap.size,t,none⟩=some u:=fun t u hu=>by
  refine (hb.cell (p:=⟨W.heap.size,t,none⟩) s1).trans ?_;rw [hW1,World.cell?_alloc_new];simpa using hu
 exact ⟨key 0 _ rfl,key 1 _ rfl,key 2 _ rfl,key 3 _ rfl,key 4 _ rfl,key 5 _ rfl,key 6 _ rfl,key 7 _ rfl,key 8 _ rfl,key 9 _ rfl,h1 w' (ht_ b1 hb)⟩
theorem qm2 (s:ByteArray) (ft wa:Int) (A:Option Addr) (n c:Nat) (H:List FC) (l:List Fea) (i nc:Nat) (w:World) (hp:InP w A n H l) (hiH:i<H.length) (hc1:n≤c) (_:c≤9223372036854775807) :
  Rt 114 #[.agg #[.string s,.int .i64 ft,.int .i64 wa,.slice A n c],.int .i64 i,.int .i64 nc] w (.int .i64 (feaE l ft nc i)):=by
 have hnH:=hp.1.1.1;have hn:=hp.2.1;have hil:i<l.length:=by have:=hp.1.2.1;omega
 have hF:=feaE_H hp.1.2.1 (fun j h h'=>(hp.1.2.2 j h h').1) hiH hil ft nc
 obtain ⟨E,hE⟩:=xe_ (feaE l ft nc i);rw [hE] at hF ⊢;obtain ⟨W,hW⟩:=ex_ (w.alloc (.cells #[.string s,.int .i64 ft,.int .i64 wa,.slice A n c] 87));obtain ⟨hB0,hK⟩:=pbox s ft wa A n c w W hW;have hHT:∀ w',Below W.heap.size W w'→shF.In w' A i (H.take i):=fun w' h=>((hp.1.1.below hB0).below h).take i o_
 have HT:=hj_ hHT;have HFW:=hj_ (show ∀ w',Below W.heap.size W w'→FW w' H[i] l[i].wh from fun w' h=>((hp.2.2 i hiH hil).below hB0).below h)
 have hAt:∀ w',shF.In w' A i (H.take i)→_:=fun w' h=>qkx A i c (H.take i) H[i].at_ w' h o_
 have hU1:∀ w',shF.In w' A i (H.take i)→_:=fun w' h=>qo1 A i c (H.take i) H[i].co w' h o_
 have hU2:∀ w',shF.In w' A i (H.take i)→_:=fun w' h=>qo1 A i c (H.take i) H[i].fi w' h o_
 have HAt:=hj_ hAt;have HU1:=hj_ hU1;have HU2:=hj_ hU2;have HIn:=hj_ (fun w' (h:FW w' (H[i]'hiH) (l[i]'hil).wh)=>qmi (H[i]'hiH) (l[i]'hil).wh nc w' h)
 obtain ⟨b,o,rfl,hbl,hcell⟩:=ft_at hp.1.1 o_
 have hk:=hcell i hiH;have hbW:b<W.heap.size:=Nat.lt_of_lt_of_le hbl hB0.size;have kk:=fun (q:Nat)=>hB0.cell (p:=⟨b,q,none⟩) hbl
 clear hAt hU1 hU2 hHT hcell hp hE;generalize l[i].wh=wl at *;generalize hQ:innerE (H[i].fea wl) nc=Q at *;generalize atI (H.take i) H[i].at_=K at *
 generalize usedH (H.take i) H[i].co=U1 at *;generalize usedH (H.take i) H[i].fi=U2 at *;generalize H[i]=f at *;have hfb:=fun W6 h=>q79 f w.heap.size ft W W6 114 (by rw [hW];simp) (fun w' h=>(hK w' h).2.1) h
 clear hQ;obtain ⟨at_,bits,co,fi,cu,ho,lo,hi,sn,A,n',d⟩:=f
 replace HIn:=hj_ (show ∀ w',FW w' ⟨at_,bits,co,fi,cu,ho,lo,hi,sn,A,n',d⟩ wl→Calls prog 163 #[.agg #[.int .i64 at_,.int .i64 bits,.int .i64 co,.int .i64 fi,.int .i64 cu,.int .i64 ho,.int .i64 lo,.int .i64 hi,.bool sn,.slice A n' d],.int .i64 nc] w' fun e w''=>e=.returned (.int .i64 Q)∧Below w'.heap.size w' w'' from HIn.out)
 obtain ⟨k0,k1,k2,k3,k4,k5,k6,k7,k8,k9⟩:=hk;have p0:=(kk _).trans k0;have p1:=(kk _).trans k1;have p2:=(kk _).trans k2;have p3:=(kk _).trans k3;have p4:=(kk _).trans k4;have p5:=(kk _).trans k5;have p6:=(kk _).trans k6;have p7:=(kk _).trans k7;have p8:=(kk _).trans k8;have p9:=(kk _).trans k9;clear k0 k1 k2 k3 k4 k5 k6 k7 k8 k9 kk;dsimp only at p0 p1 p2 p3 p4 p5 p6 p7 p8 p9 hF;have i0:(0:Int)≤(i:Int):=o_
 have i1:(i:Int)<(n:Int):=o_
 have i2:(i:Int)≤(c:Int):=o_
 have i3:i≤c:=o_
 obtain ⟨c0,c1,c2,c3⟩:=hK W (br_);have hPW:w.heap.size<W.heap.size:=by rw [hW];simp
 have HW:=hj_ hW;have HB00:=hj_ hB0;have HFB:=hj_ hfb;have HF:=hj_ hF;obtain ⟨Ok6,hOk6⟩:∃ Ok6:World→Nat→Prop,Ok6=fun W6 P=>Below W.heap.size W W6∧∀ w',Below W6.heap.size W6 w'→w'.cell? ⟨P,0,none⟩=some (.int .i64 at_)∧w'.cell? ⟨P,1,none⟩=some (.int .i64 bits)∧w'.cell? ⟨P,2,none⟩=some (.int .i64 co)∧w'.cell? ⟨P,3,none⟩=some (.int .i64 fi)∧w'.cell? ⟨P,4,none⟩=some (.int .i64 cu)∧w'.cell? ⟨P,5,none⟩=some (.int .i64 ho)∧w'.cell? ⟨P,6,none⟩=some (.int .i64 lo)∧w'.cell? ⟨P,7,none⟩=some (.int .i64 hi)∧w'.cell? ⟨P,8,none⟩=some (.bool sn)∧w'.cell? ⟨P,9,none⟩=some (.slice A n' d)∧w'.cell? ⟨w.heap.size,1,none⟩=some (.int .i64 ft):=⟨_,rfl⟩
 have HOk:=hj_ hOk6;clear hOk6 hW hB0 hK hfb hF hc1 hn hiH hil hnH hbl
 go_enter func114,ntmps114
 go_wp2_with fail;rw [← HW.out];go_wp2_with fail;refine (fun (key:(?S:Prop))=>?main) ?kk
 case main =>
  go_region
  generalize hW6q:World.drew _=W6;have hW6:(W.alloc (.cells #[.int .i64 at_,.int .i64 bits,.int .i64 co,.int .i64 fi,.int .i64 cu,.int .i64 ho,.int .i64 lo,.int .i64 hi,.bool sn,.slice A n' d] 114)).drew=W6:=hW6q
  clear hW6q;have hok:Ok6 W6 W.heap.size:=by rw [HOk.out];exact HFB.out W6 hW6.symm
  clear hW6
  revert hok
  generalize W.heap.size=P
  revert W6 P
  exact key
 case kk =>
  intro W6 P hok;rw [HOk.out] at hok;have HB6:=hj_ hok.1;have HK:=hj_ hok.2;have HB0:=hj_ (ht_ HB00.out hok.1);clear hok HOk p0 p1 p2 p3 p4 p5 p6 p7 p8 p9 c0 c1 c2 c3 i0 i1 i2 i3;have HL:=hj_ (fun (w':World) (h:Below W6.heap.size W6 w')=>ht_ HB6.out h)
  have HT2:=hj_ (fun w' h=>HT.out w' (HL.out w' h))
  have HFW2:=hj_ (fun w' h=>HFW.out w' (HL.out w' h))
  have hB:=Below.refl W6.heap.size W6;obtain ⟨c0,c1,c2,c3,c4,c5,c6,c7,c8,c9,cv⟩:=HK.out _ hB;have hF:=HF.out;clear HF HFB HB6 HB00 HT HFW HL
  by_cases h1:at_<0
  ·rw [if_pos (.inl h1)] at hF
   subst hF;go_wp2_with fail;go_ret;exact ⟨rfl,ht_ HB0.out hB⟩
  by_cases h2:15≤at_
  ·rw [if_pos (.inr h2)] at hF
   subst hF;go_wp2_with fail;go_ret;exact ⟨rfl,ht_ HB0.out hB⟩
  rw [if_neg o_] at hF
  by_cases hK:0≤K
  ·rw [if_pos hK] at hF
   subst hF;go_wp2_with fail;refine uq_ (HAt.out _ (HT2.out _ hB)) hB fun wk hB=>?_;obtain ⟨c0,c1,c2,c3,c4,c5,c6,c7,c8,c9,cv⟩:=HK.out _ hB;go_wp2_with fail;go_ret;exact ⟨rfl,ht_ HB0.out hB⟩
  rw [if_neg hK] at hF
  by_cases h8:bits=8
  ·subst h8
   rw [if_neg (show ¬ bitsV 8≠0 by decide)] at hF
   by_cases h3:co<0
   ·rw [if_pos (.inl h3)] at hF
    subst hF;go_wp2_with fail;refine uq_ (HAt.out _ (HT2.out _ hB)) hB fun wk hB=>?_;obtain ⟨c0,c1,c2,c3,c4,c5,c6,c7,c8,c9,cv⟩:=HK.out _ hB;go_wp2_with fail;go_ret;exact ⟨rfl,ht_ HB0.out hB⟩
   by_cases h4:ft≤co
   ·rw [if_pos (.inr (.inl h4))] at hF
    subst hF;go_wp2_with fail;refine uq_ (HAt.out _ (HT2.out _ hB)) hB fun wk hB=>?_;obtain ⟨c0,c1,c2,c3,c4,c5,c6,c7,c8,c9,cv⟩:=HK.out _ hB;go_wp2_with fail;go_ret;exact ⟨rfl,ht_ HB0.out hB⟩
   rw [if_neg o_] at hF
   by_cases h5:fi=0
   ·subst h5
    rw [if_neg o_] at hF
    cases U1 with
    | true =>
     rw [if_pos (.inl rfl)] at hF;subst hF;go_wp2_with fail;refine uq_ (HAt.out _ (HT2.out _ hB)) hB fun wk hB=>?_;obtain ⟨c0,c1,c2,c3,c4,c5,c6,c7,c8,c9,cv⟩:=HK.out _ hB;go_wp2_with fail;refine uq_ (HU1.out _ (HT2.out _ hB)) hB fun wk hB=>?_;obtain ⟨c0,c1,c2,c3,c4,c5,c6,c7,c8,c9,cv⟩:=HK.out _ hB;go_wp2_with fail;go_ret;exact ⟨rfl,ht_ HB0.out hB⟩
    | false =>
     rw [if_neg (by rintro (h | ⟨h,-⟩);exact Bool.false_ne_true h;exact absurd h d_)] at hF
     subst hF;go_wp2_with fail;refine uq_ (HAt.out _ (HT2.out _ hB)) hB fun wk hB=>?_;obtain ⟨c0,c1,c2,c3,c4,c5,c6,c7,c8,c9,cv⟩:=HK.out _ hB;go_wp2_with fail;refine uq_ (HU1.out _ (HT2.out _ hB)) hB fun wk hB=>?_;obtain ⟨c0,c1,c2,c3,c4,c5,c6,c7,c8,c9,cv⟩:=HK.out _ hB;go_wp2_with fail;refine uq_ (HIn.out _ (HFW2.out _ hB)) hB fun wk hB=>?_;obtain ⟨c0,c1,c2,c3,c4,c5,c6,c7,c8,c9,cv⟩:=HK.out _ hB;go_wp2_with fail;go_ret;exact ⟨rfl,ht_ HB0.out hB⟩
   ·rw [if_pos ⟨rfl,h5⟩] at hF
    subst hF;have g5:(fi != 0)=true:=by simpa using h5
    have g6:(fi == 0)=false:=by simpa using h5
    go_wp2_with fail;refine uq_ (HAt.out _ (HT2.out _ hB)) hB fun wk hB=>?_;obtain ⟨c0,c1,c2,c3,c4,c5,c6,c7,c8,c9,cv⟩:=HK.out _ hB;go_wp2_with fail;go_ret;exact ⟨rfl,ht_ HB0.out hB⟩
  have e8:(bits == 8)=false:=by simpa using h8
  have n8:(bits != 8)=true:=by simpa using h8
  by_cases h16:bits=16
  ·subst h16
   rw [if_neg (show ¬ bitsV 16≠0 by decide)] at hF
   by_cases h3:co<0
   ·rw [if_pos (.inl h3)] at hF
    subst hF;go_wp2_with fail;refine uq_ (HAt.out _ (HT2.out _ hB)) hB fun wk hB=>?_;obtain ⟨c0,c1,c2,c3,c4,c5,c6,c7,c8,c9,cv⟩:=HK.out _ hB;go_wp2_with fail;go_ret;exact ⟨rfl,ht_ HB0.out hB⟩
   by_cases h4:ft≤co
   ·rw [if_pos (.inr (.inl h4))] at hF
    subst hF;go_wp2_with fail;refine uq_ (HAt.out _ (HT2.out _ hB)) hB fun wk hB=>?_;obtain ⟨c0,c1,c2,c3,c4,c5,c6,c7,c8,c9,cv⟩:=HK.out _ hB;go_wp2_with fail;go_ret;exact ⟨rfl,ht_ HB0.out hB⟩
   by_cases h6:fi<0
   ·rw [if_pos (.inr (.inr ⟨rfl,.inl h6⟩))] at hF
    subst hF;go_wp2_with fail;refine uq_ (HAt.out _ (HT2.out _ hB)) hB fun wk hB=>?_;obtain ⟨c0,c1,c2,c3,c4,c5,c6,c7,c8,c9,cv⟩:=HK.out _ hB;go_wp2_with fail;go_ret;exact ⟨rfl,ht_ HB0.out hB⟩
   by_cases h7:ft≤fi
   ·rw [if_pos (.inr (.inr ⟨rfl,.inr h7⟩))] at hF
    subst hF;go_wp2_with fail;refine uq_ (HAt.out _ (HT2.out _ hB)) hB fun wk hB=>?_;obtain ⟨c0,c1,c2,c3,c4,c5,c6,c7,c8,c9,cv⟩:=HK.out _ hB;go_wp2_with fail;go_ret;exact ⟨rfl,ht_ HB0.out hB⟩
   rw [if_neg o_,if_neg o_] at hF
   cases U1 with
   | true =>
    rw [if_pos (.inl rfl)] at hF;subst hF;go_wp2_with fail;refine uq_ (HAt.out _ (HT2.out _ hB)) hB fun wk hB=>?_;obtain ⟨c0,c1,c2,c3,c4,c5,c6,c7,c8,c9,cv⟩:=HK.out _ hB;go_wp2_with fail;refine uq_ (HU1.out _ (HT2.out _ hB)) hB fun wk hB=>?_;obtain ⟨c0,c1,c2,c3,c4,c5,c6,c7,c8,c9,cv⟩:=HK.out _ hB;go_wp2_with fail;go_ret;exact ⟨rfl,ht_ HB0.out hB⟩
   | false =>
    cases U2 with
    | true =>
     rw [if_pos (.inr ⟨rfl,.inl rfl⟩)] at hF;subst hF;go_wp2_with fail;refine uq_ (HAt.out _ (HT2.out _ hB)) hB fun wk hB=>?_;obtain ⟨c0,c1,c2,c3,c4,c5,c6,c7,c8,c9,cv⟩:=HK.out _ hB;go_wp2_with fail;refine uq_ (HU1.out _ (HT2.out _ hB)) hB fun wk hB=>?_;obtain ⟨c0,c1,c2,c3,c4,c5,c6,c7,c8,c9,cv⟩:=HK.out _ hB;go_wp2_with fail;refine uq_ (HU2.out _ (HT2.out _ hB)) hB fun wk hB=>?_;obtain ⟨c0,c1,c2,c3,c4,c5,c6,c7,c8,c9,cv⟩:=HK.out _ hB;go_wp2_with fail;go_ret;exact ⟨rfl,ht_ HB0.out hB⟩
    | false =>
     by_cases h9:fi=co
     ·rw [if_pos (.inr ⟨rfl,.inr h9⟩)] at hF
      subst hF;have g9:(fi == co)=true:=by simpa using h9
      clear h9;go_wp2_with fail;refine uq_ (HAt.out _ (HT2.out _ hB)) hB fun wk hB=>?_;obtain ⟨c0,c1,c2,c3,c4,c5,c6,c7,c8,c9,cv⟩:=HK.out _ hB;go_wp2_with fail;refine uq_ (HU1.out _ (HT2.out _ hB)) hB fun wk hB=>?_;obtain ⟨c0,c1,c2,c3,c4,c5,c6,c7,c8,c9,cv⟩:=HK.out _ hB;go_wp2_with fail;refine uq_ (HU2.out _ (HT2.out _ hB)) hB fun wk hB=>?_;obtain ⟨c0,c1,c2,c3,c4,c5,c6,c7,c8,c9,cv⟩:=HK.out _ hB;go_wp2_with fail;go_ret;exact ⟨rfl,ht_ HB0.out hB⟩
     ·rw [if_neg (by rintro (h | ⟨-,h | h⟩);exact Bool.false_ne_true h;exact Bool.false_ne_true h;exact h9 h)] at hF
      subst hF;have g9:(fi == co)=false:=by simpa using h9
      clear h9;go_wp2_with fail;refine uq_ (HAt.out _ (HT2.out _ hB)) hB fun wk hB=>?_;obtain ⟨c0,c1,c2,c3,c4,c5,c6,c7,c8,c9,cv⟩:=HK.out _ hB;go_wp2_with fail;refine uq_ (HU1.out _ (HT2.out _ hB)) hB fun wk hB=>?_;obtain ⟨c0,c1,c2,c3,c4,c5,c6,c7,c8,c9,cv⟩:=HK.out _ hB;go_wp2_with fail;refine uq_ (HU2.out _ (HT2.out _ hB)) hB fun wk hB=>?_;obtain ⟨c0,c1,c2,c3,c4,c5,c6,c7,c8,c9,cv⟩:=HK.out _ hB;go_wp2_with fail;refine uq_ (HIn.out _ (HFW2.out _ hB)) hB fun wk hB=>?_;obtain ⟨c0,c1,c2,c3,c4,c5,c6,c7,c8,c9,cv⟩:=HK.out _ hB;go_wp2_with fail;go_ret;exact ⟨rfl,ht_ HB0.out hB⟩
  ·have e16:(bits == 16)=false:=by simpa using h16
   have n16:(bits != 16)=true:=by simpa using h16
   rw [if_pos (show bitsV bits≠0 by unfold bitsV;rw [if_pos ⟨h8,h16⟩];decide)] at hF
   subst hF;go_wp2_with fail;refine uq_ (HAt.out _ (HT2.out _ hB)) hB fun wk hB=>?_;obtain ⟨c0,c1,c2,c3,c4,c5,c6,c7,c8,c9,cv⟩:=HK.out _ hB;go_wp2_with fail;go_ret;exact ⟨rfl,ht_ HB0.out hB⟩
theorem qkn (s:ByteArray) (ft wa:Int) (A:Option Addr) (n c:Nat) (H:List FC) (l:List Fea) (A':Option Addr) (n' c':Nat) (H':List Hd) (L:List (List PT)) (w:World) (hs:s.size≤9223372036854775807) (hp:InP w A n H l) (hl:InN w A' n' H' L) (hm:∀ h ∈ H',h.n≤9223372036854775807) (hn:n'≤9223372036854775807) (hc1:n≤c) (hc2:c≤9223372036854775807) :
  Rt 68 #[.agg #[.string s,.int .i64 ft,.int .i64 wa,.slice A n c],.slice A' n' c'] w (.int .i64 (profE s ft wa l L)):=by
 have hnH:=hp.1.1.1;have hnb:=hp.2.1;have hnl:n=l.length:=by have:=hp.1.2.1;omega
 have hn':L.length=n':=by have:=hl.1.1;have:=hl.2.1;omega
 have HCu:=hj_ (fun w hl=>qkg A' n' c' H' L w hl hm hn)
 have HNm:=hj_ (fun w=>qml s w hs)
 have HFe:=hj_ (fun (i:Nat) (hi:i<n) w (h:InP w A n H l)=>qm2 s ft wa A n c H l i n' w h o_ hc1 hc2)
 have hr:profE s ft wa l L=if errA L≠0 then errA L else if nmB s=false then 8 else if ft<1∨512<ft∨wa<0∨1048576<wa then 2 else if 16<n then 5 else firstE (feaE l ft n') n:=by
  rw [hnl,← hn'];rfl
 obtain ⟨E,hE⟩:=xe_ (profE s ft wa l L);rw [hE] at hr ⊢;obtain ⟨W,hW⟩:=ex_ (w.alloc (.cells #[.string s,.int .i64 ft,.int .i64 wa,.slice A n c] 87));obtain ⟨hB0,hK⟩:=pbox s ft wa A n c w W hW;have HK:=hj_ hK;have HW:=hj_ hW;have HB0:=hj_ hB0;have hB:=Below.refl W.heap.size W;obtain ⟨c0,c1,c2,c3⟩:=hK W hB;have HP:=hj_ (hp.below HB0.out);have HL:=hj_ (hl.below HB0.out);clear hW hB0 hK hp hl hm hE hn' hnl hs hc1 hc2 hn hnH;generalize feaE l ft n' = F at *;generalize errA L=u at *;generalize nmB s=q at *
 by_cases hu:u=0
 case neg =>
  rw [if_pos hu] at hr;subst hr;have g1:(E == 0)=false:=by simpa using hu
  have g2:(E != 0)=true:=by simpa using hu
  go_enter func68,ntmps68
  go_wp2_with fail;rw [← HW.out];refine uq_ (HCu.out _ (HL.out.below hB)) hB fun wk hB=>?_;go_wp2_with fail;go_ret;exact ⟨rfl,ht_ HB0.out hB⟩
 subst hu;rw [if_neg (fun h=>h rfl)] at hr
 go_enter func68,ntmps68
 go_wp2_with fail;rw [← HW.out];refine uq_ (HCu.out _ (HL.out.below hB)) hB fun wk hB=>?_;obtain ⟨c0,c1,c2,c3⟩:=HK.out _ hB;go_wp2_with fail;refine uq_ (HNm.out _) hB fun wk hB=>?_;obtain ⟨c0,c1,c2,c3⟩:=HK.out _ hB
 cases q with
 | false =>
  rw [if_pos d_] at hr
  subst hr;go_wp2_with fail;go_ret;exact ⟨rfl,ht_ HB0.out hB⟩
 | true =>
  rw [if_neg d_] at hr
  by_cases h1:ft<1
  ·rw [if_pos o_] at hr
   subst hr;go_wp2_with fail;go_ret;exact ⟨rfl,ht_ HB0.out hB⟩
  by_cases h2:512<ft
  ·rw [if_pos o_] at hr
   subst hr;go_wp2_with fail;go_ret;exact ⟨rfl,ht_ HB0.out hB⟩
  by_cases h3:wa<0
  ·rw [if_pos o_] at hr
   subst hr;go_wp2_with fail;go_ret;exact ⟨rfl,ht_ HB0.out hB⟩
  by_cases h4:1048576<wa
  ·rw [if_pos o_] at hr
   subst hr;go_wp2_with fail;go_ret;exact ⟨rfl,ht_ HB0.out hB⟩
  rw [if_neg o_] at hr
  by_cases h5:16<n
  ·rw [if_pos h5] at hr
   subst hr;have g5:(16:Int)<(n:Int):=o_
   go_wp2_with fail;go_ret;exact ⟨rfl,ht_ HB0.out hB⟩
  have g5:¬ (16:Int)<(n:Int):=o_
  rw [if_neg h5] at hr;have HR:=hj_ hr;have HB1:=hj_ hB;clear hr;go_wp2_with fail
  go_loopw [6] (fun iv wr=>∃ j:Nat,j≤n∧iv=.int .i64 (j:Int)∧(∀ i,i<j→F i=0)∧Below W.heap.size W wr) (fun iv _=>n-(intOf iv).toNat)
  case atStart=>exact ⟨0,Nat.zero_le _,rfl,fun i h=>absurd h (Nat.not_lt_zero _),HB1.out⟩
  case round =>
   obtain ⟨j,hj,rfl,hall,hB⟩:=hrel;have HAll:=hj_ hall;clear hall;obtain ⟨c0,c1,c2,c3⟩:=HK.out _ hB
   by_cases hlt:j<n
   case neg =>
    obtain rfl:j=n:=o_
    have hz:E=0:=by rw [HR.out];exact q86 HAll.out
    subst hz;go_wp2_with fail;go_ret;exact ⟨rfl,ht_ HB0.out hB⟩
   case pos =>
    have i0:(0:Int)≤(j:Int):=o_
    have i1:(j:Int)<(n:Int):=o_
    have w0:IntKind.i64.wrap ((j:Int)+1)=(j:Int)+1:=IntWalk.i64_in _ o_
    have HFj:=hj_ (HFe.out j hlt);have hSome:=hj_ (fun (h:F j≠0)=>HR.out.trans (q87 HAll.out h hlt))
    have hZero:=hj_ (fun (h:F j=0)=>q88 HAll.out h)
    generalize F j=x at *
    by_cases hx:x=0
    ·subst hx
     have HN:=hj_ (hZero.out rfl);go_wp2_with fail;refine uq_ (HFj.out _ (HP.out.below hB)) hB fun wk hB=>?_;go_wp2_with fail
     go_roundw
     case rel=>exact ⟨j+1,hlt,by go_num,HN.out,hB⟩
     case measure=>simp [intOf];omega
    ·have he:=hSome.out hx
     subst he;have g1:(E == 0)=false:=by simpa using hx
     have g2:(E != 0)=true:=by simpa using hx
     go_wp2_with fail;refine uq_ (HFj.out _ (HP.out.below hB)) hB fun wk hB=>?_;go_wp2_with fail;go_ret;exact ⟨rfl,ht_ HB0.out hB⟩
end Go.Proofs.YtabhjdmmfdfpeaaGreatDoor
