/- Lemmas. -/
import Derived.Test.YtabhjdmmfdfpeaaGreatDoorKProgA
import Derived.Deep.RegionHeld3
namespace Go.Proofs.YtabhjdmmfdfpeaaGreatDoor
set_option maxHeartbeats 32000000
set_option maxRecDepth 100000
open _root_.Go.Proofs.Tryz
open Go.RowKit
variable {s1:Bool} {z:Int} {l:List Nat} {b c c1 g m m1 n x:Nat} {A N1:Option Addr} {v:Value} {W WE w w' w2:World}
def RetD (q r:Nat) (w:World) (e:Ending) (w':World):Prop:=∃ v u,e=.returned (.tuple #[v,u])∧Mag w' v q∧Mag w' u r∧Below w.heap.size w w'
theorem Us.lit (w:World) (x:Nat) (t:TypeId) (b:Nat) (hb:b=w.heap.size):Us (w.alloc (.cells #[.int .u64 (x:Int)] t)) (some ⟨b,0,none⟩) 1 [x]:=by
 subst hb;refine ⟨rfl,rfl,fun _=>⟨w.heap.size,0,rfl,s_,fun j u hu=>?_⟩⟩
 rw [Nat.zero_add,World.cell?_alloc_new]
 simpa [uv] using hu
theorem qzd (h:0<x) (h9:x<1000000000):wds 1000000000 x=[x]:=by
 rw [qze o_ h,Nat.mod_eq_of_lt h9,Nat.div_eq_of_lt h9,qzi]
theorem Us.kept {row:Option Nat} (h:Us w A n l) (hg:w.grownBy w' row) (hne:0<n→∀ a,A=some a→some a.block≠row):Us w' A n l:=by
 obtain ⟨h1,h2,h3⟩:=h;refine ⟨h1,h2,fun hn=>?_⟩
 obtain ⟨b,o,e,hb,hc⟩:=h3 hn;refine ⟨b,o,e,Nat.lt_of_lt_of_le hb hg.size,fun j u hu=>?_⟩
 rw [← hc j u hu];exact World.cell?_of_block (hg.block b hb (hne hn _ e))
theorem Us.lt {a:Addr} (h:Us w (some a) n l) (hn:0<n):a.block<w.heap.size:=by
 obtain ⟨b,o,e,hb,_⟩:=h.2.2 hn
 injection e with e
 subst e;exact hb
def trn (L:List Nat) (i:Nat):List Nat:=List.replicate (L.length-i) 0 ++ (L.take i).reverse
theorem qt5 (L:List Nat):trn L 0=List.replicate L.length 0:=by simp [trn]
theorem qt2 (L:List Nat):trn L L.length=L.reverse:=by simp [trn]
theorem qt3 (L:List Nat) (i:Nat) (h:i≤L.length):(trn L i).length=L.length:=by simp [trn];omega
theorem qt4 (L:List Nat) (i:Nat) (h:i<L.length):(trn L i).set (L.length-1-i) L[i]=trn L (i+1):=by
 unfold trn;have e:L.length-i=(L.length-1-i)+1:=o_
 rw [e,List.replicate_succ',List.append_assoc,List.set_append_right _ _ s_]
 simp only [List.length_replicate,Nat.sub_self,List.singleton_append,List.set_cons_zero];rw [List.take_succ_eq_append_getElem h,List.reverse_append]
 congr 2
 omega
theorem qzf {N:Nat} (k:Nat) (h:0<N):wds 1000000000 (N*1000000000 ^ k)=List.replicate k 0 ++ wds 1000000000 N:=by
 have hv:wv 1000000000 (List.replicate k 0 ++ wds 1000000000 N)=N*1000000000 ^ k:=by
  rw [q00f,q00h,qzh o_,List.length_replicate,Nat.zero_add,Nat.mul_comm]
 rw [← hv];refine wds_of o_ ((Wd.replicate o_ _).append (wds_wd o_ N)) fun x hx=>?_
 have h1:=qzg (B:=1000000000) o_ N x
 have h2:=(qzc (B:=1000000000) (n:=N) o_).2 h
 rw [List.getLast?_append] at hx
 cases hl:(wds 1000000000 N).getLast? with
 | none =>
  rw [List.getLast?_eq_none_iff] at hl;rw [hl] at h2;simp at h2
 | some y =>
  rw [hl] at hx h1;simp at hx;exact h1 (by rw [hx])
theorem wv_one (x:Nat):wv 1000000000 [x]=x:=by simp [wv]
theorem wd_one (h:x<1000000000):Wd 1000000000 [x]:=by intro y hy;simp at hy;omega
theorem q5u (A:Option Addr) (la c a:Nat) (B:Option Addr) (lb d b:Nat) (w:World) (ha:Us w A la (wds 1000000000 a)) (hca:la≤c) (hb:Us w B lb (wds 1000000000 b)) (hla:la≤2000) (hlb:lb≤2000) (hlt:a<b) :
  Calls prog 177 #[.slice A la c,.slice B lb d] w (RetD (a / b) (a % b) w):=by
 have h1:=hj_ (Nat.div_eq_of_lt hlt);have h2:=hj_ (Nat.mod_eq_of_lt hlt);have HA:=hj_ ha.1
 go_enter func177,ntmps177
 go_wp2_with fail;refine (q3s A la c a B lb d b w ha hb o_ o_).mono ?_
 rintro e w1 ⟨x,rfl,hx,hb1⟩;have hx0:x<0:=hx.1.2 hlt;clear hx;go_wp2_with fail;go_ret2;refine ⟨.slice none 0 0,.slice A la c,rfl,qdq _ _ (by rw [h1.out,qzi]),?_,hb1⟩
 rw [h2.out];refine ⟨A,c,by rw [← HA.out],by rw [← HA.out];exact hca,?_⟩
 have:=ha.below hb1
 rwa [HA.out] at this
theorem q5w (A:Option Addr) (la c a:Nat) (B:Option Addr) (d b:Nat) (w:World) (ha:Us w A la (wds 1000000000 a)) (hb:Us w B 1 (wds 1000000000 b)) (hla:la≤2000) (hle:b≤a) (hb0:0<b) :
  Calls prog 177 #[.slice A la c,.slice B 1 d] w (RetD (a / b) (a % b) w):=by
 have hb9:b<1000000000:=by have:=wds_lt (B:=1000000000) o_ b;rw [← hb.1] at this;simpa using this
 have hbw:=hb;rw [qzd hb0 hb9] at hbw;obtain ⟨bk,o,rfl,hbl,hc⟩:=hbw.at1 (k:=0) s_
 simp only [List.getElem_cons_zero,Nat.add_zero] at hc;have hr9:a % b<1000000000:=by have:=Nat.mod_lt a hb0;omega
 clear hbw
 go_enter func177,ntmps177
 go_wp2_with fail;refine (q3s A la c a _ 1 d b w ha hb o_ o_).mono ?_
 rintro e w1 ⟨x,rfl,hx,hb1⟩;have hx0:¬ x<0:=fun h=>by have:=hx.1.1 h;omega
 clear hx;have hc:=(hb1.cell (p:=⟨bk,_,none⟩) hbl).trans hc;have hz1:=hb1.size;go_wp2_with fail;refine (qzm A la c a b w1 (ha.below hb1) o_ hb0 o_).mono ?_
 rintro e w2 ⟨v,rfl,hm,hb2⟩;generalize a / b=Q at *;generalize a % b=R at *;go_wp2_with fail;refine (q47 _ 1 1 [R] _ (Us.lit w2 R _ _ rfl) o_ o_ (by unfold maxLen;omega) (wd_one hr9)).mono ?_
 rw [wv_one];rintro e w3 ⟨u,rfl,hu,hb3,_⟩;have hb23:Below w2.heap.size w2 w3:=bz_
 go_wp2_with fail;go_ret2;exact ⟨_,_,rfl,hm.below hb23,hu,(hb1.trans (hb2.mono hz1)).trans (hb23.mono (Nat.le_trans hz1 hb2.size))⟩
theorem q5v (A:Option Addr) (la c a:Nat) (B:Option Addr) (lb d b:Nat) (w:World) (ha:Us w A la (wds 1000000000 a)) (hb:Us w B lb (wds 1000000000 b)) (hla:la≤2000) (hlb:lb≤2000) (hle:b≤a) (hl2:2≤lb) :
  Calls prog 177 #[.slice A la c,.slice B lb d] w (RetD (a / b) (a % b) w):=by
 have hL1:lb-1<(wds 1000000000 b).length:=by rw [← hb.1];omega
 have hb0:0<b:=(qzc (B:=1000000000) o_).1 (by rw [← hb.1];omega)
 obtain ⟨bk,o,rfl,hbl,hc⟩:=hb.at1 hL1;have ht9:=(wds_wd (B:=1000000000) o_ b).at hL1
 obtain ⟨t,htt⟩:=ex_ ((wds 1000000000 b)[lb-1]);rw [← htt] at hc ht9;obtain ⟨s,hs⟩:=ex_ (1000000000 / (t+1));have hs1:1≤s:=by rw [hs];exact (Nat.le_div_iff_mul_le o_).2 o_
 have hs2:s≤1000000000:=by rw [hs];exact Nat.div_le_self _ _
 have hl1:¬ (lb:Int)=1:=o_
 have hl3:((lb:Int) == 1)=false:=by simp;omega
 have hlt0:((lb:Int)-1).toNat=lb-1:=o_
 have hsi:(1000000000:Int) / ((t:Int)+1)=(s:Int):=by
  rw [hs,Int.natCast_ediv];rfl
 have ht1:1≤t:=by
  have h1:=qzg (B:=1000000000) o_ b t (by rw [List.getLast?_eq_getElem?,← hb.1,List.getElem?_eq_getElem hL1,← htt])
  omega
 have hs3:s<1000000000:=by
  have:s≤1000000000 / 2:=by rw [hs];exact Nat.div_le_div_left o_ o_
  omega
 have HS:=hj_ hsi;have HSd:=hj_ hs;clear hs hsi htt
 go_enter func177,ntmps177
 go_wp2_with fail;refine (q3s A la c a _ lb d b w ha hb o_ o_).mono ?_
 rintro e w1 ⟨x,rfl,hx,hb1⟩;have hx0:¬ x<0:=fun h=>by have:=hx.1.1 h;omega
 clear hx;have hc:=(hb1.cell (p:=⟨bk,_,none⟩) hbl).trans hc;have hz1:=hb1.size;go_wp2_with fail;rw [HS.out];have hsc:=Us.lit w1 s 258 w1.heap.size rfl;have hb12:Below w1.heap.size w1 (w1.alloc (.cells #[.int .u64 (s:Int)] 258)):=(br_).alloc lr_ _;generalize hbs:w1.heap.size=bs at *;generalize w1.alloc (.cells #[.int .u64 (s:Int)] 258)=w2 at *;have hB2:Below w.heap.size w w2:=hb1.trans (hb12.mono hz1);have hscW:=hsc;rw [← qzd hs1 hs3] at hscW;have ha2:=ha.below hB2;have hb2:=hb.below hB2;clear hb12 hbs hc hb1;have HWs:=hj_ (qzd hs1 hs3);refine (qsj A la c a _ 1 1 s w2 ha2 (by rw [HWs.out] at hscW ⊢;exact hscW) o_ o_).mono ?_
 rintro e w3 ⟨vR,rfl,hmR,hb3,hfR⟩;obtain ⟨AR,cR,rfl,hcR,huR⟩:=hmR;have hB3:=ht_ hB2 hb3;have hscW3:=hscW.below hb3;have hsc3:=hsc.below hb3;have hb3':=hb.below hB3;go_wp2_with fail;refine (qsj _ lb d b _ 1 1 s w3 hb3' (by rw [HWs.out] at hscW3 ⊢;exact hscW3) o_ o_).mono ?_
 rintro e w4 ⟨vN,rfl,hmN,hb4,_⟩;obtain ⟨AN,cN,rfl,hcN,huN⟩:=hmN;have hB4:=ht_ hB3 hb4;have hsc4:=hsc3.below hb4;have huR4:=huR.below hb4;clear hsc hscW ha2 hb2 hscW3 hsc3 hb3' huR hb3 hb4 hfR hB2 hB3;obtain ⟨M,hM⟩:=ex_ (a*s);obtain ⟨N,hN⟩:=ex_ (b*s);rw [← hM] at hcR huR4;rw [← hN] at hcN huN;rw [← hM,← hN];have hN0:0<N:=by rw [hN];exact Nat.mul_pos hb0 hs1
 have hNM:N≤M:=by rw [hN,hM];exact Nat.mul_le_mul_right _ hle
 have hlenM:(wds 1000000000 M).length≤2001:=by
  have h1:=wds_lt (B:=1000000000) o_ a
  rw [← ha.1] at h1;have h2:(wds 1000000000 M).length≤la+1:=by
   refine qzb o_ ?_
   rw [hM,Nat.pow_succ];exact Nat.mul_lt_mul'' h1 hs3
  omega
 have hlenN:=qza (B:=1000000000) o_ hNM
 have hlenN1:=(qzc (B:=1000000000) (n:=N) o_).2 hN0
 obtain ⟨aN,rfl⟩:∃ aN,AN=some aN:=by
  obtain ⟨b',o',e,_⟩:=huN.at1 hlenN1;exact ⟨_,e⟩
 obtain ⟨LR,hLR⟩:=ex_ ((wds 1000000000 M).length);obtain ⟨LN,hLN⟩:=ex_ ((wds 1000000000 N).length);have hMlt:M<1000000000 ^ LR:=by rw [hLR];exact wds_lt o_ M
 have hNge:1000000000 ^ (LN-1)≤N:=by rw [hLN];exact wds_ge o_ hN0
 have hNlt:N<1000000000 ^ LN:=by rw [hLN];exact wds_lt o_ N
 have hMst:M<N*1000000000 ^ (LR-LN+1):=by
  refine Nat.lt_of_lt_of_le hMlt ?_;have e:(1000000000:Nat) ^ LR=1000000000 ^ (LN-1)*1000000000 ^ (LR-LN+1):=by rw [← Nat.pow_add];congr 1;omega
  rw [e];exact Nat.mul_le_mul_right _ hNge
 rw [← hLR] at huR4 hcR hlenM hlenN;rw [← hLN] at huN hcN hlenN hlenN1;rw [← hLR,← hLN];have HM:=hj_ hM;have HN:=hj_ hN;have HLR:=hj_ hLR;have HLN:=hj_ hLN;have HMst:=hj_ hMst;have HNlt:=hj_ hNlt;clear hM hN hLR hLN hMst hNlt hMlt hNge hNM;have hz4:=hB4.size;obtain ⟨i0,hi,hz0,hzz1,hzz2⟩:=info_parts infoU;have HI:=hj_ hi;have HZ0:=hj_ hz0;have HZ1:=hj_ hzz1;have HZ2:=hj_ hzz2;clear hi hz0 hzz1 hzz2;go_wp2
 go_loopw [9,11,12] (fun v9 v11 v12 wr=>∃ (kk R:Nat) (L:List Nat),v12=.int .i64 ((kk:Int)-1)∧kk+L.length=LR-LN+1∧Mag wr v9 R∧wr.ownsRow w4.heap.size 258 1 v11 L.length (uv L)∧Wd 1000000000 L∧M=R+N*1000000000 ^ kk*wv 1000000000 L.reverse∧R<N*1000000000 ^ kk∧Below w4.heap.size w4 wr∧(∀ a n c g,v9=.slice (some a) n c→0<n→v11.ownBlock=some g→a.block≠g)) (fun _ _ v12 _=>(intOf v12+1).toNat)
 case atStart=>exact ⟨LR-LN+1,M,[],by congr 1;omega,s_,⟨AR,cR,by rw [HLR.out],by rw [← HLR.out];exact hcR,by rw [← HLR.out];exact huR4⟩,World.ownsRow_nil _ _ _ _,Wd.nil _,by simp [wv],HMst.out,br_,fun a n c g _ _ h=>by cases h⟩
 case round =>
  obtain ⟨kk,R,L,rfl,hkL,hmR,hown,hwL,hMR,hRlt,hbw,hdis⟩:=hrel
  by_cases hk0:kk=0
  ·subst hk0
   have hds:=q5r (m:=a) (n:=b) (s:=s) (Q:=wv 1000000000 L.reverse) (R:=R) hs1 (by rw [← HM.out,← HN.out];rw [Nat.pow_zero,Nat.mul_one] at hMR;exact hMR) (by rw [← HN.out];rw [Nat.pow_zero,Nat.mul_one] at hRlt;exact hRlt)
   have HD1:=hj_ hds.1;have HD2:=hj_ hds.2;have HWL:=hj_ hwL;have hL2:L.length≤2002:=o_
   obtain ⟨A9,c9,rfl,hc9,hu9⟩:=hmR;have hl9:(wds 1000000000 R).length≤6000:=by
    have h1:R≤M:=o_
    have:=qza (B:=1000000000) o_ h1
    rw [← HLR.out] at this;omega
   have hsc5:=hsc4.below hbw;have hzw:=hbw.size;have hwwr:=hB4.trans (hbw.mono hz4);have hzz:=hwwr.size;clear hds hMR hRlt hkL hwL hdis hbw;obtain ⟨A11,c11,rfl⟩:=qfu hown;have hu11:=Us.of_own hown rfl;clear hown;rw [show ((0:Nat):Int)-1=-1 from rfl]
   go_wp2_with (refine wpList_make_full _ rfl _ _ _ rfl wr.heap.size 258 i0 (.int .u64 0) 1 underlying235 HI.out HZ0.out HZ1.out .i64 .i64 _ _ L.length rfl rfl rfl rfl (by rw [HZ2.out];omega) (by unfold maxLen;omega) lr_ ?_;intro W1 hown1 hg1;rw [qdp] at hown1)
   have hB1:Below wr.heap.size wr W1:=(br_).grown hg1 lr_ (fun k e=>by cases e)
   rw [← qt5] at hown1;clear hg1;obtain ⟨wo,rfl⟩:∃ wo:World,wo=wr:=⟨_,rfl⟩
   go_loopw [97] (fun iv wr=>∃ i:Nat,i≤L.length∧iv=.int .i64 i∧wr.ownsRow wo.heap.size 258 1 (.slice (some ⟨wo.heap.size,0,none⟩) L.length L.length) L.length (uv (trn L i))∧Below wo.heap.size wo wr) (fun iv _=>L.length-(intOf iv).toNat)
   case atStart=>exact ⟨0,Nat.zero_le _,rfl,hown1,hB1⟩
   case round =>
    clear hown1 hB1;obtain ⟨i,hi,rfl,hown,hbw⟩:=hrel
    by_cases hlt:i<L.length
    ·obtain ⟨b1,o1,rfl,hbl1,hcL⟩:=(hu11.below hbw).at1 hlt
     have hst:=hj_ (qt4 L i hlt);have htl:=qt3 L i hi;have hidx:L.length-1-i<(trn L i).length:=o_
     obtain ⟨y,hy⟩:=xe_ ((trn L i)[L.length-1-i]);have hcell:=hown.cellAt (L.length-1-i) o_
     rw [show (uv (trn L i))[L.length-1-i]? = some (.int .u64 (y:Int)) from by simp [uv,hidx,hy]] at hcell
     have hfr:=hown.frozenAt (L.length-1-i);have hix:((L.length:Int)-1-(i:Int)).toNat=L.length-1-i:=o_
     have hix2:0≤(L.length:Int)-1-(i:Int):=o_
     obtain ⟨z,hz⟩:=ex_ (L[i]);rw [← hz] at hcL hst;clear hy htl hz;go_wp2
     go_roundw
     case rel=>exact ⟨i+1,o_,by go_num,by
      have h1:=(hown.stored (L.length-1-i) (.int .u64 (z:Int))).1;rw [uv_set,hst.out] at h1;exact h1,bz_⟩
     case measure=>simp [intOf];omega
    ·obtain rfl:i=L.length:=by omega
     rw [qt2] at hown;have hu9':=hu9.below hbw;have hsc6:=hsc5.below hbw;obtain ⟨b1,o1,e1,hbl1,hcS⟩:=hsc6.at1 (k:=0) s_
     injection e1 with e1
     injection e1 with e2 e3
     subst e2;subst e3;simp only [List.getElem_cons_zero,Nat.add_zero] at hcS;have hz1':=hbw.size;clear hsc5 hsc6 hu11;go_wp2_with fail;refine (qzm A9 _ c9 R s wr hu9' o_ hs1 o_).mono ?_
     rw [HD2.out];rintro e W2 ⟨v,rfl,hm,hb2⟩;have hown2:=qfq hown hb2;have hus:=Us.of_own hown2 s_
     have hwr:Wd 1000000000 L.reverse:=fun x hx=>HWL.out x (by simpa using hx)
     have hz2':=hb2.size;go_wp2_with fail;refine (q47 _ _ L.length _ W2 hus o_ (qfs hown2) (qfx hown2) hwr).mono ?_
     rw [HD1.out];rintro e W3 ⟨u,rfl,hu,hb3,_⟩;go_wp2_with fail;go_ret2;exact ⟨_,_,rfl,hu,hm.below hb3,((hwwr.trans (hbw.mono hzz)).trans (hb2.mono (Nat.le_trans hzz hz1'))).trans (hb3.mono (Nat.le_trans (Nat.le_trans hzz hz1') hz2'))⟩
  ·obtain ⟨k,rfl⟩:∃ k,kk=k+1:=⟨kk-1,o_⟩
   have hkk:((k+1:Nat):Int)-1=(k:Int):=o_
   rw [hkk];have HMR:=hj_ hMR;have HWL:=hj_ hwL;have HRlt:=hj_ hRlt;have HkL:=hj_ hkL;have HDis:=hj_ hdis;have hk2:k≤2001:=o_
   clear hkk hMR hwL hRlt hkL hdis hk0;obtain ⟨A9,c9,rfl,hc9,hu9⟩:=hmR;have hl9:(wds 1000000000 R).length≤6000:=by
    have h1:R≤M:=by have:=HMR.out;omega
    have:=qza (B:=1000000000) o_ h1
    rw [← HLR.out] at this;omega
   have hN4:=huN.below hbw;have hzw:=hbw.size;go_wp2_with (first | (refine wpList_make_full _ rfl _ _ _ rfl wr.heap.size 258 i0 (.int .u64 0) 1 underlying235 HI.out HZ0.out HZ1.out .i64 .i64 _ _ k rfl rfl rfl rfl (by rw [HZ2.out];omega) (by unfold maxLen;omega) lr_ ?_;intro W1 hown1 hg1;rw [qdp] at hown1;have hB1:Below wr.heap.size wr W1:=(br_).grown hg1 lr_ (fun k e=>by cases e);have hN5:=hN4.below hB1;have hz5:=hB1.size) | (at_builtin;refine wpList_append_own _ rfl _ _ 235 rfl wr.heap.size 258 i0 (.int .u64 0) 1 8 underlying235 HI.out HZ0.out HZ1.out HZ2.out rfl d_ _ _ _ rfl hown1 aN LN cN (uv (wds 1000000000 N)) rfl hN5.addc.1 hN5.addc.2 (uv_one _) (by unfold maxLen;omega) o_ hz5 ?_;intro vS W2 hown2 hg2 _))
   have hg2':W1.grownBy W2 (some wr.heap.size):=hg2;have hB2:Below wr.heap.size wr W2:=hB1.grown hg2' hz5 (fun j e=>by cases e;exact Nat.le_refl _)
   rw [← qys,← qzf k hN0] at hown2;obtain ⟨AS,cS,rfl⟩:=qfu hown2;obtain ⟨Dv,hDv⟩:=ex_ (N*1000000000 ^ k);rw [← hDv] at hown2;have hD0:0<Dv:=by rw [hDv];exact Nat.mul_pos hN0 (Nat.pow_pos o_)
   have hlD:k+LN=(wds 1000000000 Dv).length:=qfw hown2;have hS2:=Us.of_own hown2 hlD;have hgq:=gss_ge (R:=R) (N:=N) (k:=k) hN0 (by have:=HRlt.out;rwa [Nat.pow_succ,← Nat.mul_assoc] at this)
   rw [← hDv] at hgq;have hu92:=hu9.below hB2;have hN2:=hN4.below hB2;have hownL:=qfq hown hB2;have HDv:=hj_ hDv;have HlD:=hj_ hlD;clear hg1 hg2 hg2' hown1 hB1 hN5 hz5 hown2 hDv hlD;refine (qai A9 _ c9 R (some aN) LN cN N k W2 hu92 hN2 o_ o_ hN0 o_).mono ?_
   rintro e W3 ⟨rfl,nq,hW3⟩;obtain ⟨q0,hq0⟩:=ex_ (gss R N k);rw [← hq0] at hgq ⊢;obtain ⟨hq1,hq2⟩:=hgq;have hB23:Below W2.heap.size W2 W3:=by rw [hW3];exact q18 (br_) nq
   clear hW3 hq0;have hz2:=hB2.size;have hB3:=hB2.trans (hB23.mono hz2);have hS3:=hS2.below hB23;have hu93:=hu92.below hB23;have hownL3:=qfq hownL hB23;clear hB23 hS2 hu92 hN2 hownL hB2;go_wp2_with fail;refine (q47 _ 1 1 [q0] _ (Us.lit W3 q0 _ _ rfl) o_ o_ (by unfold maxLen;omega) (wd_one hq2)).mono ?_
   rw [wv_one];rintro e W4 ⟨vq,rfl,hmq,hb4',_⟩;have hB34:Below W3.heap.size W3 W4:=bz_
   clear hb4';obtain ⟨Aq,cq,rfl,hcq,huq⟩:=hmq;have hz3:=hB3.size;have hB4':=hB3.trans (hB34.mono hz3);have hS4:=hS3.below hB34;have hu94:=hu93.below hB34;have hownL4:=qfq hownL3 hB34;have hlq:(wds 1000000000 q0).length≤1:=qzb o_ (by simpa using hq2)
   clear hB34 hS3 hu93 hownL3 hB3;go_wp2_with fail;refine (qsj AS (k+LN) cS Dv Aq _ cq q0 W4 hS4 huq o_ o_).mono ?_
   rintro e W5 ⟨vP,rfl,hmP,hb5,_⟩;have hz4':=hB4'.size;have hB5:=hB4'.trans (hb5.mono hz4');have hS5:=hS4.below hb5;have hu95:=hu94.below hb5;have hownL5:=qfq hownL4 hb5;clear hb5 hS4 hu94 hownL4 hB4' huq hcq;have hz5':=hB5.size;obtain ⟨wo,rfl⟩:∃ wo:World,wo=wr:=⟨_,rfl⟩;go_wp2
   go_loopw [14,15] (fun v14 v15 wr=>∃ q:Nat,v14=.int .u64 q∧Mag wr v15 (Dv*q)∧R / Dv≤q∧q<1000000000∧Below W5.heap.size W5 wr) (fun v14 _ _=>(intOf v14).toNat)
   case atStart=>exact ⟨q0,rfl,hmP,hq1,hq2,br_⟩
   case round =>
    clear hmP hq1 hq2;obtain ⟨q,rfl,hmP,hge,hq9,hb6⟩:=hrel;obtain ⟨AP,cP,rfl,hcP,huP⟩:=hmP;have hlP:(wds 1000000000 (Dv*q)).length≤4100:=by
     have h1:=wds_lt (B:=1000000000) o_ Dv
     rw [← HlD.out] at h1;have h2:(wds 1000000000 (Dv*q)).length≤k+LN+1:=by
      refine qzb o_ ?_
      rw [Nat.pow_succ];exact Nat.mul_lt_mul'' h1 hq9
     omega
    have hz6:=hb6.size;have hu96:=hu95.below hb6;have hS6:=hS5.below hb6;have hownL6:=qfq hownL5 hb6;have hB6:=hB5.trans (hb6.mono hz5');clear hcP
    by_cases hgt:R<Dv*q
    ·obtain ⟨hpos,hge'⟩:=q5h hD0 hge (by rwa [Nat.mul_comm] at hgt)
     have HGe:=hj_ hge';have hDq:Dv≤Dv*q:=Nat.le_mul_of_pos_right _ hpos;have HMul:=hj_ (show Dv*(q-1)=Dv*q-Dv from by rw [Nat.mul_sub,Nat.mul_one])
     have hqi:(1:Int)≤(q:Int):=o_
     obtain ⟨P,hP⟩:=ex_ (Dv*q);rw [← hP] at huP hlP hgt hDq HMul;rw [← hP];clear hge hge' hP;go_wp2_with fail;refine (q3s AP _ cP P A9 _ c9 R wr huP hu96 o_ o_).mono ?_
     rintro e W6 ⟨x6,rfl,hx6,hb7⟩;have hx60:0<x6:=hx6.2.1.2 hgt;clear hx6;have huP7:=huP.below hb7;have hS7:=hS6.below hb7;go_wp2_with fail;refine (qcs AP _ cP P AS (k+LN) cS Dv W6 huP7 hS7 o_ o_ hDq).mono ?_
     rintro e W7 ⟨vP',rfl,hmP',hb8,_⟩;go_wp2
     go_roundw
     case rel=>exact ⟨q-1,u64_eq o_,by rw [HMul.out];exact hmP',HGe.out,o_,(hb6.trans (hb7.mono hz6)).trans (hb8.mono (Nat.le_trans hz6 hb7.size))⟩
     case measure=>simp [intOf];omega
    ·have hqe:q=R / Dv:=q5j hD0 hge (by rw [Nat.mul_comm];omega)
     have hdst:=q5s (M:=M) (N:=N) (B:=1000000000) (k:=k) (R:=R) (Q:=wv 1000000000 L.reverse) HMR.out (by rw [← HDv.out];exact hD0)
     rw [← HDv.out,← hqe,← q00i] at hdst;have HSt:=hj_ hdst;have hRq:q*Dv=Dv*q:=Nat.mul_comm _ _;have HRq:=hj_ hRq;obtain ⟨P,hP⟩:=ex_ (Dv*q);rw [← hP] at huP hlP hgt;rw [← hP];have HP:=hj_ hP;clear hge hqe hdst hRq hP;go_wp2_with fail;refine (q3s AP _ cP P A9 _ c9 R wr huP hu96 o_ o_).mono ?_
     rintro e W6 ⟨x6,rfl,hx6,hb7⟩;have hx60:¬ 0<x6:=fun h=>hgt (hx6.2.1.1 h)
     clear hx6;have hPR:P≤R:=o_
     have huP7:=huP.below hb7;have hu97:=hu96.below hb7;have hz7:=hb7.size;go_wp2_with fail;refine (qcs A9 _ c9 R AP _ cP P W6 hu97 huP7 o_ o_ hPR).mono ?_
     rintro e W7 ⟨v9',rfl,hm9',hb8,hfr⟩;obtain ⟨A9',c9',rfl,hc9',hu9'⟩:=hm9';have hownL7:=qfq (qfq hownL6 hb7) hb8;have hB7:=(ht_ hB6 hb7).trans (hb8.mono (Nat.le_trans hB6.size hb7.size));have hlt7:Hid (∀ g,u11.ownBlock=some g→g<wo.heap.size):=fun g hg=>(hown.lt g hg).2
     have hz67:wo.heap.size≤W6.heap.size:=Nat.le_trans hB6.size hb7.size;have hz77:=hB7.size;have hbase:=Nat.le_trans hzw hz77;have HFr:=hj_ hfr;have hL2:L.length≤2002:=by have:=HkL.out;omega
     clear hfr hu96 hu97 huP huP7 hS6 hb6 hb7 hb8 hownL6 hz6 hz7 hB6;go_wp2_with (at_builtin;refine wpList_append_own_at _ rfl _ _ 235 rfl w4.heap.size 258 i0 (.int .u64 0) 1 8 underlying235 HI.out HZ0.out HZ1.out HZ2.out rfl d_ _ _ _ rfl (hownL7.alloc _) ⟨W7.heap.size,0,none⟩ 1 1 [.int .u64 (q:Int)] rfl rfl (cell_one_new _ _ _) (by simp [Value.oneCell']) (by unfold maxLen;omega) o_ (by simp;omega) ?_;intro v11' W8 hown8 hg8 _ hat)
     have hg8':(W7.alloc (.cells #[.int .u64 (q:Int)] 258)).grownBy W8 u11.ownBlock:=hg8;have hat':v11'.ownBlock=u11.ownBlock∨v11'.ownBlock=some (W7.heap.size+1):=by
      have h:v11'.ownBlock=u11.ownBlock∨v11'.ownBlock=some (W7.alloc (.cells #[.int .u64 (q:Int)] 258)).heap.size:=hat
      rwa [World.size_alloc] at h
     clear hg8 hat;have hal:Below W7.heap.size W7 (W7.alloc (.cells #[.int .u64 (q:Int)] 258)):=(br_).alloc lr_ _;have hold:∀ a,A9' = some a→some a.block≠u11.ownBlock:=fun a e h=>by
      have h1:=hlt7.out a.block h.symm;have h2:=HFr.out a _ _ (by rw [e])
      omega
     have hu8:Us W8 A9' (wds 1000000000 (R-P)).length (wds 1000000000 (R-P)):=(hu9'.below hal).kept hg8' (fun _ a e=>hold a e)
     have hbw8:Below w4.heap.size w4 W8:=((hbw.trans (hB7.mono hzw)).alloc hbase _).grown hg8' (by simp;omega) (fun g e=>(hownL7.lt g e).1)
     go_roundw
     case rel =>
      refine ⟨k,R-P,L ++ [q],rfl,by have:=HkL.out;simp;omega,⟨A9',c9',rfl,hc9',hu8⟩,by rw [List.length_append,qys];exact hown8,HWL.out.snoc hq9,?_,?_,hbw8,fun a n c g h hn hg=>?_⟩
      ·have h:=HSt.out.1
       rw [HRq.out,← HP.out,HDv.out] at h;exact h
      ·have h:=HSt.out.2
       rw [HRq.out,← HP.out,HDv.out] at h;exact h
      ·injection h with e1 e2 e3
       rcases hat' with h | h
       ·rw [h] at hg
        intro hag;exact hold a e1 (by rw [hg,hag])
       ·rw [h] at hg
        injection hg with hg
        have h3:Us W7 (some a) (wds 1000000000 (R-P)).length (wds 1000000000 (R-P)):=by rw [← e1];exact hu9'
        have:=h3.lt (by rw [e2];exact hn)
        omega
     case measure=>first | (simp [intOf];omega) | simp [intOf]
theorem q5t (A:Option Addr) (la c a:Nat) (B:Option Addr) (lb d b:Nat) (w:World) (ha:Us w A la (wds 1000000000 a)) (hca:la≤c) (hb:Us w B lb (wds 1000000000 b)) (hla:la≤2000) (hlb:lb≤2000) (hb0:0<b) :
  Calls prog 177 #[.slice A la c,.slice B lb d] w (RetD (a / b) (a % b) w):=by
 rcases Nat.lt_or_ge a b with h | h
 ·exact q5u A la c a B lb d b w ha hca hb hla hlb h
 ·have hl:=(qzc (B:=1000000000) (n:=b) o_).2 hb0
  rw [← hb.1] at hl
  by_cases h1:lb=1
  ·subst h1
   exact q5w A la c a B d b w ha hb hla h hb0
  ·exact q5v A la c a B lb d b w ha hb hla hlb h o_
def RetN (z:Int) (w:World) (e:Ending) (w':World):Prop:=∃ v,e=.returned v∧Num w' v z∧Below w.heap.size w w'
def NumA (w:World) (A:Option Addr) (n c:Nat) (z:Int):Prop:=n=(wds 1000000000 z.natAbs).length∧n≤c∧Us w A n (wds 1000000000 z.natAbs)
theorem NumA.below (h:NumA w A n c z) (hb:Below w.heap.size w w'):NumA w' A n c z:=⟨h.1,h.2.1,h.2.2.below hb⟩
theorem NumA.num {b:Bool} (h:NumA w A n c z) (hb:b=decide (z<0)):Num w (.agg #[.bool b,.slice A n c]) z:=by
 subst hb;obtain ⟨h1,h2,h3⟩:=h;exact ⟨_,rfl,A,c,by rw [h1],by rw [← h1];exact h2,by rw [← h1];exact h3⟩
theorem Num.open (h:Num w v z):∃ A n c,v=.agg #[.bool (decide (z<0)),.slice A n c]∧NumA w A n c z:=by
 obtain ⟨s,rfl,A,c,rfl,hc,hu⟩:=h;exact ⟨A,_,c,rfl,rfl,hc,hu⟩
theorem qag (W:World) (g i:Nat) (v:Value):W.grownBy (W.setCell ⟨g,i,none⟩ v) (some g) :=
 ⟨rfl,rfl,rfl,by simp [World.setCell],fun k _ hne=>Below.heap_setCell _ _ _ _ (fun e=>hne (by rw [e]))⟩
theorem Us.stored (h:Us w A n l) (hne:0<n→∀ a,A=some a→a.block≠g) (a b:Value):Us ((w.setCell ⟨g,0,none⟩ a).setCell ⟨g,1,none⟩ b) A n l :=
 (h.kept (qag w g 0 a) (fun hn x e he=>hne hn x e (by injection he))).kept (qag _ g 1 b) (fun hn x e he=>hne hn x e (by injection he))
theorem qte {v0 v1:Value} (a b:Value) (h0:w.cell? ⟨g,0,none⟩=some v0) (h1:w.cell? ⟨g,1,none⟩=some v1) :
  ((w.setCell ⟨g,0,none⟩ a).setCell ⟨g,1,none⟩ b).cell? ⟨g,0,none⟩=some a∧((w.setCell ⟨g,0,none⟩ a).setCell ⟨g,1,none⟩ b).cell? ⟨g,1,none⟩=some b:=by
 have e0:(w.setCell ⟨g,0,none⟩ a).cell? ⟨g,0,none⟩=some a:=World.cell?_setCell_same' _ _ _ (by rw [h0];rfl)
 have e1:(w.setCell ⟨g,0,none⟩ a).cell? ⟨g,1,none⟩=some v1:=(World.cell?_setCell_other _ _ _ _ s_).trans h1
 exact ⟨(World.cell?_setCell_other _ _ _ _ s_).trans e0,World.cell?_setCell_same' _ _ _ (by rw [e1];rfl)⟩
theorem NumA.pos (h:NumA w A n c z):0<n↔z≠0:=by
 rw [h.1,qzc o_];omega
theorem NumA.of (h:Us w A n (wds 1000000000 m)) (hn:n=(wds 1000000000 m).length) (hc:n≤c) (hz:z.natAbs=m):NumA w A n c z:=by
 subst hz;exact ⟨hn,hc,h⟩
theorem qpm (A:Option Addr) (n c:Nat) (z:Int) (w:World) (h:NumA w A n c z) (hn:n≤100000) :
  Rt 333 #[.agg #[.bool (decide (z<0)),.slice A n c]] w (.int .i64 z.sign):=by
 have hp:=h.pos
 rcases Int.lt_trichotomy z 0 with hz | hz | hz
 ·have h1:((n:Int) == 0)=false:=by have:=hp.2 o_;simp;omega
  rw [decide_eq_true hz,Int.sign_eq_neg_one_of_neg hz];clear hp hz h
  go_enter func333,ntmps333
  go_wp2;go_ret;exact ⟨rfl,bz_⟩
 ·subst hz
  have h1:n=0:=by have:=hp.1;omega
  subst h1;rw [decide_eq_false o_]
  clear hp h hn
  go_enter func333,ntmps333
  go_wp2;go_ret;exact ⟨rfl,bz_⟩
 ·have h1:((n:Int) == 0)=false:=by have:=hp.2 o_;simp;omega
  rw [decide_eq_false o_,Int.sign_eq_one_of_pos hz]
  clear hp hz h
  go_enter func333,ntmps333
  go_wp2;go_ret;exact ⟨rfl,bz_⟩
theorem qeq (A:Option Addr) (n c:Nat) (z:Int) (w:World) (h:NumA w A n c z) (hn:n≤100000) :
  Calls prog 249 #[.agg #[.bool (decide (z<0)),.slice A n c]] w (RetN (-z) w):=by
 have hp:=h.pos;have hneg:NumA w A n c (-z):=by
  obtain ⟨h1,h2,h3⟩:=h;exact ⟨by rw [Int.natAbs_neg];exact h1,h2,by rw [Int.natAbs_neg];exact h3⟩
 have HNg:=hj_ hneg;clear hneg
 by_cases hz:z<0
 ·have HZ:=hj_ hz
  rw [decide_eq_true hz];clear hp hz h
  go_enter func249,ntmps249
  go_wp2;refine bodyPost_ret (v:=.agg #[.bool false,.slice A n c]) (by simp [results,f249,go_sem]) rfl ?_
  have hb:Below w.heap.size w ((w.alloc (.cells #[.bool true,.slice A n c] 237)).alloc (.cells #[.bool false,.slice A n c] 237)):=bz_
  exact ⟨_,rfl,(HNg.out.below hb).num (by rw [decide_eq_false];have:=HZ.out;omega),hb⟩
 ·have HZ:=hj_ hz
  rw [decide_eq_false hz]
  by_cases hz0:z=0
  ·have h1:n=0:=by have:=hp.1;omega
   subst h1;subst hz0;clear hp hz h hn HZ
   go_enter func249,ntmps249
   go_wp2;refine bodyPost_ret (v:=.agg #[.bool false,.slice A 0 c]) (by simp [results,f249,go_sem]) rfl ?_
   have hb:Below w.heap.size w ((w.alloc (.cells #[.bool false,.slice A 0 c] 237)).alloc (.cells #[.bool false,.slice A 0 c] 237)):=bz_
   exact ⟨_,rfl,(HNg.out.below hb).num (by rw [decide_eq_false];omega),hb⟩
  ·have h1:(0:Int)<(n:Int):=by have:=hp.2 hz0;omega
   have h2:0<n:=o_
   have h3:decide ((0:Int)<(n:Int))=true:=by simpa using h2
   have h4:decide (0<n)=true:=by simpa using h2
   have HZ0:=hj_ hz0;clear hp hz h hz0
   go_enter func249,ntmps249
   go_wp2;refine bodyPost_ret (v:=.agg #[.bool true,.slice A n c]) (by simp [results,f249,go_sem]) rfl ?_
   have hb:Below w.heap.size w ((w.alloc (.cells #[.bool false,.slice A n c] 237)).alloc (.cells #[.bool true,.slice A n c] 237)):=bz_
   exact ⟨_,rfl,(HNg.out.below hb).num (by rw [decide_eq_true];have:=HZ.out;have:=HZ0.out;omega),hb⟩
theorem qip (A:Option Addr) (la c:Nat) (x:Int) (B:Option Addr) (lb d:Nat) (y:Int) (w:World) (hx:NumA w A la c x) (hy:NumA w B lb d y) (hla:la≤2000) (hlb:lb≤2000) :
  Calls prog 292 #[.agg #[.bool (decide (x<0)),.slice A la c],.agg #[.bool (decide (y<0)),.slice B lb d]] w (RetN (x*y) w):=by
 have hps:=qio x y;rw [Int.natAbs_mul] at hps;have HPs:=hj_ hps.2;clear hps;generalize decide (x<0)=sx at *;generalize decide (y<0)=sy at *;have hb3:Below w.heap.size w (((w.alloc (.cells #[.bool sx,.slice A la c] 237)).alloc (.cells #[.bool sy,.slice B lb d] 237)).alloc (.cells #[.bool false,.slice none 0 0] 237)):=(((Below.refl _ w).alloc lr_ _).alloc s_ _).alloc (by simp;omega) _
 go_enter func292,ntmps292
 go_wp2_with fail;refine (qsj A la c x.natAbs B lb d y.natAbs _ (hx.2.2.below hb3) (hy.2.2.below hb3) o_ o_).mono ?_
 rintro e w1 ⟨v,rfl,hm,hb1,hfr⟩;obtain ⟨AP,cP,rfl,hcP,huP⟩:=hm;obtain ⟨hcc,hcf⟩:=bcell hb1;have hz1:=hb1.size;simp at hz1;have hbw:=ht_ hb3 hb1;obtain ⟨L,hL⟩:=ex_ ((wds 1000000000 (x.natAbs*y.natAbs)).length);rw [← hL] at hcP huP hfr;rw [← hL];have hpos:decide (0<L)=decide (0<x.natAbs*y.natAbs):=by rw [decide_eq_decide,hL];exact qzc o_
 have hnew:∀ i,(((w.alloc (.cells #[.bool sx,.slice A la c] 237)).alloc (.cells #[.bool sy,.slice B lb d] 237)).alloc (.cells #[.bool false,.slice none 0 0] 237)).cell? ⟨w.heap.size+1+1,i,none⟩=#[Value.bool false,.slice none 0 0][i]?:=fun i=>by
  have e:w.heap.size+1+1=((w.alloc (.cells #[.bool sx,.slice A la c] 237)).alloc (.cells #[.bool sy,.slice B lb d] 237)).heap.size:=s_
  rw [e,World.cell?_alloc_new]
 have r0:w1.cell? ⟨w.heap.size+1+1,0,none⟩=some (.bool false):=(hcc (w.heap.size+1+1) 0 s_).trans (hnew 0)
 have r1:w1.cell? ⟨w.heap.size+1+1,1,none⟩=some (.slice none 0 0):=(hcc (w.heap.size+1+1) 1 s_).trans (hnew 1)
 have HTwo:=hj_ (fun a b=>qte a b r0 r1)
 have HB:=hj_ (fun (a b:Value)=>(hbw.setCell (p:=⟨w.heap.size+1+1,0,none⟩) (by simp;omega) a).setCell (p:=⟨w.heap.size+1+1,1,none⟩) (by simp;omega) b)
 have hus:=huP.stored (g:=w.heap.size+1+1) (fun _ a e=>by have h:=hfr a _ _ (by rw [e]);simp at h;omega)
 have HFin:Hid (∀ (b:Bool),b=decide (x*y<0)→Num ((w1.setCell ⟨w.heap.size+1+1,0,none⟩ (.bool b)).setCell ⟨w.heap.size+1+1,1,none⟩ (.slice AP L cP)) (.agg #[.bool b,.slice AP L cP]) (x*y)):=fun b hb =>
  (NumA.of (hus _ _) hL hcP (Int.natAbs_mul x y)).num hb
 rw [← hpos] at HPs;have HPs:Hid (decide (x*y<0)=(!(sx == sy) && decide (0<L))):=HPs;have R0:Hid (w1.cell? ⟨w.heap.size+1+1,0,none⟩=some (.bool false)):=r0;have R1:Hid (w1.cell? ⟨w.heap.size+1+1,1,none⟩=some (.slice none 0 0)):=r1;clear hb1 hL hpos hx hy hfr huP hbw hb3 hus r0 r1 hnew
 cases hsy:(sx == sy)
 ·have HF:=HFin.out (decide (0<L)) (by rw [HPs.out,hsy];simp)
  obtain ⟨e0,e1⟩:=HTwo.out (.bool (decide (0<L))) (.slice AP L cP);have HBB:=HB.out (.bool (decide (0<L))) (.slice AP L cP);clear HTwo HB HFin HPs;have hne:(sx != sy)=true:=by simp [bne,hsy]
  go_wp2;exact bodyPost_ret (v:=.agg #[.bool (decide (0<L)),.slice AP L cP]) (by simp [results,f292,go_sem,e0,e1]) rfl ⟨_,rfl,HF,HBB⟩
 ·have HF:=HFin.out false (by rw [HPs.out,hsy];simp)
  obtain ⟨e0,e1⟩:=HTwo.out (.bool false) (.slice AP L cP);have HBB:=HB.out (.bool false) (.slice AP L cP);clear HTwo HB HFin HPs;have hne:(sx != sy)=false:=by simp [bne,hsy]
  go_wp2;exact bodyPost_ret (v:=.agg #[.bool false,.slice AP L cP]) (by simp [results,f292,go_sem,e0,e1]) rfl ⟨_,rfl,HF,HBB⟩
theorem far2 (a b:Value) (k o:Nat) (v:Value) (hne:k≠g) (h:w.cell? ⟨k,o,none⟩=some v):((w.setCell ⟨g,0,none⟩ a).setCell ⟨g,1,none⟩ b).cell? ⟨k,o,none⟩=some v:=by
 rw [World.cell?_setCell_other _ _ _ _ (fun e=>hne (by injection e with e1 <;> omega)),World.cell?_setCell_other _ _ _ _ (fun e=>hne (by injection e with e1 <;> omega))]
 exact h
theorem qrd (A:Option Addr) (la c:Nat) (x:Int) (B:Option Addr) (lb d:Nat) (y:Int) (w:World) (hx:NumA w A la c x) (hy:NumA w B lb d y) (hla:la≤10000) (hlb:lb≤10000) (hs:decide (x<0)=decide (y<0)) :
  Calls prog 247 #[.agg #[.bool (decide (x<0)),.slice A la c],.agg #[.bool (decide (y<0)),.slice B lb d]] w (RetN (x+y) w):=by
 obtain ⟨hp,hq⟩:=qre hs;rw [← hs];clear hs;generalize decide (x<0)=sx at *;have hb3:Below w.heap.size w (((w.alloc (.cells #[.bool sx,.slice A la c] 237)).alloc (.cells #[.bool sx,.slice B lb d] 237)).alloc (.cells #[.bool false,.slice none 0 0] 237)):=(((Below.refl _ w).alloc lr_ _).alloc s_ _).alloc (by simp;omega) _
 obtain ⟨W,hW⟩:=ex_ (((w.alloc (.cells #[.bool sx,.slice A la c] 237)).alloc (.cells #[.bool sx,.slice B lb d] 237)).alloc (.cells #[.bool false,.slice none 0 0] 237));rw [← hW] at hb3;have hsz:W.heap.size=w.heap.size+3:=by rw [hW];simp
 have x0:W.cell? ⟨w.heap.size,0,none⟩=some (.bool sx):=by rw [hW,World.cell?_alloc_lt _ _ _ (by simp;omega),World.cell?_alloc_lt _ _ _ s_,World.cell?_alloc_new];rfl
 have x1:W.cell? ⟨w.heap.size,1,none⟩=some (.slice A la c):=by rw [hW,World.cell?_alloc_lt _ _ _ (by simp;omega),World.cell?_alloc_lt _ _ _ s_,World.cell?_alloc_new];rfl
 have y0:W.cell? ⟨w.heap.size+1,0,none⟩=some (.bool sx):=by
  rw [hW,World.cell?_alloc_lt _ _ _ s_]
  have e:w.heap.size+1=(w.alloc (.cells #[.bool sx,.slice A la c] 237)).heap.size:=s_
  rw [e,World.cell?_alloc_new];rfl
 have y1:W.cell? ⟨w.heap.size+1,1,none⟩=some (.slice B lb d):=by
  rw [hW,World.cell?_alloc_lt _ _ _ s_]
  have e:w.heap.size+1=(w.alloc (.cells #[.bool sx,.slice A la c] 237)).heap.size:=s_
  rw [e,World.cell?_alloc_new];rfl
 have z0:W.cell? ⟨w.heap.size+1+1,0,none⟩=some (.bool false):=by
  have e:w.heap.size+1+1=((w.alloc (.cells #[.bool sx,.slice A la c] 237)).alloc (.cells #[.bool sx,.slice B lb d] 237)).heap.size:=s_
  rw [hW,e,World.cell?_alloc_new];rfl
 have z1:W.cell? ⟨w.heap.size+1+1,1,none⟩=some (.slice none 0 0):=by
  have e:w.heap.size+1+1=((w.alloc (.cells #[.bool sx,.slice A la c] 237)).alloc (.cells #[.bool sx,.slice B lb d] 237)).heap.size:=s_
  rw [hW,e,World.cell?_alloc_new];rfl
 have fz:∀ i,W.drew.frozen? ⟨w.heap.size+1+1,i,none⟩=false:=fun i=>by
  have e:w.heap.size+1+1=((w.alloc (.cells #[.bool sx,.slice A la c] 237)).alloc (.cells #[.bool sx,.slice B lb d] 237)).heap.size:=s_
  have h:W.frozen? ⟨w.heap.size+1+1,i,none⟩=false:=by rw [hW,e,World.frozen?_alloc_new]
  exact h
 have HP:=hj_ (qi1 A la c x.natAbs B lb d y.natAbs W.drew (hx.2.2.below (q18 hb3 1)) (hy.2.2.below (q18 hb3 1)) hla hlb);have HSz:Hid (W.drew.heap.size=w.heap.size+3):=hsz;have HB3:=hj_ hb3;have HQ:=hj_ hp;have HQ2:=hj_ hq;clear hp hq hx hy hsz hb3
 go_enter func247,ntmps247
 go_wp2_with fail;rw [← hW];clear hW
 go_region_held3 (fun w'=>w'.cell? ⟨w.heap.size,0,none⟩=some (.bool sx)∧w'.cell? ⟨w.heap.size,1,none⟩=some (.slice A la c)∧w'.cell? ⟨w.heap.size+1,1,none⟩=some (.slice B lb d)) (first | exact ⟨x0,x1,y1⟩ | exact ⟨x0',x1',y1'⟩ | exact ⟨far2 _ _ _ _ _ o_ x0',far2 _ _ _ _ _ o_ x1',far2 _ _ _ _ _ o_ y1'⟩ | go_keep)
  (first | (go_at_call 293;refine HP.out.mono ?_;rintro e w1 ⟨v,rfl,hm,hb1,hfr⟩;obtain ⟨AP,cP,rfl,hcP,huP⟩:=hm;obtain ⟨hcc,hcf⟩:=bcell hb1;have x0':=(hcc w.heap.size 0 (by rw [HSz.out];omega)).trans x0;have x1':=(hcc w.heap.size 1 (by rw [HSz.out];omega)).trans x1;have y1':=(hcc (w.heap.size+1) 1 (by rw [HSz.out];omega)).trans y1;have z0':=(hcc (w.heap.size+1+1) 0 (by rw [HSz.out];omega)).trans z0;have z1':=(hcc (w.heap.size+1+1) 1 (by rw [HSz.out];omega)).trans z1;have fz':=fun i=>(hcf (w.heap.size+1+1) i (by rw [HSz.out];omega)).trans (fz i);have fz0:=fz' 0;have fz1:=fz' 1))
 rename_i hHeld
 clear hHeld;obtain ⟨e0,e1⟩:=qte (.bool sx) (.slice AP (wds 1000000000 (x.natAbs+y.natAbs)).length cP) z0' z1';have hus:=huP.stored (g:=w.heap.size+1+1) (fun _ a e=>by have h:=hfr a _ _ (by rw [e]);rw [HSz.out] at h;omega)
 have HF:Num ((w1.setCell ⟨w.heap.size+1+1,0,none⟩ (.bool sx)).setCell ⟨w.heap.size+1+1,1,none⟩ (.slice AP (wds 1000000000 (x.natAbs+y.natAbs)).length cP)) (.agg #[.bool sx,.slice AP (wds 1000000000 (x.natAbs+y.natAbs)).length cP]) (x+y) :=
  (NumA.of (hus _ _) rfl hcP HQ.out).num HQ2.out.symm
 have hbw:=(q18 HB3.out 1).trans (hb1.mono (by rw [HSz.out];omega))
 have HBB:=(hbw.setCell (p:=⟨w.heap.size+1+1,0,none⟩) (by simp;omega) (.bool sx)).setCell (p:=⟨w.heap.size+1+1,1,none⟩) (by simp;omega) (.slice AP (wds 1000000000 (x.natAbs+y.natAbs)).length cP)
 generalize (wds 1000000000 (x.natAbs+y.natAbs)).length=L at *;clear x0 x1 y0 y1 z0 z1 fz HP hb1 hfr huP hcc hcf x0' x1' y1' z0' z1' fz' fz0 fz1 hus hbw;go_wp2;exact bodyPost_ret (v:=.agg #[.bool sx,.slice AP L cP]) (by simp [results,f247,go_sem,e0,e1]) rfl ⟨_,rfl,HF,HBB⟩
theorem qrc {x y:Int} (h:¬ decide (x<0)=decide (y<0)) (hle:x.natAbs≤y.natAbs):(x+y).natAbs=y.natAbs-x.natAbs∧decide (x+y<0)=(decide (y<0) && decide (0<y.natAbs-x.natAbs)):=by
 rw [Int.add_comm];exact qrb (fun e=>h e.symm) hle
theorem boxes3 (w:World) (c1 c2 c3:Array Value) (t1 t2 t3:TypeId) (hW:W=((w.alloc (.cells c1 t1)).alloc (.cells c2 t2)).alloc (.cells c3 t3)) :
  W.heap.size=w.heap.size+3∧(∀ i,W.cell? ⟨w.heap.size,i,none⟩=c1[i]?)∧(∀ i,W.cell? ⟨w.heap.size+1,i,none⟩=c2[i]?)∧(∀ i,W.cell? ⟨w.heap.size+1+1,i,none⟩=c3[i]?) ∧
  (∀ i,W.frozen? ⟨w.heap.size,i,none⟩=false)∧(∀ i,W.frozen? ⟨w.heap.size+1,i,none⟩=false)∧(∀ i,W.frozen? ⟨w.heap.size+1+1,i,none⟩=false)∧Below w.heap.size w W:=by
 have e1:w.heap.size+1=(w.alloc (.cells c1 t1)).heap.size:=s_
 have e2:w.heap.size+1+1=((w.alloc (.cells c1 t1)).alloc (.cells c2 t2)).heap.size:=s_
 refine ⟨by rw [hW];simp,fun i=>?_,fun i=>?_,fun i=>?_,fun i=>?_,fun i=>?_,fun i=>?_,?_⟩
 ·rw [hW,World.cell?_alloc_lt _ _ _ (by simp;omega),World.cell?_alloc_lt _ _ _ s_,World.cell?_alloc_new]
 ·rw [hW,World.cell?_alloc_lt _ _ _ s_,e1,World.cell?_alloc_new]
 ·rw [hW,e2,World.cell?_alloc_new]
 ·rw [hW,World.frozen?_alloc_past _ _ _ (by simp;omega),World.frozen?_alloc_past _ _ _ s_,World.frozen?_alloc_new]
 ·rw [hW,World.frozen?_alloc_past _ _ _ s_,e1,World.frozen?_alloc_new]
 ·rw [hW,e2,World.frozen?_alloc_new]
 ·rw [hW];exact (((Below.refl _ w).alloc lr_ _).alloc s_ _).alloc (by simp;omega) _
theorem qrg (A:Option Addr) (la c:Nat) (x:Int) (B:Option Addr) (lb d:Nat) (y:Int) (w:World) (hx:NumA w A la c x) (hy:NumA w B lb d y) (hla:la≤10000) (hlb:lb≤10000) (hs:¬ decide (x<0)=decide (y<0)) (hle:y.natAbs≤x.natAbs) :
  Calls prog 247 #[.agg #[.bool (decide (x<0)),.slice A la c],.agg #[.bool (decide (y<0)),.slice B lb d]] w (RetN (x+y) w):=by
 obtain ⟨hp,hq⟩:=qrb hs hle;generalize decide (x<0)=sx at *;generalize decide (y<0)=sy at *;have hne:(sx == sy)=false:=by simpa using hs
 clear hs;have HQ:=hj_ hp;have HQ2:=hj_ hq;have HX:=hj_ hx;have HY:=hj_ hy;clear hp hq;obtain ⟨W,hW⟩:=ex_ (((w.alloc (.cells #[.bool sx,.slice A la c] 237)).alloc (.cells #[.bool sy,.slice B lb d] 237)).alloc (.cells #[.bool false,.slice none 0 0] 237));obtain ⟨hsz,bx,bY,bz,fx,fy,fz,hb3⟩:=boxes3 w _ _ _ _ _ _ hW;have HC:=hj_ (q3s A la c x.natAbs B lb d y.natAbs W (hx.2.2.below hb3) (hy.2.2.below hb3) hla hlb);have HSz:=hj_ hsz;have HBx:=hj_ bx;have HBy:=hj_ bY;have HBz:=hj_ bz;have HFx:=hj_ fx;have HFy:=hj_ fy;have HFz:=hj_ fz;have HB3:=hj_ hb3;clear hx hy hb3 bx bY bz fx fy fz hsz;have HLe:=hj_ hle;clear hle
 go_enter func247,ntmps247
 go_wp2_with fail;rw [← hW];clear hW;refine HC.out.mono ?_;rintro e w1 ⟨cc,rfl,hc,hb1⟩;have hle:=HLe.out;obtain ⟨hcc,hcf⟩:=bcell hb1;have hc0:decide (cc<0)=false:=by simpa using (by have:=hc.1;omega:¬ cc<0)
 have x0:=(hcc w.heap.size 0 (by rw [HSz.out];omega)).trans (HBx.out 0)
 have x1:=(hcc w.heap.size 1 (by rw [HSz.out];omega)).trans (HBx.out 1)
 have y0:=(hcc (w.heap.size+1) 0 (by rw [HSz.out];omega)).trans (HBy.out 0)
 have y1:=(hcc (w.heap.size+1) 1 (by rw [HSz.out];omega)).trans (HBy.out 1)
 have z0:=(hcc (w.heap.size+1+1) 0 (by rw [HSz.out];omega)).trans (HBz.out 0)
 have z1:=(hcc (w.heap.size+1+1) 1 (by rw [HSz.out];omega)).trans (HBz.out 1)
 have f0:=(hcf w.heap.size 0 (by rw [HSz.out];omega)).trans (HFx.out 0)
 have f1:=(hcf w.heap.size 1 (by rw [HSz.out];omega)).trans (HFx.out 1)
 have g0:=(hcf (w.heap.size+1) 0 (by rw [HSz.out];omega)).trans (HFy.out 0)
 have g1:=(hcf (w.heap.size+1) 1 (by rw [HSz.out];omega)).trans (HFy.out 1)
 have k0:=(hcf (w.heap.size+1+1) 0 (by rw [HSz.out];omega)).trans (HFz.out 0)
 have k1:=(hcf (w.heap.size+1+1) 1 (by rw [HSz.out];omega)).trans (HFz.out 1)
 have Hbw:=hj_ (HB3.out.trans (hb1.mono (by rw [HSz.out];omega)))
 have HSz1:=hj_ (show w.heap.size+3≤w1.heap.size from by have:=hb1.size;rw [HSz.out] at this;exact this)
 simp only [List.getElem?_toArray,List.getElem?_cons_zero,List.getElem?_cons_succ] at x0 x1 y0 y1 z0 z1;clear hc hcc hcf HC HBx HBy HBz HFx HFy HFz HB3 hb1 HSz;clear W;go_wp2_with fail;obtain ⟨W4,rfl⟩:∃ W4:World,W4=w1:=⟨_,rfl⟩;have p0:W4.cell? ⟨w.heap.size,0,none⟩=some (.bool sx):=x0;have q0:W4.cell? ⟨w.heap.size+1+1,0,none⟩=some (.bool false):=z0;have q1:W4.cell? ⟨w.heap.size+1+1,1,none⟩=some (.slice none 0 0):=z1;have r0:W4.frozen? ⟨w.heap.size+1+1,0,none⟩=false:=k0;have r1:W4.frozen? ⟨w.heap.size+1+1,1,none⟩=false:=k1;have Hb4:Below w.heap.size w W4:=Hbw.out;have HSz4:w.heap.size+3≤W4.heap.size:=HSz1.out;clear x0 x1 y0 y1 z0 z1 f0 f1 g0 g1 k0 k1 Hbw HSz1 hc0;have HL:=hj_ (qcs A la c x.natAbs B lb d y.natAbs W4 (HX.out.2.2.below Hb4) (HY.out.2.2.below Hb4) hla hlb hle);have hpos:decide (0<(wds 1000000000 (x.natAbs-y.natAbs)).length)=decide (0<(x.natAbs-y.natAbs)):=by rw [decide_eq_decide];exact qzc o_
 clear hle HX HY HLe;refine HL.out.mono ?_;rintro e w2 ⟨v,rfl,hm,hb2,hfr⟩;obtain ⟨AP,cP,rfl,hcP,huP⟩:=hm;obtain ⟨hcc,hcf⟩:=bcell hb2;have P0:=(hcc _ 0 (by omega:w.heap.size<W4.heap.size)).trans p0
 have Q0:=(hcc _ 0 (by omega:w.heap.size+1+1<W4.heap.size)).trans q0
 have Q1:=(hcc _ 1 (by omega:w.heap.size+1+1<W4.heap.size)).trans q1
 have R0:=(hcf _ 0 (by omega:w.heap.size+1+1<W4.heap.size)).trans r0
 have R1:=(hcf _ 1 (by omega:w.heap.size+1+1<W4.heap.size)).trans r1
 have hsz2:w.heap.size+3≤w2.heap.size:=Nat.le_trans HSz4 hb2.size;have hbw:=Hb4.trans (hb2.mono o_)
 have HTwo:=hj_ (fun a b=>qte a b Q0 Q1)
 have HB:=hj_ (fun (a b:Value)=>(hbw.setCell (p:=⟨w.heap.size+1+1,0,none⟩) (by simp;omega) a).setCell (p:=⟨w.heap.size+1+1,1,none⟩) (by simp;omega) b)
 have hus:=huP.stored (g:=w.heap.size+1+1) (fun _ a e=>by have h:=hfr a _ _ (by rw [e]);omega)
 have HFin:Hid (∀ (b:Bool),b=decide (x+y<0)→Num ((w2.setCell ⟨w.heap.size+1+1,0,none⟩ (.bool b)).setCell ⟨w.heap.size+1+1,1,none⟩ (.slice AP (wds 1000000000 (x.natAbs-y.natAbs)).length cP)) (.agg #[.bool b,.slice AP (wds 1000000000 (x.natAbs-y.natAbs)).length cP]) (x+y)):=fun b hb =>
  (NumA.of (hus _ _) rfl hcP HQ.out).num hb
 rw [← hpos] at HQ2;clear hus hpos HL huP hcP hfr;generalize (wds 1000000000 (x.natAbs-y.natAbs)).length=L at *;have HQ2:Hid (decide (x+y<0)=(sx && decide (0<L))):=HQ2;clear hbw hb2 hcc hcf p0 q0 q1 r0 r1 Hb4 HSz4 HQ hsz2
 cases sx
 ·have HF:=HFin.out false (by rw [HQ2.out];simp)
  obtain ⟨e0,e1⟩:=HTwo.out (.bool false) (.slice AP L cP);have HBB:=HB.out (.bool false) (.slice AP L cP);clear HTwo HB HFin HQ2;go_wp2;exact bodyPost_ret (v:=.agg #[.bool false,.slice AP L cP]) (by simp [results,f247,go_sem,e0,e1]) rfl ⟨_,rfl,HF,HBB⟩
 ·have HF:=HFin.out (decide (0<L)) (by rw [HQ2.out];simp)
  obtain ⟨e0,e1⟩:=HTwo.out (.bool (decide (0<L))) (.slice AP L cP);have HBB:=HB.out (.bool (decide (0<L))) (.slice AP L cP);clear HTwo HB HFin HQ2;go_wp2;exact bodyPost_ret (v:=.agg #[.bool (decide (0<L)),.slice AP L cP]) (by simp [results,f247,go_sem,e0,e1]) rfl ⟨_,rfl,HF,HBB⟩
theorem qrf (A:Option Addr) (la c:Nat) (x:Int) (B:Option Addr) (lb d:Nat) (y:Int) (w:World) (hx:NumA w A la c x) (hy:NumA w B lb d y) (hla:la≤10000) (hlb:lb≤10000) (hs:¬ decide (x<0)=decide (y<0)) (hle:x.natAbs<y.natAbs) :
  Calls prog 247 #[.agg #[.bool (decide (x<0)),.slice A la c],.agg #[.bool (decide (y<0)),.slice B lb d]] w (RetN (x+y) w):=by
 obtain ⟨hp,hq⟩:=qrc hs (Nat.le_of_lt hle);generalize decide (x<0)=sx at *;generalize decide (y<0)=sy at *;have hne:(sx == sy)=false:=by simpa using hs
 clear hs;have HQ:=hj_ hp;have HQ2:=hj_ hq;have HX:=hj_ hx;have HY:=hj_ hy;clear hp hq;obtain ⟨W,hW⟩:=ex_ (((w.alloc (.cells #[.bool sx,.slice A la c] 237)).alloc (.cells #[.bool sy,.slice B lb d] 237)).alloc (.cells #[.bool false,.slice none 0 0] 237));obtain ⟨hsz,bx,bY,bz,fx,fy,fz,hb3⟩:=boxes3 w _ _ _ _ _ _ hW;have HC:=hj_ (q3s A la c x.natAbs B lb d y.natAbs W (hx.2.2.below hb3) (hy.2.2.below hb3) hla hlb);have HSz:=hj_ hsz;have HBx:=hj_ bx;have HBy:=hj_ bY;have HBz:=hj_ bz;have HFx:=hj_ fx;have HFy:=hj_ fy;have HFz:=hj_ fz;have HB3:=hj_ hb3;clear hx hy hb3 bx bY bz fx fy fz hsz;have HLe:=hj_ hle;clear hle
 go_enter func247,ntmps247
 go_wp2_with fail;rw [← hW];clear hW;refine HC.out.mono ?_;rintro e w1 ⟨cc,rfl,hc,hb1⟩;have hle:=HLe.out;obtain ⟨hcc,hcf⟩:=bcell hb1;have hc0:decide (cc<0)=true:=by simpa using hc.1.2 hle
 have x0:=(hcc w.heap.size 0 (by rw [HSz.out];omega)).trans (HBx.out 0)
 have x1:=(hcc w.heap.size 1 (by rw [HSz.out];omega)).trans (HBx.out 1)
 have y0:=(hcc (w.heap.size+1) 0 (by rw [HSz.out];omega)).trans (HBy.out 0)
 have y1:=(hcc (w.heap.size+1) 1 (by rw [HSz.out];omega)).trans (HBy.out 1)
 have z0:=(hcc (w.heap.size+1+1) 0 (by rw [HSz.out];omega)).trans (HBz.out 0)
 have z1:=(hcc (w.heap.size+1+1) 1 (by rw [HSz.out];omega)).trans (HBz.out 1)
 have f0:=(hcf w.heap.size 0 (by rw [HSz.out];omega)).trans (HFx.out 0)
 have f1:=(hcf w.heap.size 1 (by rw [HSz.out];omega)).trans (HFx.out 1)
 have g0:=(hcf (w.heap.size+1) 0 (by rw [HSz.out];omega)).trans (HFy.out 0)
 have g1:=(hcf (w.heap.size+1) 1 (by rw [HSz.out];omega)).trans (HFy.out 1)
 have k0:=(hcf (w.heap.size+1+1) 0 (by rw [HSz.out];omega)).trans (HFz.out 0)
 have k1:=(hcf (w.heap.size+1+1) 1 (by rw [HSz.out];omega)).trans (HFz.out 1)
 have Hbw:=hj_ (HB3.out.trans (hb1.mono (by rw [HSz.out];omega)))
 have HSz1:=hj_ (show w.heap.size+3≤w1.heap.size from by have:=hb1.size;rw [HSz.out] at this;exact this)
 simp only [List.getElem?_toArray,List.getElem?_cons_zero,List.getElem?_cons_succ] at x0 x1 y0 y1 z0 z1;clear hc hcc hcf HC HBx HBy HBz HFx HFy HFz HB3 hb1 HSz;clear W;go_wp2_with fail;obtain ⟨W4,hW4⟩:=ex_ ((((w1.setCell ⟨w.heap.size,0,none⟩ (.bool sy)).setCell ⟨w.heap.size,1,none⟩ (.slice B lb d)).setCell ⟨w.heap.size+1,0,none⟩ (.bool sx)).setCell ⟨w.heap.size+1,1,none⟩ (.slice A la c));rw [← hW4];have p0:W4.cell? ⟨w.heap.size,0,none⟩=some (.bool sy):=by rw [hW4];exact far2 _ _ _ _ _ o_ (qte (.bool sy) (.slice B lb d) x0 x1).1
 have q0:W4.cell? ⟨w.heap.size+1+1,0,none⟩=some (.bool false):=by rw [hW4];exact far2 _ _ _ _ _ o_ (far2 _ _ _ _ _ o_ z0)
 have q1:W4.cell? ⟨w.heap.size+1+1,1,none⟩=some (.slice none 0 0):=by rw [hW4];exact far2 _ _ _ _ _ o_ (far2 _ _ _ _ _ o_ z1)
 have r0:W4.frozen? ⟨w.heap.size+1+1,0,none⟩=false:=by rw [hW4];simpa using k0
 have r1:W4.frozen? ⟨w.heap.size+1+1,1,none⟩=false:=by rw [hW4];simpa using k1
 have Hb4:Below w.heap.size w W4:=by rw [hW4];exact (((Hbw.out.setCell s_ _).setCell s_ _).setCell s_ _).setCell s_ _
 have HSz4:w.heap.size+3≤W4.heap.size:=by rw [hW4];simpa using HSz1.out
 clear x0 x1 y0 y1 z0 z1 f0 f1 g0 g1 k0 k1 Hbw HSz1 hc0;clear hW4;have HL:=hj_ (qcs B lb d y.natAbs A la c x.natAbs W4 (HY.out.2.2.below Hb4) (HX.out.2.2.below Hb4) hlb hla (Nat.le_of_lt hle));have hpos:decide (0<(wds 1000000000 (y.natAbs-x.natAbs)).length)=decide (0<(y.natAbs-x.natAbs)):=by rw [decide_eq_decide];exact qzc o_
 clear hle HX HY HLe;refine HL.out.mono ?_;rintro e w2 ⟨v,rfl,hm,hb2,hfr⟩;obtain ⟨AP,cP,rfl,hcP,huP⟩:=hm;obtain ⟨hcc,hcf⟩:=bcell hb2;have P0:=(hcc _ 0 (by omega:w.heap.size<W4.heap.size)).trans p0
 have Q0:=(hcc _ 0 (by omega:w.heap.size+1+1<W4.heap.size)).trans q0
 have Q1:=(hcc _ 1 (by omega:w.heap.size+1+1<W4.heap.size)).trans q1
 have R0:=(hcf _ 0 (by omega:w.heap.size+1+1<W4.heap.size)).trans r0
 have R1:=(hcf _ 1 (by omega:w.heap.size+1+1<W4.heap.size)).trans r1
 have hsz2:w.heap.size+3≤w2.heap.size:=Nat.le_trans HSz4 hb2.size;have hbw:=Hb4.trans (hb2.mono o_)
 have HTwo:=hj_ (fun a b=>qte a b Q0 Q1)
 have HB:=hj_ (fun (a b:Value)=>(hbw.setCell (p:=⟨w.heap.size+1+1,0,none⟩) (by simp;omega) a).setCell (p:=⟨w.heap.size+1+1,1,none⟩) (by simp;omega) b)
 have hus:=huP.stored (g:=w.heap.size+1+1) (fun _ a e=>by have h:=hfr a _ _ (by rw [e]);omega)
 have HFin:Hid (∀ (b:Bool),b=decide (x+y<0)→Num ((w2.setCell ⟨w.heap.size+1+1,0,none⟩ (.bool b)).setCell ⟨w.heap.size+1+1,1,none⟩ (.slice AP (wds 1000000000 (y.natAbs-x.natAbs)).length cP)) (.agg #[.bool b,.slice AP (wds 1000000000 (y.natAbs-x.natAbs)).length cP]) (x+y)):=fun b hb =>
  (NumA.of (hus _ _) rfl hcP HQ.out).num hb
 rw [← hpos] at HQ2;clear hus hpos HL huP hcP hfr;generalize (wds 1000000000 (y.natAbs-x.natAbs)).length=L at *;have HQ2:Hid (decide (x+y<0)=(sy && decide (0<L))):=HQ2;clear hbw hb2 hcc hcf p0 q0 q1 r0 r1 Hb4 HSz4 HQ hsz2
 cases sy
 ·have HF:=HFin.out false (by rw [HQ2.out];simp)
  obtain ⟨e0,e1⟩:=HTwo.out (.bool false) (.slice AP L cP);have HBB:=HB.out (.bool false) (.slice AP L cP);clear HTwo HB HFin HQ2;go_wp2;exact bodyPost_ret (v:=.agg #[.bool false,.slice AP L cP]) (by simp [results,f247,go_sem,e0,e1]) rfl ⟨_,rfl,HF,HBB⟩
 ·have HF:=HFin.out (decide (0<L)) (by rw [HQ2.out];simp)
  obtain ⟨e0,e1⟩:=HTwo.out (.bool (decide (0<L))) (.slice AP L cP);have HBB:=HB.out (.bool (decide (0<L))) (.slice AP L cP);clear HTwo HB HFin HQ2;go_wp2;exact bodyPost_ret (v:=.agg #[.bool (decide (0<L)),.slice AP L cP]) (by simp [results,f247,go_sem,e0,e1]) rfl ⟨_,rfl,HF,HBB⟩
theorem qra (A:Option Addr) (la c:Nat) (x:Int) (B:Option Addr) (lb d:Nat) (y:Int) (w:World) (hx:NumA w A la c x) (hy:NumA w B lb d y) (hla:la≤10000) (hlb:lb≤10000) :
  Calls prog 247 #[.agg #[.bool (decide (x<0)),.slice A la c],.agg #[.bool (decide (y<0)),.slice B lb d]] w (RetN (x+y) w):=by
 by_cases hs:decide (x<0)=decide (y<0)
 ·exact qrd A la c x B lb d y w hx hy hla hlb hs
 ·rcases Nat.lt_or_ge x.natAbs y.natAbs with h | h
  ·exact qrf A la c x B lb d y w hx hy hla hlb hs h
  ·exact qrg A la c x B lb d y w hx hy hla hlb hs h
def RetP (z u:Int) (w:World) (e:Ending) (w':World):Prop:=∃ v v',e=.returned (.tuple #[v,v'])∧Num w' v z∧Num w' v' u∧Below w.heap.size w w'
theorem us_far {X:Option Addr} {G:Nat} {s:Bool} (h:Us w A n l) (hc:∀ i,w.cell? ⟨G,i,none⟩=(#[.bool s,.slice X m c]:Array Value)[i]?):0<n→∀ a,A=some a→a.block≠G:=by
 intro hn a e hb;obtain ⟨b,o,e',_,hcell⟩:=h.at1 (k:=0) (by rw [← h.1];exact hn)
 rw [e] at e'
 injection e' with e'
 subst e';have hb:b=G:=hb;rw [hb,hc] at hcell
 match o with
 | 0=>simp at hcell
 | 1=>simp at hcell
 | n+2=>simp at hcell
theorem boxes4 (w:World) (c1 c2 c3 c4:Array Value) (t1 t2 t3 t4:TypeId) (hW:W=(((w.alloc (.cells c1 t1)).alloc (.cells c2 t2)).alloc (.cells c3 t3)).alloc (.cells c4 t4)) :
  W.heap.size=w.heap.size+4∧(∀ i,W.cell? ⟨w.heap.size,i,none⟩=c1[i]?)∧(∀ i,W.cell? ⟨w.heap.size+1,i,none⟩=c2[i]?)∧(∀ i,W.cell? ⟨w.heap.size+1+1,i,none⟩=c3[i]?)∧(∀ i,W.cell? ⟨w.heap.size+1+1+1,i,none⟩=c4[i]?) ∧
  (∀ i,W.frozen? ⟨w.heap.size+1+1,i,none⟩=false)∧(∀ i,W.frozen? ⟨w.heap.size+1+1+1,i,none⟩=false)∧Below w.heap.size w W:=by
 obtain ⟨V,hV⟩:=ex_ (((w.alloc (.cells c1 t1)).alloc (.cells c2 t2)).alloc (.cells c3 t3));obtain ⟨hs,b1,b2,b3,f1,f2,f3,hb⟩:=boxes3 w _ _ _ _ _ _ hV;rw [← hV] at hW;have e:w.heap.size+1+1+1=V.heap.size:=hs.symm;refine ⟨by rw [hW];simp;omega,fun i=>?_,fun i=>?_,fun i=>?_,fun i=>?_,fun i=>?_,fun i=>?_,?_⟩
 ·rw [hW,World.cell?_alloc_lt _ _ _ (by simp;omega)];exact b1 i
 ·rw [hW,World.cell?_alloc_lt _ _ _ (by simp;omega)];exact b2 i
 ·rw [hW,World.cell?_alloc_lt _ _ _ (by simp;omega)];exact b3 i
 ·rw [hW,e,World.cell?_alloc_new]
 ·rw [hW,World.frozen?_alloc_past _ _ _ o_];exact f3 i
 ·rw [hW,e,World.frozen?_alloc_new]
 ·rw [hW];exact hb.alloc o_ _
theorem fin2 {X Y:Int} {QA RA N2:Option Addr} {cq cr q r LQ LR m2 c2:Nat} {s2:Bool} (hbw:Below w.heap.size w w2)
  (bz:∀ i,w2.cell? ⟨w.heap.size+1+1,i,none⟩=(#[.bool s1,.slice N1 m1 c1]:Array Value)[i]?) (bh:∀ i,w2.cell? ⟨w.heap.size+1+1+1,i,none⟩=(#[.bool s2,.slice N2 m2 c2]:Array Value)[i]?)
  (hq:Us w2 QA LQ (wds 1000000000 q)) (hql:LQ=(wds 1000000000 q).length) (hcq:LQ≤cq) (hr:Us w2 RA LR (wds 1000000000 r)) (hrl:LR=(wds 1000000000 r).length) (hcr:LR≤cr) (hX:X.natAbs=q) (hY:Y.natAbs=r) (b1 b2:Bool) (hb1:b1=decide (X<0)) (hb2:b2=decide (Y<0))
  (hWE:WE=(((w2.setCell ⟨w.heap.size+1+1,0,none⟩ (.bool b1)).setCell ⟨w.heap.size+1+1,1,none⟩ (.slice QA LQ cq)).setCell ⟨w.heap.size+1+1+1,0,none⟩ (.bool b2)).setCell ⟨w.heap.size+1+1+1,1,none⟩ (.slice RA LR cr)) :
  WE.cell? ⟨w.heap.size+1+1,0,none⟩=some (.bool b1)∧WE.cell? ⟨w.heap.size+1+1,1,none⟩=some (.slice QA LQ cq)∧WE.cell? ⟨w.heap.size+1+1+1,0,none⟩=some (.bool b2)∧WE.cell? ⟨w.heap.size+1+1+1,1,none⟩=some (.slice RA LR cr) ∧
  Num WE (.agg #[.bool b1,.slice QA LQ cq]) X∧Num WE (.agg #[.bool b2,.slice RA LR cr]) Y∧Below w.heap.size w WE:=by
 have z0:w2.cell? ⟨w.heap.size+1+1,0,none⟩=some (.bool s1):=bz 0;have z1:w2.cell? ⟨w.heap.size+1+1,1,none⟩=some (.slice N1 m1 c1):=bz 1;have h0:w2.cell? ⟨w.heap.size+1+1+1,0,none⟩=some (.bool s2):=bh 0;have h1:w2.cell? ⟨w.heap.size+1+1+1,1,none⟩=some (.slice N2 m2 c2):=bh 1;obtain ⟨e0,e1⟩:=qte (.bool b1) (.slice QA LQ cq) z0 z1;obtain ⟨d0,d1⟩:=qte (w:=(w2.setCell ⟨w.heap.size+1+1,0,none⟩ (.bool b1)).setCell ⟨w.heap.size+1+1,1,none⟩ (.slice QA LQ cq)) (.bool b2) (.slice RA LR cr) (far2 _ _ _ _ _ o_ h0) (far2 _ _ _ _ _ o_ h1)
 have q1:=(hq.stored (us_far hq bz) (.bool b1) (.slice QA LQ cq)).stored (us_far hq bh) (.bool b2) (.slice RA LR cr);have r1:=(hr.stored (us_far hr bz) (.bool b1) (.slice QA LQ cq)).stored (us_far hr bh) (.bool b2) (.slice RA LR cr);rw [← hWE] at d0 d1 q1 r1;refine ⟨by rw [hWE];exact far2 _ _ _ _ _ o_ e0,by rw [hWE];exact far2 _ _ _ _ _ o_ e1,d0,d1,(NumA.of q1 hql hcq hX).num hb1,(NumA.of r1 hrl hcr hY).num hb2,?_⟩
 rw [hWE];exact (((hbw.setCell (by simp;omega) _).setCell (by simp;omega) _).setCell (by simp;omega) _).setCell (by simp;omega) _
theorem qkc (A:Option Addr) (la c:Nat) (x:Int) (B:Option Addr) (lb d:Nat) (y:Int) (w:World) (hx:NumA w A la c x) (hy:NumA w B lb d y) (hla:la≤2000) (hlb:lb≤2000) (hy0:y≠0) (hor:decide (x<0)=decide (y<0)∨x.natAbs % y.natAbs=0) :
  Calls prog 294 #[.agg #[.bool (decide (x<0)),.slice A la c],.agg #[.bool (decide (y<0)),.slice B lb d]] w (RetP (x.fdiv y) (x.fmod y) w):=by
 have HE:=hj_ (q7a hy0 hor);have HOr:=hj_ hor;clear hor;generalize decide (x<0)=sx at *;generalize decide (y<0)=sy at *;have HX:=hj_ hx;have HY:=hj_ hy;obtain ⟨W,hW⟩:=ex_ ((((w.alloc (.cells #[.bool sx,.slice A la c] 237)).alloc (.cells #[.bool sy,.slice B lb d] 237)).alloc (.cells #[.bool false,.slice none 0 0] 237)).alloc (.cells #[.bool false,.slice none 0 0] 237));obtain ⟨hsz,bx,bY,bz,bh,fz,fh,hb3⟩:=boxes4 w _ _ _ _ _ _ _ _ hW;have HC:=hj_ (q5t A la c x.natAbs B lb d y.natAbs W (hx.2.2.below hb3) hx.2.1 (hy.2.2.below hb3) hla hlb o_)
 have HSz:=hj_ hsz;have HBx:=hj_ bx;have HBy:=hj_ bY;have HBz:=hj_ bz;have HBh:=hj_ bh;have HFz:=hj_ fz;have HFh:=hj_ fh;have HB3:=hj_ hb3;clear hx hy hb3 bx bY bz bh fz fh hsz;have HY0:=hj_ hy0;clear hy0
 go_enter func294,ntmps294
 go_wp2_with fail;rw [← hW];clear hW;refine HC.out.mono ?_;rintro e w1 ⟨v,v',rfl,hm,hm',hb1⟩;obtain ⟨QA,cq,rfl,hcq,huq⟩:=hm;obtain ⟨RA,cr,rfl,hcr,hur⟩:=hm';obtain ⟨hcc,hcf⟩:=bcell hb1;have x0:=(hcc w.heap.size 0 (by rw [HSz.out];omega)).trans (HBx.out 0)
 have x1:=(hcc w.heap.size 1 (by rw [HSz.out];omega)).trans (HBx.out 1)
 have y0:=(hcc (w.heap.size+1) 0 (by rw [HSz.out];omega)).trans (HBy.out 0)
 have y1:=(hcc (w.heap.size+1) 1 (by rw [HSz.out];omega)).trans (HBy.out 1)
 have bz:=hj_ (fun i=>(hcc (w.heap.size+1+1) i (by rw [HSz.out];omega)).trans (HBz.out i))
 have bh:=hj_ (fun i=>(hcc (w.heap.size+1+1+1) i (by rw [HSz.out];omega)).trans (HBh.out i))
 have fz:=hj_ (fun i=>(hcf (w.heap.size+1+1) i (by rw [HSz.out];omega)).trans (HFz.out i))
 have fh:=hj_ (fun i=>(hcf (w.heap.size+1+1+1) i (by rw [HSz.out];omega)).trans (HFh.out i))
 have Hbw:=hj_ (HB3.out.trans (hb1.mono (by rw [HSz.out];omega)))
 have HSz1:=hj_ (show w.heap.size+4≤w1.heap.size from by have:=hb1.size;rw [HSz.out] at this;exact this)
 simp only [List.getElem?_toArray,List.getElem?_cons_zero,List.getElem?_cons_succ] at x0 x1 y0 y1;clear hcc hcf HC HBx HBy HBz HBh HFz HFh HB3 hb1 HSz;clear W;have z0:w1.cell? ⟨w.heap.size+1+1,0,none⟩=some (.bool false):=bz.out 0;have z1:w1.cell? ⟨w.heap.size+1+1,1,none⟩=some (.slice none 0 0):=bz.out 1;have h0:w1.cell? ⟨w.heap.size+1+1+1,0,none⟩=some (.bool false):=bh.out 0;have h1:w1.cell? ⟨w.heap.size+1+1+1,1,none⟩=some (.slice none 0 0):=bh.out 1;have fz0:=fz.out 0;have fz1:=fz.out 1;have fh0:=fh.out 0;have fh1:=fh.out 1;obtain ⟨eq,es,er,et⟩:=HE.out;have hpq:decide (0<(wds 1000000000 (x.natAbs / y.natAbs)).length)=decide (0<x.natAbs / y.natAbs):=by rw [decide_eq_decide];exact qzc o_
 have hpr:decide (0<(wds 1000000000 (x.natAbs % y.natAbs)).length)=decide (0<x.natAbs % y.natAbs):=by rw [decide_eq_decide];exact qzc o_
 have HZ:Hid (x.natAbs % y.natAbs=0→(wds 1000000000 (x.natAbs % y.natAbs)).length=0):=fun h=>by have hh:=(qzc (B:=1000000000) (n:=x.natAbs % y.natAbs) o_).1;generalize (wds 1000000000 (x.natAbs % y.natAbs)).length=k at *;omega
 obtain ⟨LQ,hLQ⟩:∃ L,L=(wds 1000000000 (x.natAbs / y.natAbs)).length:=⟨_,rfl⟩;obtain ⟨LR,hLR⟩:∃ L,L=(wds 1000000000 (x.natAbs % y.natAbs)).length:=⟨_,rfl⟩;rw [← hLQ] at hcq huq hpq;rw [← hLR] at hcr hur hpr HZ;rw [← hLQ,← hLR];have HZ:Hid (x.natAbs % y.natAbs=0→LR=0):=HZ;have HFin:=hj_ (fun b1 b2 p1 p2 WE=>fin2 Hbw.out bz.out bh.out huq hLQ hcq hur hLR hcr eq er b1 b2 p1 p2 (WE:=WE))
 rw [← hpq] at es;rw [← hpr] at et;have HS:=hj_ es;have HT:=hj_ et;clear es et eq er hpq hpr hLQ hLR huq hur bz bh fz fh Hbw HSz1 hcq hcr HE HX HY;have hor:=HOr.out;clear HOr HY0
 cases sx <;> cases sy
 ·clear HZ hor;obtain ⟨e0,e1,e2,e3,n1,n2,nb⟩:=HFin.out (false) (false) (by rw [HS.out];simp) (by rw [HT.out];simp) _ rfl
  clear HFin;go_wp2;exact bodyPost_ret (v:=.tuple #[.agg #[.bool (false),.slice QA LQ cq],.agg #[.bool (false),.slice RA LR cr]]) (by simp [results,f294,go_sem,e0,e1,e2,e3]) rfl ⟨_,_,rfl,n1,n2,nb⟩
 ·have hz:=HZ.out (hor.resolve_left s_);subst hz;clear HZ hor;obtain ⟨e0,e1,e2,e3,n1,n2,nb⟩:=HFin.out (decide (0<LQ)) (false) (by rw [HS.out];simp) (by rw [HT.out];simp) _ rfl
  clear HFin;go_wp2;exact bodyPost_ret (v:=.tuple #[.agg #[.bool (decide (0<LQ)),.slice QA LQ cq],.agg #[.bool (false),.slice RA 0 cr]]) (by simp [results,f294,go_sem,e0,e1,e2,e3]) rfl ⟨_,_,rfl,n1,n2,nb⟩
 ·have hz:=HZ.out (hor.resolve_left s_);subst hz;clear HZ hor;obtain ⟨e0,e1,e2,e3,n1,n2,nb⟩:=HFin.out (decide (0<LQ)) (false) (by rw [HS.out];simp) (by rw [HT.out];simp) _ rfl
  clear HFin;go_wp2;exact bodyPost_ret (v:=.tuple #[.agg #[.bool (decide (0<LQ)),.slice QA LQ cq],.agg #[.bool (false),.slice RA 0 cr]]) (by simp [results,f294,go_sem,e0,e1,e2,e3]) rfl ⟨_,_,rfl,n1,n2,nb⟩
 ·clear HZ hor;obtain ⟨e0,e1,e2,e3,n1,n2,nb⟩:=HFin.out (false) (decide (0<LR)) (by rw [HS.out];simp) (by rw [HT.out];simp) _ rfl
  clear HFin;go_wp2;exact bodyPost_ret (v:=.tuple #[.agg #[.bool (false),.slice QA LQ cq],.agg #[.bool (decide (0<LR)),.slice RA LR cr]]) (by simp [results,f294,go_sem,e0,e1,e2,e3]) rfl ⟨_,_,rfl,n1,n2,nb⟩
theorem fin1 (hbw:Below w.heap.size w w2) (hg:w.heap.size≤g)
  (bz:∀ i,w2.cell? ⟨g,i,none⟩=(#[.bool s1,.slice N1 m1 c1]:Array Value)[i]?) (hn:NumA w2 A n c z) (b:Bool) (hb:b=decide (z<0))
  (hWE:WE=(w2.setCell ⟨g,0,none⟩ (.bool b)).setCell ⟨g,1,none⟩ (.slice A n c)) :
  WE.cell? ⟨g,0,none⟩=some (.bool b)∧WE.cell? ⟨g,1,none⟩=some (.slice A n c)∧Num WE (.agg #[.bool b,.slice A n c]) z∧Below w.heap.size w WE:=by
 have z0:w2.cell? ⟨g,0,none⟩=some (.bool s1):=bz 0;have z1:w2.cell? ⟨g,1,none⟩=some (.slice N1 m1 c1):=bz 1;obtain ⟨e0,e1⟩:=qte (.bool b) (.slice A n c) z0 z1;have q1:=hn.2.2.stored (us_far hn.2.2 bz) (.bool b) (.slice A n c);rw [← hWE] at e0 e1 q1;refine ⟨e0,e1,NumA.num ⟨hn.1,hn.2.1,q1⟩ hb,?_⟩;rw [hWE];exact (hbw.setCell (by simpa using hg) _).setCell (by simpa using hg) _
theorem qqz (A:Option Addr) (la c:Nat) (x:Int) (B:Option Addr) (lb d:Nat) (y:Int) (w:World) (hx:NumA w A la c x) (hy:NumA w B lb d y) (hla:la≤10000) (hlb:lb≤10000) :
  Calls prog 248 #[.agg #[.bool (decide (x<0)),.slice A la c],.agg #[.bool (decide (y<0)),.slice B lb d]] w (RetN (x-y) w):=by
 have hlb':=hj_ (show (wds 1000000000 (-y).natAbs).length≤10000 by rw [Int.natAbs_neg,← hy.1];exact hlb)
 obtain ⟨sx,hsx⟩:∃ b,b=decide (x<0):=⟨_,rfl⟩;obtain ⟨sy,hsy⟩:∃ b,b=decide (y<0):=⟨_,rfl⟩;rw [← hsx,← hsy];obtain ⟨W,hW⟩:=ex_ (((w.alloc (.cells #[.bool sx,.slice A la c] 237)).alloc (.cells #[.bool sy,.slice B lb d] 237)).alloc (.cells #[.bool false,.slice none 0 0] 237));obtain ⟨hsz,bx,bY,bz,fx,fy,fz,hb3⟩:=boxes3 w _ _ _ _ _ _ hW;have hN:=qeq B lb d y W.drew (hy.below (q18 hb3 1)) o_
 rw [← hsy] at hN;have HN:=hj_ hN;have HX:=hj_ (hx.below (q18 hb3 1));have HSX:=hj_ hsx;have HSz:=hj_ hsz;have HBz:=hj_ bz;have HFz:=hj_ fz;have HB3:=hj_ hb3;have x0:W.cell? ⟨w.heap.size,0,none⟩=some (.bool sx):=bx 0;have x1:W.cell? ⟨w.heap.size,1,none⟩=some (.slice A la c):=bx 1;have y0:W.cell? ⟨w.heap.size+1,0,none⟩=some (.bool sy):=bY 0;have y1:W.cell? ⟨w.heap.size+1,1,none⟩=some (.slice B lb d):=bY 1;clear hx hy hsx hsy hN bx bY bz fx fy fz hb3 hsz
 go_enter func248,ntmps248
 go_wp2_with fail;rw [← hW];clear hW;have HSz:Hid (W.drew.heap.size=w.heap.size+3):=HSz;have HBz:Hid (∀ i,W.drew.cell? ⟨w.heap.size+1+1,i,none⟩=(#[.bool false,.slice none 0 0]:Array Value)[i]?):=HBz;have HFz:Hid (∀ i,W.drew.frozen? ⟨w.heap.size+1+1,i,none⟩=false):=HFz;have HB3:Hid (Below w.heap.size w W.drew):=q18 HB3.out 1;have x0:W.drew.cell? ⟨w.heap.size,0,none⟩=some (.bool sx):=x0;have x1:W.drew.cell? ⟨w.heap.size,1,none⟩=some (.slice A la c):=x1;have y0:W.drew.cell? ⟨w.heap.size+1,0,none⟩=some (.bool sy):=y0;have y1:W.drew.cell? ⟨w.heap.size+1,1,none⟩=some (.slice B lb d):=y1
 go_region_held3 (fun w'=>w'.cell? ⟨w.heap.size,0,none⟩=some (.bool sx)∧w'.cell? ⟨w.heap.size,1,none⟩=some (.slice A la c)∧w'.cell? ⟨w.heap.size+1,0,none⟩=some (.bool sy)∧w'.cell? ⟨w.heap.size+1,1,none⟩=some (.slice B lb d)) (first | exact ⟨x0,x1,y0,y1⟩ | exact ⟨p0,p1,p2,p3⟩ | exact ⟨q0,q1,q2,q3⟩ | exact ⟨far2 _ _ _ _ _ o_ q0,far2 _ _ _ _ _ o_ q1,far2 _ _ _ _ _ o_ q2,far2 _ _ _ _ _ o_ q3⟩)
  (first | (go_at_call 249;refine HN.out.mono ?_;rintro e w1 ⟨v,rfl,hv,hb1⟩;obtain ⟨A',n',c',rfl,hn'⟩:=hv.open;obtain ⟨h1,h2⟩:=bcell hb1;have p0:=(h1 _ 0 (by rw [HSz.out];omega:w.heap.size<W.drew.heap.size)).trans x0;have p1:=(h1 _ 1 (by rw [HSz.out];omega:w.heap.size<W.drew.heap.size)).trans x1;have p2:=(h1 _ 0 (by rw [HSz.out];omega:w.heap.size+1<W.drew.heap.size)).trans y0;have p3:=(h1 _ 1 (by rw [HSz.out];omega:w.heap.size+1<W.drew.heap.size)).trans y1;have hS:=qra A la c x A' n' c' (-y) w1 (HX.out.below hb1) hn' hla (by rw [hn'.1];exact hlb'.out);rw [← HSX.out] at hS;have HS:=hj_ hS;clear hS hv hn' h1 h2;generalize decide (-y<0)=sn at *) | (go_at_call 247;refine HS.out.mono ?_;rintro e w2 ⟨v,rfl,hv,hb2⟩;obtain ⟨A2,n2,c2,rfl,hn2⟩:=hv.open;rw [← Int.sub_eq_add_neg] at hn2;rw [← Int.sub_eq_add_neg];have hb12:=ht_ hb1 hb2;obtain ⟨hcc,hcf⟩:=bcell hb12;have q0:=(hcc _ 0 (by rw [HSz.out];omega:w.heap.size<W.drew.heap.size)).trans x0;have q1:=(hcc _ 1 (by rw [HSz.out];omega:w.heap.size<W.drew.heap.size)).trans x1;have q2:=(hcc _ 0 (by rw [HSz.out];omega:w.heap.size+1<W.drew.heap.size)).trans y0;have q3:=(hcc _ 1 (by rw [HSz.out];omega:w.heap.size+1<W.drew.heap.size)).trans y1;have bz:=hj_ (fun i=>(hcc _ i (by rw [HSz.out];omega:w.heap.size+1+1<W.drew.heap.size)).trans (HBz.out i));have z0:w2.cell? ⟨w.heap.size+1+1,0,none⟩=some (.bool false):=bz.out 0;have z1:w2.cell? ⟨w.heap.size+1+1,1,none⟩=some (.slice none 0 0):=bz.out 1;have fz0:=(hcf _ 0 (by rw [HSz.out];omega:w.heap.size+1+1<W.drew.heap.size)).trans (HFz.out 0);have fz1:=(hcf _ 1 (by rw [HSz.out];omega:w.heap.size+1+1<W.drew.heap.size)).trans (HFz.out 1);obtain ⟨sr,hsr⟩:∃ b,b=decide (x-y<0):=⟨_,rfl⟩;rw [← hsr];have HSR:=hj_ hsr;clear hsr))
 have hbw:=HB3.out.trans (hb12.mono (by rw [HSz.out];omega))
 obtain ⟨e0,e1,hnum,hbe⟩:=fin1 hbw o_ bz.out hn2 sr HSR.out rfl
 clear hcc hcf bz HS HN HX HSX HSz HBz HFz HB3 hb1 hb2 hb12 hbw hn2 hv x0 x1 y0 y1 p0 p1 p2 p3 q0 q1 q2 q3 z0 z1 fz0 fz1 HSR;go_wp2;exact bodyPost_ret (v:=.agg #[.bool sr,.slice A2 n2 c2]) (by simp [results,f248,go_sem,e0,e1]) rfl ⟨_,rfl,hnum,hbe⟩
theorem qym {k:List Nat} (h:Us w A n l) (h':Us w A n k):l=k:=by
 refine List.ext_getElem (h.1.symm.trans h'.1) fun i h1 h2=>?_
 obtain ⟨b,o,e,_,hc⟩:=h.at1 h1;obtain ⟨b',o',e',_,hc'⟩:=h'.at1 h2;rw [e] at e'
 injection e' with e'
 injection e' with e1 e2
 subst e1 e2;rw [hc] at hc'
 injection hc' with hc'
 injection hc' with _ hc'
 omega
theorem qds {a:Nat} (h:Mag w v a) (h':Mag w v b):a=b:=by
 obtain ⟨A,c,e,_,hu⟩:=h;obtain ⟨A',c',e',_,hu'⟩:=h';rw [e] at e'
 injection e' with e1 e2 e3
 subst e1 e3;rw [e2] at hu
 have:=qym hu hu'
 rw [← qzh (B:=1000000000) o_ a,this,qzh o_]
open Classical in
noncomputable def numOf (v:Value) (w:World):Nat:=if h:∃ b,Mag w v b then h.choose else 0
theorem qey (h:Mag w v b):numOf v w=b:=by
 unfold numOf;rw [dif_pos ⟨b,h⟩];exact qds (Exists.choose_spec (p:=fun b=>Mag w v b) ⟨b,h⟩) h
theorem q9u (A:Option Addr) (la c:Nat) (x:Int) (B:Option Addr) (lb d:Nat) (y:Int) (w:World) (hx:NumA w A la c x) (hy:NumA w B lb d y) (hla:la≤2000) (hlb:lb≤2000) :
  Calls prog 176 #[.agg #[.bool (decide (x<0)),.slice A la c],.agg #[.bool (decide (y<0)),.slice B lb d]] w (RetN (Nat.gcd x.natAbs y.natAbs:Int) w):=by
 generalize decide (x<0)=sx at *;generalize decide (y<0)=sy at *;obtain ⟨W,hW⟩:=ex_ (((w.alloc (.cells #[.bool sx,.slice A la c] 237)).alloc (.cells #[.bool sy,.slice B lb d] 237)).alloc (.cells #[.bool false,.slice none 0 0] 237));obtain ⟨hsz,bx,bY,bz,fx,fy,fz,hb3⟩:=boxes3 w _ _ _ _ _ _ hW;have hmx:Mag W.drew (.slice A la c) x.natAbs:=⟨A,c,by rw [hx.1],by rw [← hx.1];exact hx.2.1,by rw [← hx.1];exact hx.2.2.below (q18 hb3 1)⟩
 have hmy:Mag W.drew (.slice B lb d) y.natAbs:=⟨B,d,by rw [hy.1],by rw [← hy.1];exact hy.2.1,by rw [← hy.1];exact hy.2.2.below (q18 hb3 1)⟩
 have hlx:(wds 1000000000 x.natAbs).length≤2000:=by rw [← hx.1];exact hla
 have hly:(wds 1000000000 y.natAbs).length≤2000:=by rw [← hy.1];exact hlb
 have HMx:=hj_ hmx;have HMy:=hj_ hmy;have HLx:=hj_ hlx;have HLy:=hj_ hly;have HSz:=hj_ hsz;have HBz:=hj_ bz;have HFz:=hj_ fz;have HB3:=hj_ hb3;have x1:W.cell? ⟨w.heap.size,1,none⟩=some (.slice A la c):=bx 1;have y1:W.cell? ⟨w.heap.size+1,1,none⟩=some (.slice B lb d):=bY 1;clear hx hy bx bY bz fx fy fz hb3 hsz hmx hmy hlx hly
 go_enter func176,ntmps176
 go_wp2;rw [← hW];clear hW
 go_region_held3 (fun w'=>w'.cell? ⟨w.heap.size,1,none⟩=some (.slice A la c)∧w'.cell? ⟨w.heap.size+1,1,none⟩=some (.slice B lb d)) (exact ⟨x1,y1⟩) (fail)
 have HSz:Hid (W.drew.heap.size=w.heap.size+3):=HSz;have HBz:Hid (∀ i,W.drew.cell? ⟨w.heap.size+1+1,i,none⟩=(#[.bool false,.slice none 0 0]:Array Value)[i]?):=HBz;have HFz:Hid (∀ i,W.drew.frozen? ⟨w.heap.size+1+1,i,none⟩=false):=HFz;have HB3:Hid (Below w.heap.size w W.drew):=q18 HB3.out 1;clear x1 y1;obtain ⟨g,hg⟩:=ex_ (Nat.gcd x.natAbs y.natAbs);rw [← hg];have HG:=hj_ hg.symm;clear hg;generalize W.drew=V at *;go_wp2
 go_loopw [5,6] (fun v5 v6 wr=>∃ a b:Nat,Mag wr v5 a∧Mag wr v6 b∧Nat.gcd a b=g∧(wds 1000000000 a).length≤2000∧(wds 1000000000 b).length≤2000∧Below V.heap.size V wr) (fun _ v6 wr=>numOf v6 wr)
 case atStart=>exact ⟨_,_,HMx.out,HMy.out,HG.out,HLx.out,HLy.out,br_⟩
 case round =>
  obtain ⟨a,b,hma,hmb,hgab,hla',hlb',hbV⟩:=hrel;have hnum:=qey hmb;have hmb':=hmb;obtain ⟨AA,ca,rfl,hca,hua⟩:=hma;obtain ⟨AB,cb,rfl,hcb,hub⟩:=hmb;have hbw:=HB3.out.trans (hbV.mono (by rw [HSz.out];omega))
  obtain ⟨hcc,hcf⟩:=bcell hbV;have bz:=hj_ (fun i=>(hcc _ i (by rw [HSz.out];omega:w.heap.size+1+1<V.heap.size)).trans (HBz.out i))
  have z0:wr.cell? ⟨w.heap.size+1+1,0,none⟩=some (.bool false):=bz.out 0;have z1:wr.cell? ⟨w.heap.size+1+1,1,none⟩=some (.slice none 0 0):=bz.out 1;have fz0:=(hcf _ 0 (by rw [HSz.out];omega:w.heap.size+1+1<V.heap.size)).trans (HFz.out 0)
  have fz1:=(hcf _ 1 (by rw [HSz.out];omega:w.heap.size+1+1<V.heap.size)).trans (HFz.out 1)
  by_cases hb0:b=0
  ·subst hb0
   have ha:a=g:=by rw [← hgab,Nat.gcd_zero_right]
   subst ha;have hlz:(wds 1000000000 0).length=0:=by rw [qzi];rfl
   rw [hlz];have hfin:=fin1 (z:=(Nat.gcd x.natAbs y.natAbs:Int)) hbw o_ bz.out (NumA.of hua rfl hca (by rw [HG.out];simp)) false (by rw [decide_eq_false];omega) rfl
   obtain ⟨e0,e1,hnm,hbe⟩:=hfin;generalize (wds 1000000000 a).length=L at *;clear hcc hcf bz hbV hbw hua hub hmb' hnum hca hcb HMx HMy HLx HLy HG HBz HFz HB3 HSz hgab hla' hlb';go_wp2;exact bodyPost_ret (v:=.agg #[.bool false,.slice AA L ca]) (by simp [results,f176,go_sem,e0,e1]) rfl ⟨_,rfl,hnm,hbe⟩
  ·have hbp:0<b:=Nat.pos_of_ne_zero hb0
   have hlp:=(qzc (B:=1000000000) (n:=b) o_).2 hbp
   have hD:=hj_ (q5t AA (wds 1000000000 a).length ca a AB (wds 1000000000 b).length cb b wr hua hca hub hla' hlb' hbp);have hlr:(wds 1000000000 (a % b)).length≤2000:=Nat.le_trans (qza o_ (Nat.mod_le a b)) hla'
   have hg':Nat.gcd b (a % b)=g:=by rw [← hgab,Nat.gcd_comm a b,Nat.gcd_rec b a,Nat.gcd_comm]
   have hlt:=Nat.mod_lt a hbp;obtain ⟨LB,hLB⟩:∃ L,L=(wds 1000000000 b).length:=⟨_,rfl⟩;rw [← hLB] at hD hlp hmb' hnum;rw [← hLB];have h3:decide ((0:Int)<(LB:Int))=true:=by simpa using hlp
   have h4:decide (0<LB)=true:=by simpa using hlp
   have HN:=hj_ hnum;have HLr:=hj_ hlr;have HG':=hj_ hg';have HLb:=hj_ hlb';have HMb:=hj_ hmb';have HLt:=hj_ hlt;clear hnum hlr hg' hlb' hmb' hlt hua hub hca hcb hgab hla' hbp hb0 hLB hcc hcf bz z0 z1 fz0 fz1 hbw;go_wp2_with fail;refine hD.out.mono ?_;rintro e w2 ⟨v,v',rfl,hmq,hmr,hb2⟩;clear hmq;go_wp2;exact ⟨⟨b,a % b,HMb.out.below hb2,hmr,HG'.out,HLb.out,HLr.out,ht_ hbV hb2⟩,by rw [qey hmr,HN.out];exact HLt.out⟩
theorem us_one (w:World):Us (w.alloc (.cells #[.int .u64 1] 258)) (some ⟨w.heap.size,0,none⟩) 1 (wds 1000000000 1):=by
 rw [qzd o_ o_];exact Us.lit w 1 _ _ rfl
theorem keepS {w1:World} {o:Nat} (hg:g<w1.heap.size) (h:w1.cell? ⟨g,o,none⟩=some v) (hb:Below w1.heap.size w1 w'):w'.cell? ⟨g,o,none⟩=some v∧Below w1.heap.size w1 w' :=
 ⟨((bcell hb).1 _ _ hg).trans h,hb⟩
theorem qkd (A:Option Addr) (la c:Nat) (x:Int) (B:Option Addr) (lb d:Nat) (y:Int) (w:World) (hx:NumA w A la c x) (hy:NumA w B lb d y) (hla:la≤2000) (hlb:lb≤2000) (hy0:y≠0) (hs:¬ decide (x<0)=decide (y<0)) (hr0:0<x.natAbs % y.natAbs) :
  Calls prog 294 #[.agg #[.bool (decide (x<0)),.slice A la c],.agg #[.bool (decide (y<0)),.slice B lb d]] w (RetP (x.fdiv y) (x.fmod y) w):=by
 have HE:=hj_ (q7b hy0 hs hr0);have HS:=hj_ hs;have HR0:=hj_ hr0;clear hs hr0;generalize decide (x<0)=sx at *;generalize decide (y<0)=sy at *;have HX:=hj_ hx;have HY:=hj_ hy;obtain ⟨W,hW⟩:=ex_ ((((w.alloc (.cells #[.bool sx,.slice A la c] 237)).alloc (.cells #[.bool sy,.slice B lb d] 237)).alloc (.cells #[.bool false,.slice none 0 0] 237)).alloc (.cells #[.bool false,.slice none 0 0] 237));obtain ⟨hsz,bx,bY,bz,bh,fz,fh,hb3⟩:=boxes4 w _ _ _ _ _ _ _ _ hW;have HC:=hj_ (q5t A la c x.natAbs B lb d y.natAbs W (hx.2.2.below hb3) hx.2.1 (hy.2.2.below hb3) hla hlb o_)
 have HSz:=hj_ hsz;have HBx:=hj_ bx;have HBy:=hj_ bY;have HBz:=hj_ bz;have HBh:=hj_ bh;have HFz:=hj_ fz;have HFh:=hj_ fh;have HB3:=hj_ hb3;clear hx hy hb3 bx bY bz bh fz fh hsz;have HY0:=hj_ hy0;clear hy0
 go_enter func294,ntmps294
 go_wp2_with fail;rw [← hW];clear hW;refine HC.out.mono ?_;rintro e w1 ⟨v,v',rfl,hm,hm',hb1⟩;obtain ⟨QA,cq,rfl,hcq,huq⟩:=hm;obtain ⟨RA,cr,rfl,hcr,hur⟩:=hm';obtain ⟨hcc,hcf⟩:=bcell hb1;have x0:=(hcc w.heap.size 0 (by rw [HSz.out];omega)).trans (HBx.out 0)
 have x1:=(hcc w.heap.size 1 (by rw [HSz.out];omega)).trans (HBx.out 1)
 have y0:=(hcc (w.heap.size+1) 0 (by rw [HSz.out];omega)).trans (HBy.out 0)
 have y1:=(hcc (w.heap.size+1) 1 (by rw [HSz.out];omega)).trans (HBy.out 1)
 have bz:=hj_ (fun i=>(hcc (w.heap.size+1+1) i (by rw [HSz.out];omega)).trans (HBz.out i))
 have bh:=hj_ (fun i=>(hcc (w.heap.size+1+1+1) i (by rw [HSz.out];omega)).trans (HBh.out i))
 have fz:=hj_ (fun i=>(hcf (w.heap.size+1+1) i (by rw [HSz.out];omega)).trans (HFz.out i))
 have fh:=hj_ (fun i=>(hcf (w.heap.size+1+1+1) i (by rw [HSz.out];omega)).trans (HFh.out i))
 have Hbw:=hj_ (HB3.out.trans (hb1.mono (by rw [HSz.out];omega)))
 have HSz1:=hj_ (show w.heap.size+4≤w1.heap.size from by have:=hb1.size;rw [HSz.out] at this;exact this)
 simp only [List.getElem?_toArray,List.getElem?_cons_zero,List.getElem?_cons_succ] at x0 x1 y0 y1;clear hcc hcf HC HBx HBy HBz HBh HFz HFh HB3 hb1 HSz;clear W;obtain ⟨eq,es,er,epos,et⟩:=HE.out;have hr0:=HR0.out;have hrlt:=Nat.mod_lt x.natAbs (show 0<y.natAbs by have:=HY0.out;omega)
 have hlr:=(qzc (B:=1000000000) (n:=x.natAbs % y.natAbs) o_).2 hr0
 have hne:(sx != sy)=true:=by simpa using HS.out
 obtain ⟨LQ,hLQ⟩:∃ L,L=(wds 1000000000 (x.natAbs / y.natAbs)).length:=⟨_,rfl⟩;obtain ⟨LR,hLR⟩:∃ L,L=(wds 1000000000 (x.natAbs % y.natAbs)).length:=⟨_,rfl⟩;have hq9:LQ≤10000:=by rw [hLQ];have:=qza (B:=1000000000) o_ (Nat.div_le_self x.natAbs y.natAbs);have:=HX.out.1;omega
 have hr9:LR≤10000:=by rw [hLR];have:=qza (B:=1000000000) o_ (Nat.mod_le x.natAbs y.natAbs);have:=HX.out.1;omega
 rw [← hLQ] at hcq huq;rw [← hLR] at hcr hur hlr;rw [← hLQ,← hLR];have h3:decide ((0:Int)<(LR:Int))=true:=by simpa using hlr
 have h4:decide (0<LR)=true:=by simpa using hlr
 have HUq:=hj_ huq;have HUr:=hj_ hur;have HUy:=hj_ (HY.out.2.2.below Hbw.out);have HLe:=hj_ (show x.natAbs % y.natAbs≤y.natAbs by omega)
 have HEq:=hj_ eq;have HEs:=hj_ es;have HEr:=hj_ er;have HEp:=hj_ epos;have HEt:=hj_ et;have HQ9:=hj_ hq9;have HR9:=hj_ hr9;clear eq es er epos et hr0 hrlt hLQ hLR hq9 hr9 huq hur HE HS HR0 HY0 hcq hcr HX HY;have HYb:Hid (w.heap.size+1<w1.heap.size):=by have:=HSz1.out;exact (by omega:w.heap.size+1<w1.heap.size)
 have hB1:=Below.refl w1.heap.size w1;have HU1:Hid (Us (w1.alloc (.cells #[.int .u64 1] 258)).drew (some ⟨w1.heap.size,0,none⟩) 1 (wds 1000000000 1)):=us_one w1
 cases sx <;> cases sy
 ·exact absurd hne s_
 ·go_wp2_with fail
  go_region_held3 (fun w'=>w'.cell? ⟨w.heap.size+1,1,none⟩=some (.slice B lb d)∧Below w1.heap.size w1 w') (first | exact ⟨y1,q18 hB1 1⟩ | exact keepS HYb.out y1 (q18 (hB1.alloc lr_ _) 1) | exact keepS HYb.out y1 (((‹_∧Below w1.heap.size w1 _›).2).alloc ((‹_∧Below w1.heap.size w1 _›).2).size _) | exact keepS HYb.out y1 (by assumption) | exact keepS HYb.out y1 (((‹_∧Below w1.heap.size w1 _›).2).trans (‹Below _ _ _›.mono ((‹_∧Below w1.heap.size w1 _›).2).size)) )
   (first | (go_at_call 293;refine (qi1 QA LQ cq (x.natAbs / y.natAbs) _ 1 1 1 _ (HUq.out.below (‹_∧Below w1.heap.size w1 _›).2) (by (first | exact HU1.out | exact us_one _ | exact HU1.out.below ‹Below _ _ _›)) HQ9.out o_).mono ?_;rintro e wp ⟨v,rfl,⟨PA,cp,rfl,hcp,hup⟩,hbp,hfp⟩) | (go_at_call 243;refine (qcs B lb d y.natAbs RA LR cr (x.natAbs % y.natAbs) _ (HUy.out.below (‹_∧Below w1.heap.size w1 _›).2) (HUr.out.below (‹_∧Below w1.heap.size w1 _›).2) o_ HR9.out HLe.out).mono ?_;rintro e wl ⟨v,rfl,⟨LA,cl,rfl,hcl,hul⟩,hbl,hfl⟩))
  rename_i hH
  have hbl2:=hH.2;clear hH;obtain ⟨hcc,hcf⟩:=bcell hbl2;have hsz4:=HSz1.out;have y0:=(hcc _ 0 (by omega:w.heap.size+1<w1.heap.size)).trans y0
  have x0:=(hcc _ 0 (by omega:w.heap.size<w1.heap.size)).trans x0
  have bz:=hj_ (fun i=>(hcc _ i (by omega:w.heap.size+1+1<w1.heap.size)).trans (bz.out i))
  have bh:=hj_ (fun i=>(hcc _ i (by omega:w.heap.size+1+1+1<w1.heap.size)).trans (bh.out i))
  have z0:wl.cell? ⟨w.heap.size+1+1,0,none⟩=some (.bool false):=bz.out 0;have z1:wl.cell? ⟨w.heap.size+1+1,1,none⟩=some (.slice none 0 0):=bz.out 1;have h0:wl.cell? ⟨w.heap.size+1+1+1,0,none⟩=some (.bool false):=bh.out 0;have h1:wl.cell? ⟨w.heap.size+1+1+1,1,none⟩=some (.slice none 0 0):=bh.out 1;have fz0:=(hcf _ 0 (by omega:w.heap.size+1+1<w1.heap.size)).trans (fz.out 0)
  have fz1:=(hcf _ 1 (by omega:w.heap.size+1+1<w1.heap.size)).trans (fz.out 1)
  have fh0:=(hcf _ 0 (by omega:w.heap.size+1+1+1<w1.heap.size)).trans (fh.out 0)
  have fh1:=(hcf _ 1 (by omega:w.heap.size+1+1+1<w1.heap.size)).trans (fh.out 1)
  have hup:=hup.below hbl;have hp1:=(qzc (B:=1000000000) (n:=x.natAbs / y.natAbs+1) o_).2 (Nat.succ_pos _)
  have hl1:=(qzc (B:=1000000000) (n:=y.natAbs-x.natAbs % y.natAbs) o_).2 HEp.out
  obtain ⟨LP,hLP⟩:∃ L,L=(wds 1000000000 (x.natAbs / y.natAbs+1)).length:=⟨_,rfl⟩;obtain ⟨LL,hLL⟩:∃ L,L=(wds 1000000000 (y.natAbs-x.natAbs % y.natAbs)).length:=⟨_,rfl⟩;rw [← hLP] at hcp hup hp1;rw [← hLL] at hcl hul hl1;rw [← hLP,← hLL];have hp3:decide ((0:Int)<(LP:Int))=true:=by simpa using hp1
  have hp4:decide (0<LP)=true:=by simpa using hp1
  have hl3:decide ((0:Int)<(LL:Int))=true:=by simpa using hl1
  have hl4:decide (0<LL)=true:=by simpa using hl1
  have hbW:=Hbw.out.trans (hbl2.mono o_)
  obtain ⟨e0,e1,e2,e3,n1,n2,nb⟩:=fin2 hbW bz.out bh.out hup hLP hcp hul hLL hcl HEq.out HEr.out true true HEs.out.symm HEt.out.symm rfl;clear hlr h3 h4 HUq HUr HUy HLe HEq HEs HEr HEp HEt HQ9 HR9 HYb hB1 HU1 hbp hfp hbl hfl hcc hcf hsz4 bz bh fz fh hup hul hcp hcl hLP hLL hp1 hl1 hbW hbl2 Hbw HSz1 x1 y1;go_wp2;exact bodyPost_ret (v:=.tuple #[.agg #[.bool true,.slice PA LP cp],.agg #[.bool true,.slice LA LL cl]]) (by simp [results,f294,go_sem,e0,e1,e2,e3]) rfl ⟨_,_,rfl,n1,n2,nb⟩
 ·go_wp2_with fail
  go_region_held3 (fun w'=>w'.cell? ⟨w.heap.size+1,1,none⟩=some (.slice B lb d)∧Below w1.heap.size w1 w') (first | exact ⟨y1,q18 hB1 1⟩ | exact keepS HYb.out y1 (q18 (hB1.alloc lr_ _) 1) | exact keepS HYb.out y1 (((‹_∧Below w1.heap.size w1 _›).2).alloc ((‹_∧Below w1.heap.size w1 _›).2).size _) | exact keepS HYb.out y1 (by assumption) | exact keepS HYb.out y1 (((‹_∧Below w1.heap.size w1 _›).2).trans (‹Below _ _ _›.mono ((‹_∧Below w1.heap.size w1 _›).2).size)) )
   (first | (go_at_call 293;refine (qi1 QA LQ cq (x.natAbs / y.natAbs) _ 1 1 1 _ (HUq.out.below (‹_∧Below w1.heap.size w1 _›).2) (by (first | exact HU1.out | exact us_one _ | exact HU1.out.below ‹Below _ _ _›)) HQ9.out o_).mono ?_;rintro e wp ⟨v,rfl,⟨PA,cp,rfl,hcp,hup⟩,hbp,hfp⟩) | (go_at_call 243;refine (qcs B lb d y.natAbs RA LR cr (x.natAbs % y.natAbs) _ (HUy.out.below (‹_∧Below w1.heap.size w1 _›).2) (HUr.out.below (‹_∧Below w1.heap.size w1 _›).2) o_ HR9.out HLe.out).mono ?_;rintro e wl ⟨v,rfl,⟨LA,cl,rfl,hcl,hul⟩,hbl,hfl⟩))
  rename_i hH
  have hbl2:=hH.2;clear hH;obtain ⟨hcc,hcf⟩:=bcell hbl2;have hsz4:=HSz1.out;have y0:=(hcc _ 0 (by omega:w.heap.size+1<w1.heap.size)).trans y0
  have x0:=(hcc _ 0 (by omega:w.heap.size<w1.heap.size)).trans x0
  have bz:=hj_ (fun i=>(hcc _ i (by omega:w.heap.size+1+1<w1.heap.size)).trans (bz.out i))
  have bh:=hj_ (fun i=>(hcc _ i (by omega:w.heap.size+1+1+1<w1.heap.size)).trans (bh.out i))
  have z0:wl.cell? ⟨w.heap.size+1+1,0,none⟩=some (.bool false):=bz.out 0;have z1:wl.cell? ⟨w.heap.size+1+1,1,none⟩=some (.slice none 0 0):=bz.out 1;have h0:wl.cell? ⟨w.heap.size+1+1+1,0,none⟩=some (.bool false):=bh.out 0;have h1:wl.cell? ⟨w.heap.size+1+1+1,1,none⟩=some (.slice none 0 0):=bh.out 1;have fz0:=(hcf _ 0 (by omega:w.heap.size+1+1<w1.heap.size)).trans (fz.out 0)
  have fz1:=(hcf _ 1 (by omega:w.heap.size+1+1<w1.heap.size)).trans (fz.out 1)
  have fh0:=(hcf _ 0 (by omega:w.heap.size+1+1+1<w1.heap.size)).trans (fh.out 0)
  have fh1:=(hcf _ 1 (by omega:w.heap.size+1+1+1<w1.heap.size)).trans (fh.out 1)
  have hup:=hup.below hbl;have hp1:=(qzc (B:=1000000000) (n:=x.natAbs / y.natAbs+1) o_).2 (Nat.succ_pos _)
  have hl1:=(qzc (B:=1000000000) (n:=y.natAbs-x.natAbs % y.natAbs) o_).2 HEp.out
  obtain ⟨LP,hLP⟩:∃ L,L=(wds 1000000000 (x.natAbs / y.natAbs+1)).length:=⟨_,rfl⟩;obtain ⟨LL,hLL⟩:∃ L,L=(wds 1000000000 (y.natAbs-x.natAbs % y.natAbs)).length:=⟨_,rfl⟩;rw [← hLP] at hcp hup hp1;rw [← hLL] at hcl hul hl1;rw [← hLP,← hLL];have hp3:decide ((0:Int)<(LP:Int))=true:=by simpa using hp1
  have hp4:decide (0<LP)=true:=by simpa using hp1
  have hl3:decide ((0:Int)<(LL:Int))=true:=by simpa using hl1
  have hl4:decide (0<LL)=true:=by simpa using hl1
  have hbW:=Hbw.out.trans (hbl2.mono o_)
  obtain ⟨e0,e1,e2,e3,n1,n2,nb⟩:=fin2 hbW bz.out bh.out hup hLP hcp hul hLL hcl HEq.out HEr.out true false HEs.out.symm HEt.out.symm rfl;clear hlr h3 h4 HUq HUr HUy HLe HEq HEs HEr HEp HEt HQ9 HR9 HYb hB1 HU1 hbp hfp hbl hfl hcc hcf hsz4 bz bh fz fh hup hul hcp hcl hLP hLL hp1 hl1 hbW hbl2 Hbw HSz1 x1 y1;go_wp2;exact bodyPost_ret (v:=.tuple #[.agg #[.bool true,.slice PA LP cp],.agg #[.bool false,.slice LA LL cl]]) (by simp [results,f294,go_sem,e0,e1,e2,e3]) rfl ⟨_,_,rfl,n1,n2,nb⟩
 ·exact absurd hne s_
theorem qkb (A:Option Addr) (la c:Nat) (x:Int) (B:Option Addr) (lb d:Nat) (y:Int) (w:World) (hx:NumA w A la c x) (hy:NumA w B lb d y) (hla:la≤2000) (hlb:lb≤2000) (hy0:y≠0) :
  Calls prog 294 #[.agg #[.bool (decide (x<0)),.slice A la c],.agg #[.bool (decide (y<0)),.slice B lb d]] w (RetP (x.fdiv y) (x.fmod y) w):=by
 by_cases hs:decide (x<0)=decide (y<0)
 ·exact qkc A la c x B lb d y w hx hy hla hlb hy0 (.inl hs)
 ·by_cases hr:x.natAbs % y.natAbs=0
  ·exact qkc A la c x B lb d y w hx hy hla hlb hy0 (.inr hr)
  ·exact qkd A la c x B lb d y w hx hy hla hlb hy0 hs (Nat.pos_of_ne_zero hr)
end Go.Proofs.YtabhjdmmfdfpeaaGreatDoor
