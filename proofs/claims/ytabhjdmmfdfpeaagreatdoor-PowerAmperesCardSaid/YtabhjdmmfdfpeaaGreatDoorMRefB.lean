/- Lemmas. -/
import Derived.Test.YtabhjdmmfdfpeaaGreatDoorMRefA
import Derived.Test.YtabhjdmmfdfpeaaGreatDoorMProgC
namespace Go.Proofs.YtabhjdmmfdfpeaaGreatDoor
set_option maxHeartbeats 32000000
set_option maxRecDepth 100000
open _root_.Go.Proofs.Tryz

section
open Go.RowKit
theorem q00g {B:Nat} (hB:2≤B):∀ (l:List Nat) (i:Nat),Wd B l→l.getD i 0=wv B l / B ^ i % B
 | [],i,_=>by simp [wv]
 | x :: l,0,h=>by
  have hx:=h x (by simp)
  show x=(x+B*wv B l) / B ^ 0 % B
  rw [Nat.pow_zero,Nat.div_one,Nat.add_mul_mod_self_left,Nat.mod_eq_of_lt hx]
 | x :: l,i+1,h=>by
  have hx:=h x (by simp)
  have ih:=q00g hB l i (fun y hy=>h y (by simp [hy]))
  show l.getD i 0=(x+B*wv B l) / B ^ (i+1) % B
  rw [ih,Nat.pow_succ,Nat.mul_comm (B ^ i) B,← Nat.div_div_eq_div_mul,Nat.add_mul_div_left _ _ (by omega),Nat.div_eq_of_lt hx,Nat.zero_add]
theorem qzo {B m:Nat} (hB:2≤B) {l:List Nat} (h:Wd B l) (hv:wv B l=m) (i:Nat):(wds B m).getD i 0=l.getD i 0:=by
 rw [wds_at hB,q00g hB l i h,hv]
theorem qzp {B m:Nat} (hB:2≤B) {l:List Nat} (h:Wd B l) (hv:wv B l=m):(wds B m).length≤l.length :=
 qzb hB (by rw [← hv];exact wv_lt h)
theorem q9y {l:List Nat} {i:Nat} (h:i<l.length):l.getD i 0=l[i]:=by rw [List.getD_eq_getElem?_getD,List.getElem?_eq_getElem h];rfl
theorem qa2 {l:List Nat} {i:Nat} (h:¬ i<l.length):l.getD i 0=0:=by rw [List.getD_eq_getElem?_getD,List.getElem?_eq_none (by omega)];rfl
theorem i64_eq {a b:Int} (h:a=b):Value.int .i64 a=Value.int .i64 b:=by rw [h]
theorem qnc (a b:ByteArray) (m n:Nat) (w:World) (ha:a.data.toList=Lib.decDigits m) (hb:b.data.toList=Lib.decDigits n) (hs:a.size≤100000) (ht:b.size≤100000) :
  Calls prog 191 #[.string a,.string b] w fun e w'=>e=.returned (.string ⟨(Lib.decDigits (m+n)).toArray⟩)∧Below w.heap.size w w':=by
 have HWa:=hj_ (fun w=>qob a _ w ha (q4k m) (by omega))
 have HWb:=hj_ (fun w=>qob b _ w hb (q4k n) (by omega))
 have hla:(Lib.decDigits m).length≤100000:=by rw [← ha,q1y];exact hs
 have hlb:(Lib.decDigits n).length≤100000:=by rw [← hb,q1y];exact ht
 clear ha hb
 go_enter func191,ntmps191
 go_wp2_with fail;refine (HWa.out w).mono ?_;rintro e w1 ⟨la,⟨A,c,rfl,hna,hb1⟩,hda,hva,hka⟩;go_wp2_with fail;refine (HWb.out w1).mono ?_;rintro e w2 ⟨lb,⟨B,d,rfl,hnb,hb2⟩,hdb,hvb,hkb⟩;rw [q4y] at hva hvb;have hna:=hna.below hb2;have hbe:=ht_ hb1 hb2;have ga:=fun i=>qzo (by omega) hda hva i
 have gb:=fun i=>qzo (by omega) hdb hvb i
 have wa:=qzp (by omega) hda hva
 have wb:=qzp (by omega) hdb hvb
 have la5:la.length≤100000:=by omega
 have lb5:lb.length≤100000:=by omega
 have GA:=hj_ ga;have GB:=hj_ gb;have WA:=hj_ wa;have WB:=hj_ wb;clear ga gb wa wb hka hkb hla hlb hva hvb hb1 hb2 HWa HWb hda hdb;go_wp2_with fail
 go_loopw [7,8,9] (fun v cv iv wr=>∃ (k:Nat) (L:List Nat) (cy:Nat),k≤max la.length lb.length+1∧iv=.int .i64 k∧cv=.int .i64 cy∧wr.ownsRow w2.heap.size 3 1 v k (nv L)∧AddAt 10000 m n k L cy∧Below w2.heap.size w2 wr) (fun _ _ iv _=>max la.length lb.length+2-(intOf iv).toNat)
 case atStart=>exact ⟨0,[],0,by omega,rfl,rfl,World.ownsRow_nil _ _ _ _,q04 _ _ _,br_⟩
 case round =>
  obtain ⟨k,L,cy,hk,rfl,rfl,hown,hadd,hbw⟩:=hrel;have hsz:=hbw.size;obtain ⟨x,hx⟩:∃ x,la.getD k 0=x:=⟨_,rfl⟩;obtain ⟨y,hy⟩:∃ y,lb.getD k 0=y:=⟨_,rfl⟩;obtain ⟨hst,hx9,hy9⟩:=q02 (by omega) hadd ((GA.out k).trans hx) ((GB.out k).trans hy)
  have hcy:=hadd.2.2.1;have hcl:=fun h=>q01 (by omega) hadd h
  have HSt:=hj_ hst;have HAd:=hj_ hadd;have hla':=WA.out;have hlb':=WB.out;have hna1:=hna.below hbw;have hnb1:=hnb.below hbw;clear hst hadd hna hnb
  by_cases ka:k<la.length
  ·obtain ⟨ba,oa,rfl,_,ca⟩:=hna1.at1 ka
   have hxx:=q9y ka;rw [hx] at hxx;rw [← hxx] at ca;have hkm:k<max la.length lb.length+1:=by omega
   by_cases kb:k<lb.length
   ·obtain ⟨bb,ob,rfl,_,cb⟩:=hnb1.at1 kb
    have hyy:=q9y kb;rw [hy] at hyy;rw [← hyy] at cb;clear hx hy hxx hyy hcl hla' hlb' hna1 hnb1;go_wp2_with (at_builtin;refine q003 rfl _ _ _ rfl w2.heap.size _ _ 1 8 underlying78 infoN rfl (by omega) _ k (nv L) rfl hown [.int .i64 _] _ _ _ rfl (by first | rfl | simp) rfl (qf9 _) (by unfold maxLen;omega) (by omega) (by first | omega | (simp;omega) | simp) ?_;intro g cap w1 hown1 hg1)
    go_roundw
    case rel=>exact ⟨k+1,_,_,by omega,by go_num,i64_eq (by omega),by
     rw [qf0];have e2:(((cy+(x+y)) % 10000:Nat):Int)=((cy:Int)+(x:Int)+(y:Int)) % 10000:=by omega
     simp only [nv,List.map_cons,List.map_nil];rw [e2];exact hown1,HSt.out,q1a hbw (Nat.le_refl _) hown hg1⟩
    case measure=>simp [intOf];omega
   ·obtain rfl:y=0:=by rw [← hy];exact qa2 kb
    clear hx hy hxx hcl hla' hlb' hna1 hnb1;go_wp2_with (at_builtin;refine q003 rfl _ _ _ rfl w2.heap.size _ _ 1 8 underlying78 infoN rfl (by omega) _ k (nv L) rfl hown [.int .i64 _] _ _ _ rfl (by first | rfl | simp) rfl (qf9 _) (by unfold maxLen;omega) (by omega) (by first | omega | (simp;omega) | simp) ?_;intro g cap w1 hown1 hg1)
    go_roundw
    case rel=>exact ⟨k+1,_,_,by omega,by go_num,i64_eq (by omega),by
     rw [qf0];have e2:(((cy+(x+0)) % 10000:Nat):Int)=((cy:Int)+(x:Int)) % 10000:=by omega
     simp only [nv,List.map_cons,List.map_nil];rw [e2];exact hown1,HSt.out,q1a hbw (Nat.le_refl _) hown hg1⟩
    case measure=>simp [intOf];omega
  ·obtain rfl:x=0:=by rw [← hx];exact qa2 ka
   by_cases kb:k<lb.length
   ·obtain ⟨bb,ob,rfl,_,cb⟩:=hnb1.at1 kb
    have hyy:=q9y kb;rw [hy] at hyy;rw [← hyy] at cb;have hkm:k<max la.length lb.length+1:=by omega
    clear hx hy hyy hcl hla' hlb' hna1 hnb1;go_wp2_with (at_builtin;refine q003 rfl _ _ _ rfl w2.heap.size _ _ 1 8 underlying78 infoN rfl (by omega) _ k (nv L) rfl hown [.int .i64 _] _ _ _ rfl (by first | rfl | simp) rfl (qf9 _) (by unfold maxLen;omega) (by omega) (by first | omega | (simp;omega) | simp) ?_;intro g cap w1 hown1 hg1)
    go_roundw
    case rel=>exact ⟨k+1,_,_,by omega,by go_num,i64_eq (by omega),by
     rw [qf0];have e2:(((cy+(0+y)) % 10000:Nat):Int)=((cy:Int)+(y:Int)) % 10000:=by omega
     simp only [nv,List.map_cons,List.map_nil];rw [e2];exact hown1,HSt.out,q1a hbw (Nat.le_refl _) hown hg1⟩
    case measure=>simp [intOf];omega
   ·obtain rfl:y=0:=by rw [← hy];exact qa2 kb
    by_cases hc0:0<cy
    ·have hkm:k<max la.length lb.length+1:=by have:=hcl hc0;omega
     clear hx hy hcl hla' hlb' hna1 hnb1;go_wp2_with (at_builtin;refine q003 rfl _ _ _ rfl w2.heap.size _ _ 1 8 underlying78 infoN rfl (by omega) _ k (nv L) rfl hown [.int .i64 _] _ _ _ rfl (by first | rfl | simp) rfl (qf9 _) (by unfold maxLen;omega) (by omega) (by first | omega | (simp;omega) | simp) ?_;intro g cap w1 hown1 hg1)
     go_roundw
     case rel=>exact ⟨k+1,_,_,by omega,by go_num,i64_eq (by omega),by
      rw [qf0];have e2:(((cy+(0+0)) % 10000:Nat):Int)=((cy:Int)) % 10000:=by omega
      simp only [nv,List.map_cons,List.map_nil];rw [e2];exact hown1,HSt.out,q1a hbw (Nat.le_refl _) hown hg1⟩
     case measure=>simp [intOf];omega
    ·obtain rfl:cy=0:=by omega
     have hfin:=q03 (by omega) HAd.out (by omega) (by omega)
     obtain ⟨A',c',rfl⟩:=qfu hown;have hLl:k=L.length:=by have:=hown.1;rw [qf1] at this;omega
     have hk6:k≤1000000:=by omega
     have hT:=qnr A' k c' L wr (Ns.of_own hown hLl) hk6 HAd.out.2.1;rw [hfin] at hT;have HT:=hj_ hT;clear hx hy hcl hla' hlb' hna1 hnb1 hown hT hfin hLl;go_wp2_with fail;refine HT.out.mono ?_;rintro e w3 ⟨rfl,hb3⟩;go_wp2;go_ret;exact ⟨rfl,hbe.trans ((ht_ hbw hb3).mono hbe.size)⟩
end

section
open Go.RowKit
theorem qr2 {B a b k:Nat} {L:List Nat} {c:Nat} (hB:2≤B) (h:SubAt B a b k L c) (hk:(wds B a).length≤k) (hab:b≤a):wv B L=a-b:=by
 obtain ⟨h1,h2,h3,h4⟩:=h;have hbl:=qza (B:=B) hB hab;rw [qrx hB a k hk,qrx hB b k (by omega)] at h4
 have hlt:=wv_lt h2;rw [h1] at hlt;obtain rfl | rfl:c=0∨c=1:=by omega
 ·simp at h4;omega
 ·simp at h4;omega
theorem qmq (a b:ByteArray) (m n:Nat) (w:World) (ha:a.data.toList=Lib.decDigits m) (hb:b.data.toList=Lib.decDigits n) (hs:a.size≤100000) (ht:b.size≤100000) (hmn:n≤m) :
  Calls prog 253 #[.string a,.string b] w fun e w'=>e=.returned (.string ⟨(Lib.decDigits (m-n)).toArray⟩)∧Below w.heap.size w w':=by
 have HWa:=hj_ (fun w=>qob a _ w ha (q4k m) (by omega))
 have HWb:=hj_ (fun w=>qob b _ w hb (q4k n) (by omega))
 have hla:(Lib.decDigits m).length≤100000:=by rw [← ha,q1y];exact hs
 have hlb:(Lib.decDigits n).length≤100000:=by rw [← hb,q1y];exact ht
 clear ha hb
 go_enter func253,ntmps253
 go_wp2_with fail;refine (HWa.out w).mono ?_;rintro e w1 ⟨la,⟨A,c,rfl,hna,hb1⟩,hda,hva,hka⟩;go_wp2_with fail;refine (HWb.out w1).mono ?_;rintro e w2 ⟨lb,⟨B,d,rfl,hnb,hb2⟩,hdb,hvb,hkb⟩;rw [q4y] at hva hvb;have hna:=hna.below hb2;have hbe:=ht_ hb1 hb2;have ga:=fun i=>qzo (by omega) hda hva i
 have gb:=fun i=>qzo (by omega) hdb hvb i
 have wa:=qzp (by omega) hda hva
 have wb:=qzp (by omega) hdb hvb
 have la5:la.length≤100000:=by omega
 have lb5:lb.length≤100000:=by omega
 have GA:=hj_ ga;have GB:=hj_ gb;have WA:=hj_ wa;have WB:=hj_ wb;clear ga gb wa wb hka hkb hla hlb hva hvb hb1 hb2 HWa HWb hda hdb;go_wp2_with fail
 go_loopw [7,8,9] (fun v cv iv wr=>∃ (k:Nat) (L:List Nat) (cy:Nat),k≤la.length∧iv=.int .i64 k∧cv=.int .i64 cy∧wr.ownsRow w2.heap.size 3 1 v k (nv L)∧SubAt 10000 m n k L cy∧Below w2.heap.size w2 wr) (fun _ _ iv _=>la.length-(intOf iv).toNat)
 case atStart=>exact ⟨0,[],0,by omega,rfl,rfl,World.ownsRow_nil _ _ _ _,qr5 _ _ _,br_⟩
 case round =>
  obtain ⟨k,L,cy,hk,rfl,rfl,hown,hsub,hbw⟩:=hrel;have hsz:=hbw.size;have hcy:=hsub.2.2.1
  by_cases ka:k<la.length
  ·obtain ⟨x,hx⟩:∃ x,la.getD k 0=x:=⟨_,rfl⟩
   obtain ⟨y,hy⟩:∃ y,lb.getD k 0=y:=⟨_,rfl⟩;obtain ⟨_,hx9,hy9,_,_⟩:=qr3 (by omega) hsub ((GA.out k).trans hx) ((GB.out k).trans hy)
   have HUp:=hj_ (qr4 (by omega) hsub ((GA.out k).trans hx) ((GB.out k).trans hy))
   have HDn:=hj_ (qr0 (by omega) hsub ((GA.out k).trans hx) ((GB.out k).trans hy))
   have hna1:=hna.below hbw;have hnb1:=hnb.below hbw;clear hsub hna hnb;obtain ⟨ba,oa,rfl,_,ca⟩:=hna1.at1 ka;have hxx:=q9y ka;rw [hx] at hxx;rw [← hxx] at ca
   by_cases kb:k<lb.length
   ·obtain ⟨bb,ob,rfl,_,cb⟩:=hnb1.at1 kb
    have hyy:=q9y kb;rw [hy] at hyy;rw [← hyy] at cb;clear hx hy hxx hyy hna1 hnb1
    by_cases hle:y+cy≤x
    ·have HSt:=hj_ (HUp.out hle)
     clear HUp HDn;go_wp2_with (at_builtin;refine q003 rfl _ _ _ rfl w2.heap.size _ _ 1 8 underlying78 infoN rfl (by omega) _ k (nv L) rfl hown [.int .i64 _] _ _ _ rfl (by first | rfl | simp) rfl (qf9 _) (by unfold maxLen;omega) (by omega) (by first | omega | (simp;omega) | simp) ?_;intro g cap w1 hown1 hg1)
     go_roundw
     case rel=>exact ⟨k+1,_,_,by omega,by go_num,i64_eq (by omega),by
      rw [qf0];have e2:((x-cy-y:Nat):Int)=(x:Int)-(cy:Int)-(y:Int):=by omega
      simp only [nv,List.map_cons,List.map_nil];rw [e2];exact hown1,HSt.out,q1a hbw (Nat.le_refl _) hown hg1⟩
     case measure=>simp [intOf];omega
    ·have HSt:=hj_ (HDn.out (by omega))
     clear HUp HDn;go_wp2_with (at_builtin;refine q003 rfl _ _ _ rfl w2.heap.size _ _ 1 8 underlying78 infoN rfl (by omega) _ k (nv L) rfl hown [.int .i64 _] _ _ _ rfl (by first | rfl | simp) rfl (qf9 _) (by unfold maxLen;omega) (by omega) (by first | omega | (simp;omega) | simp) ?_;intro g cap w1 hown1 hg1)
     go_roundw
     case rel=>exact ⟨k+1,_,_,by omega,by go_num,i64_eq (by omega),by
      rw [qf0];have e2:((x+10000-cy-y:Nat):Int)=(x:Int)-(cy:Int)-(y:Int)+10000:=by omega
      simp only [nv,List.map_cons,List.map_nil];rw [e2];exact hown1,HSt.out,q1a hbw (Nat.le_refl _) hown hg1⟩
     case measure=>simp [intOf];omega
   ·obtain rfl:y=0:=by rw [← hy];exact qa2 kb
    clear hx hy hxx hna1 hnb1
    by_cases hle:0+cy≤x
    ·have HSt:=hj_ (HUp.out hle)
     clear HUp HDn;go_wp2_with (at_builtin;refine q003 rfl _ _ _ rfl w2.heap.size _ _ 1 8 underlying78 infoN rfl (by omega) _ k (nv L) rfl hown [.int .i64 _] _ _ _ rfl (by first | rfl | simp) rfl (qf9 _) (by unfold maxLen;omega) (by omega) (by first | omega | (simp;omega) | simp) ?_;intro g cap w1 hown1 hg1)
     go_roundw
     case rel=>exact ⟨k+1,_,_,by omega,by go_num,i64_eq (by omega),by
      rw [qf0];have e2:((x-cy-0:Nat):Int)=(x:Int)-(cy:Int):=by omega
      simp only [nv,List.map_cons,List.map_nil];rw [e2];exact hown1,HSt.out,q1a hbw (Nat.le_refl _) hown hg1⟩
     case measure=>simp [intOf];omega
    ·have HSt:=hj_ (HDn.out (by omega))
     clear HUp HDn;go_wp2_with (at_builtin;refine q003 rfl _ _ _ rfl w2.heap.size _ _ 1 8 underlying78 infoN rfl (by omega) _ k (nv L) rfl hown [.int .i64 _] _ _ _ rfl (by first | rfl | simp) rfl (qf9 _) (by unfold maxLen;omega) (by omega) (by first | omega | (simp;omega) | simp) ?_;intro g cap w1 hown1 hg1)
     go_roundw
     case rel=>exact ⟨k+1,_,_,by omega,by go_num,i64_eq (by omega),by
      rw [qf0];have e2:((x+10000-cy-0:Nat):Int)=(x:Int)-(cy:Int)+10000:=by omega
      simp only [nv,List.map_cons,List.map_nil];rw [e2];exact hown1,HSt.out,q1a hbw (Nat.le_refl _) hown hg1⟩
     case measure=>simp [intOf];omega
  ·obtain rfl:k=la.length:=by omega
   have hfin:=qr2 (by omega) hsub WA.out hmn
   obtain ⟨A',c',rfl⟩:=qfu hown;have hLl:la.length=L.length:=by have:=hown.1;rw [qf1] at this;omega
   have hT:=qnr A' la.length c' L wr (Ns.of_own hown hLl) (by omega) hsub.2.1
   rw [hfin] at hT;have HT:=hj_ hT;clear hown hT hfin hLl hsub hna hnb;go_wp2_with fail;refine HT.out.mono ?_;rintro e w3 ⟨rfl,hb3⟩;go_wp2;go_ret;exact ⟨rfl,hbe.trans ((ht_ hbw hb3).mono hbe.size)⟩
end

section
open Go.RowKit
theorem qdn (n:Nat):(madeCells (Value.int .i64 0).cells (n*1)).toList=nv (List.replicate n 0):=by
 rw [← qf2];refine List.ext_getElem (by simp [madeCells]) fun i h1 h2=>?_
 simp [madeCells,Value.cells,Nat.mod_one]
theorem qdz {B v n m i j:Nat} {O:List Nat} {c:Nat} (hB:2≤B) (h:MulAt B (wv B ((wds B m).take i)*n) v n i j O c) (hj:(wds B n).length<j) (hv:(wds B m).getD i 0=v):c=0:=by
 subst hv;obtain ⟨h1,h2,h3⟩:=h;rw [qrx hB n j (by omega)] at h3
 have e:wv B ((wds B m).take (i+1))*n=wv B ((wds B m).take i)*n+B ^ i*((wds B m).getD i 0*n):=by rw [takeD,Nat.add_mul,Nat.mul_assoc]
 rw [← e] at h3;have hlt:wv B ((wds B m).take (i+1))<B ^ (i+1):=by
  refine Nat.lt_of_lt_of_le (wv_lt ((wds_wd hB m).take (i+1))) (Nat.pow_le_pow_right (by omega) ?_)
  rw [List.length_take];omega
 have hn:n<B ^ (j-1):=Nat.lt_of_lt_of_le (wds_lt hB n) (Nat.pow_le_pow_right (by omega) (by omega))
 have hprod:wv B ((wds B m).take (i+1))*n<B ^ (i+j):=by
  have:B ^ (i+j)=B ^ (i+1)*B ^ (j-1):=by rw [← Nat.pow_add];congr 1;omega
  rw [this];exact Nat.mul_lt_mul'' hlt hn
 refine Nat.eq_zero_of_not_pos fun hc=>?_
 have:B ^ (i+j)*1≤B ^ (i+j)*c:=Nat.mul_le_mul_left _ hc
 omega
theorem qns (a b:ByteArray) (m n:Nat) (w:World) (ha:a.data.toList=Lib.decDigits m) (hb:b.data.toList=Lib.decDigits n) (hs:a.size≤100000) (ht:b.size≤100000) :
  Calls prog 132 #[.string a,.string b] w fun e w'=>e=.returned (.string ⟨(Lib.decDigits (m*n)).toArray⟩)∧Below w.heap.size w w':=by
 have HWa:=hj_ (fun w=>qob a _ w ha (q4k m) (by omega))
 have HWb:=hj_ (fun w=>qob b _ w hb (q4k n) (by omega))
 have hla:(Lib.decDigits m).length≤100000:=by rw [← ha,q1y];exact hs
 have hlb:(Lib.decDigits n).length≤100000:=by rw [← hb,q1y];exact ht
 clear ha hb;obtain ⟨i0,hi,hz0,hzz1,hz2⟩:=info_parts infoN;have HI:=hj_ hi;have HI0:=hj_ hz0;have HI1:=hj_ hzz1;have HI2:=hj_ hz2;clear hi hz0 hzz1 hz2
 go_enter func132,ntmps132
 go_wp2_with fail;refine (HWa.out w).mono ?_;rintro e w1 ⟨la,⟨A,c,rfl,hna,hb1⟩,hda,hva,hka⟩;go_wp2_with fail;refine (HWb.out w1).mono ?_;rintro e w2 ⟨lb,⟨B,d,rfl,hnb,hb2⟩,hdb,hvb,hkb⟩;rw [q4y] at hva hvb;have hna:=hna.below hb2;have hbe:=ht_ hb1 hb2;have ga:=fun i=>qzo (by omega) hda hva i
 have gb:=fun i=>qzo (by omega) hdb hvb i
 have wa:=qzp (by omega) hda hva
 have wb:=qzp (by omega) hdb hvb
 have la5:la.length≤100000:=by omega
 have lb5:lb.length≤100000:=by omega
 have GA:=hj_ ga;have GB:=hj_ gb;have WA:=hj_ wa;have WB:=hj_ wb;have HDa:=hj_ hda;clear ga gb wa wb hka hkb hla hlb hva hvb hb1 hb2 HWa HWb hda hdb;obtain ⟨N,hN⟩:∃ N,N=la.length+lb.length+1:=⟨_,rfl⟩;have hN1:N≤200001:=by omega
 have HN:=hj_ hN;clear hN;go_wp2_with (refine wpList_make_full _ rfl _ _ _ rfl w2.heap.size 3 i0 (.int .i64 0) 1 underlying78 HI.out HI0.out HI1.out .i64 .i64 _ _ N rfl rfl (by have:=HN.out;omega) (by have:=HN.out;omega) (by rw [HI2.out];omega) (by unfold maxLen;omega) (Nat.le_refl _) ?_;intro w0 hown0 hg0;rw [qdn] at hown0)
 have hB0:Below w2.heap.size w2 w0:=(br_).grown hg0 (Nat.le_refl _) (fun k e=>by cases e)
 go_loopw [8] (fun iv wr=>∃ (k:Nat) (O:List Nat),k≤la.length∧iv=.int .i64 k∧wr.ownsRow w2.heap.size 3 1 (.slice (some ⟨w2.heap.size,0,none⟩) N N) N (nv O)∧Wd 10000 O∧wv 10000 O=wv 10000 ((wds 10000 m).take k)*n∧Below w2.heap.size w2 wr) (fun iv _=>la.length-(intOf iv).toNat)
 case atStart=>exact ⟨0,_,by omega,rfl,hown0,Wd.replicate (by omega) _,by rw [q00h];simp [wv],hB0⟩
 case round =>
  clear hown0 hg0 hB0 HI HI0 HI1 HI2;obtain ⟨k,O,hk,rfl,hown,hwd,hval,hbw⟩:=hrel;have hsz:=hbw.size;have HWd:=hj_ hwd;have HVal:=hj_ hval;clear hwd hval
  by_cases hlt:k<la.length
  ·obtain ⟨v,hv⟩:∃ v,la.getD k 0=v:=⟨_,rfl⟩
   have hx:(wds 10000 m).getD k 0=v:=(GA.out k).trans hv;have hv9:v<10000:=by rw [← hv,q9y hlt];exact HDa.out.at hlt
   have HX:=hj_ hx;have hv2:=q9y hlt;rw [hv] at hv2;have HV2:=hj_ hv2;clear hx hv hv2;obtain ⟨wo,rfl⟩:∃ wo:World,wo=wr:=⟨_,rfl⟩;go_wp2
   go_loopw [9,10] (fun cv jv wr=>∃ (j:Nat) (O:List Nat) (cy:Nat),j≤lb.length+1∧jv=.int .i64 j∧cv=.int .i64 cy∧wr.ownsRow w2.heap.size 3 1 (.slice (some ⟨w2.heap.size,0,none⟩) N N) N (nv O)∧MulAt 10000 (wv 10000 ((wds 10000 m).take k)*n) v n k j O cy∧Below w2.heap.size w2 wr) (fun _ jv _=>lb.length+2-(intOf jv).toNat)
   case atStart=>exact ⟨0,O,0,by omega,rfl,rfl,hown,qe3 (by omega) HWd.out HVal.out,hbw⟩
   case round =>
    clear hown hbw hsz;obtain ⟨j,O,cy,hj,rfl,rfl,hown,hmul,hbw⟩:=hrel;have hsz:=hbw.size;have hOl:N=O.length:=by have:=hown.1;rw [qf1] at this;omega
    have hcar:=fun h=>qdz (by omega) hmul h HX.out
    have hcy:=hmul.2.1;have hwb:=WB.out;have HMul:=hj_ hmul;clear hmul
    by_cases hjl:j<lb.length
    ·have hkj:k+j<O.length:=by have:=HN.out;omega
     obtain ⟨ba,oa,rfl,_,ca⟩:=(hna.below hbw).at1 hlt;rw [← HV2.out] at ca;obtain ⟨bb,ob,rfl,_,cb⟩:=(hnb.below hbw).at1 hjl;obtain ⟨y,hy⟩:∃ y,lb.getD j 0=y:=⟨_,rfl⟩;have hyy:=q9y hjl;rw [hy] at hyy;rw [← hyy] at cb;obtain ⟨o,ho⟩:∃ o,O[k+j]=o:=⟨_,rfl⟩;obtain ⟨hst,hlt2,hy9,ho9⟩:=qe1 (by omega) HMul.out hkj ho ((GB.out j).trans hy) hv9
     have hcell:=hown.cellAt (k+j) (by omega)
     rw [show (nv O)[k+j]? = some (.int .i64 (o:Int)) from by simp [nv,hkj,ho]] at hcell
     have hfroz:=hown.frozenAt (k+j);obtain ⟨p,hp⟩:∃ p,p=v*y:=⟨_,rfl⟩;have hpi:(v:Int)*(y:Int)=(p:Int):=by rw [hp];exact_mod_cast rfl
     have hp1:p≤99999999:=by rw [hp];have:=Nat.mul_le_mul (show v≤9999 by omega) (show y≤9999 by omega);omega
     rw [← hp] at hst hlt2;have HSt:=hj_ hst;have hkN:(k:Int)+(j:Int)<(N:Int):=by omega
     have hjN:j≤200001:=by omega
     have hkN2:k≤200001:=by omega
     clear hy hst hp ho hyy hcar hwb hOl hkj;have q5:((k:Int)+(j:Int)).toNat=k+j:=by omega
     go_wp2_with fail;go_quiet (fail);have hs1:cy+(o+p)≤99999999:=by omega
     go_wp2
     go_roundw
     case rel=>exact ⟨j+1,_,_,by omega,by go_num,i64_eq (b:=(((cy+(o+p)) / 10000:Nat):Int)) (by omega),by
      have h1:=(hown.stored (k+j) (.int .i64 (((cy+(o+p)) % 10000:Nat):Int))).1;rw [nv_set] at h1;have e2:(((cy+(o+p)) % 10000:Nat):Int)=((o:Int)+(cy:Int)+(p:Int)) % 10000:=by omega
      rw [e2] at h1;exact h1,HSt.out,by (repeat' first | exact br_ | assumption | apply Below.drew | apply q18 | refine Below.alloc ?_ ?_ _ | refine Below.setCell ?_ ?_ _ | refine Below.trans ?_ (Below.mono ‹_› ?_) | omega | (simp;omega) | simp)⟩
     case measure=>simp [intOf];omega
    ·by_cases hc0:0<cy
     ·have hjw:¬ (wds 10000 n).length<j:=fun h=>by have:=hcar h;omega
      have hkj:k+j<O.length:=by have:=HN.out;omega
      obtain ⟨o,ho⟩:∃ o,O[k+j]=o:=⟨_,rfl⟩;obtain ⟨hst,hlt2,hy9,ho9⟩:=qe1 (by omega) HMul.out hkj ho ((GB.out j).trans (qa2 hjl)) hv9
      rw [Nat.mul_zero] at hst hlt2;have hcell:=hown.cellAt (k+j) (by omega)
      rw [show (nv O)[k+j]? = some (.int .i64 (o:Int)) from by simp [nv,hkj,ho]] at hcell
      have hfroz:=hown.frozenAt (k+j);have HSt:=hj_ hst;have hkN:(k:Int)+(j:Int)<(N:Int):=by omega
      have hjl2:j<lb.length+1:=by omega
      have hjN:j≤200001:=by omega
      have hkN2:k≤200001:=by omega
      clear hst ho hcar hwb hOl hkj hlt2 hjw;have q5:((k:Int)+(j:Int)).toNat=k+j:=by omega
      have hs1:cy+o≤99999999:=by omega
      go_wp2
      go_roundw
      case rel=>exact ⟨j+1,_,_,by omega,by go_num,i64_eq (b:=(((cy+(o+0)) / 10000:Nat):Int)) (by omega),by
       have h1:=(hown.stored (k+j) (.int .i64 (((cy+(o+0)) % 10000:Nat):Int))).1;rw [nv_set] at h1;have e2:(((cy+(o+0)) % 10000:Nat):Int)=((o:Int)+(cy:Int)) % 10000:=by omega
       rw [e2] at h1;exact h1,HSt.out,by (repeat' first | exact br_ | assumption | apply Below.drew | apply q18 | refine Below.alloc ?_ ?_ _ | refine Below.setCell ?_ ?_ _ | refine Below.trans ?_ (Below.mono ‹_› ?_) | omega | (simp;omega) | simp)⟩
      case measure=>simp [intOf];omega
     ·obtain rfl:cy=0:=by omega
      have hfin:=qe2 (by omega) HMul.out (by omega) HX.out
      have HF:=hj_ hfin;clear hfin hcar hwb hOl;go_wp2
      go_roundw
      case rel=>exact ⟨k+1,O,by omega,by go_num,hown,HMul.out.1,HF.out,hbw⟩
      case measure=>simp [intOf];omega
  ·obtain rfl:k=la.length:=by omega
   have hv:wv 10000 O=m*n:=by rw [HVal.out,qrx (by omega) m la.length WA.out]
   have hOl:N=O.length:=by have:=hown.1;rw [qf1] at this;omega
   have hT:=qnr (some ⟨w2.heap.size,0,none⟩) N N O wr (Ns.of_own hown hOl) (by omega) HWd.out
   rw [hv] at hT;have HT:=hj_ hT;clear hT hOl hv hown;go_wp2_with fail;refine HT.out.mono ?_;rintro e w3 ⟨rfl,hb3⟩;go_wp2;go_ret;exact ⟨rfl,hbe.trans ((ht_ hbw hb3).mono hbe.size)⟩
end

section
open Go.RowKit
theorem q4r {m n:Nat} (h:m≤n):(Lib.decDigits m).length≤(Lib.decDigits n).length:=by
 rcases Nat.lt_or_ge (Lib.decDigits n).length (Lib.decDigits m).length with h1 | h1
 ·have:=q4j h1;omega
 ·exact h1
theorem q4s {m n:Nat} (h:m<10*n):(Lib.decDigits m).length≤(Lib.decDigits n).length+1:=by
 have h1:n<10 ^ (Lib.decDigits n).length:=(q4q (q4u n)).1 (Nat.le_refl _);refine (q4q (by omega)).2 ?_
 rw [Nat.pow_succ];omega
theorem qlw {r c:Nat} (hc:c<10):Lib.decDigits (10*r+c)=(if r=0 then [] else Lib.decDigits r) ++ [dg1 c]:=by
 by_cases h:r=0
 ·subst h;rw [if_pos rfl,Nat.mul_zero,Nat.zero_add,q4w hc];rfl
 ·rw [if_neg h];exact q4x (by omega) hc
theorem q00l {R:ByteArray} {r:Nat} (h:R.data.toList=Lib.decDigits r):(R.toList == [48])=decide (r=0):=by
 rw [qbx,h,decide_eq_decide]
 constructor
 ·intro h1
  have:=congrArg dval h1
  rw [q4y] at this;rw [this];decide
 ·rintro rfl;exact q50
theorem qf7 (s:ByteArray) (t:BT) (_:s.data.toList=t) {i:Nat} (h:i<s.size):(s.extract i (i+1)).data.toList=[s[i]]:=by
 rw [ByteArray.data_extract,Array.toList_extract,List.extract_eq_take_drop,Nat.add_sub_cancel_left];have hl:i<s.data.toList.length:=by simpa using h
 rw [List.drop_eq_getElem_cons hl]
 rfl
theorem qlh (s t:ByteArray) (m n:Nat) (w:World) (hm:s.data.toList=Lib.decDigits m) (hn:t.data.toList=Lib.decDigits n) (hn0:0<n) (hs:s.size≤50000) (ht:t.size≤50000) :
  Calls prog 190 #[.string s,.string t] w fun e w'=>e=.returned (.tuple #[.string ⟨(Lib.decDigits (m / n)).toArray⟩,.string ⟨(Lib.decDigits (m % n)).toArray⟩])∧Below w.heap.size w w':=by
 have lt1:t.size=(Lib.decDigits n).length:=by rw [← hn];simp
 have ls1:s.size=(Lib.decDigits m).length:=by rw [← hm];simp
 have HM:=hj_ hm;have HN:=hj_ hn;have LT1:=hj_ lt1;have LS1:=hj_ ls1;clear hm hn lt1 ls1
 go_enter func190,ntmps190
 go_wp2_with fail
 go_loopw [6,7,8] (fun ov rv iv wr=>∃ (i:Nat) (R:ByteArray),i≤s.size∧iv=.int .i64 i∧rv=.string R∧R.data.toList=Lib.decDigits (dval ((Lib.decDigits m).take i) % n)∧wr.ownsRow w.heap.size 5 1 ov (decZ (dval ((Lib.decDigits m).take i) / n)).length (Lib.byteCells (decZ (dval ((Lib.decDigits m).take i) / n)))∧(decZ (dval ((Lib.decDigits m).take i) / n)).length≤i∧Below w.heap.size w wr) (fun _ _ iv _=>s.size-(intOf iv).toNat)
 case atStart=>exact ⟨0,⟨#[48]⟩,Nat.zero_le _,rfl,rfl,by rw [List.take_zero,q6m,Nat.zero_mod,q50],by rw [List.take_zero,q6m,Nat.zero_div];exact World.ownsRow_nil _ _ _ _,by rw [List.take_zero,q6m,Nat.zero_div];simp [decZ],br_⟩
 case round =>
  obtain ⟨i,R,hi,rfl,rfl,hR,hown,hol,hbw⟩:=hrel;have hsz:=hbw.size
  by_cases hlt:i<s.size
  ·obtain ⟨d1,d2⟩:=dg_at HM.out (q4k m) hlt
   have hval:=qrw HM.out hlt;obtain ⟨c,hc⟩:∃ c,c=s[i].toNat-48:=⟨_,rfl⟩;have hc10:c<10:=by omega
   have hcd:s[i]=dg1 c:=by rw [hc];exact dg1_of (qbv.2 ⟨d1,d2⟩)
   rw [← hc] at hval;obtain ⟨V,hV⟩:∃ V,V=dval ((Lib.decDigits m).take i):=⟨_,rfl⟩;rw [← hV] at hval hR hown hol;obtain ⟨k1,k2⟩:=qd2 (v:=V) (d:=c) hn0;have k3:=qd1 (v:=V) hn0 hc10;rw [← hval] at k1 k2;have hVn:=Nat.mod_lt V hn0;obtain ⟨r,hr⟩:∃ r,r=V % n:=⟨_,rfl⟩;rw [← hr] at hR k1 k2 k3 hVn;have hob:=qf7 s _ HM.out hlt;rw [hcd] at hob;have hrz:=q00l hR;have K1:=hj_ k1;have K2:=hj_ k2;have HR:=hj_ hR;have HOb:=hj_ hob;have hR5:R.size≤50000:=by
    have h1:R.size=R.data.toList.length:=by simp
    rw [h1,hR];have:=q4r (m:=r) (n:=n) (by omega);have:=LT1.out;omega
   have hC1:(s.extract i (i+1)).size=1:=by
    rw [← q1y,hob];rfl
   have HRs:=hj_ (qlw (r:=r) hc10);clear hval hV k1 k2 hr hR hcd hc d1 d2 hob;have hi1:(i:Int)+1≤(s.size:Int):=by omega
   have hi2:((i:Int)+1).toNat=i+1:=by omega
   by_cases hr0:r=0
   ·rw [decide_eq_true hr0] at hrz
    have HR0:=hj_ (show (s.extract i (i+1)).data.toList=Lib.decDigits (10*r+c) by rw [HRs.out,if_pos hr0,HOb.out];rfl)
    clear hr0;go_wp2_with fail;obtain ⟨wo,rfl⟩:∃ wo:World,wo=wr:=⟨_,rfl⟩
    go_loopw [7,9] (fun rv dv wr=>∃ (q:Nat) (Q:ByteArray),q*n≤10*r+c∧q≤9∧dv=.int .u8 (48+(q:Int))∧rv=.string Q∧Q.data.toList=Lib.decDigits (10*r+c-q*n)∧Below wo.heap.size wo wr) (fun _ dv _=>(58-intOf dv).toNat)
    case atStart=>exact ⟨0,_,by omega,by omega,rfl,rfl,by rw [Nat.zero_mul,Nat.sub_zero];exact HR0.out,br_⟩
    case round =>
     obtain ⟨q,Q,hq,hq9,rfl,rfl,hQ,hbi⟩:=hrel;have hqs:Q.size≤60000:=by
      have h1:Q.size=Q.data.toList.length:=by simp
      rw [h1,hQ]
      have:=q4s (m:=10*r+c-q*n) (n:=n) (by omega)
      have:=LT1.out
      omega
     have HCmp:=hj_ (fun w=>qlc Q t _ n w hQ HN.out (by omega) (by omega))
     have hkey:q=(10*r+c) / n∧10*r+c-q*n=(10*r+c) % n∨(n≤10*r+c-q*n∧(q+1)*n≤10*r+c∧q+1≤9):=by
      rcases Nat.lt_or_ge (10*r+c-q*n) n with h | h
      ·left
       have e1:10*r+c=n*q+(10*r+c-q*n):=by rw [Nat.mul_comm n q];omega
       have e2:=Nat.div_mod_unique (b:=n) (a:=10*r+c) (c:=10*r+c-q*n) (d:=q) hn0;obtain ⟨h1,h2⟩:=e2.2 ⟨by rw [Nat.mul_comm n q];omega,h⟩
       exact ⟨h1.symm,h2.symm⟩
      ·right
       have h1:(q+1)*n≤10*r+c:=by rw [Nat.add_mul];omega
       refine ⟨h,h1,?_⟩;have h2:(q+1)≤(10*r+c) / n:=(Nat.le_div_iff_mul_le hn0).2 h1;omega
     rcases hkey with ⟨hqe,hre⟩ | ⟨hge,hq1,hq10⟩
     ·have hcm:cmpN (10*r+c-q*n) n=-1:=by rw [hre];unfold cmpN;rw [if_pos (Nat.mod_lt _ hn0)]
      rw [hcm] at HCmp;rw [hre,← K2.out] at hQ;have HQ:=hj_ hQ;have hown2:=qfq hown hbi;have hb2:=ht_ hbw hbi;have hsz2:=hb2.size;have HQe:=hj_ hqe;clear hQ hcm hqe hre hq hown hbi hbw;go_wp2_with fail;refine (HCmp.out wr).mono ?_;rintro e w2 ⟨rfl,hb3⟩;have hown3:=qfq hown2 hb3;have hb4:=ht_ hb2 hb3;have hsz4:=hb4.size;clear hown2 hb3 hb2 hsz2;obtain ⟨A',c',rfl⟩:=qfu hown3;have HDZ:=hj_ (q4g (v:=V / n) (d:=q) (by omega))
      have K1':=hj_ (show dval ((Lib.decDigits m).take (i+1)) / n=10*(V / n)+q by rw [K1.out,HQe.out])
      have hdl:=q4d (V / n);obtain ⟨L,hLL⟩:∃ L,L=(decZ (V / n)).length:=⟨_,rfl⟩;rw [← hLL] at hown3 hol hdl ⊢;have HLL:=hj_ hLL;have hLb:L≤50000:=by omega
      by_cases hz:q=0∧V / n=0
      ·obtain ⟨hz1,hz2⟩:=hz
       have hL0:L=0:=by omega
       rw [hz1,hz2] at K1';have hres:decZ (dval ((Lib.decDigits m).take (i+1)) / n)=decZ (V / n):=by rw [K1'.out,hz2]
       have HRes:=hj_ hres;subst hL0;subst hz1;clear hdl hLL hres hz2 K1';go_wp2
       go_roundw
       case rel=>exact ⟨i+1,Q,by omega,by go_num,rfl,HQ.out,by
        rw [HRes.out,← HLL.out];exact hown3,by rw [HRes.out,← HLL.out];omega,hb4⟩
       case measure=>simp [intOf];omega
      ·have HDz2:=hj_ (HDZ.out ((Nat.eq_zero_or_pos (V / n)).elim (fun h=>.inl fun hq=>hz ⟨hq,h⟩) .inr))
       have hor:q=0→0<L:=fun h=>hdl.2 (Nat.pos_of_ne_zero fun h0=>hz ⟨h,h0⟩)
       have hd48:((dg1 q).toNat:Int)=48+(q:Int):=by rw [q56 (by omega)];omega
       have e:Lib.byteCells [dg1 q]=[.int .u8 (48+(q:Int))]:=by rw [← hd48];rfl
       have hL2:=hj_ (show (decZ (10*(V / n)+q)).length=L+1 by rw [HDz2.out,HLL.out];simp)
       have HE:=hj_ e;clear hdl hLL hd48 e
       by_cases hq0:q=0
       ·have hLp:=hor hq0
        have HQ0:=hj_ hq0;have g3:((48+(q:Int)) == 48)=true:=by rw [beq_iff_eq];omega
        have g4:((48+(q:Int)) != 48)=false:=by simp [bne,g3]
        clear hor hq0;go_wp2_with (at_builtin;refine q003 rfl _ _ _ rfl w.heap.size _ _ 1 1 underlying194 infoB rfl (by omega) _ L (Lib.byteCells (decZ (V / n))) rfl hown3 [.int .u8 _] _ _ _ rfl (by first | rfl | simp) rfl (q1v _) (by unfold maxLen;omega) (by omega) (by first | omega | (simp;omega) | simp) ?_;intro g cap w1 hown1 hg1)
        go_roundw
        case rel=>exact ⟨i+1,Q,by omega,by go_num,rfl,HQ.out,by
         rw [K1'.out,hL2.out,HDz2.out,Lib.byteCells_append,HE.out];exact hown1,by rw [K1'.out,hL2.out];omega,q1a hb4 (Nat.le_refl _) hown3 hg1⟩
        case measure=>simp [intOf];omega
       ·have g3:((48+(q:Int)) == 48)=false:=by rw [beq_eq_false_iff_ne];omega
        have g4:((48+(q:Int)) != 48)=true:=by simp [bne,g3]
        clear hor;go_wp2_with (at_builtin;refine q003 rfl _ _ _ rfl w.heap.size _ _ 1 1 underlying194 infoB rfl (by omega) _ L (Lib.byteCells (decZ (V / n))) rfl hown3 [.int .u8 _] _ _ _ rfl (by first | rfl | simp) rfl (q1v _) (by unfold maxLen;omega) (by omega) (by first | omega | (simp;omega) | simp) ?_;intro g cap w1 hown1 hg1)
        go_roundw
        case rel=>exact ⟨i+1,Q,by omega,by go_num,rfl,HQ.out,by
         rw [K1'.out,hL2.out,HDz2.out,Lib.byteCells_append,HE.out];exact hown1,by rw [K1'.out,hL2.out];omega,q1a hb4 (Nat.le_refl _) hown3 hg1⟩
        case measure=>simp [intOf];omega
     ·have hcm:∃ g:Nat,cmpN (10*r+c-q*n) n=g:=by
       unfold cmpN;rw [if_neg (by omega)]
       split
       ·exact ⟨1,rfl⟩
       ·exact ⟨0,rfl⟩
      obtain ⟨g,hg⟩:=hcm;rw [hg] at HCmp;have HMi:=hj_ (fun w=>qmq Q t _ n w hQ HN.out (by omega) (by omega) hge)
      have hsub:10*r+c-q*n-n=10*r+c-(q+1)*n:=by rw [Nat.add_mul];omega
      rw [hsub] at HMi;clear hg hQ hge hsub;go_wp2_with fail;refine (HCmp.out wr).mono ?_;rintro e w2 ⟨rfl,hb3⟩;go_wp2_with fail;refine (HMi.out w2).mono ?_;rintro e w3 ⟨rfl,hb4⟩;have hbj:=hbi.trans ((ht_ hb3 hb4).mono hbi.size);clear hbi hb3 hb4;go_wp2
      go_roundw
      case rel=>exact ⟨q+1,_,hq1,hq10,by go_num,rfl,rfl,hbj⟩
      case measure=>simp [intOf];omega
   ·rw [decide_eq_false hr0] at hrz
    have HR0:=hj_ (show (R ++ s.extract i (i+1)).data.toList=Lib.decDigits (10*r+c) by rw [HRs.out,if_neg hr0,← HOb.out,← HR.out];simp)
    clear hr0;go_wp2_with fail;obtain ⟨wo,rfl⟩:∃ wo:World,wo=wr:=⟨_,rfl⟩
    go_loopw [7,9] (fun rv dv wr=>∃ (q:Nat) (Q:ByteArray),q*n≤10*r+c∧q≤9∧dv=.int .u8 (48+(q:Int))∧rv=.string Q∧Q.data.toList=Lib.decDigits (10*r+c-q*n)∧Below wo.heap.size wo wr) (fun _ dv _=>(58-intOf dv).toNat)
    case atStart=>exact ⟨0,_,by omega,by omega,rfl,rfl,by rw [Nat.zero_mul,Nat.sub_zero];exact HR0.out,br_⟩
    case round =>
     obtain ⟨q,Q,hq,hq9,rfl,rfl,hQ,hbi⟩:=hrel;have hqs:Q.size≤60000:=by
      have h1:Q.size=Q.data.toList.length:=by simp
      rw [h1,hQ]
      have:=q4s (m:=10*r+c-q*n) (n:=n) (by omega)
      have:=LT1.out
      omega
     have HCmp:=hj_ (fun w=>qlc Q t _ n w hQ HN.out (by omega) (by omega))
     have hkey:q=(10*r+c) / n∧10*r+c-q*n=(10*r+c) % n∨(n≤10*r+c-q*n∧(q+1)*n≤10*r+c∧q+1≤9):=by
      rcases Nat.lt_or_ge (10*r+c-q*n) n with h | h
      ·left
       have e1:10*r+c=n*q+(10*r+c-q*n):=by rw [Nat.mul_comm n q];omega
       have e2:=Nat.div_mod_unique (b:=n) (a:=10*r+c) (c:=10*r+c-q*n) (d:=q) hn0;obtain ⟨h1,h2⟩:=e2.2 ⟨by rw [Nat.mul_comm n q];omega,h⟩
       exact ⟨h1.symm,h2.symm⟩
      ·right
       have h1:(q+1)*n≤10*r+c:=by rw [Nat.add_mul];omega
       refine ⟨h,h1,?_⟩;have h2:(q+1)≤(10*r+c) / n:=(Nat.le_div_iff_mul_le hn0).2 h1;omega
     rcases hkey with ⟨hqe,hre⟩ | ⟨hge,hq1,hq10⟩
     ·have hcm:cmpN (10*r+c-q*n) n=-1:=by rw [hre];unfold cmpN;rw [if_pos (Nat.mod_lt _ hn0)]
      rw [hcm] at HCmp;rw [hre,← K2.out] at hQ;have HQ:=hj_ hQ;have hown2:=qfq hown hbi;have hb2:=ht_ hbw hbi;have hsz2:=hb2.size;have HQe:=hj_ hqe;clear hQ hcm hqe hre hq hown hbi hbw;go_wp2_with fail;refine (HCmp.out wr).mono ?_;rintro e w2 ⟨rfl,hb3⟩;have hown3:=qfq hown2 hb3;have hb4:=ht_ hb2 hb3;have hsz4:=hb4.size;clear hown2 hb3 hb2 hsz2;obtain ⟨A',c',rfl⟩:=qfu hown3;have HDZ:=hj_ (q4g (v:=V / n) (d:=q) (by omega))
      have K1':=hj_ (show dval ((Lib.decDigits m).take (i+1)) / n=10*(V / n)+q by rw [K1.out,HQe.out])
      have hdl:=q4d (V / n);obtain ⟨L,hLL⟩:∃ L,L=(decZ (V / n)).length:=⟨_,rfl⟩;rw [← hLL] at hown3 hol hdl ⊢;have HLL:=hj_ hLL;have hLb:L≤50000:=by omega
      by_cases hz:q=0∧V / n=0
      ·obtain ⟨hz1,hz2⟩:=hz
       have hL0:L=0:=by omega
       rw [hz1,hz2] at K1';have hres:decZ (dval ((Lib.decDigits m).take (i+1)) / n)=decZ (V / n):=by rw [K1'.out,hz2]
       have HRes:=hj_ hres;subst hL0;subst hz1;clear hdl hLL hres hz2 K1';go_wp2
       go_roundw
       case rel=>exact ⟨i+1,Q,by omega,by go_num,rfl,HQ.out,by
        rw [HRes.out,← HLL.out];exact hown3,by rw [HRes.out,← HLL.out];omega,hb4⟩
       case measure=>simp [intOf];omega
      ·have HDz2:=hj_ (HDZ.out ((Nat.eq_zero_or_pos (V / n)).elim (fun h=>.inl fun hq=>hz ⟨hq,h⟩) .inr))
       have hor:q=0→0<L:=fun h=>hdl.2 (Nat.pos_of_ne_zero fun h0=>hz ⟨h,h0⟩)
       have hd48:((dg1 q).toNat:Int)=48+(q:Int):=by rw [q56 (by omega)];omega
       have e:Lib.byteCells [dg1 q]=[.int .u8 (48+(q:Int))]:=by rw [← hd48];rfl
       have hL2:=hj_ (show (decZ (10*(V / n)+q)).length=L+1 by rw [HDz2.out,HLL.out];simp)
       have HE:=hj_ e;clear hdl hLL hd48 e
       by_cases hq0:q=0
       ·have hLp:=hor hq0
        have HQ0:=hj_ hq0;have g3:((48+(q:Int)) == 48)=true:=by rw [beq_iff_eq];omega
        have g4:((48+(q:Int)) != 48)=false:=by simp [bne,g3]
        clear hor hq0;go_wp2_with (at_builtin;refine q003 rfl _ _ _ rfl w.heap.size _ _ 1 1 underlying194 infoB rfl (by omega) _ L (Lib.byteCells (decZ (V / n))) rfl hown3 [.int .u8 _] _ _ _ rfl (by first | rfl | simp) rfl (q1v _) (by unfold maxLen;omega) (by omega) (by first | omega | (simp;omega) | simp) ?_;intro g cap w1 hown1 hg1)
        go_roundw
        case rel=>exact ⟨i+1,Q,by omega,by go_num,rfl,HQ.out,by
         rw [K1'.out,hL2.out,HDz2.out,Lib.byteCells_append,HE.out];exact hown1,by rw [K1'.out,hL2.out];omega,q1a hb4 (Nat.le_refl _) hown3 hg1⟩
        case measure=>simp [intOf];omega
       ·have g3:((48+(q:Int)) == 48)=false:=by rw [beq_eq_false_iff_ne];omega
        have g4:((48+(q:Int)) != 48)=true:=by simp [bne,g3]
        clear hor;go_wp2_with (at_builtin;refine q003 rfl _ _ _ rfl w.heap.size _ _ 1 1 underlying194 infoB rfl (by omega) _ L (Lib.byteCells (decZ (V / n))) rfl hown3 [.int .u8 _] _ _ _ rfl (by first | rfl | simp) rfl (q1v _) (by unfold maxLen;omega) (by omega) (by first | omega | (simp;omega) | simp) ?_;intro g cap w1 hown1 hg1)
        go_roundw
        case rel=>exact ⟨i+1,Q,by omega,by go_num,rfl,HQ.out,by
         rw [K1'.out,hL2.out,HDz2.out,Lib.byteCells_append,HE.out];exact hown1,by rw [K1'.out,hL2.out];omega,q1a hb4 (Nat.le_refl _) hown3 hg1⟩
        case measure=>simp [intOf];omega
     ·have hcm:∃ g:Nat,cmpN (10*r+c-q*n) n=g:=by
       unfold cmpN;rw [if_neg (by omega)]
       split
       ·exact ⟨1,rfl⟩
       ·exact ⟨0,rfl⟩
      obtain ⟨g,hg⟩:=hcm;rw [hg] at HCmp;have HMi:=hj_ (fun w=>qmq Q t _ n w hQ HN.out (by omega) (by omega) hge)
      have hsub:10*r+c-q*n-n=10*r+c-(q+1)*n:=by rw [Nat.add_mul];omega
      rw [hsub] at HMi;clear hg hQ hge hsub;go_wp2_with fail;refine (HCmp.out wr).mono ?_;rintro e w2 ⟨rfl,hb3⟩;go_wp2_with fail;refine (HMi.out w2).mono ?_;rintro e w3 ⟨rfl,hb4⟩;have hbj:=hbi.trans ((ht_ hb3 hb4).mono hbi.size);clear hbi hb3 hb4;go_wp2
      go_roundw
      case rel=>exact ⟨q+1,_,hq1,hq10,by go_num,rfl,rfl,hbj⟩
      case measure=>simp [intOf];omega
  ·obtain rfl:i=s.size:=by omega
   have hall:dval ((Lib.decDigits m).take s.size)=m:=by rw [LS1.out,List.take_length,q4y]
   rw [hall] at hR hown hol;obtain ⟨A',c',rfl⟩:=qfu hown;have HRv:=hj_ (show R=⟨(Lib.decDigits (m % n)).toArray⟩ from bs_of hR)
   by_cases hz:m / n=0
   ·have HZ:=hj_ hz
    have hz0:(decZ 0).length=0:=rfl;rw [hz] at hown hol;rw [hz,hz0];clear hown hol hz hall hR;go_wp2;go_ret2;exact ⟨by rw [HZ.out,q50,← HRv.out];rfl,hbw⟩
   ·have hd:decZ (m / n)=Lib.decDigits (m / n):=q4f (Nat.pos_of_ne_zero hz)
    rw [hd] at hown hol;rw [hd];have hpos:=q4u (m / n);obtain ⟨D,hD⟩:∃ D,D=Lib.decDigits (m / n):=⟨_,rfl⟩;rw [← hD] at hown hol hpos hd ⊢;have HDD:=hj_ hD;obtain ⟨g,cap,hv,_,hgl⟩:=hown.form hpos
    injection hv with hv1 hv2 hv3
    subst hv1 hv3;have hcv:(convert 194 9 (.slice (some ⟨g,0,none⟩) D.length c')).run prog wr=.ok (.string ⟨D.toArray⟩) wr :=
     run_convert_bytes_back (P:=prog) wr 194 9 5 ⟨g,0,none⟩ c' D underlying194 underlying5 underlying9 (fun j hj=>hown.cells (g:=g) rfl j _ (by simp [Lib.byteCells,hj]))
    have g0:((D.length:Int) == 0)=false:=by rw [beq_eq_false_iff_ne];omega
    have hDl:D.length≤4000000:=by omega
    have hDne:¬ D=[]:=by intro h;rw [h] at hpos;simp at hpos
    clear hown hol hz hd hD hall hR;go_wp2;go_ret2;exact ⟨by rw [← HDD.out,← HRv.out];rfl,hbw⟩
end

section
open Go.RowKit
def sgd (m:Nat) (neg:Bool):Int:=if neg then -(m:Int) else (m:Int)
theorem qno (s:ByteArray) (m:Nat) (neg:Bool) (w:World) (hm:s.data.toList=Lib.decDigits m) (hs:s.size≤1000000000) :
  Calls prog 131 #[.string s,.bool neg] w fun e w'=>e=.returned (.string ⟨(Lib.itoa (sgd m neg)).toArray⟩)∧Below w.heap.size w w':=by
 have hz:=q00l hm
 by_cases h0:m=0
 ·rw [decide_eq_true h0] at hz
  have HV:=hj_ (show s=⟨(Lib.itoa (sgd m neg)).toArray⟩ from bs_of (by rw [hm,h0,q50];unfold sgd;cases neg <;> exact qcc.symm))
  clear hm h0
  cases neg
  ·go_enter func131,ntmps131
   go_wp2;go_ret;exact ⟨by rw [← HV.out];rfl,br_⟩
  ·go_enter func131,ntmps131
   go_wp2;go_ret;exact ⟨by rw [← HV.out];rfl,br_⟩
 ·rw [decide_eq_false h0] at hz
  cases neg
  ·have HV:=hj_ (show s=⟨(Lib.itoa (sgd m false)).toArray⟩ from bs_of (by rw [hm];unfold sgd;rw [if_neg (by simp),qca (by omega),Int.natAbs_natCast]))
   clear hm h0
   go_enter func131,ntmps131
   go_wp2;go_ret;exact ⟨by rw [← HV.out];rfl,br_⟩
  ·have HV:=hj_ (show (⟨#[45]⟩ ++ s:ByteArray)=⟨(Lib.itoa (sgd m true)).toArray⟩ from bs_of (by unfold sgd;rw [if_pos rfl,qc7 (by omega),Int.natAbs_neg,Int.natAbs_natCast,← hm];simp))
   clear hm h0
   go_enter func131,ntmps131
   go_wp2;go_ret;exact ⟨by rw [← HV.out];rfl,br_⟩
theorem qpo (x:Int):(x<0∧x.sign=-1)∨(¬ x<0∧∃ g:Nat,x.sign=g∧decide ((g:Int)<0)=false):=by
 rcases qpn x with ⟨h1,h2⟩ | ⟨h1,h2⟩ | ⟨h1,h2⟩
 ·exact .inl ⟨h1,h2⟩
 ·exact .inr ⟨by omega,0,by rw [h2];rfl,by decide⟩
 ·exact .inr ⟨by omega,1,by rw [h2];rfl,by decide⟩
theorem q4v {s:ByteArray} {x:Int} (h:s.data.toList=Lib.itoa x):(⟨(Lib.decDigits x.natAbs).toArray⟩:ByteArray).size≤s.size:=by
 show (Lib.decDigits x.natAbs).length≤s.size
 have h1:=q1i s.data.toList;rw [q1y,h,q1f] at h1;omega
theorem qnq (a b:ByteArray) (x y:Int) (w:World) (ha:a.data.toList=Lib.itoa x) (hb:b.data.toList=Lib.itoa y) (hs:a.size≤50000) (ht:b.size≤50000) :
  Calls prog 252 #[.string a,.string b] w fun e w'=>e=.returned (.string ⟨(Lib.itoa (x+y)).toArray⟩)∧Below w.heap.size w w':=by
 have HSh1:=hj_ (fun w=>qnl a w (by omega))
 have HSh2:=hj_ (fun w=>qnl b w (by omega))
 have hB:=Below.refl w.heap.size w
 by_cases hsh:a.size≤17∧b.size≤17
 ·obtain ⟨h1,h2⟩:=hsh
  rw [decide_eq_true h1] at HSh1;rw [decide_eq_true h2] at HSh2;have HN1:=hj_ (fun w=>qmu a x w ha h1)
  have HN2:=hj_ (fun w=>qmu b y w hb h2)
  have hx17:x.natAbs<10 ^ 17:=(q4q (by omega)).1 (Nat.le_trans (q4v ha) h1)
  have hy17:y.natAbs<10 ^ 17:=(q4q (by omega)).1 (Nat.le_trans (q4v hb) h2)
  have b1:-100000000000000000<x:=by omega
  have b2:x<100000000000000000:=by omega
  have b3:-100000000000000000<y:=by omega
  have b4:y<100000000000000000:=by omega
  have HW:=hj_ (fun w=>qo8 (x+y) (by omega) (by omega) w)
  clear h1 h2 hx17 hy17 ha hb
  go_enter func252,ntmps252
  go_wp2_with (first | (go_at_call 189;with_reducible refine up_ (HSh1.out _) hB ?_;clear hB;intro wk hB) | (go_at_call 189;with_reducible refine up_ (HSh2.out _) hB ?_;clear hB;intro wk hB) | (go_at_call 130;with_reducible refine up_ (HN1.out _) hB ?_;clear hB;intro wk hB) | (go_at_call 130;with_reducible refine up_ (HN2.out _) hB ?_;clear hB;intro wk hB) | (go_at_call 88;with_reducible refine up_ (HW.out _) hB ?_;clear hB;intro wk hB))
  go_ret;exact ⟨rfl,hB⟩
 ·have hnx:=q4v ha
  have hny:=q4v hb;obtain ⟨s1,hs1⟩:∃ s1,s1=decide (a.size≤17):=⟨_,rfl⟩;obtain ⟨s2,hs2⟩:∃ s2,s2=decide (b.size≤17):=⟨_,rfl⟩;rw [← hs1] at HSh1;rw [← hs2] at HSh2;have hsh2:(s1 && s2)≠true:=by rw [hs1,hs2];simpa using hsh
  have hSa:=fun w=>qnm a w (by omega)
  have hSb:=fun w=>qnm b w (by omega)
  have hBa:=fun w=>ql7 a w (by omega)
  have hBb:=fun w=>ql7 b w (by omega)
  simp only [ha,hb,qpl,q1f] at hSa hSb hBa hBb;have dX:(⟨(Lib.decDigits x.natAbs).toArray⟩:ByteArray).data.toList=Lib.decDigits x.natAbs:=rfl;have dY:(⟨(Lib.decDigits y.natAbs).toArray⟩:ByteArray).data.toList=Lib.decDigits y.natAbs:=rfl;generalize (⟨(Lib.decDigits x.natAbs).toArray⟩:ByteArray)=X at *;generalize (⟨(Lib.decDigits y.natAbs).toArray⟩:ByteArray)=Y at *;have HSa:=hj_ hSa;have HSb:=hj_ hSb;have HBa:=hj_ hBa;have HBb:=hj_ hBb;have HCm:=hj_ (fun w=>qlc X Y _ _ w dX dY (by omega) (by omega))
  have HPl:=hj_ (fun w=>qnc X Y _ _ w dX dY (by omega) (by omega))
  have hMi:=fun h w=>qmq X Y _ _ w dX dY (by omega) (by omega) h
  have hMj:=fun h w=>qmq Y X _ _ w dY dX (by omega) (by omega) h
  have hsg:=fun (m:Nat) (g:Bool) w (hm:(Lib.decDigits m).length≤1000000)=>qno ⟨(Lib.decDigits m).toArray⟩ m g w rfl (by show (Lib.decDigits m).length≤_;omega)
  have hlx:(Lib.decDigits x.natAbs).length≤50000:=by rw [← dX,q1y];omega
  have hly:(Lib.decDigits y.natAbs).length≤50000:=by rw [← dY,q1y];omega
  have hlp:(Lib.decDigits (x.natAbs+y.natAbs)).length≤1000000:=by
   rcases Nat.le_total x.natAbs y.natAbs with h | h
   ·have:=q4s (m:=x.natAbs+y.natAbs) (n:=y.natAbs+1) (by omega)
    have:=q4s (m:=y.natAbs+1) (n:=y.natAbs+1) (by omega)
    have h3:(Lib.decDigits (y.natAbs+1)).length≤(Lib.decDigits y.natAbs).length+1:=by
     refine (q4q (by omega)).2 ?_
     have h1:y.natAbs<10 ^ (Lib.decDigits y.natAbs).length:=(q4q (q4u _)).1 (Nat.le_refl _);rw [Nat.pow_succ];omega
    omega
   ·have:=q4s (m:=x.natAbs+y.natAbs) (n:=x.natAbs+1) (by omega)
    have h3:(Lib.decDigits (x.natAbs+1)).length≤(Lib.decDigits x.natAbs).length+1:=by
     refine (q4q (by omega)).2 ?_
     have h1:x.natAbs<10 ^ (Lib.decDigits x.natAbs).length:=(q4q (q4u _)).1 (Nat.le_refl _);rw [Nat.pow_succ];omega
    omega
  have hlm:(Lib.decDigits (x.natAbs-y.natAbs)).length≤1000000:=by have:=q4r (m:=x.natAbs-y.natAbs) (n:=x.natAbs) (by omega);omega
  have hln:(Lib.decDigits (y.natAbs-x.natAbs)).length≤1000000:=by have:=q4r (m:=y.natAbs-x.natAbs) (n:=y.natAbs) (by omega);omega
  have hcl:(x.natAbs<y.natAbs∧cmpN x.natAbs y.natAbs=-1)∨(y.natAbs≤x.natAbs∧∃ g:Nat,cmpN x.natAbs y.natAbs=g):=by
   unfold cmpN
   by_cases h:x.natAbs<y.natAbs
   ·exact .inl ⟨h,if_pos h⟩
   ·refine .inr ⟨by omega,?_⟩
    rw [if_neg h]
    split
    ·exact ⟨1,rfl⟩
    ·exact ⟨0,rfl⟩
  clear hSa hSb hBa hBb hs1 hs2 hsh hnx hny hlx hly ha hb hs ht
  rcases qpo x with ⟨hx,sx⟩ | ⟨hx,gx,sx,gx1⟩ <;> rcases qpo y with ⟨hy,sy⟩ | ⟨hy,gy,sy,gy1⟩ <;> rw [sx] at HSa <;> rw [sy] at HSb
  ·have HEq:=hj_ (show x+y=sgd (x.natAbs+y.natAbs) true by unfold sgd;simp only [if_true];omega)
   have HSg:=hj_ (fun w=>hsg (x.natAbs+y.natAbs) true w hlp)
   clear hMi hMj hsg hlp hlm hln dX dY hx hy sx sy hcl
   cases s1 <;> cases s2
   all_goals first
    | (exact absurd rfl hsh2)
    | (
     go_enter func252,ntmps252
     go_wp2_with (first | (go_at_call 189;with_reducible refine up_ (HSh1.out _) hB ?_;clear hB;intro wk hB) | (go_at_call 189;with_reducible refine up_ (HSh2.out _) hB ?_;clear hB;intro wk hB) | (go_at_call 126;with_reducible refine up_ (HBa.out _) hB ?_;clear hB;intro wk hB) | (go_at_call 126;with_reducible refine up_ (HBb.out _) hB ?_;clear hB;intro wk hB) | (go_at_call 82;with_reducible refine up_ (HSa.out _) hB ?_;clear hB;intro wk hB) | (go_at_call 82;with_reducible refine up_ (HSb.out _) hB ?_;clear hB;intro wk hB) | (go_at_call 129;with_reducible refine up_ (HCm.out _) hB ?_;clear hB;intro wk hB) | (go_at_call 191;with_reducible refine up_ (HPl.out _) hB ?_;clear hB;intro wk hB) | (go_at_call 253;with_reducible refine up_ (HMi.out _) hB ?_;clear hB;intro wk hB) | (go_at_call 253;with_reducible refine up_ (HMj.out _) hB ?_;clear hB;intro wk hB) | (go_at_call 131;with_reducible refine up_ (HSg.out _) hB ?_;clear hB;intro wk hB))
     go_ret;exact ⟨by rw [HEq.out];rfl,hB⟩)
  ·rcases hcl with ⟨hlt,hc⟩ | ⟨hle,g,hc⟩ <;> rw [hc] at HCm
   ·have HEq:=hj_ (show x+y=sgd (y.natAbs-x.natAbs) false by unfold sgd;simp only [if_false,Bool.false_eq_true];omega)
    have HSg:=hj_ (fun w=>hsg (y.natAbs-x.natAbs) false w hln)
    have HMj:=hj_ (fun w=>hMj (by omega) w)
    clear hMi hMj hsg hlp hlm hln dX dY hx hy sx sy hlt hc
    cases s1 <;> cases s2
    all_goals first
     | (exact absurd rfl hsh2)
     | (
      go_enter func252,ntmps252
      go_wp2_with (first | (go_at_call 189;with_reducible refine up_ (HSh1.out _) hB ?_;clear hB;intro wk hB) | (go_at_call 189;with_reducible refine up_ (HSh2.out _) hB ?_;clear hB;intro wk hB) | (go_at_call 126;with_reducible refine up_ (HBa.out _) hB ?_;clear hB;intro wk hB) | (go_at_call 126;with_reducible refine up_ (HBb.out _) hB ?_;clear hB;intro wk hB) | (go_at_call 82;with_reducible refine up_ (HSa.out _) hB ?_;clear hB;intro wk hB) | (go_at_call 82;with_reducible refine up_ (HSb.out _) hB ?_;clear hB;intro wk hB) | (go_at_call 129;with_reducible refine up_ (HCm.out _) hB ?_;clear hB;intro wk hB) | (go_at_call 191;with_reducible refine up_ (HPl.out _) hB ?_;clear hB;intro wk hB) | (go_at_call 253;with_reducible refine up_ (HMi.out _) hB ?_;clear hB;intro wk hB) | (go_at_call 253;with_reducible refine up_ (HMj.out _) hB ?_;clear hB;intro wk hB) | (go_at_call 131;with_reducible refine up_ (HSg.out _) hB ?_;clear hB;intro wk hB))
      go_ret;exact ⟨by rw [HEq.out];rfl,hB⟩)
   ·have HEq:=hj_ (show x+y=sgd (x.natAbs-y.natAbs) true by unfold sgd;simp only [if_true];omega)
    have HSg:=hj_ (fun w=>hsg (x.natAbs-y.natAbs) true w hlm)
    have HMi:=hj_ (fun w=>hMi hle w)
    clear hMi hMj hsg hlp hlm hln dX dY hx hy sx sy hle hc
    cases s1 <;> cases s2
    all_goals first
     | (exact absurd rfl hsh2)
     | (
      go_enter func252,ntmps252
      go_wp2_with (first | (go_at_call 189;with_reducible refine up_ (HSh1.out _) hB ?_;clear hB;intro wk hB) | (go_at_call 189;with_reducible refine up_ (HSh2.out _) hB ?_;clear hB;intro wk hB) | (go_at_call 126;with_reducible refine up_ (HBa.out _) hB ?_;clear hB;intro wk hB) | (go_at_call 126;with_reducible refine up_ (HBb.out _) hB ?_;clear hB;intro wk hB) | (go_at_call 82;with_reducible refine up_ (HSa.out _) hB ?_;clear hB;intro wk hB) | (go_at_call 82;with_reducible refine up_ (HSb.out _) hB ?_;clear hB;intro wk hB) | (go_at_call 129;with_reducible refine up_ (HCm.out _) hB ?_;clear hB;intro wk hB) | (go_at_call 191;with_reducible refine up_ (HPl.out _) hB ?_;clear hB;intro wk hB) | (go_at_call 253;with_reducible refine up_ (HMi.out _) hB ?_;clear hB;intro wk hB) | (go_at_call 253;with_reducible refine up_ (HMj.out _) hB ?_;clear hB;intro wk hB) | (go_at_call 131;with_reducible refine up_ (HSg.out _) hB ?_;clear hB;intro wk hB))
      go_ret;exact ⟨by rw [HEq.out];rfl,hB⟩)
  ·rcases hcl with ⟨hlt,hc⟩ | ⟨hle,g,hc⟩ <;> rw [hc] at HCm
   ·have HEq:=hj_ (show x+y=sgd (y.natAbs-x.natAbs) true by unfold sgd;simp only [if_true];omega)
    have HSg:=hj_ (fun w=>hsg (y.natAbs-x.natAbs) true w hln)
    have HMj:=hj_ (fun w=>hMj (by omega) w)
    clear hMi hMj hsg hlp hlm hln dX dY hx hy sx sy hlt hc
    cases s1 <;> cases s2
    all_goals first
     | (exact absurd rfl hsh2)
     | (
      go_enter func252,ntmps252
      go_wp2_with (first | (go_at_call 189;with_reducible refine up_ (HSh1.out _) hB ?_;clear hB;intro wk hB) | (go_at_call 189;with_reducible refine up_ (HSh2.out _) hB ?_;clear hB;intro wk hB) | (go_at_call 126;with_reducible refine up_ (HBa.out _) hB ?_;clear hB;intro wk hB) | (go_at_call 126;with_reducible refine up_ (HBb.out _) hB ?_;clear hB;intro wk hB) | (go_at_call 82;with_reducible refine up_ (HSa.out _) hB ?_;clear hB;intro wk hB) | (go_at_call 82;with_reducible refine up_ (HSb.out _) hB ?_;clear hB;intro wk hB) | (go_at_call 129;with_reducible refine up_ (HCm.out _) hB ?_;clear hB;intro wk hB) | (go_at_call 191;with_reducible refine up_ (HPl.out _) hB ?_;clear hB;intro wk hB) | (go_at_call 253;with_reducible refine up_ (HMi.out _) hB ?_;clear hB;intro wk hB) | (go_at_call 253;with_reducible refine up_ (HMj.out _) hB ?_;clear hB;intro wk hB) | (go_at_call 131;with_reducible refine up_ (HSg.out _) hB ?_;clear hB;intro wk hB))
      go_ret;exact ⟨by rw [HEq.out];rfl,hB⟩)
   ·have HEq:=hj_ (show x+y=sgd (x.natAbs-y.natAbs) false by unfold sgd;simp only [if_false,Bool.false_eq_true];omega)
    have HSg:=hj_ (fun w=>hsg (x.natAbs-y.natAbs) false w hlm)
    have HMi:=hj_ (fun w=>hMi hle w)
    clear hMi hMj hsg hlp hlm hln dX dY hx hy sx sy hle hc
    cases s1 <;> cases s2
    all_goals first
     | (exact absurd rfl hsh2)
     | (
      go_enter func252,ntmps252
      go_wp2_with (first | (go_at_call 189;with_reducible refine up_ (HSh1.out _) hB ?_;clear hB;intro wk hB) | (go_at_call 189;with_reducible refine up_ (HSh2.out _) hB ?_;clear hB;intro wk hB) | (go_at_call 126;with_reducible refine up_ (HBa.out _) hB ?_;clear hB;intro wk hB) | (go_at_call 126;with_reducible refine up_ (HBb.out _) hB ?_;clear hB;intro wk hB) | (go_at_call 82;with_reducible refine up_ (HSa.out _) hB ?_;clear hB;intro wk hB) | (go_at_call 82;with_reducible refine up_ (HSb.out _) hB ?_;clear hB;intro wk hB) | (go_at_call 129;with_reducible refine up_ (HCm.out _) hB ?_;clear hB;intro wk hB) | (go_at_call 191;with_reducible refine up_ (HPl.out _) hB ?_;clear hB;intro wk hB) | (go_at_call 253;with_reducible refine up_ (HMi.out _) hB ?_;clear hB;intro wk hB) | (go_at_call 253;with_reducible refine up_ (HMj.out _) hB ?_;clear hB;intro wk hB) | (go_at_call 131;with_reducible refine up_ (HSg.out _) hB ?_;clear hB;intro wk hB))
      go_ret;exact ⟨by rw [HEq.out];rfl,hB⟩)
  ·have HEq:=hj_ (show x+y=sgd (x.natAbs+y.natAbs) false by unfold sgd;simp only [if_false,Bool.false_eq_true];omega)
   have HSg:=hj_ (fun w=>hsg (x.natAbs+y.natAbs) false w hlp)
   clear hMi hMj hsg hlp hlm hln dX dY hx hy sx sy hcl
   cases s1 <;> cases s2
   all_goals first
    | (exact absurd rfl hsh2)
    | (
     go_enter func252,ntmps252
     go_wp2_with (first | (go_at_call 189;with_reducible refine up_ (HSh1.out _) hB ?_;clear hB;intro wk hB) | (go_at_call 189;with_reducible refine up_ (HSh2.out _) hB ?_;clear hB;intro wk hB) | (go_at_call 126;with_reducible refine up_ (HBa.out _) hB ?_;clear hB;intro wk hB) | (go_at_call 126;with_reducible refine up_ (HBb.out _) hB ?_;clear hB;intro wk hB) | (go_at_call 82;with_reducible refine up_ (HSa.out _) hB ?_;clear hB;intro wk hB) | (go_at_call 82;with_reducible refine up_ (HSb.out _) hB ?_;clear hB;intro wk hB) | (go_at_call 129;with_reducible refine up_ (HCm.out _) hB ?_;clear hB;intro wk hB) | (go_at_call 191;with_reducible refine up_ (HPl.out _) hB ?_;clear hB;intro wk hB) | (go_at_call 253;with_reducible refine up_ (HMi.out _) hB ?_;clear hB;intro wk hB) | (go_at_call 253;with_reducible refine up_ (HMj.out _) hB ?_;clear hB;intro wk hB) | (go_at_call 131;with_reducible refine up_ (HSg.out _) hB ?_;clear hB;intro wk hB))
     go_ret;exact ⟨by rw [HEq.out];rfl,hB⟩)
end

section
open Go.RowKit
theorem qlf (a b:ByteArray) (x y:Int) (w:World) (ha:a.data.toList=Lib.itoa x) (hb:b.data.toList=Lib.itoa y) (hs:a.size≤40000) (ht:b.size≤40000) :
  Calls prog 186 #[.string a,.string b] w fun e w'=>e=.returned (.string ⟨(Lib.itoa (x-y)).toArray⟩)∧Below w.heap.size w w':=by
 have hN:=fun w=>qmr b w (by omega)
 simp only [hb,qep] at hN;have hl:(Lib.itoa (-y)).length≤40001:=by
  have h1:=qc3 (-y);rw [Int.natAbs_neg] at h1;have h2:=q4v hb;have h3:(Lib.decDigits y.natAbs).length≤b.size:=h2;omega
 have hS:=fun w=>qnq a ⟨(Lib.itoa (-y)).toArray⟩ x (-y) w ha rfl (by omega) (by show (Lib.itoa (-y)).length≤_;omega)
 rw [← Int.sub_eq_add_neg] at hS;generalize (⟨(Lib.itoa (-y)).toArray⟩:ByteArray)=Y at *;have HN:=hj_ hN;have HS:=hj_ hS;have hB:=Below.refl w.heap.size w;clear hN hS hl ha hb
 go_enter func186,ntmps186
 go_wp2_with (first | (go_at_call 133;with_reducible refine up_ (HN.out _) hB ?_;clear hB;intro wk hB) | (go_at_call 252;with_reducible refine up_ (HS.out _) hB ?_;clear hB;intro wk hB))
 go_ret;exact ⟨rfl,hB⟩
theorem qdh {a:ByteArray} {x:Int} (h:a.data.toList=Lib.itoa x):x.natAbs<10 ^ a.size∧0<a.size:=by
 have h1:(Lib.decDigits x.natAbs).length≤a.size:=q4v h;have h2:=q4u x.natAbs;exact ⟨(q4q (by omega)).1 h1,by omega⟩
theorem qpk (x y:Int):sgd (x.natAbs*y.natAbs) (decide (x<0) != decide (y<0))=x*y:=by
 obtain ⟨h1,h2⟩:=qio x y;rw [h1] at h2;unfold sgd;rw [← h1] at h2 ⊢
 cases hb:(decide (x<0) != decide (y<0))
 ·rw [hb,Bool.false_and] at h2
  rw [if_neg (by simp)]
  have:=of_decide_eq_false h2
  omega
 ·rw [hb,Bool.true_and] at h2
  rw [if_pos rfl]
  by_cases h0:(x*y).natAbs=0
  ·omega
  ·rw [decide_eq_true (show 0<(x*y).natAbs by omega)] at h2
   have:=of_decide_eq_true h2
   omega
theorem qe7 {m n:Nat}:(Lib.decDigits (m*n)).length≤(Lib.decDigits m).length+(Lib.decDigits n).length:=by
 have h1:m<10 ^ (Lib.decDigits m).length:=(q4q (q4u m)).1 (Nat.le_refl _);have h2:n<10 ^ (Lib.decDigits n).length:=(q4q (q4u n)).1 (Nat.le_refl _)
 have:=q4u m
 refine (q4q (by omega)).2 ?_
 rw [Nat.pow_add];exact Nat.mul_lt_mul'' h1 h2
theorem qne (a b:ByteArray) (x y:Int) (w:World) (ha:a.data.toList=Lib.itoa x) (hb:b.data.toList=Lib.itoa y) (hs:a.size≤50000) (ht:b.size≤50000) :
  Calls prog 86 #[.string a,.string b] w fun e w'=>e=.returned (.string ⟨(Lib.itoa (x*y)).toArray⟩)∧Below w.heap.size w w':=by
 have hB:=Below.refl w.heap.size w
 by_cases hsh:a.size+b.size≤17
 ·obtain ⟨hx,px⟩:=qdh ha
  obtain ⟨hy,py⟩:=qdh hb;have HN1:=hj_ (fun w=>qmu a x w ha (by omega))
  have HN2:=hj_ (fun w=>qmu b y w hb (by omega))
  have hp17:(x*y).natAbs<10 ^ 17:=by
   rw [Int.natAbs_mul];refine Nat.lt_of_lt_of_le (Nat.mul_lt_mul'' hx hy) ?_;rw [← Nat.pow_add];exact Nat.pow_le_pow_right (by omega) hsh
  obtain ⟨p,hp⟩:∃ p,x*y=p:=⟨_,rfl⟩;rw [hp] at hp17 ⊢;have b1:-100000000000000000<p:=by omega
  have b2:p<100000000000000000:=by omega
  have HW:=hj_ (fun w=>qo8 p (by omega) (by omega) w)
  have g1:decide ((a.size:Int)+(b.size:Int)≤17)=true:=by simp;omega
  have g2:(a.size:Int)+(b.size:Int)≤17:=by omega
  clear hx hy hp17 ha hb
  go_enter func86,ntmps86
  go_wp2_with (first | (go_at_call 130;with_reducible refine up_ (HN1.out _) hB ?_;clear hB;intro wk hB) | (go_at_call 130;with_reducible refine up_ (HN2.out _) hB ?_;clear hB;intro wk hB) | (go_at_call 88;with_reducible refine up_ (HW.out _) hB ?_;clear hB;intro wk hB))
  go_ret;exact ⟨rfl,hB⟩
 ·have hnx:=q4v ha
  have hny:=q4v hb;have hSa:=fun w=>qnm a w (by omega)
  have hSb:=fun w=>qnm b w (by omega)
  have hBa:=fun w=>ql7 a w (by omega)
  have hBb:=fun w=>ql7 b w (by omega)
  simp only [ha,hb,qpl,q1f] at hSa hSb hBa hBb;have dX:(⟨(Lib.decDigits x.natAbs).toArray⟩:ByteArray).data.toList=Lib.decDigits x.natAbs:=rfl;have dY:(⟨(Lib.decDigits y.natAbs).toArray⟩:ByteArray).data.toList=Lib.decDigits y.natAbs:=rfl;generalize (⟨(Lib.decDigits x.natAbs).toArray⟩:ByteArray)=X at *;generalize (⟨(Lib.decDigits y.natAbs).toArray⟩:ByteArray)=Y at *;have HSa:=hj_ hSa;have HSb:=hj_ hSb;have HBa:=hj_ hBa;have HBb:=hj_ hBb;have HTi:=hj_ (fun w=>qns X Y _ _ w dX dY (by omega) (by omega))
  have hlx:(Lib.decDigits x.natAbs).length≤50000:=by rw [← dX,q1y];omega
  have hly:(Lib.decDigits y.natAbs).length≤50000:=by rw [← dY,q1y];omega
  have hlp:=qe7 (m:=x.natAbs) (n:=y.natAbs);have hsg:=fun (g:Bool) w=>qno ⟨(Lib.decDigits (x.natAbs*y.natAbs)).toArray⟩ _ g w rfl (by show (Lib.decDigits (x.natAbs*y.natAbs)).length≤_;omega)
  have hEq:=qpk x y;have g2:¬ (a.size:Int)+(b.size:Int)≤17:=by omega
  have g1:decide ((a.size:Int)+(b.size:Int)≤17)=false:=decide_eq_false g2;generalize (⟨(Lib.decDigits (x.natAbs*y.natAbs)).toArray⟩:ByteArray)=Z at *;clear hSa hSb hBa hBb hnx hny hlx hly hlp dX dY ha hb hsh
  rcases qpo x with ⟨hx,sx⟩ | ⟨hx,gx,sx,gx1⟩ <;> rcases qpo y with ⟨hy,sy⟩ | ⟨hy,gy,sy,gy1⟩ <;> rw [sx] at HSa <;> rw [sy] at HSb
  ·rw [decide_eq_true hx,decide_eq_true hy] at hEq
   have HEq:=hj_ hEq;have HSg:=hj_ (hsg false);clear hsg hEq hx hy sx sy
   go_enter func86,ntmps86
   go_wp2_with (first | (go_at_call 126;with_reducible refine up_ (HBa.out _) hB ?_;clear hB;intro wk hB) | (go_at_call 126;with_reducible refine up_ (HBb.out _) hB ?_;clear hB;intro wk hB) | (go_at_call 82;with_reducible refine up_ (HSa.out _) hB ?_;clear hB;intro wk hB) | (go_at_call 82;with_reducible refine up_ (HSb.out _) hB ?_;clear hB;intro wk hB) | (go_at_call 132;with_reducible refine up_ (HTi.out _) hB ?_;clear hB;intro wk hB) | (go_at_call 131;with_reducible refine up_ (HSg.out _) hB ?_;clear hB;intro wk hB))
   go_ret;exact ⟨by rw [← HEq.out];rfl,hB⟩
  ·rw [decide_eq_true hx,decide_eq_false hy] at hEq
   have HEq:=hj_ hEq;have HSg:=hj_ (hsg true);clear hsg hEq hx hy sx sy
   go_enter func86,ntmps86
   go_wp2_with (first | (go_at_call 126;with_reducible refine up_ (HBa.out _) hB ?_;clear hB;intro wk hB) | (go_at_call 126;with_reducible refine up_ (HBb.out _) hB ?_;clear hB;intro wk hB) | (go_at_call 82;with_reducible refine up_ (HSa.out _) hB ?_;clear hB;intro wk hB) | (go_at_call 82;with_reducible refine up_ (HSb.out _) hB ?_;clear hB;intro wk hB) | (go_at_call 132;with_reducible refine up_ (HTi.out _) hB ?_;clear hB;intro wk hB) | (go_at_call 131;with_reducible refine up_ (HSg.out _) hB ?_;clear hB;intro wk hB))
   go_ret;exact ⟨by rw [← HEq.out];rfl,hB⟩
  ·rw [decide_eq_false hx,decide_eq_true hy] at hEq
   have HEq:=hj_ hEq;have HSg:=hj_ (hsg true);clear hsg hEq hx hy sx sy
   go_enter func86,ntmps86
   go_wp2_with (first | (go_at_call 126;with_reducible refine up_ (HBa.out _) hB ?_;clear hB;intro wk hB) | (go_at_call 126;with_reducible refine up_ (HBb.out _) hB ?_;clear hB;intro wk hB) | (go_at_call 82;with_reducible refine up_ (HSa.out _) hB ?_;clear hB;intro wk hB) | (go_at_call 82;with_reducible refine up_ (HSb.out _) hB ?_;clear hB;intro wk hB) | (go_at_call 132;with_reducible refine up_ (HTi.out _) hB ?_;clear hB;intro wk hB) | (go_at_call 131;with_reducible refine up_ (HSg.out _) hB ?_;clear hB;intro wk hB))
   go_ret;exact ⟨by rw [← HEq.out];rfl,hB⟩
  ·rw [decide_eq_false hx,decide_eq_false hy] at hEq
   have HEq:=hj_ hEq;have HSg:=hj_ (hsg false);clear hsg hEq hx hy sx sy
   go_enter func86,ntmps86
   go_wp2_with (first | (go_at_call 126;with_reducible refine up_ (HBa.out _) hB ?_;clear hB;intro wk hB) | (go_at_call 126;with_reducible refine up_ (HBb.out _) hB ?_;clear hB;intro wk hB) | (go_at_call 82;with_reducible refine up_ (HSa.out _) hB ?_;clear hB;intro wk hB) | (go_at_call 82;with_reducible refine up_ (HSb.out _) hB ?_;clear hB;intro wk hB) | (go_at_call 132;with_reducible refine up_ (HTi.out _) hB ?_;clear hB;intro wk hB) | (go_at_call 131;with_reducible refine up_ (HSg.out _) hB ?_;clear hB;intro wk hB))
   go_ret;exact ⟨by rw [← HEq.out];rfl,hB⟩
end

section
open Go.RowKit
theorem q7f (x:Int) {y:Int} (hy:y≠0):(x.fdiv y)=if x.tmod y≠0∧¬ (decide (x<0)=decide (y<0)) then x.tdiv y-1 else x.tdiv y:=by
 have e:=Int.mul_tdiv_add_tmod x y;have hn:(x.tmod y).natAbs<y.natAbs:=by rw [Int.natAbs_tmod];exact Nat.mod_lt _ (by omega)
 have h1:0≤x→0≤x.tmod y:=fun h=>Int.tmod_nonneg y h
 have h2:x≤0→x.tmod y≤0:=fun h=>by
  have:=Int.tmod_nonneg y (show 0≤-x by omega)
  rw [Int.neg_tmod] at this;omega
 generalize x.tdiv y=q at *;generalize x.tmod y=r at *
 by_cases hc:r≠0∧¬ (decide (x<0)=decide (y<0))
 ·rw [if_pos hc]
  obtain ⟨hr,hs⟩:=hc;rw [decide_eq_decide] at hs;have hfd:FD x y (q-1) (r+y):=by
   refine ⟨by rw [Int.mul_sub];omega,fun h=>?_,fun h=>?_⟩
   ·have:=h2 (by omega);omega
   ·have:=h1 (by omega);omega
  exact (q7d hy (q7c x hy) hfd).1
 ·rw [if_neg hc]
  have hor:r=0∨(x<0↔y<0):=by
   by_cases hr:r=0
   ·exact .inl hr
   ·refine .inr (decide_eq_decide.1 (Classical.not_not.1 fun h=>hc ⟨hr,h⟩))
  have hfd:FD x y q r:=by
   refine ⟨by omega,fun h=>?_,fun h=>?_⟩
   ·rcases hor with h3 | h3
    ·omega
    ·have:=h1 (by omega);omega
   ·rcases hor with h3 | h3
    ·omega
    ·have:=h2 (by omega);omega
  exact (q7d hy (q7c x hy) hfd).1
theorem qmb (a b:ByteArray) (x y:Int) (w:World) (ha:a.data.toList=Lib.itoa x) (hb:b.data.toList=Lib.itoa y) (hs:a.size≤17) (ht:b.size≤17) (hy:y≠0) :
  Calls prog 134 #[.string a,.string b] w fun e w'=>e=.returned (.string ⟨(Lib.itoa (x.fdiv y)).toArray⟩)∧Below w.heap.size w w':=by
 have hB:=Below.refl w.heap.size w;obtain ⟨hx17,_⟩:=qdh ha;obtain ⟨hy17,_⟩:=qdh hb;have hx17:x.natAbs<10 ^ 17:=Nat.lt_of_lt_of_le hx17 (Nat.pow_le_pow_right (by omega) hs)
 have hy17:y.natAbs<10 ^ 17:=Nat.lt_of_lt_of_le hy17 (Nat.pow_le_pow_right (by omega) ht)
 have HSh1:=hj_ (fun w=>qnl a w (by omega))
 have HSh2:=hj_ (fun w=>qnl b w (by omega))
 rw [decide_eq_true hs] at HSh1;rw [decide_eq_true ht] at HSh2;have HN1:=hj_ (fun w=>qmu a x w ha hs)
 have HN2:=hj_ (fun w=>qmu b y w hb ht)
 have hfl:=q7f x hy;have hqn:(x.tdiv y).natAbs≤x.natAbs:=by rw [Int.natAbs_tdiv];exact Nat.div_le_self _ _
 have hrn:(x.tmod y).natAbs≤x.natAbs:=by rw [Int.natAbs_tmod];exact Nat.mod_le _ _
 obtain ⟨q,hq⟩:∃ q,x.tdiv y=q:=⟨_,rfl⟩;obtain ⟨r,hr⟩:∃ r,x.tmod y=r:=⟨_,rfl⟩;rw [hq,hr] at hfl;rw [hq] at hqn;rw [hr] at hrn;have b1:-100000000000000000<x:=by omega
 have b2:x<100000000000000000:=by omega
 have b3:-100000000000000000<y:=by omega
 have b4:y<100000000000000000:=by omega
 have b5:-100000000000000000<q:=by omega
 have b6:q<100000000000000000:=by omega
 have b7:-100000000000000000<r:=by omega
 have b8:r<100000000000000000:=by omega
 have g0:(y == 0)=false:=by simpa using hy
 have hW:=fun n (h0:-9223372036854775808≤n) (h1:n≤9223372036854775807) w=>qo8 n h0 h1 w
 have HFl:=hj_ hfl;clear hx17 hy17 hqn hrn ha hb hs ht hfl
 by_cases hr0:r=0
 ·have HV:=hj_ (show x.fdiv y=q by rw [HFl.out,if_neg (fun h=>h.1 hr0)])
  have HW:=hj_ (hW q (by omega) (by omega))
  have g1:(r == 0)=true:=by simpa using hr0
  have g2:(r != 0)=false:=by simpa using hr0
  clear hW
  go_enter func134,ntmps134
  go_wp2_with (first | (go_at_call 189;with_reducible refine up_ (HSh1.out _) hB ?_;clear hB;intro wk hB) | (go_at_call 189;with_reducible refine up_ (HSh2.out _) hB ?_;clear hB;intro wk hB) | (go_at_call 130;with_reducible refine up_ (HN1.out _) hB ?_;clear hB;intro wk hB) | (go_at_call 130;with_reducible refine up_ (HN2.out _) hB ?_;clear hB;intro wk hB) | (go_at_call 88;with_reducible refine up_ (HW.out _) hB ?_;clear hB;intro wk hB))
  go_ret;exact ⟨by rw [HV.out];rfl,hB⟩
 ·have g1:(r == 0)=false:=by simpa using hr0
  have g2:(r != 0)=true:=by simpa using hr0
  by_cases hsg:decide (x<0)=decide (y<0)
  ·have HV:=hj_ (show x.fdiv y=q by rw [HFl.out,if_neg (fun h=>h.2 hsg)])
   have HW:=hj_ (hW q (by omega) (by omega))
   have g3:(decide (x<0) == decide (y<0))=true:=by simpa using hsg
   have g4:(decide (x<0) != decide (y<0))=false:=by simp [bne,g3]
   clear hW hsg;obtain ⟨sx,hsx⟩:∃ sx,decide (x<0)=sx:=⟨_,rfl⟩;obtain ⟨sy,hsy⟩:∃ sy,decide (y<0)=sy:=⟨_,rfl⟩;rw [hsx,hsy] at g3 g4
   go_enter func134,ntmps134
   go_wp2_with (first | (go_at_call 189;with_reducible refine up_ (HSh1.out _) hB ?_;clear hB;intro wk hB) | (go_at_call 189;with_reducible refine up_ (HSh2.out _) hB ?_;clear hB;intro wk hB) | (go_at_call 130;with_reducible refine up_ (HN1.out _) hB ?_;clear hB;intro wk hB) | (go_at_call 130;with_reducible refine up_ (HN2.out _) hB ?_;clear hB;intro wk hB) | (go_at_call 88;with_reducible refine up_ (HW.out _) hB ?_;clear hB;intro wk hB))
   go_ret;exact ⟨by rw [HV.out];rfl,hB⟩
  ·have HV:=hj_ (show x.fdiv y=q-1 by rw [HFl.out,if_pos ⟨hr0,hsg⟩])
   have HW:=hj_ (hW (q-1) (by omega) (by omega))
   have g3:(decide (x<0) == decide (y<0))=false:=by simpa using hsg
   have g4:(decide (x<0) != decide (y<0))=true:=by simp [bne,g3]
   clear hW hsg;obtain ⟨sx,hsx⟩:∃ sx,decide (x<0)=sx:=⟨_,rfl⟩;obtain ⟨sy,hsy⟩:∃ sy,decide (y<0)=sy:=⟨_,rfl⟩;rw [hsx,hsy] at g3 g4
   go_enter func134,ntmps134
   go_wp2_with (first | (go_at_call 189;with_reducible refine up_ (HSh1.out _) hB ?_;clear hB;intro wk hB) | (go_at_call 189;with_reducible refine up_ (HSh2.out _) hB ?_;clear hB;intro wk hB) | (go_at_call 130;with_reducible refine up_ (HN1.out _) hB ?_;clear hB;intro wk hB) | (go_at_call 130;with_reducible refine up_ (HN2.out _) hB ?_;clear hB;intro wk hB) | (go_at_call 88;with_reducible refine up_ (HW.out _) hB ?_;clear hB;intro wk hB))
   go_ret;exact ⟨by rw [HV.out];rfl,hB⟩
theorem qm9 (a b:ByteArray) (x y:Int) (w:World) (ha:a.data.toList=Lib.itoa x) (hb:b.data.toList=Lib.itoa y) (hs:a.size≤50000) (ht:b.size≤50000) (hy:y≠0) (hsh:¬ (a.size≤17∧b.size≤17)) :
  Calls prog 134 #[.string a,.string b] w fun e w'=>e=.returned (.string ⟨(Lib.itoa (x.fdiv y)).toArray⟩)∧Below w.heap.size w w':=by
 have hB:=Below.refl w.heap.size w;have HSh1:=hj_ (fun w=>qnl a w (by omega))
 have HSh2:=hj_ (fun w=>qnl b w (by omega))
 have hnx:=q4v ha;have hny:=q4v hb;obtain ⟨s1,hs1⟩:∃ s1,s1=decide (a.size≤17):=⟨_,rfl⟩;obtain ⟨s2,hs2⟩:∃ s2,s2=decide (b.size≤17):=⟨_,rfl⟩;rw [← hs1] at HSh1;rw [← hs2] at HSh2;have hsh2:(s1 && s2)≠true:=by rw [hs1,hs2];simpa using hsh
 have hSa:=fun w=>qnm a w (by omega)
 have hSb:=fun w=>qnm b w (by omega)
 have hBa:=fun w=>ql7 a w (by omega)
 have hBb:=fun w=>ql7 b w (by omega)
 simp only [ha,hb,qpl,q1f] at hSa hSb hBa hBb;have dX:(⟨(Lib.decDigits x.natAbs).toArray⟩:ByteArray).data.toList=Lib.decDigits x.natAbs:=rfl;have dY:(⟨(Lib.decDigits y.natAbs).toArray⟩:ByteArray).data.toList=Lib.decDigits y.natAbs:=rfl;generalize (⟨(Lib.decDigits x.natAbs).toArray⟩:ByteArray)=X at *;generalize (⟨(Lib.decDigits y.natAbs).toArray⟩:ByteArray)=Y at *;have HSa:=hj_ hSa;have HSb:=hj_ hSb;have HBa:=hj_ hBa;have HBb:=hj_ hBb;have hDv:=fun w=>qlh X Y _ _ w dX dY (by omega) (by omega) (by omega)
 have hlx:(Lib.decDigits x.natAbs).length≤50000:=by rw [← dX,q1y];omega
 have hlq:=q4r (Nat.div_le_self x.natAbs y.natAbs);have dQ:(⟨(Lib.decDigits (x.natAbs / y.natAbs)).toArray⟩:ByteArray).data.toList=Lib.decDigits (x.natAbs / y.natAbs):=rfl;have hqs:(⟨(Lib.decDigits (x.natAbs / y.natAbs)).toArray⟩:ByteArray).size≤50000:=by show (Lib.decDigits (x.natAbs / y.natAbs)).length≤_;omega
 have hrz:=q00l (R:=⟨(Lib.decDigits (x.natAbs % y.natAbs)).toArray⟩) (r:=x.natAbs % y.natAbs) rfl;generalize (⟨(Lib.decDigits (x.natAbs / y.natAbs)).toArray⟩:ByteArray)=Q at *;generalize (⟨(Lib.decDigits (x.natAbs % y.natAbs)).toArray⟩:ByteArray)=R at *;have HDv:=hj_ hDv;have hSg:=fun (g:Bool) w=>qno Q _ g w dQ (by omega)
 have hPl:=fun w=>qnc Q ⟨#[49]⟩ _ 1 w dQ (by rw [q4w (by omega)];rfl) (by omega) (by decide)
 have hl1:(Lib.decDigits (x.natAbs / y.natAbs+1)).length≤50001:=by
  have h2:(Lib.decDigits (x.natAbs / y.natAbs)).length≤50000:=by omega
  generalize x.natAbs / y.natAbs=q at *;have h3:=q4s (m:=q+1) (n:=q+1) (by omega)
  have h1:q<10 ^ (Lib.decDigits q).length:=(q4q (q4u q)).1 (Nat.le_refl _);have h4:(Lib.decDigits (q+1)).length≤(Lib.decDigits q).length+1:=(q4q (by omega)).2 (by rw [Nat.pow_succ];omega)
  omega
 have hSp:=fun w=>qno ⟨(Lib.decDigits (x.natAbs / y.natAbs+1)).toArray⟩ _ true w rfl (by show (Lib.decDigits (x.natAbs / y.natAbs+1)).length≤_;omega)
 generalize (⟨(Lib.decDigits (x.natAbs / y.natAbs+1)).toArray⟩:ByteArray)=Q1 at *;have HPl:=hj_ hPl;have hex:=q7a (x:=x) hy;have hro:=q7b (x:=x) hy;clear hSa hSb hBa hBb hDv hPl hnx hny hlx hlq hl1 dX dY dQ ha hb hsh hs1 hs2
 rcases qpo x with ⟨hx,sx⟩ | ⟨hx,gx,sx,gx1⟩ <;> rcases qpo y with ⟨hyn,sy⟩ | ⟨hyn,gy,sy,gy1⟩ <;> rw [sx] at HSa <;> rw [sy] at HSb
 ·obtain ⟨e1,e2,_,_⟩:=hex (.inl (by rw [decide_eq_true hx,decide_eq_true hyn]))
  rw [decide_eq_true hx,decide_eq_true hyn] at e2;have HV:=hj_ (show x.fdiv y=sgd (x.natAbs / y.natAbs) false by
   unfold sgd;rw [if_neg (by simp)]
   have:=of_decide_eq_false (e2.trans (by simp))
   omega)
  have HSg:=hj_ (hSg false);clear e1 e2 hex hro hSg hSp hx hyn sx sy hrz
  cases s1 <;> cases s2
  all_goals first
   | (exact absurd rfl hsh2)
   | (
    go_enter func134,ntmps134
    go_wp2_with (first | (go_at_call 189;with_reducible refine up_ (HSh1.out _) hB ?_;clear hB;intro wk hB) | (go_at_call 189;with_reducible refine up_ (HSh2.out _) hB ?_;clear hB;intro wk hB) | (go_at_call 126;with_reducible refine up_ (HBa.out _) hB ?_;clear hB;intro wk hB) | (go_at_call 126;with_reducible refine up_ (HBb.out _) hB ?_;clear hB;intro wk hB) | (go_at_call 82;with_reducible refine up_ (HSa.out _) hB ?_;clear hB;intro wk hB) | (go_at_call 82;with_reducible refine up_ (HSb.out _) hB ?_;clear hB;intro wk hB) | (go_at_call 190;with_reducible refine up_ (HDv.out _) hB ?_;clear hB;intro wk hB) | (go_at_call 191;with_reducible refine up_ (HPl.out _) hB ?_;clear hB;intro wk hB) | (go_at_call 131;with_reducible refine up_ (HSg.out _) hB ?_;clear hB;intro wk hB))
    go_ret;exact ⟨by rw [HV.out];rfl,hB⟩)
 ·by_cases hr0:x.natAbs % y.natAbs=0
  ·obtain ⟨e1,e2,_,_⟩:=hex (.inr hr0)
   rw [decide_eq_true hx,decide_eq_false hyn] at e2;have HV:=hj_ (show x.fdiv y=sgd (x.natAbs / y.natAbs) true by
    unfold sgd;rw [if_pos rfl]
    by_cases h0:x.natAbs / y.natAbs=0
    ·rw [h0] at e1 ⊢;omega
    ·rw [decide_eq_true (show 0<x.natAbs / y.natAbs from Nat.pos_of_ne_zero h0)] at e2
     have:=of_decide_eq_true (e2.trans (by simp))
     rw [← e1];omega)
   have HSg:=hj_ (hSg true);rw [decide_eq_true hr0] at hrz;clear e1 e2 hex hro hSg hSp hx hyn sx sy hr0
   cases s1 <;> cases s2
   all_goals first
    | (exact absurd rfl hsh2)
    | (
     go_enter func134,ntmps134
     go_wp2_with (first | (go_at_call 189;with_reducible refine up_ (HSh1.out _) hB ?_;clear hB;intro wk hB) | (go_at_call 189;with_reducible refine up_ (HSh2.out _) hB ?_;clear hB;intro wk hB) | (go_at_call 126;with_reducible refine up_ (HBa.out _) hB ?_;clear hB;intro wk hB) | (go_at_call 126;with_reducible refine up_ (HBb.out _) hB ?_;clear hB;intro wk hB) | (go_at_call 82;with_reducible refine up_ (HSa.out _) hB ?_;clear hB;intro wk hB) | (go_at_call 82;with_reducible refine up_ (HSb.out _) hB ?_;clear hB;intro wk hB) | (go_at_call 190;with_reducible refine up_ (HDv.out _) hB ?_;clear hB;intro wk hB) | (go_at_call 191;with_reducible refine up_ (HPl.out _) hB ?_;clear hB;intro wk hB) | (go_at_call 131;with_reducible refine up_ (HSg.out _) hB ?_;clear hB;intro wk hB))
     go_ret;exact ⟨by rw [HV.out];rfl,hB⟩)
  ·obtain ⟨e1,e2,_,_,_⟩:=hro (by rw [decide_eq_true hx,decide_eq_false hyn];simp) (Nat.pos_of_ne_zero hr0)
   have HV:=hj_ (show x.fdiv y=sgd (x.natAbs / y.natAbs+1) true by
    unfold sgd;rw [if_pos rfl,← e1]
    have:=of_decide_eq_true e2
    omega)
   have HSg:=hj_ hSp;rw [decide_eq_false hr0] at hrz;clear e1 e2 hex hro hSg hSp hx hyn sx sy hr0
   cases s1 <;> cases s2
   all_goals first
    | (exact absurd rfl hsh2)
    | (
     go_enter func134,ntmps134
     go_wp2_with (first | (go_at_call 189;with_reducible refine up_ (HSh1.out _) hB ?_;clear hB;intro wk hB) | (go_at_call 189;with_reducible refine up_ (HSh2.out _) hB ?_;clear hB;intro wk hB) | (go_at_call 126;with_reducible refine up_ (HBa.out _) hB ?_;clear hB;intro wk hB) | (go_at_call 126;with_reducible refine up_ (HBb.out _) hB ?_;clear hB;intro wk hB) | (go_at_call 82;with_reducible refine up_ (HSa.out _) hB ?_;clear hB;intro wk hB) | (go_at_call 82;with_reducible refine up_ (HSb.out _) hB ?_;clear hB;intro wk hB) | (go_at_call 190;with_reducible refine up_ (HDv.out _) hB ?_;clear hB;intro wk hB) | (go_at_call 191;with_reducible refine up_ (HPl.out _) hB ?_;clear hB;intro wk hB) | (go_at_call 131;with_reducible refine up_ (HSg.out _) hB ?_;clear hB;intro wk hB))
     go_ret;exact ⟨by rw [HV.out];rfl,hB⟩)
 ·by_cases hr0:x.natAbs % y.natAbs=0
  ·obtain ⟨e1,e2,_,_⟩:=hex (.inr hr0)
   rw [decide_eq_false hx,decide_eq_true hyn] at e2;have HV:=hj_ (show x.fdiv y=sgd (x.natAbs / y.natAbs) true by
    unfold sgd;rw [if_pos rfl]
    by_cases h0:x.natAbs / y.natAbs=0
    ·rw [h0] at e1 ⊢;omega
    ·rw [decide_eq_true (show 0<x.natAbs / y.natAbs from Nat.pos_of_ne_zero h0)] at e2
     have:=of_decide_eq_true (e2.trans (by simp))
     rw [← e1];omega)
   have HSg:=hj_ (hSg true);rw [decide_eq_true hr0] at hrz;clear e1 e2 hex hro hSg hSp hx hyn sx sy hr0
   cases s1 <;> cases s2
   all_goals first
    | (exact absurd rfl hsh2)
    | (
     go_enter func134,ntmps134
     go_wp2_with (first | (go_at_call 189;with_reducible refine up_ (HSh1.out _) hB ?_;clear hB;intro wk hB) | (go_at_call 189;with_reducible refine up_ (HSh2.out _) hB ?_;clear hB;intro wk hB) | (go_at_call 126;with_reducible refine up_ (HBa.out _) hB ?_;clear hB;intro wk hB) | (go_at_call 126;with_reducible refine up_ (HBb.out _) hB ?_;clear hB;intro wk hB) | (go_at_call 82;with_reducible refine up_ (HSa.out _) hB ?_;clear hB;intro wk hB) | (go_at_call 82;with_reducible refine up_ (HSb.out _) hB ?_;clear hB;intro wk hB) | (go_at_call 190;with_reducible refine up_ (HDv.out _) hB ?_;clear hB;intro wk hB) | (go_at_call 191;with_reducible refine up_ (HPl.out _) hB ?_;clear hB;intro wk hB) | (go_at_call 131;with_reducible refine up_ (HSg.out _) hB ?_;clear hB;intro wk hB))
     go_ret;exact ⟨by rw [HV.out];rfl,hB⟩)
  ·obtain ⟨e1,e2,_,_,_⟩:=hro (by rw [decide_eq_false hx,decide_eq_true hyn];simp) (Nat.pos_of_ne_zero hr0)
   have HV:=hj_ (show x.fdiv y=sgd (x.natAbs / y.natAbs+1) true by
    unfold sgd;rw [if_pos rfl,← e1]
    have:=of_decide_eq_true e2
    omega)
   have HSg:=hj_ hSp;rw [decide_eq_false hr0] at hrz;clear e1 e2 hex hro hSg hSp hx hyn sx sy hr0
   cases s1 <;> cases s2
   all_goals first
    | (exact absurd rfl hsh2)
    | (
     go_enter func134,ntmps134
     go_wp2_with (first | (go_at_call 189;with_reducible refine up_ (HSh1.out _) hB ?_;clear hB;intro wk hB) | (go_at_call 189;with_reducible refine up_ (HSh2.out _) hB ?_;clear hB;intro wk hB) | (go_at_call 126;with_reducible refine up_ (HBa.out _) hB ?_;clear hB;intro wk hB) | (go_at_call 126;with_reducible refine up_ (HBb.out _) hB ?_;clear hB;intro wk hB) | (go_at_call 82;with_reducible refine up_ (HSa.out _) hB ?_;clear hB;intro wk hB) | (go_at_call 82;with_reducible refine up_ (HSb.out _) hB ?_;clear hB;intro wk hB) | (go_at_call 190;with_reducible refine up_ (HDv.out _) hB ?_;clear hB;intro wk hB) | (go_at_call 191;with_reducible refine up_ (HPl.out _) hB ?_;clear hB;intro wk hB) | (go_at_call 131;with_reducible refine up_ (HSg.out _) hB ?_;clear hB;intro wk hB))
     go_ret;exact ⟨by rw [HV.out];rfl,hB⟩)
 ·obtain ⟨e1,e2,_,_⟩:=hex (.inl (by rw [decide_eq_false hx,decide_eq_false hyn]))
  rw [decide_eq_false hx,decide_eq_false hyn] at e2;have HV:=hj_ (show x.fdiv y=sgd (x.natAbs / y.natAbs) false by
   unfold sgd;rw [if_neg (by simp)]
   have:=of_decide_eq_false (e2.trans (by simp))
   omega)
  have HSg:=hj_ (hSg false);clear e1 e2 hex hro hSg hSp hx hyn sx sy hrz
  cases s1 <;> cases s2
  all_goals first
   | (exact absurd rfl hsh2)
   | (
    go_enter func134,ntmps134
    go_wp2_with (first | (go_at_call 189;with_reducible refine up_ (HSh1.out _) hB ?_;clear hB;intro wk hB) | (go_at_call 189;with_reducible refine up_ (HSh2.out _) hB ?_;clear hB;intro wk hB) | (go_at_call 126;with_reducible refine up_ (HBa.out _) hB ?_;clear hB;intro wk hB) | (go_at_call 126;with_reducible refine up_ (HBb.out _) hB ?_;clear hB;intro wk hB) | (go_at_call 82;with_reducible refine up_ (HSa.out _) hB ?_;clear hB;intro wk hB) | (go_at_call 82;with_reducible refine up_ (HSb.out _) hB ?_;clear hB;intro wk hB) | (go_at_call 190;with_reducible refine up_ (HDv.out _) hB ?_;clear hB;intro wk hB) | (go_at_call 191;with_reducible refine up_ (HPl.out _) hB ?_;clear hB;intro wk hB) | (go_at_call 131;with_reducible refine up_ (HSg.out _) hB ?_;clear hB;intro wk hB))
    go_ret;exact ⟨by rw [HV.out];rfl,hB⟩)
theorem qm8 (a b:ByteArray) (x y:Int) (w:World) (ha:a.data.toList=Lib.itoa x) (hb:b.data.toList=Lib.itoa y) (hs:a.size≤50000) (ht:b.size≤50000) (hy:y≠0) :
  Calls prog 134 #[.string a,.string b] w fun e w'=>e=.returned (.string ⟨(Lib.itoa (x.fdiv y)).toArray⟩)∧Below w.heap.size w w':=by
 by_cases h:a.size≤17∧b.size≤17
 ·exact qmb a b x y w ha hb h.1 h.2 hy
 ·exact qm9 a b x y w ha hb hs ht hy h
end

section
open Go.RowKit
theorem q4p {m p q L:Nat} (h:m≤p+q) (hp:(Lib.decDigits p).length≤L) (hq:(Lib.decDigits q).length≤L):(Lib.decDigits m).length≤L+1:=by
 have hL:0<L:=Nat.lt_of_lt_of_le (q4u p) hp;have h1:=(q4q hL).1 hp;have h2:=(q4q hL).1 hq;refine (q4q (by omega)).2 ?_
 rw [Nat.pow_succ];generalize (10:Nat) ^ L=T at *;omega
theorem qcb {z:Int} {L:Nat} (h:(Lib.decDigits z.natAbs).length≤L):(⟨(Lib.itoa z).toArray⟩:ByteArray).size≤L+1:=by
 show (Lib.itoa z).length≤_
 have:=qc3 z
 omega
theorem qnh (a b:ByteArray) (x y:Int) (w:World) (ha:a.data.toList=Lib.itoa x) (hb:b.data.toList=Lib.itoa y) (hs:a.size≤30000) (ht:b.size≤30000) (hy:y≠0) :
  Calls prog 128 #[.string a,.string b] w fun e w'=>e=.returned (.string ⟨(Lib.itoa (x.fmod y)).toArray⟩)∧Below w.heap.size w w':=by
 have hB:=Below.refl w.heap.size w;have hx1:(Lib.decDigits x.natAbs).length≤30000:=Nat.le_trans (q4v ha) hs;have hy1:(Lib.decDigits y.natAbs).length≤30000:=Nat.le_trans (q4v hb) ht;have hq1:=qcb (q4p (qe9 x hy) hx1 hy1);have hprod:y*x.fdiv y=x-x.fmod y:=by have:=(q7c x hy).1;omega
 have hm1:(y*x.fdiv y).natAbs≤(x.natAbs+y.natAbs)+x.natAbs:=by have:=qea x hy;omega
 have hxy:=q4p (Nat.le_refl _) hx1 hy1;have hp1:=qcb (q4p hm1 hxy (by omega))
 have HFl:=hj_ (fun w=>qm8 a b x y w ha hb (by omega) (by omega) hy)
 have HPr:=hj_ (fun w=>qne b ⟨(Lib.itoa (x.fdiv y)).toArray⟩ y (x.fdiv y) w hb rfl (by omega) (by omega))
 have hDi:=fun w=>qlf a ⟨(Lib.itoa (y*x.fdiv y)).toArray⟩ x (y*x.fdiv y) w ha rfl (by omega) (by omega)
 rw [show x-y*x.fdiv y=x.fmod y by omega] at hDi
 have HDi:=hj_ hDi;clear hx1 hy1 hq1 hm1 hxy hp1 hprod hDi ha hb hs ht hy;generalize (⟨(Lib.itoa (y*x.fdiv y)).toArray⟩:ByteArray)=P at *;generalize (⟨(Lib.itoa (x.fdiv y)).toArray⟩:ByteArray)=Q at *
 go_enter func128,ntmps128
 go_wp2_with (first | (go_at_call 134;with_reducible refine up_ (HFl.out _) hB ?_;clear hB;intro wk hB) | (go_at_call 86;with_reducible refine up_ (HPr.out _) hB ?_;clear hB;intro wk hB) | (go_at_call 186;with_reducible refine up_ (HDi.out _) hB ?_;clear hB;intro wk hB))
 go_ret;exact ⟨rfl,hB⟩
def strVal (v:Value):Nat:=match v with
 | .string s=>dval s.data.toList
 | _=>0
theorem qc5 (n:Nat):Lib.itoa (n:Int)=Lib.decDigits n:=by rw [qca (by omega),Int.natAbs_natCast]
theorem q94 (p q:Nat):(p:Int).fmod (q:Int)=((p % q:Nat):Int):=by
 rw [Int.fmod_eq_emod_of_nonneg _ (by omega)];rfl
theorem qla (a b:ByteArray) (x y:Int) (w:World) (ha:a.data.toList=Lib.itoa x) (hb:b.data.toList=Lib.itoa y) (hs:a.size≤30000) (ht:b.size≤30000) :
  Calls prog 84 #[.string a,.string b] w fun e w'=>e=.returned (.string ⟨(Lib.itoa ((Nat.gcd x.natAbs y.natAbs:Nat):Int)).toArray⟩)∧Below w.heap.size w w':=by
 have hMa:=fun w=>qmp a w (by omega)
 have hMb:=fun w=>qmp b w (by omega)
 simp only [ha,hb,q1f] at hMa hMb;have dX:(⟨(Lib.decDigits x.natAbs).toArray⟩:ByteArray).data.toList=Lib.decDigits x.natAbs:=rfl;have dY:(⟨(Lib.decDigits y.natAbs).toArray⟩:ByteArray).data.toList=Lib.decDigits y.natAbs:=rfl;have hX:(⟨(Lib.decDigits x.natAbs).toArray⟩:ByteArray).size≤30000:=Nat.le_trans (q4v ha) hs;have hY:(⟨(Lib.decDigits y.natAbs).toArray⟩:ByteArray).size≤30000:=Nat.le_trans (q4v hb) ht;generalize (⟨(Lib.decDigits x.natAbs).toArray⟩:ByteArray)=X at *;generalize (⟨(Lib.decDigits y.natAbs).toArray⟩:ByteArray)=Y at *;have HMa:=hj_ hMa;have HMb:=hj_ hMb;have DX:=hj_ dX;have DY:=hj_ dY;have HX:=hj_ hX;have HY:=hj_ hY;have hB:=Below.refl w.heap.size w;clear hMa hMb dX dY hX hY ha hb hs ht;obtain ⟨g,hg⟩:∃ g,g=Nat.gcd x.natAbs y.natAbs:=⟨_,rfl⟩;rw [← hg];have HG:=hj_ hg.symm;clear hg
 go_enter func84,ntmps84
 go_wp2_with (first | (go_at_call 127;with_reducible refine up_ (HMa.out _) hB ?_;clear hB;intro wk hB) | (go_at_call 127;with_reducible refine up_ (HMb.out _) hB ?_;clear hB;intro wk hB))
 obtain ⟨W,hW⟩:∃ W:World,W=wk:=⟨_,rfl⟩;subst hW
 go_loopw [0,1] (fun av bv wr=>∃ (p q:Nat) (P Q:ByteArray),av=.string P∧bv=.string Q∧P.data.toList=Lib.decDigits p∧Q.data.toList=Lib.decDigits q∧Nat.gcd p q=g∧P.size≤30000∧Q.size≤30000∧Below w.heap.size w wr) (fun _ bv _=>strVal bv)
 case atStart=>exact ⟨_,_,X,Y,rfl,rfl,DX.out,DY.out,HG.out,HX.out,HY.out,hB⟩
 case round =>
  obtain ⟨p,q,P,Q,rfl,rfl,hP,hQ,hg,hPs,hQs,hbw⟩:=hrel;have hz:=q00l hQ
  by_cases h0:q=0
  ·rw [decide_eq_true h0] at hz
   subst h0;rw [Nat.gcd_zero_right] at hg;have HV:=hj_ (show P=⟨(Lib.itoa (g:Int)).toArray⟩ from bs_of (by rw [hP,qc5,hg]))
   clear hP hQ hPs hQs hg;go_wp2;go_ret;exact ⟨by rw [← HV.out];rfl,hbw⟩
  ·rw [decide_eq_false h0] at hz
   have hR:=qnh P Q p q wr (by rw [qc5];exact hP) (by rw [qc5];exact hQ) hPs hQs (by omega)
   rw [q94,qc5] at hR;have hlt:=Nat.mod_lt p (show 0<q by omega)
   have hl:(⟨(Lib.decDigits (p % q)).toArray⟩:ByteArray).size≤30000:=by
    show (Lib.decDigits (p % q)).length≤_
    have:=q4r (Nat.le_of_lt hlt)
    rw [← hQ,q1y] at this;omega
   have hd:(⟨(Lib.decDigits (p % q)).toArray⟩:ByteArray).data.toList=Lib.decDigits (p % q):=rfl;have hg':Nat.gcd q (p % q)=g:=by rw [← hg,Nat.gcd_comm p q,Nat.gcd_rec q p,Nat.gcd_comm]
   have hm:strVal (.string (⟨(Lib.decDigits (p % q)).toArray⟩:ByteArray))<strVal (.string Q):=by
    unfold strVal;simp only [hQ,q4y];exact hlt
   generalize (⟨(Lib.decDigits (p % q)).toArray⟩:ByteArray)=R at *;have HR:=hj_ hR;have HD:=hj_ hd;have HG':=hj_ hg';have HM:=hj_ hm;clear hR hd hg' hm hg hlt hP;go_wp2_with fail;refine HR.out.mono ?_;rintro e w1 ⟨rfl,hb1⟩;go_wp2
   go_roundw
   case rel=>exact ⟨q,p % q,Q,R,rfl,rfl,hQ,HD.out,HG'.out,hQs,hl,ht_ hbw hb1⟩
   case measure=>exact HM.out
end

section
open Go.RowKit
theorem q8j {a:ByteArray} {x:Int} (h:a.data.toList=Lib.itoa x) (hx:Fit x):a.size≤4097:=by
 have h1:=q8f.1 hx;have h2:=qc3 x;rw [← q1y,h];omega
theorem q7e {x y:Int} (hx:Fit x) (hy:y≠0):Fit (x.fdiv y):=by
 unfold Fit at *;refine Nat.lt_of_le_of_lt ?_ hx
 by_cases hs:decide (x<0)=decide (y<0)∨x.natAbs % y.natAbs=0
 ·rw [(q7a hy hs).1];exact Nat.div_le_self _ _
 ·have h1:¬ decide (x<0)=decide (y<0):=fun h=>hs (.inl h)
  have h2:0<x.natAbs % y.natAbs:=Nat.pos_of_ne_zero fun h=>hs (.inr h)
  rw [(q7b hy h1 h2).1];have h3:=Nat.div_add_mod x.natAbs y.natAbs;have h4:2≤y.natAbs:=by
   rcases Nat.lt_or_ge y.natAbs 2 with h | h
   ·have:y.natAbs=1:=by omega
    rw [this,Nat.mod_one] at h2;omega
   ·exact h
  have h5:2*(x.natAbs / y.natAbs)≤y.natAbs*(x.natAbs / y.natAbs):=Nat.mul_le_mul_right _ h4;generalize x.natAbs / y.natAbs=q at *;generalize x.natAbs % y.natAbs=r at *;generalize y.natAbs*q=yq at *;omega
theorem q93 {x y:Int} (hyf:Fit y) (hy:y≠0):Fit (x.fmod y):=by
 unfold Fit at *;obtain ⟨_,h2,h3⟩:=q7c x hy;generalize x.fmod y=r at *;refine Nat.lt_of_le_of_lt ?_ hyf
 rcases Int.lt_trichotomy y 0 with h | h | h
 ·have:=h3 h;omega
 ·exact absurd h hy
 ·have:=h2 h;omega
theorem qd0 {z:Int} (h:Fit z):longT z=(Lib.itoa z,0):=by unfold longT;rw [if_neg (q8f.1 h)]
end

end Go.Proofs.YtabhjdmmfdfpeaaGreatDoor
