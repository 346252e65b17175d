/- Lemmas. -/
import Derived.Test.YtabhjdmmfdfpeaaGreatDoorQPwA
namespace Go.Proofs.YtabhjdmmfdfpeaaGreatDoor
set_option maxHeartbeats 32000000
set_option maxRecDepth 100000
open _root_.Go.Proofs.Tryz
open Go.RowKit
variable {a b d e h i j k m mid n p q s:Nat}
theorem q0ie (g:Nat) (cb:Array Value) (cf:Value→Value→Int) (B c:Nat) (t:TypeId) (sp d0:List Value) (w0:World) (eg:∀ args w,(callFunc g args).run prog w=.ok (.enter g args) w) (hT:∀ x y z,0≤cf y x→0≤cf z y→0≤cf z x) (hA:∀ x y,cf x y<0→0≤cf y x)
  (hcmp:∀ w',w0.grownBy w' (some B)→∀ x ∈ d0,∀ y ∈ d0,Calls prog g (#[x,y] ++ cb) w' fun e w''=>e=.returned (.int .i64 (cf x y))∧Below w'.heap.size w' w'')
  (a b:Nat) (d:List Value) (w:World) (hS:SR w0 B t sp d w) (hp:d.Perm d0) (hab:a≤b) (hb:b≤d.length) (hsz:d.length<4611686018427387904) (h1c:∀ x ∈ d0,∃ A n c,x=.slice A n c) :
  Calls prog 110 #[.slice (some ⟨B,0,none⟩) d.length c,.int .i64 a,.int .i64 b,.func (.func g) #[] cb] w fun e w'=>e=.returned (.tuple #[])∧∃ d',PI a b d d'∧SegS cf a b d'∧SR w0 B t sp d' w':=by
 have mixed:prog.follows Departure.mixedOrders=true:=k_
 have HT:=hj_ hT;have HA:=hj_ hA;have HC:=hj_ hcmp;have HS0:=hj_ hS;have HP0:=hj_ hp;have H1:=hj_ h1c;clear hT hA hcmp hS hp h1c
 go_enter func110,ntmps110
 go_wp2_with fail
 go_loopw [8] (fun iv wr=>∃ (i:Nat) (d1:List Value),iv=.int .i64 i∧a<i∧i≤b+1∧PI a b d d1∧SegS cf a i d1∧SR w0 B t sp d1 wr) (fun iv _=>b+1-(intOf iv).toNat)
 case atStart=>exact ⟨a+1,d,by go_num,o_,o_,PI.refl _ _ _,fun i j x y h1 h2 h3 _ _=>o_,HS0.out⟩
 case round =>
  obtain ⟨i,d1,rfl,hai,hib,hpi,hse,hsr⟩:=hrel;have HPi:=hj_ hpi;have HSe:=hj_ hse;have HSr:=hj_ hsr;clear hpi hse hsr
  by_cases hlt:i<b
  ·have hltz:(i:Int)<(b:Int):=by omega
   rename World=>V1
   go_wp2_with fail
   go_loopw [9] (fun jv wr=>∃ (j:Nat) (d2:List Value),jv=.int .i64 j∧a≤j∧j≤i∧PI a b d d2∧InsI cf a i j d2∧SR w0 B t sp d2 wr) (fun jv _=>(intOf jv).toNat)
   case atStart=>exact ⟨i,d1,rfl,o_,Nat.le_refl _,HPi.out,InsI.start HSe.out,HSr.out⟩
   case round =>
    obtain ⟨j,d2,rfl,haj,hji,hpi,hin,hsr⟩:=hrel;have hl2:d2.length=d.length:=hpi.len;have HPj:=hj_ hpi;have HIn:=hj_ hin;have HSj:=hj_ hsr;clear hpi hin hsr
    by_cases hja:a<j
    ·obtain ⟨jp,rfl⟩:∃ q,j=q+1:=⟨j-1,o_⟩
     obtain ⟨x,hx⟩:∃ x,d2[jp+1]? = some x:=⟨_,List.getElem?_eq_getElem o_⟩
     obtain ⟨y,hy⟩:∃ y,d2[jp]? = some y:=⟨_,List.getElem?_eq_getElem o_⟩
     have hmx:x ∈ d0:=(HPj.out.perm.trans HP0.out).subset (List.mem_of_getElem? hx);have hmy:y ∈ d0:=(HPj.out.perm.trans HP0.out).subset (List.mem_of_getElem? hy);have HCxy:=hj_ (fun w' (h:SR w0 B t sp d2 w')=>HC.out w' h.gr x hmx y hmy)
     have HX1:=hj_ (And.intro (H1.out x hmx) (H1.out y hmy));have HSd:=hj_ (HSj.out.drewN 1);have l1:=HSd.out.cell hx;have l2:=HSd.out.cell hy;clear hmx hmy;have hjaz:(a:Int)<(jp:Int)+1:=o_
     have hjad:decide ((jp:Int)+1 > (a:Int))=true:=decide_eq_true o_
     have i0:(0:Int)≤(jp:Int)+1:=o_
     have i1:(jp:Int)+1<(d.length:Int):=o_
     have i2:(0:Int)≤(jp:Int):=o_
     have i3:(jp:Int)<(d.length:Int):=o_
     have i5:IntKind.i64.wrap ((jp:Int)+1)=(jp:Int)+1:=IntWalk.i64_in _ o_
     have i6:IntKind.i64.wrap (jp:Int)=(jp:Int):=IntWalk.i64_in _ o_
     have ea:((jp:Int)+1).toNat=jp+1:=o_
     rw [show ((jp+1:Nat):Int)=(jp:Int)+1 by omega]
     go_wp2_with fail;refine wp_region_held_drew (S:=fun w'=>w'.cell? ⟨B,jp+1,none⟩=some x∧w'.cell? ⟨B,jp,none⟩=some y) k_ ⟨l1,l2⟩ (fun hHeld=>?_)
     refine tq 0 ?_;refine tq 1 ?_;refine tq 2 ?_;refine tq 3 ?_;refine tq 4 ?_;refine tq 5 ?_;refine tq 6 ?_;refine tq 7 ?_;refine tq 8 ?_;refine tq 9 ?_;refine tq 10 ?_;refine tq 11 ?_;refine tq 12 ?_;refine tq 13 ?_;refine tr 14 fun K hK=>?_
     go_simp
     go_at_fn g;refine (HCxy.out _ HSd.out).mono ?_;rintro e w2 ⟨rfl,hb⟩;have hS2:=HSd.out.below hb;have HS2:=hj_ hS2;have l1:=hS2.cell hx;have l2:=hS2.cell hy;clear hS2 hb
     go_wp2_with fail;refine hK.out _ _ ⟨l1,l2⟩ (fun hHeld=>?_)
     clear hK K;refine tq 15 ?_;refine tq 16 ?_;refine wpAnyH_done k_ ?_ _
     by_cases hc:cf x y<0
     ·rw [decide_eq_true hc]
      have g1:=HS2.out.fr (jp+1);have g2:=HS2.out.fr jp;have l3:(w2.setCell ⟨B,jp+1,none⟩ y).cell? ⟨B,jp,none⟩=some y:=(World.cell?_setCell_other w2 ⟨B,jp+1,none⟩ ⟨B,jp,none⟩ y (by intro e;injection e with _ e;omega)).trans l2
      have h3:=HS2.out.swap (i:=jp+1) (j:=jp) o_ o_ x y
      have HS3:=hj_ h3.drew;have hdn:=hj_ (InsI.down HA.out HIn.out hja hji hx hy hc);have hpd:=hj_ (HPj.out.trans (PI.swap (a:=a) (b:=b) hx hy o_ o_ o_ o_))
      clear h3;obtain ⟨xA,xn,xc,rfl⟩:=HX1.out.1;obtain ⟨yA,yn,yc,rfl⟩:=HX1.out.2;go_wp2_with fail
      go_big_region_o
      clear l1 l2 l3 g1 g2;generalize ((w2.setCell ⟨B,jp+1,none⟩ (Value.slice yA yn yc)).setCell ⟨B,jp,none⟩ (Value.slice xA xn xc)).drew=w3 at HS3 ⊢;go_wp2_with fail
      go_roundw
      case rel=>exact ⟨jp,(d2.set (jp+1) (.slice yA yn yc)).set jp (.slice xA xn xc),by go_num,o_,o_,hpd.out,hdn.out,HS3.out⟩
      case measure=>simp [intOf]
     ·rw [decide_eq_false hc]
      clear l1 l2;have hSt:=hj_ (InsI.stop HT.out HIn.out hji (Or.inr ⟨x,y,hx,hy,Int.not_lt.1 hc⟩) haj);go_wp2_with fail
      go_roundw
      case rel=>exact ⟨i+1,d2,by go_num,o_,o_,HPj.out,hSt.out,HS2.out⟩
      case measure=>simp [intOf];omega
    ·have hja0:j=a:=by omega
     have hSt:=hj_ (InsI.stop HT.out HIn.out hji (Or.inl hja0) haj);have HSd:=hj_ (HSj.out.drewN 1);have hjaz:¬ (a:Int)<(j:Int):=o_
     have hjad:decide ((j:Int) > (a:Int))=false:=decide_eq_false o_
     clear hja0;go_wp2_with fail;refine wp_region_held_drew (S:=fun _=>True) k_ (by first | trivial) (fun hHeld=>?_)
     refine tq 0 ?_;refine tq 1 ?_;refine tq 2 ?_;refine tq 3 ?_;refine tq 4 ?_;refine tq 5 ?_;refine tq 6 ?_;refine tq 7 ?_;refine tq 8 ?_;refine tq 9 ?_;refine tq 10 ?_;refine tq 11 ?_;refine tq 12 ?_;refine tq 13 ?_;refine tq 14 ?_;refine tq 15 ?_;refine tq 16 ?_;refine wpAnyH_done k_ ?_ _
     go_wp2_with fail
     go_roundw
     case rel=>exact ⟨i+1,d2,by go_num,o_,o_,HPj.out,hSt.out,HSd.out⟩
     case measure=>simp [intOf];omega
  ·have hltz:¬ (i:Int)<(b:Int):=by omega
   go_wp2_with fail
   go_end0
   exact ⟨rfl,d1,HPi.out,fun p q x y h1 h2 h3 hp hq=>HSe.out p q x y h1 h2 o_ hp hq,HSr.out⟩
def swI (p q n k:Nat):Nat:=if p≤k∧k<p+n then q+(k-p) else if q≤k∧k<q+n then p+(k-q) else k
def rotI (a m b k:Nat):Nat:=if a≤k∧k<a+(b-m) then m+(k-a) else if a+(b-m)≤k∧k<b then a+(k-(a+(b-m))) else k
section
variable {α:Type}
structure Mv (f:Nat→Nat) (d d':List α):Prop where
 len:d'.length=d.length
 perm:d'.Perm d
 at_:∀ k,d'[k]? = d[f k]?
theorem Mv.refl {f:Nat→Nat} (d:List α) (h:∀ k,f k=k):Mv f d d:=⟨rfl,List.Perm.refl _,fun k=>by rw [h]⟩
theorem Mv.trans {f g e:Nat→Nat} {d d' d'':List α} (h:Mv f d d') (k:Mv g d' d'') (he:∀ i,e i=f (g i)):Mv e d d'' :=
 ⟨k.len.trans h.len,k.perm.trans h.perm,fun i=>by rw [k.at_,h.at_,he]⟩
theorem Mv.swap {f:Nat→Nat} {d d':List α} (h:Mv f d d') {x y:α} (hi:d'[i]? = some x) (hj:d'[j]? = some y):Mv (fun k=>f (if k=j then i else if k=i then j else k)) d ((d'.set i y).set j x):=by
 have li:=(List.getElem?_eq_some_iff.1 hi).1;have lj:=(List.getElem?_eq_some_iff.1 hj).1;have ei:=(List.getElem?_eq_some_iff.1 hi).2;have ej:=(List.getElem?_eq_some_iff.1 hj).2;refine ⟨by rw [List.length_set,List.length_set];exact h.len,?_,fun k=>?_⟩
 ·have:=List.set_set_perm li lj
  rw [ei,ej] at this;exact this.trans h.perm
 ·rw [q0i2 hi hj]
  by_cases e1:k=j
  ·rw [if_pos e1,if_pos e1,← hi,h.at_]
  ·rw [if_neg e1,if_neg e1]
   by_cases e2:k=i
   ·rw [if_pos e2,if_pos e2,← hj,h.at_]
   ·rw [if_neg e2,if_neg e2,h.at_]
theorem Mv.pi {f:Nat→Nat} {d d':List α} (h:Mv f d d') (ho:∀ k,k<a∨b≤k→f k=k) (hi:∀ k,a≤k→k<b→a≤f k∧f k<b):PI a b d d' :=
 ⟨h.len,fun k hk=>by rw [h.at_,ho k hk],fun k h1 h2=>⟨f k,(hi k h1 h2).1,(hi k h1 h2).2,h.at_ k⟩,h.perm⟩
theorem q0i1 {d d1:List α} (hpq:p+i<q) {x y:α} (h:Mv (swI p q i) d d1) (hx:d1[p+i]? = some x) (hy:d1[q+i]? = some y):Mv (swI p q (i+1)) d ((d1.set (p+i) y).set (q+i) x):=by
 have:=h.swap hx hy
 refine ⟨this.len,this.perm,fun k=>?_⟩
 rw [this.at_]
 congr 1
 unfold swI
 repeat' split <;> try omega
theorem q0hi {d d1 dr:List α} (hij:j<i) (him:i≤m) (h:Mv (swI (m-i) m j) d d1) (k:Mv (rotI (m-(i-j)) m (m+j)) d1 dr):Mv (rotI (m-i) m (m+j)) d dr :=
 h.trans k fun q=>by
  unfold swI rotI
  repeat' split <;> try omega
theorem q0hk {d d1 dr:List α} (hij:i<j) (him:i≤m) (h:Mv (swI (m-i) (m+j-i) i) d d1) (k:Mv (rotI (m-i) m (m+(j-i))) d1 dr):Mv (rotI (m-i) m (m+j)) d dr :=
 h.trans k fun q=>by
  unfold swI rotI
  repeat' split <;> try omega
theorem q0hh {d d1:List α} (him:i≤m) (h:Mv (swI (m-i) m i) d d1):Mv (rotI (m-i) m (m+i)) d d1 :=
 ⟨h.len,h.perm,fun k=>by
  rw [h.at_]
  congr 1
  unfold swI rotI
  repeat' split <;> try omega⟩
theorem rot_up {d d1:List α} {x y:α} (hak:a≤k) (h:Mv (rotI a (a+1) (k+1)) d d1) (hx:d1[k]? = some x) (hy:d1[k+1]? = some y):Mv (rotI a (a+1) (k+2)) d ((d1.set k y).set (k+1) x):=by
 have:=h.swap hx hy
 refine ⟨this.len,this.perm,fun q=>?_⟩
 rw [this.at_]
 congr 1
 unfold rotI
 repeat' split <;> try omega
theorem q0hg {d d1:List α} {x y:α} (hk:0<k) (hkm:k≤m) (h:Mv (rotI k m (m+1)) d d1) (hx:d1[k]? = some x) (hy:d1[k-1]? = some y):Mv (rotI (k-1) m (m+1)) d ((d1.set k y).set (k-1) x):=by
 have:=h.swap hx hy
 refine ⟨this.len,this.perm,fun q=>?_⟩
 rw [this.at_]
 congr 1
 unfold rotI
 repeat' split <;> try omega
theorem q0he (m e k:Nat):rotI m m e k=k:=by unfold rotI;repeat' split <;> try omega
theorem q0hf (s m k:Nat):rotI s m m k=k:=by unfold rotI;repeat' split <;> try omega
theorem rot_pi {d d1:List α} (h:Mv (rotI s m e) d d1) (h1:a≤s) (h2:s≤m) (h3:m≤e) (h4:e≤b):PI a b d d1 :=
 h.pi (fun k hk=>by unfold rotI;repeat' split <;> try omega) (fun k q1 q2=>by unfold rotI;repeat' split <;> try omega)
def Cr (cf:α→α→Int) (a m b:Nat) (d:List α):Prop:=∀ (i j:Nat) x y,a≤i→i<m→m≤j→j<b→d[i]? = some x→d[j]? = some y→0≤cf y x
theorem Cr.left {cf:α→α→Int} {d d':List α} (h:Cr cf a m b d) (k:PI a m d d'):Cr cf a m b d':=fun i j x y h1 h2 h3 h4 hx hy=>by
 obtain ⟨q,q1,q2,e⟩:=k.inn i h1 h2;rw [e] at hx;rw [k.out j o_] at hy
 exact h q j x y q1 q2 h3 h4 hx hy
theorem Cr.right {cf:α→α→Int} {d d':List α} (h:Cr cf a m b d) (k:PI m b d d'):Cr cf a m b d':=fun i j x y h1 h2 h3 h4 hx hy=>by
 obtain ⟨q,q1,q2,e⟩:=k.inn j h3 h4;rw [e] at hy;rw [k.out i o_] at hx
 exact h i q x y h1 h2 q1 q2 hx hy
theorem SegS.far {cf:α→α→Int} {d d':List α} (h:SegS cf p q d) (k:PI a b d d') (hf:q≤a∨b≤p):SegS cf p q d':=fun i j x y h1 h2 h3 hx hy=>by
 rw [k.out i o_] at hx
 rw [k.out j o_] at hy
 exact h i j x y h1 h2 h3 hx hy
theorem SegS.join {cf:α→α→Int} {d:List α} (h:SegS cf a m d) (k:SegS cf m b d) (c:Cr cf a m b d):SegS cf a b d:=fun i j x y h1 h2 h3 hx hy=>by
 by_cases e1:j<m
 ·exact h i j x y h1 h2 e1 hx hy
 ·by_cases e2:m≤i
  ·exact k i j x y e2 h2 h3 hx hy
  ·exact c i j x y h1 o_ o_ h3 hx hy
theorem SegS.empty {cf:α→α→Int} {d:List α} (h:b≤a+1):SegS cf a b d:=fun i j x y h1 h2 h3 _ _=>o_
theorem q0hj {cf:α→α→Int} {d d1:List α} (hT:∀ x y z,0≤cf y x→0≤cf z y→0≤cf z x) (h:Mv (rotI s m e) d d1) (h1:a≤s) (h2:s≤m) (h3:m≤e) (h4:e≤b) (sa:SegS cf a m d) (sb:SegS cf m b d)
  (c1:s=a∨e=b∨∃ x y,d[s-1]? = some x∧d[e]? = some y∧0≤cf y x) (c2:s=m∨e=m∨∃ x y,d[e-1]? = some x∧d[s]? = some y∧0≤cf y x) :
  SegS cf a s d1∧SegS cf s (s+(e-m)) d1∧SegS cf (s+(e-m)) e d1∧SegS cf e b d1∧Cr cf a (s+(e-m)) b d1:=by
 have r1:∀ k,k<s→rotI s m e k=k:=fun k hk=>by unfold rotI;repeat' split <;> try omega
 have r2:∀ k,s≤k→k<s+(e-m)→rotI s m e k=m+(k-s):=fun k q1 q2=>by unfold rotI;repeat' split <;> try omega
 have r3:∀ k,s+(e-m)≤k→k<e→rotI s m e k=s+(k-(s+(e-m))):=fun k q1 q2=>by unfold rotI;repeat' split <;> try omega
 have r4:∀ k,e≤k→rotI s m e k=k:=fun k hk=>by unfold rotI;repeat' split <;> try omega
 refine ⟨fun i j x y q1 q2 q3 hx hy=>?_,fun i j x y q1 q2 q3 hx hy=>?_,fun i j x y q1 q2 q3 hx hy=>?_,fun i j x y q1 q2 q3 hx hy=>?_,fun i j x y q1 q2 q3 q4 hx hy=>?_⟩
 ·rw [h.at_,r1 _ o_] at hx hy
  exact sa i j x y q1 q2 o_ hx hy
 ·rw [h.at_,r2 _ o_ o_] at hx hy
  exact sb _ _ x y o_ o_ o_ hx hy
 ·rw [h.at_,r3 _ o_ o_] at hx hy
  exact sa _ _ x y o_ o_ o_ hx hy
 ·rw [h.at_,r4 _ o_] at hx hy
  exact sb _ _ x y o_ o_ o_ hx hy
 ·have le_of:∀ {a b:Nat} {d:List α} {x y:α} {i j:Nat},SegS cf a b d→a≤i→i≤j→j<b→d[i]? = some x→d[j]? = some y→x=y∨0≤cf y x:=fun hs g1 g2 g3 gx gy=>by
   rcases Nat.lt_or_eq_of_le g2 with g | rfl
   ·exact Or.inr (hs _ _ _ _ g1 g g3 gx gy)
   ·rw [gx] at gy;injection gy with gy;exact Or.inl gy
  have tr:∀ {x y z:α},(x=y∨0≤cf y x)→0≤cf z y→0≤cf z x:=fun g k=>by
   rcases g with rfl | g
   ·exact k
   ·exact hT _ _ _ g k
  have tr2:∀ {x y z:α},0≤cf y x→(y=z∨0≤cf z y)→0≤cf z x:=fun g k=>by
   rcases k with rfl | k
   ·exact g
   ·exact hT _ _ _ g k
  rw [h.at_] at hx hy
  by_cases e1:i<s
  ·rw [r1 _ e1] at hx
   by_cases e2:j<e
   ·rw [r3 _ q3 e2] at hy
    exact sa _ _ x y q1 o_ o_ hx hy
   ·rw [r4 _ o_] at hy
    rcases c1 with c1 | c1 | ⟨u,v,hu,hv,hc⟩
    ·omega
    ·omega
    ·exact tr2 (tr (le_of sa q1 o_ o_ hx hu) hc) (le_of sb o_ o_ q4 hv hy)
  ·rw [r2 _ o_ q2] at hx
   by_cases e2:j<e
   ·rw [r3 _ q3 e2] at hy
    rcases c2 with c2 | c2 | ⟨u,v,hu,hv,hc⟩
    ·omega
    ·omega
    ·exact tr2 (tr (le_of sb o_ o_ o_ hx hu) hc) (le_of sa o_ o_ o_ hv hy)
   ·rw [r4 _ o_] at hy
    exact sb _ _ x y o_ o_ q4 hx hy
end
theorem q0iv (fv:Value) (B c:Nat) (t:TypeId) (sp:List Value) (w0:World) (p q n:Nat) (d:List Value) (w:World) (hS:SR w0 B t sp d w) (hpq:p+n≤q) (hq:q+n≤d.length) (hsz:d.length<4611686018427387904) (h1c:∀ x ∈ d,∃ A n c,x=.slice A n c) :
  Calls prog 228 #[.slice (some ⟨B,0,none⟩) d.length c,.int .i64 p,.int .i64 q,.int .i64 n,fv] w fun e w'=>e=.returned (.tuple #[])∧∃ d',Mv (swI p q n) d d'∧SR w0 B t sp d' w':=by
 have mixed:prog.follows Departure.mixedOrders=true:=k_
 have HS0:=hj_ hS;have H1:=hj_ h1c;have HPQ:=hj_ (And.intro hpq hq);clear hS h1c hpq hq
 go_enter func228,ntmps228
 go_wp2_with fail
 go_loopw [10] (fun iv wr=>∃ (i:Nat) (d1:List Value),iv=.int .i64 i∧i≤n∧Mv (swI p q i) d d1∧SR w0 B t sp d1 wr) (fun iv _=>n-(intOf iv).toNat)
 case atStart=>exact ⟨0,d,rfl,Nat.zero_le _,Mv.refl d (fun k=>by unfold swI;repeat' split <;> try omega),HS0.out⟩
 case round =>
  obtain ⟨i,d1,rfl,hin,hmv,hsr⟩:=hrel;have HMv:=hj_ hmv;have HSr:=hj_ hsr;have hl1:d1.length=d.length:=hmv.len;clear hmv hsr
  by_cases hlt:i<n
  ·have hltz:(i:Int)<(n:Int):=by omega
   have hpq:=HPQ.out;obtain ⟨x,hx⟩:∃ x,d1[p+i]? = some x:=⟨_,List.getElem?_eq_getElem o_⟩
   obtain ⟨y,hy⟩:∃ y,d1[q+i]? = some y:=⟨_,List.getElem?_eq_getElem o_⟩
   obtain ⟨xA,xn,xc,rfl⟩:=H1.out x (HMv.out.perm.subset (List.mem_of_getElem? hx));obtain ⟨yA,yn,yc,rfl⟩:=H1.out y (HMv.out.perm.subset (List.mem_of_getElem? hy));have HMv2:=hj_ (q0i1 o_ HMv.out hx hy)
   have l1:=HSr.out.cell hx;have l2:=HSr.out.cell hy;have g1:=HSr.out.fr (p+i);have g2:=HSr.out.fr (q+i);have l3:(wr.setCell ⟨B,p+i,none⟩ (.slice yA yn yc)).cell? ⟨B,q+i,none⟩=some (.slice yA yn yc):=(World.cell?_setCell_other wr ⟨B,p+i,none⟩ ⟨B,q+i,none⟩ (.slice yA yn yc) (by intro e;injection e with _ e;omega)).trans l2
   have HS3:=hj_ (HSr.out.swap (i:=p+i) (j:=q+i) o_ o_ (.slice xA xn xc) (.slice yA yn yc)).drew
   have j1:IntKind.i64.wrap ((p:Int)+(i:Int))=(p:Int)+(i:Int):=IntWalk.i64_in _ o_
   have j2:IntKind.i64.wrap ((q:Int)+(i:Int))=(q:Int)+(i:Int):=IntWalk.i64_in _ o_
   have j3:(0:Int)≤(p:Int)+(i:Int):=o_
   have j4:(0:Int)≤(q:Int)+(i:Int):=o_
   have j5:(p:Int)+(i:Int)<(d.length:Int):=o_
   have j6:(q:Int)+(i:Int)<(d.length:Int):=o_
   have j7:((p:Int)+(i:Int)).toNat=p+i:=o_
   have j8:((q:Int)+(i:Int)).toNat=q+i:=o_
   clear hpq hx hy;go_wp2_with fail
   go_big_region_o
   clear l1 l2 l3 g1 g2;generalize ((wr.setCell ⟨B,p+i,none⟩ (Value.slice yA yn yc)).setCell ⟨B,q+i,none⟩ (Value.slice xA xn xc)).drew=w3 at HS3 ⊢;go_wp2_with fail
   go_roundw
   case rel=>exact ⟨i+1,_,by go_num,o_,HMv2.out,HS3.out⟩
   case measure=>simp [intOf];omega
  ·obtain rfl:i=n:=by omega
   have hltz:¬ (i:Int)<(i:Int):=o_
   go_wp2_with fail
   go_end0
   exact ⟨rfl,d1,HMv.out,HSr.out⟩
theorem q0iq (fv:Value) (B c:Nat) (t:TypeId) (sp:List Value) (w0:World) (a m b:Nat) (d:List Value) (w:World) (hS:SR w0 B t sp d w) (ham:a<m) (hmb:m<b) (hb:b≤d.length) (hsz:d.length<4611686018427387904) (h1c:∀ x ∈ d,∃ A n c,x=.slice A n c) :
  Calls prog 159 #[.slice (some ⟨B,0,none⟩) d.length c,.int .i64 a,.int .i64 m,.int .i64 b,fv] w fun e w'=>e=.returned (.tuple #[])∧∃ d',Mv (rotI a m b) d d'∧SR w0 B t sp d' w':=by
 have HS0:=hj_ hS;have H1:=hj_ h1c;have HAB:=hj_ (And.intro ham (And.intro hmb hb));have HSw:=hj_ (fun (d1:List Value) (w':World) (p q n:Nat) (hs:SR w0 B t sp d1 w') (hl:d1.length=d.length) (hp:d1.Perm d) h1 h2=>(show Calls prog 228 #[.slice (some ⟨B,0,none⟩) d.length c,.int .i64 p,.int .i64 q,.int .i64 n,fv] w' fun e w''=>e=.returned (.tuple #[])∧∃ d',Mv (swI p q n) d1 d'∧SR w0 B t sp d' w'' from by
  rw [← hl];exact q0iv fv B c t sp w0 p q n d1 w' hs h1 h2 o_ (fun x hx=>h1c x (hp.subset hx))))
 have j1:IntKind.i64.wrap ((m:Int)-(a:Int))=((m-a:Nat):Int):=by rw [show ((m-a:Nat):Int)=(m:Int)-(a:Int) by omega];exact IntWalk.i64_in _ o_
 have j2:IntKind.i64.wrap ((b:Int)-(m:Int))=((b-m:Nat):Int):=by rw [show ((b-m:Nat):Int)=(b:Int)-(m:Int) by omega];exact IntWalk.i64_in _ o_
 clear hS h1c ham hmb hb
 go_enter func159,ntmps159
 go_wp2_with fail;clear j1 j2
 go_loopw [10,11] (fun iv jv wr=>∃ (i j:Nat) (d1:List Value),iv=.int .i64 i∧jv=.int .i64 j∧0<i∧0<j∧i≤m-a∧j≤b-m∧d1.length=d.length∧d1.Perm d∧SR w0 B t sp d1 wr∧Hid (∀ dr,Mv (rotI (m-i) m (m+j)) d1 dr→Mv (rotI a m b) d dr)) (fun iv jv _=>(intOf iv).toNat+(intOf jv).toNat)
 case atStart =>
  have h:=HAB.out;exact ⟨m-a,b-m,d,rfl,rfl,o_,o_,Nat.le_refl _,Nat.le_refl _,rfl,List.Perm.refl _,HS0.out,hj_ (fun dr h2=>by
   rw [show m-(m-a)=a by omega,show m+(b-m)=b by omega] at h2
   exact h2)⟩
 case round =>
  obtain ⟨i,j,d1,rfl,rfl,hi0,hj0,hia,hjb,hl,hp,hs,HG⟩:=hrel;have HL:=hj_ (And.intro hl hp);have HSr:=hj_ hs;have HI:=hj_ (And.intro hi0 (And.intro hj0 (And.intro hia hjb)));have hbm:m<d.length∧b≤d.length:=by have:=HAB.out;omega
  clear hl hp hs
  by_cases hne:i=j
  ·subst hne
   have k1:IntKind.i64.wrap ((m:Int)-(i:Int))=((m-i:Nat):Int):=by rw [show ((m-i:Nat):Int)=(m:Int)-(i:Int) by omega];exact IntWalk.i64_in _ o_
   clear hi0 hj0 hia hjb hbm;go_wp2_with fail;have h:=HAB.out;have hI:=HI.out;refine (HSw.out d1 _ (m-i) m i HSr.out HL.out.1 HL.out.2 o_ (oh_ HL.out.1)).mono ?_
   rintro e w2 ⟨rfl,d2,hmv,hs2⟩;have HF:=hj_ (HG.out d2 (q0hh o_ hmv))
   have HS2:=hj_ hs2;clear hmv hs2 h hI;go_wp2_with fail
   go_end0
   exact ⟨rfl,d2,HF.out,HS2.out⟩
  ·by_cases hlt:j<i
   ·have hnz:¬ (i:Int)=(j:Int):=by omega
    have hlz:(j:Int)<(i:Int):=o_
    have k1:IntKind.i64.wrap ((m:Int)-(i:Int))=((m-i:Nat):Int):=by rw [show ((m-i:Nat):Int)=(m:Int)-(i:Int) by omega];exact IntWalk.i64_in _ o_
    have k2:IntKind.i64.wrap ((i:Int)-(j:Int))=((i-j:Nat):Int):=by rw [show ((i-j:Nat):Int)=(i:Int)-(j:Int) by omega];exact IntWalk.i64_in _ o_
    clear hi0 hj0 hia hjb hbm;go_wp2_with fail;have h:=HAB.out;have hI:=HI.out;refine (HSw.out d1 _ (m-i) m j HSr.out HL.out.1 HL.out.2 o_ (oh_ HL.out.1)).mono ?_
    rintro e w2 ⟨rfl,d2,hmv,hs2⟩;have HF:=hj_ (fun dr (h2:Mv (rotI (m-(i-j)) m (m+j)) d2 dr)=>HG.out dr (q0hi hlt o_ hmv h2))
    have HS2:=hj_ hs2;have HL2:=hj_ (And.intro (hmv.len.trans HL.out.1) (hmv.perm.trans HL.out.2));clear hmv hs2 h hI;go_wp2_with fail
    go_roundw
    case rel=>exact ⟨i-j,j,d2,rfl,rfl,by have:=HI.out;omega,by have:=HI.out;omega,by have:=HI.out;omega,by have:=HI.out;omega,HL2.out.1,HL2.out.2,HS2.out,HF⟩
    case measure=>have:=HI.out;simp [intOf];omega
   ·have hnz:¬ (i:Int)=(j:Int):=by omega
    have hlz:¬ (j:Int)<(i:Int):=o_
    have k1:IntKind.i64.wrap ((m:Int)-(i:Int))=((m-i:Nat):Int):=by rw [show ((m-i:Nat):Int)=(m:Int)-(i:Int) by omega];exact IntWalk.i64_in _ o_
    have k2:IntKind.i64.wrap ((j:Int)-(i:Int))=((j-i:Nat):Int):=by rw [show ((j-i:Nat):Int)=(j:Int)-(i:Int) by omega];exact IntWalk.i64_in _ o_
    have k3:IntKind.i64.wrap ((m:Int)+(j:Int))=(m:Int)+(j:Int):=IntWalk.i64_in _ o_
    have k4:IntKind.i64.wrap ((m:Int)+(j:Int)-(i:Int))=((m+j-i:Nat):Int):=by rw [show ((m+j-i:Nat):Int)=(m:Int)+(j:Int)-(i:Int) by omega];exact IntWalk.i64_in _ o_
    have hlt2:i<j:=o_
    clear hi0 hj0 hia hjb hbm hlt;go_wp2_with fail;have h:=HAB.out;have hI:=HI.out;refine (HSw.out d1 _ (m-i) (m+j-i) i HSr.out HL.out.1 HL.out.2 o_ (oh_ HL.out.1)).mono ?_
    rintro e w2 ⟨rfl,d2,hmv,hs2⟩;have HF:=hj_ (fun dr (h2:Mv (rotI (m-i) m (m+(j-i))) d2 dr)=>HG.out dr (q0hk hlt2 o_ hmv h2))
    have HS2:=hj_ hs2;have HL2:=hj_ (And.intro (hmv.len.trans HL.out.1) (hmv.perm.trans HL.out.2));clear hmv hs2 h hI;go_wp2_with fail
    go_roundw
    case rel=>exact ⟨i,j-i,d2,rfl,rfl,by have:=HI.out;omega,by have:=HI.out;omega,by have:=HI.out;omega,by have:=HI.out;omega,HL2.out.1,HL2.out.2,HS2.out,HF⟩
    case measure=>have:=HI.out;simp [intOf];omega
section
variable {α:Type}
theorem ins_up {cf:α→α→Int} {d d':List α} {x:α} (h1:a+1≤i) (h2:i≤b) (hx:d[a]? = some x) (sb:SegS cf (a+1) b d) (p1:∀ (q:Nat) y,a+1≤q→q<i→d[q]? = some y→0≤cf x y) (p2:∀ (q:Nat) y,i≤q→q<b→d[q]? = some y→0≤cf y x) (h:Mv (rotI a (a+1) i) d d'):SegS cf a b d':=by
 have r1:∀ k,a≤k→k+1<i→rotI a (a+1) i k=k+1:=fun k q1 q2=>by unfold rotI;repeat' split <;> try omega
 have r2:rotI a (a+1) i (i-1)=a:=by unfold rotI;repeat' split <;> try omega
 have r3:∀ k,i≤k→rotI a (a+1) i k=k:=fun k q1=>by unfold rotI;repeat' split <;> try omega
 intro p q u v q1 q2 q3 hp hq;rw [h.at_] at hp hq
 by_cases e1:p+1<i
 ·rw [r1 _ q1 e1] at hp
  by_cases e2:q+1<i
  ·rw [r1 _ o_ e2] at hq
   exact sb _ _ u v o_ o_ o_ hp hq
  ·by_cases e3:q+1=i
   ·rw [show q=i-1 by omega,r2,hx] at hq
    injection hq with hq
    subst hq;exact p1 _ u o_ e1 hp
   ·rw [r3 _ o_] at hq
    exact sb _ _ u v o_ o_ q3 hp hq
 ·by_cases e3:p+1=i
  ·rw [show p=i-1 by omega,r2,hx] at hp
   injection hp with hp
   subst hp;rw [r3 _ o_] at hq
   exact p2 _ v o_ q3 hq
  ·rw [r3 _ o_] at hp hq
   exact sb _ _ u v o_ q2 q3 hp hq
theorem q0fh {cf:α→α→Int} {d d':List α} {x:α} (h1:a≤i) (h2:i≤m) (hx:d[m]? = some x) (sa:SegS cf a m d) (p1:∀ (q:Nat) y,a≤q→q<i→d[q]? = some y→0≤cf x y) (p2:∀ (q:Nat) y,i≤q→q<m→d[q]? = some y→0≤cf y x) (h:Mv (rotI i m (m+1)) d d'):SegS cf a (m+1) d':=by
 have r1:∀ k,k<i→rotI i m (m+1) k=k:=fun k q1=>by unfold rotI;repeat' split <;> try omega
 have r2:rotI i m (m+1) i=m:=by unfold rotI;repeat' split <;> try omega
 have r3:∀ k,i<k→k≤m→rotI i m (m+1) k=k-1:=fun k q1 q2=>by unfold rotI;repeat' split <;> try omega
 intro p q u v q1 q2 q3 hp hq;rw [h.at_] at hp hq
 by_cases e1:p<i
 ·rw [r1 _ e1] at hp
  by_cases e2:q<i
  ·rw [r1 _ e2] at hq
   exact sa _ _ u v q1 q2 o_ hp hq
  ·by_cases e3:q=i
   ·rw [e3,r2,hx] at hq
    injection hq with hq
    subst hq;exact p1 _ u q1 e1 hp
   ·rw [r3 _ o_ o_] at hq
    exact sa _ _ u v q1 o_ o_ hp hq
 ·by_cases e3:p=i
  ·rw [e3,r2,hx] at hp
   injection hp with hp
   subst hp;rw [r3 _ o_ o_] at hq
   exact p2 _ v o_ o_ hq
  ·rw [r3 _ o_ o_] at hp hq
   exact sa _ _ u v o_ o_ o_ hp hq
theorem seg_ul {cf:α→α→Int} (hT:∀ x y z,0≤cf y x→0≤cf z y→0≤cf z x) {d:List α} {x y z:α} (hs:SegS cf m b d) (hx:d[h]? = some x) (hy:d[q]? = some y) (hc:cf x z<0) (h1:m≤q) (h2:q≤h) (h3:h<b):cf y z<0:=by
 rcases Nat.lt_or_eq_of_le h2 with h4 | rfl
 ·rcases Int.lt_or_le (cf y z) 0 with h5 | h5
  ·exact h5
  ·exact absurd (hT z y x h5 (hs q h y x h1 h4 h3 hy hx)) o_
 ·rw [hx] at hy;injection hy with hy;subst hy;exact hc
theorem seg_ug {cf:α→α→Int} (hT:∀ x y z,0≤cf y x→0≤cf z y→0≤cf z x) {d:List α} {x y z:α} (hs:SegS cf m b d) (hx:d[h]? = some x) (hy:d[q]? = some y) (hc:0≤cf x z) (h1:m≤h) (h2:h≤q) (h3:q<b):0≤cf y z:=by
 rcases Nat.lt_or_eq_of_le h2 with h4 | rfl
 ·exact hT z x y hc (hs h q x y h1 h4 h3 hx hy)
 ·rw [hx] at hy;injection hy with hy;subst hy;exact hc
theorem seg_dl {cf:α→α→Int} (hT:∀ x y z,0≤cf y x→0≤cf z y→0≤cf z x) {d:List α} {x y z:α} (hs:SegS cf a m d) (hx:d[h]? = some x) (hy:d[q]? = some y) (hc:cf z x<0) (h1:a≤h) (h2:h≤q) (h3:q<m):cf z y<0:=by
 rcases Nat.lt_or_eq_of_le h2 with h4 | rfl
 ·rcases Int.lt_or_le (cf z y) 0 with h5 | h5
  ·exact h5
  ·exact absurd (hT x y z (hs h q x y h1 h4 h3 hx hy) h5) o_
 ·rw [hx] at hy;injection hy with hy;subst hy;exact hc
theorem seg_dg {cf:α→α→Int} (hT:∀ x y z,0≤cf y x→0≤cf z y→0≤cf z x) {d:List α} {x y z:α} (hs:SegS cf a m d) (hx:d[h]? = some x) (hy:d[q]? = some y) (hc:0≤cf z x) (h1:a≤q) (h2:q≤h) (h3:h<m):0≤cf z y:=by
 rcases Nat.lt_or_eq_of_le h2 with h4 | rfl
 ·exact hT y x z (hs q h y x h1 h4 h3 hy hx) hc
 ·rw [hx] at hy;injection hy with hy;subst hy;exact hc
theorem lf1 {cf:α→α→Int} {len:Nat} {d d1:List α} (hT:∀ x y z,0≤cf y x→0≤cf z y→0≤cf z x) (h:Mv (rotI s m e) d d1) (F:mid=s+(e-m)∧a≤s∧s≤m∧m≤e∧e≤b∧a<mid∧mid<b∧b≤len∧s≤mid∧mid≤e) (sa:SegS cf a m d) (sb:SegS cf m b d)
  (c1:s=a∨e=b∨∃ x y,d[s-1]? = some x∧d[e]? = some y∧0≤cf y x) (c2:s=m∨e=m∨∃ x y,d[e-1]? = some x∧d[s]? = some y∧0≤cf y x):PI a b d d1∧SegS cf a s d1∧SegS cf s mid d1∧SegS cf mid e d1∧SegS cf e b d1∧Cr cf a mid b d1:=by
 obtain ⟨rfl,h1,h2,h3,h4,_⟩:=F;exact ⟨rot_pi h h1 h2 h3 h4,q0hj hT h h1 h2 h3 h4 sa sb c1 c2⟩
theorem lf2 {cf:α→α→Int} {len:Nat} {d d1 d2:List α} (F:mid=s+(e-m)∧a≤s∧s≤m∧m≤e∧e≤b∧a<mid∧mid<b∧b≤len∧s≤mid∧mid≤e) (Q:PI a b d d1∧SegS cf a s d1∧SegS cf s mid d1∧SegS cf mid e d1∧SegS cf e b d1∧Cr cf a mid b d1) (P2:PI a mid d1 d2):SegS cf mid e d2∧SegS cf e b d2 :=
 ⟨Q.2.2.2.1.far P2 (Or.inr lr_),Q.2.2.2.2.1.far P2 (Or.inr o_)⟩
theorem lf3 {cf:α→α→Int} {len:Nat} {d d1 d2 d3:List α} (F:mid=s+(e-m)∧a≤s∧s≤m∧m≤e∧e≤b∧a<mid∧mid<b∧b≤len∧s≤mid∧mid≤e) (Q:PI a b d d1∧SegS cf a s d1∧SegS cf s mid d1∧SegS cf mid e d1∧SegS cf e b d1∧Cr cf a mid b d1) (P2:PI a mid d1 d2) (P3:PI mid b d2 d3) (L2:SegS cf a mid d2) (L3:SegS cf mid b d3):PI a b d d3∧SegS cf a b d3 :=
 ⟨(Q.1.trans (P2.wide lr_ o_)).trans (P3.wide o_ lr_),SegS.join (L2.far P3 (Or.inl lr_)) L3 ((Q.2.2.2.2.2.left P2).right P3)⟩
end
theorem q0iw (g:Nat) (cb:Array Value) (cf:Value→Value→Int) (B c:Nat) (t:TypeId) (sp d0:List Value) (w0:World) (eg:∀ args w,(callFunc g args).run prog w=.ok (.enter g args) w) (hT:∀ x y z,0≤cf y x→0≤cf z y→0≤cf z x) (hA:∀ x y,cf x y<0→0≤cf y x)
  (hcmp:∀ w',w0.grownBy w' (some B)→∀ x ∈ d0,∀ y ∈ d0,Calls prog g (#[x,y] ++ cb) w' fun e w''=>e=.returned (.int .i64 (cf x y))∧Below w'.heap.size w' w'') (h1c:∀ x ∈ d0,∃ A n c,x=.slice A n c) (len:Nat) (hlen:d0.length=len) (hsz:len<2305843009213693951):∀ (N a m b:Nat) (d:List Value) (w:World),b-a≤N→SR w0 B t sp d w→d.Perm d0→a<m→m<b→b≤len→SegS cf a m d→SegS cf m b d →
  Calls prog 111 #[.slice (some ⟨B,0,none⟩) len c,.int .i64 a,.int .i64 m,.int .i64 b,.func (.func g) #[] cb] w fun e w'=>e=.returned (.tuple #[])∧∃ d',PI a b d d'∧SegS cf a b d'∧SR w0 B t sp d' w':=by
 have mixed:prog.follows Departure.mixedOrders=true:=k_
 have HT:=hj_ hT;have HA:=hj_ hA;have HC:=hj_ hcmp;have H1:=hj_ h1c;have HL0:=hj_ hlen;clear hT hA hcmp h1c hlen;intro N
 induction N with
 | zero=>intro a m b d w h0 _ _ h1 h2;omega
 | succ N ih =>
 intro a m b d w h0 hS hp ham hmb hb hsa hsb;have HRec:=hj_ ih;have HS0:=hj_ hS;have HP0:=hj_ hp;have HSa:=hj_ hsa;have HSb:=hj_ hsb;have hld:d.length=len:=hp.length_eq.trans HL0.out;have HN:=hj_ h0;clear ih hS hp hsa hsb h0
 by_cases e1:m=a+1
 ·subst e1
  have k1:IntKind.i64.wrap (((a+1:Nat):Int)-(a:Int))=1:=by rw [show ((a+1:Nat):Int)-(a:Int)=1 by omega];rfl
  have k2:(a:Int)<(len:Int):=o_
  go_enter func111,ntmps111
  rw [show ((a+1:Nat):Int)=(a:Int)+1 by omega] at *
  go_wp2_with fail
  go_loopw [10,11] (fun iv jv wr=>∃ (i j:Nat),iv=.int .i64 i∧jv=.int .i64 j∧a+1≤i∧i≤j∧j≤b∧Hid (∀ (q:Nat) y z,a+1≤q→q<i→d[q]? = some y→d[a]? = some z→cf y z<0)∧Hid (∀ (q:Nat) y z,j≤q→q<b→d[q]? = some y→d[a]? = some z→0≤cf y z)∧SR w0 B t sp d wr) (fun iv jv _=>(intOf jv-intOf iv).toNat)
  case atStart=>exact ⟨a+1,b,by go_num,rfl,Nat.le_refl _,o_,Nat.le_refl _,hj_ (fun q y z h1 h2=>o_),hj_ (fun q y z h1 h2=>o_),HS0.out⟩
  case round =>
   obtain ⟨i,j,rfl,rfl,hai,hij,hjb,P1,P2,hs⟩:=hrel;have HSr:=hj_ hs;clear hs
   by_cases hlt:i<j
   ·have hltz:(i:Int)<(j:Int):=by omega
    have q1:(0:Int)≤((i:Int)+(j:Int)) / 2:=o_
    have q2:((i:Int)+(j:Int)) / 2<(len:Int):=o_
    have q3:(((i:Int)+(j:Int)) / 2).toNat=(i+j) / 2:=o_
    have q4:IntKind.i64.wrap (((i:Int)+(j:Int)) / 2)=((i:Int)+(j:Int)) / 2:=IntWalk.i64_in _ o_
    obtain ⟨x,hx⟩:∃ x,d[(i+j) / 2]? = some x:=⟨_,List.getElem?_eq_getElem o_⟩
    obtain ⟨y,hy⟩:∃ y,d[a]? = some y:=⟨_,List.getElem?_eq_getElem o_⟩
    have HCxy:=hj_ (fun w' (h:SR w0 B t sp d w')=>HC.out w' h.gr x (HP0.out.subset (List.mem_of_getElem? hx)) y (HP0.out.subset (List.mem_of_getElem? hy)))
    have HSd:=hj_ (HSr.out.drewN 1);have l1:=HSd.out.cell hx;have l2:=HSd.out.cell hy;go_wp2_with fail;refine wp_region_held_drew (S:=fun w'=>w'.cell? ⟨B,(i+j) / 2,none⟩=some x∧w'.cell? ⟨B,a,none⟩=some y) k_ ⟨l1,l2⟩ (fun hHeld=>?_)
    refine tq 0 ?_;refine tq 1 ?_;refine tq 2 ?_;refine tq 3 ?_;refine tq 4 ?_;refine tq 5 ?_;refine tq 6 ?_;refine tq 7 ?_;refine tq 8 ?_;refine tr 9 fun K hK=>?_
    go_simp
    go_at_fn g;refine (HCxy.out _ HSd.out).mono ?_;rintro e w2 ⟨rfl,hb⟩;have hS2:=HSd.out.below hb;have HS2:=hj_ hS2;have l1:=hS2.cell hx;have l2:=hS2.cell hy;clear hS2 hb
    go_wp2_with fail;refine hK.out _ _ ⟨l1,l2⟩ (fun hHeld=>?_)
    clear hK K;refine tq 10 ?_;refine wpAnyH_done k_ ?_ _
    by_cases hc:cf x y<0
    ·rw [decide_eq_true hc]
     have R1:=hj_ (fun (q:Nat) u z (h1:a+1≤q) (h2:q<(i+j) / 2+1) (hq:d[q]? = some u) (hz:d[a]? = some z)=>show cf u z<0 from by
      rw [hy] at hz;injection hz with hz;subst hz
      exact seg_ul HT.out HSb.out hx hq hc h1 o_ o_)
     clear l1 l2 hc hx hy;go_wp2_with fail
     go_roundw
     case rel=>exact ⟨(i+j) / 2+1,j,by rw [show ((i:Int)+(j:Int)) / 2+1=(((i+j) / 2+1:Nat):Int) by omega],rfl,o_,o_,hjb,R1,P2,HS2.out⟩
     case measure=>simp [intOf];omega
    ·rw [decide_eq_false hc]
     have R1:=hj_ (fun (q:Nat) u z (h1:(i+j) / 2≤q) (h2:q<b) (hq:d[q]? = some u) (hz:d[a]? = some z)=>show 0≤cf u z from by
      rw [hy] at hz;injection hz with hz;subst hz
      exact seg_ug HT.out HSb.out hx hq (Int.not_lt.1 hc) o_ h1 h2)
     clear l1 l2 hc hx hy;go_wp2_with fail
     go_roundw
     case rel=>exact ⟨i,(i+j) / 2,rfl,by rw [show ((i:Int)+(j:Int)) / 2=(((i+j) / 2:Nat):Int) by omega],hai,o_,o_,P1,R1,HS2.out⟩
     case measure=>simp [intOf];omega
   ·obtain rfl:i=j:=by omega
    have hltz:¬ (i:Int)<(i:Int):=o_
    have k3:IntKind.i64.wrap ((i:Int)-1)=((i-1:Nat):Int):=by rw [show ((i-1:Nat):Int)=(i:Int)-1 by omega];exact IntWalk.i64_in _ o_
    rename World=>V1
    go_wp2_with fail
    go_loopw [13] (fun kv wr=>∃ (k:Nat) (d1:List Value),kv=.int .i64 k∧a≤k∧k+1≤i∧Mv (rotI a (a+1) (k+1)) d d1∧SR w0 B t sp d1 wr) (fun kv _=>i-(intOf kv).toNat)
    case atStart=>exact ⟨a,d,rfl,Nat.le_refl _,o_,Mv.refl d (fun q=>q0hf a (a+1) q),HSr.out⟩
    case round =>
     obtain ⟨k,d1,rfl,hak,hki,hmv,hs⟩:=hrel;have HMv:=hj_ hmv;have HSr:=hj_ hs;have hl1:d1.length=len:=hmv.len.trans hld;clear hmv hs
     by_cases hlt2:k<i-1
     ·have hz2:(k:Int)<((i-1:Nat):Int):=by omega
      have q1:(0:Int)≤(k:Int)+1:=o_
      have q2:(k:Int)+1<(len:Int):=o_
      have q3:((k:Int)+1).toNat=k+1:=o_
      have q4:IntKind.i64.wrap ((k:Int)+1)=(k:Int)+1:=IntWalk.i64_in _ o_
      have q5:(k:Int)<(len:Int):=o_
      obtain ⟨x,hx⟩:∃ x,d1[k]? = some x:=⟨_,List.getElem?_eq_getElem o_⟩
      obtain ⟨y,hy⟩:∃ y,d1[k+1]? = some y:=⟨_,List.getElem?_eq_getElem o_⟩
      obtain ⟨xA,xn,xc,rfl⟩:=H1.out x (HP0.out.subset (HMv.out.perm.subset (List.mem_of_getElem? hx)));obtain ⟨yA,yn,yc,rfl⟩:=H1.out y (HP0.out.subset (HMv.out.perm.subset (List.mem_of_getElem? hy)));have HMv2:=hj_ (rot_up hak HMv.out hx hy);have l1:=HSr.out.cell hx;have l2:=HSr.out.cell hy;have g1:=HSr.out.fr (k);have g2:=HSr.out.fr (k+1);have l3:(wr.setCell ⟨B,k,none⟩ (.slice yA yn yc)).cell? ⟨B,k+1,none⟩=some (.slice yA yn yc):=(World.cell?_setCell_other wr ⟨B,k,none⟩ ⟨B,k+1,none⟩ (.slice yA yn yc) (by intro e;injection e with _ e;omega)).trans l2
      have HS3:=hj_ (HSr.out.swap (i:=k) (j:=k+1) o_ o_ (.slice xA xn xc) (.slice yA yn yc)).drew
      clear hx hy;go_wp2_with fail
      go_big_region_o
      clear l1 l2 l3 g1 g2;generalize ((wr.setCell ⟨B,k,none⟩ (Value.slice yA yn yc)).setCell ⟨B,k+1,none⟩ (Value.slice xA xn xc)).drew=w3 at HS3 ⊢;go_wp2_with fail
      go_roundw
      case rel=>exact ⟨k+1,_,by go_num,o_,o_,HMv2.out,HS3.out⟩
      case measure=>simp [intOf];omega
     ·have hik:i=k+1:=by omega
      have hz2:¬ (k:Int)<((i-1:Nat):Int):=o_
      go_wp2_with fail;clear hz2 k3 hltz hai hij;subst hik
      (try simp only [Exit.inBlock,Exit.then]);refine bodyPost_ret (results_none rfl _ _ _) rfl ?_
      exact ⟨rfl,d1,rot_pi HMv.out lr_ o_ o_ hjb,ins_up o_ hjb (List.getElem?_eq_getElem o_) HSb.out (fun q y h1 h2 hy=>HA.out _ _ (P1.out q y _ h1 h2 hy (List.getElem?_eq_getElem o_))) (fun q y h1 h2 hy=>P2.out q y _ h1 h2 hy (List.getElem?_eq_getElem o_)) HMv.out,HSr.out⟩
 by_cases e2:b=m+1
 ·subst e2
  have k0:IntKind.i64.wrap ((m:Int)-(a:Int))=((m-a:Nat):Int):=by rw [show ((m-a:Nat):Int)=(m:Int)-(a:Int) by omega];exact IntWalk.i64_in _ o_
  obtain ⟨ma,hma⟩:=ex_ (m-a);rw [← hma] at k0;have k9:((ma:Int) == 1)=false:=beq_eq_false_iff_ne.2 o_
  clear hma;have k1:IntKind.i64.wrap (((m+1:Nat):Int)-(m:Int))=1:=by rw [show ((m+1:Nat):Int)-(m:Int)=1 by omega];rfl
  have k2:(m:Int)<(len:Int):=o_
  go_enter func111,ntmps111
  rw [show ((m+1:Nat):Int)=(m:Int)+1 by omega] at *
  go_wp2_with fail
  go_loopw [14,15] (fun iv jv wr=>∃ (i j:Nat),iv=.int .i64 i∧jv=.int .i64 j∧a≤i∧i≤j∧j≤m∧Hid (∀ (q:Nat) y z,a≤q→q<i→d[q]? = some y→d[m]? = some z→0≤cf z y)∧Hid (∀ (q:Nat) y z,j≤q→q<m→d[q]? = some y→d[m]? = some z→cf z y<0)∧SR w0 B t sp d wr) (fun iv jv _=>(intOf jv-intOf iv).toNat)
  case atStart=>exact ⟨a,m,rfl,rfl,Nat.le_refl _,o_,Nat.le_refl _,hj_ (fun q y z h1 h2=>o_),hj_ (fun q y z h1 h2=>o_),HS0.out⟩
  case round =>
   obtain ⟨i,j,rfl,rfl,hai,hij,hjb,P1,P2,hs⟩:=hrel;have HSr:=hj_ hs;clear hs
   by_cases hlt:i<j
   ·have hltz:(i:Int)<(j:Int):=by omega
    have q1:(0:Int)≤((i:Int)+(j:Int)) / 2:=o_
    have q2:((i:Int)+(j:Int)) / 2<(len:Int):=o_
    have q3:(((i:Int)+(j:Int)) / 2).toNat=(i+j) / 2:=o_
    have q4:IntKind.i64.wrap (((i:Int)+(j:Int)) / 2)=((i:Int)+(j:Int)) / 2:=IntWalk.i64_in _ o_
    obtain ⟨x,hx⟩:∃ x,d[m]? = some x:=⟨_,List.getElem?_eq_getElem o_⟩
    obtain ⟨y,hy⟩:∃ y,d[(i+j) / 2]? = some y:=⟨_,List.getElem?_eq_getElem o_⟩
    have HCxy:=hj_ (fun w' (h:SR w0 B t sp d w')=>HC.out w' h.gr x (HP0.out.subset (List.mem_of_getElem? hx)) y (HP0.out.subset (List.mem_of_getElem? hy)))
    have HSd:=hj_ (HSr.out.drewN 1);have l1:=HSd.out.cell hx;have l2:=HSd.out.cell hy;go_wp2_with fail;refine wp_region_held_drew (S:=fun w'=>w'.cell? ⟨B,m,none⟩=some x∧w'.cell? ⟨B,(i+j) / 2,none⟩=some y) k_ ⟨l1,l2⟩ (fun hHeld=>?_)
    refine tq 0 ?_;refine tq 1 ?_;refine tq 2 ?_;refine tq 3 ?_;refine tq 4 ?_;refine tq 5 ?_;refine tq 6 ?_;refine tq 7 ?_;refine tq 8 ?_;refine tr 9 fun K hK=>?_
    go_simp
    go_at_fn g;refine (HCxy.out _ HSd.out).mono ?_;rintro e w2 ⟨rfl,hb⟩;have hS2:=HSd.out.below hb;have HS2:=hj_ hS2;have l1:=hS2.cell hx;have l2:=hS2.cell hy;clear hS2 hb
    go_wp2_with fail;refine hK.out _ _ ⟨l1,l2⟩ (fun hHeld=>?_)
    clear hK K;refine tq 10 ?_;refine tq 11 ?_;refine wpAnyH_done k_ ?_ _
    by_cases hc:cf x y<0
    ·rw [decide_eq_true hc]
     have R1:=hj_ (fun (q:Nat) u z (h1:(i+j) / 2≤q) (h2:q<m) (hq:d[q]? = some u) (hz:d[m]? = some z)=>show cf z u<0 from by
      rw [hx] at hz;injection hz with hz;subst hz
      exact seg_dl HT.out HSa.out hy hq hc o_ h1 h2)
     clear l1 l2 hc hx hy;go_wp2_with fail
     go_roundw
     case rel=>exact ⟨i,(i+j) / 2,rfl,by rw [show ((i:Int)+(j:Int)) / 2=(((i+j) / 2:Nat):Int) by omega],hai,o_,o_,P1,R1,HS2.out⟩
     case measure=>simp [intOf];omega
    ·rw [decide_eq_false hc]
     have R1:=hj_ (fun (q:Nat) u z (h1:a≤q) (h2:q<(i+j) / 2+1) (hq:d[q]? = some u) (hz:d[m]? = some z)=>show 0≤cf z u from by
      rw [hx] at hz;injection hz with hz;subst hz
      exact seg_dg HT.out HSa.out hy hq (Int.not_lt.1 hc) h1 o_ o_)
     clear l1 l2 hc hx hy;go_wp2_with fail
     go_roundw
     case rel=>exact ⟨(i+j) / 2+1,j,by rw [show ((i:Int)+(j:Int)) / 2+1=(((i+j) / 2+1:Nat):Int) by omega],rfl,o_,o_,hjb,R1,P2,HS2.out⟩
     case measure=>simp [intOf];omega
   ·obtain rfl:i=j:=by omega
    have hltz:¬ (i:Int)<(i:Int):=o_
    rename World=>V1
    go_wp2_with fail
    go_loopw [17] (fun kv wr=>∃ (k:Nat) (d1:List Value),kv=.int .i64 k∧i≤k∧k≤m∧Mv (rotI k m (m+1)) d d1∧SR w0 B t sp d1 wr) (fun kv _=>(intOf kv).toNat-i)
    case atStart=>exact ⟨m,d,rfl,o_,Nat.le_refl _,Mv.refl d (fun q=>q0he m (m+1) q),HSr.out⟩
    case round =>
     obtain ⟨k,d1,rfl,hik,hkm,hmv,hs⟩:=hrel;have HMv:=hj_ hmv;have HSr:=hj_ hs;have hl1:d1.length=len:=hmv.len.trans hld;clear hmv hs
     by_cases hlt2:i<k
     ·have hz2:(i:Int)<(k:Int):=by omega
      have q1:(0:Int)≤((k-1:Nat):Int):=o_
      have q2:((k-1:Nat):Int)<(len:Int):=o_
      have q4:IntKind.i64.wrap ((k:Int)-1)=((k-1:Nat):Int):=by rw [show ((k-1:Nat):Int)=(k:Int)-1 by omega];exact IntWalk.i64_in _ o_
      have q5:(k:Int)<(len:Int):=o_
      obtain ⟨x,hx⟩:∃ x,d1[k]? = some x:=⟨_,List.getElem?_eq_getElem o_⟩
      obtain ⟨y,hy⟩:∃ y,d1[k-1]? = some y:=⟨_,List.getElem?_eq_getElem o_⟩
      obtain ⟨xA,xn,xc,rfl⟩:=H1.out x (HP0.out.subset (HMv.out.perm.subset (List.mem_of_getElem? hx)));obtain ⟨yA,yn,yc,rfl⟩:=H1.out y (HP0.out.subset (HMv.out.perm.subset (List.mem_of_getElem? hy)));have HMv2:=hj_ (q0hg o_ hkm HMv.out hx hy)
      have l1:=HSr.out.cell hx;have l2:=HSr.out.cell hy;have g1:=HSr.out.fr (k);have g2:=HSr.out.fr (k-1);have l3:(wr.setCell ⟨B,k,none⟩ (.slice yA yn yc)).cell? ⟨B,k-1,none⟩=some (.slice yA yn yc):=(World.cell?_setCell_other wr ⟨B,k,none⟩ ⟨B,k-1,none⟩ (.slice yA yn yc) (by intro e;injection e with _ e;omega)).trans l2
      have HS3:=hj_ (HSr.out.swap (i:=k) (j:=k-1) o_ o_ (.slice xA xn xc) (.slice yA yn yc)).drew
      clear hx hy;go_wp2_with fail
      go_big_region_o
      clear l1 l2 l3 g1 g2;generalize ((wr.setCell ⟨B,k,none⟩ (Value.slice yA yn yc)).setCell ⟨B,k-1,none⟩ (Value.slice xA xn xc)).drew=w3 at HS3 ⊢;go_wp2_with fail
      go_roundw
      case rel=>exact ⟨k-1,_,rfl,o_,o_,HMv2.out,HS3.out⟩
      case measure=>simp [intOf];omega
     ·have hik2:i=k:=by omega
      have hz2:¬ (i:Int)<(k:Int):=o_
      go_wp2_with fail;clear hz2 hltz hij;subst hik2
      (try simp only [Exit.inBlock,Exit.then]);refine bodyPost_ret (results_none rfl _ _ _) rfl ?_
      exact ⟨rfl,d1,rot_pi HMv.out hai hkm o_ lr_,q0fh hai hkm (List.getElem?_eq_getElem o_) HSa.out (fun q y h1 h2 hy=>P1.out q y _ h1 h2 hy (List.getElem?_eq_getElem o_)) (fun q y h1 h2 hy=>HA.out _ _ (P2.out q y _ h1 h2 hy (List.getElem?_eq_getElem o_))) HMv.out,HSr.out⟩
 obtain ⟨ma,hma⟩:=ex_ (m-a);obtain ⟨bm,hbm⟩:=ex_ (b-m);obtain ⟨mid,hmid⟩:=ex_ ((a+b) / 2);obtain ⟨nn,hnn⟩:=ex_ (mid+m);obtain ⟨pp,hpp⟩:=ex_ (nn-1);have k0:IntKind.i64.wrap ((m:Int)-(a:Int))=(ma:Int):=by rw [show (m:Int)-(a:Int)=(ma:Int) by omega];exact IntWalk.i64_in _ o_
 have k1:IntKind.i64.wrap ((b:Int)-(m:Int))=(bm:Int):=by rw [show (b:Int)-(m:Int)=(bm:Int) by omega];exact IntWalk.i64_in _ o_
 have k9:((ma:Int) == 1)=false:=beq_eq_false_iff_ne.2 o_
 have k10:((bm:Int) == 1)=false:=beq_eq_false_iff_ne.2 o_
 have k11:((a:Int)+(b:Int)) / 2=(mid:Int):=o_
 have k11b:IntKind.i64.wrap (mid:Int)=(mid:Int):=IntWalk.i64_in _ o_
 have k12:IntKind.i64.wrap ((mid:Int)+(m:Int))=(nn:Int):=by rw [show (mid:Int)+(m:Int)=(nn:Int) by omega];exact IntWalk.i64_in _ o_
 have k13:IntKind.i64.wrap ((nn:Int)-1)=(pp:Int):=by rw [show (nn:Int)-1=(pp:Int) by omega];exact IntWalk.i64_in _ o_
 by_cases hmm:mid<m
 ·obtain ⟨s0,hs0⟩:=ex_ (nn-b)
  obtain ⟨r0,hr0⟩:=ex_ mid;have k14:IntKind.i64.wrap ((nn:Int)-(b:Int))=(s0:Int):=by rw [show (nn:Int)-(b:Int)=(s0:Int) by omega];exact IntWalk.i64_in _ o_
  have k15:(mid:Int)<(m:Int):=o_
  have HF:=hj_ (show mid=(a+b) / 2∧nn=mid+m∧pp=nn-1∧s0=nn-b∧r0=mid∧mid<m from ⟨hmid,hnn,hpp,hs0,hr0,hmm⟩)
  have k16:s0≤r0∧r0≤m∧r0≤mid:=o_
  clear hma hbm hnn hpp hs0 hr0 hmid hmm
  go_enter func111,ntmps111
  go_wp2_with fail
  go_loopw [20,21] (fun iv jv wr=>∃ (i j:Nat),iv=.int .i64 i∧jv=.int .i64 j∧s0≤i∧i≤j∧j≤r0∧Hid (i=s0∨∃ x y,d[i-1]? = some x∧d[nn-i]? = some y∧0≤cf y x)∧Hid (j=r0∨∃ x y,d[nn-1-j]? = some x∧d[j]? = some y∧cf x y<0)∧SR w0 B t sp d wr) (fun iv jv _=>(intOf jv-intOf iv).toNat)
  case atStart=>exact ⟨s0,r0,rfl,by rw [HF.out.2.2.2.2.1],Nat.le_refl _,k16.1,Nat.le_refl _,hj_ (Or.inl rfl),hj_ (Or.inl rfl),HS0.out⟩
  case round =>
   obtain ⟨i,j,rfl,rfl,hai,hij,hjb,P1,P2,hs⟩:=hrel;have HSr:=hj_ hs;clear hs
   by_cases hlt:i<j
   ·have hltz:(i:Int)<(j:Int):=by omega
    have hF:=HF.out;obtain ⟨ch,hch⟩:=ex_ ((i+j) / 2);obtain ⟨pc,hpc⟩:=ex_ (nn-1-ch);have q0:((i:Int)+(j:Int)) / 2=(ch:Int):=o_
    have q1:(0:Int)≤(ch:Int):=o_
    have q2:(ch:Int)<(len:Int):=o_
    have q3:IntKind.i64.wrap (ch:Int)=(ch:Int):=IntWalk.i64_in _ o_
    have q4:IntKind.i64.wrap ((pp:Int)-(ch:Int))=(pc:Int):=by rw [show (pp:Int)-(ch:Int)=(pc:Int) by omega];exact IntWalk.i64_in _ o_
    have q5:(0:Int)≤(pc:Int):=o_
    have q6:(pc:Int)<(len:Int):=o_
    have HCh:=hj_ (show ch=(i+j) / 2∧pc=nn-1-ch∧nn-(ch+1)=pc∧i≤ch∧ch<j from ⟨hch,hpc,o_,o_,o_⟩)
    obtain ⟨x,hx⟩:∃ x,d[pc]? = some x:=⟨_,List.getElem?_eq_getElem o_⟩
    obtain ⟨y,hy⟩:∃ y,d[ch]? = some y:=⟨_,List.getElem?_eq_getElem o_⟩
    have HCxy:=hj_ (fun w' (h:SR w0 B t sp d w')=>HC.out w' h.gr x (HP0.out.subset (List.mem_of_getElem? hx)) y (HP0.out.subset (List.mem_of_getElem? hy)))
    have HSd:=hj_ (HSr.out.drewN 1);have l1:=HSd.out.cell hx;have l2:=HSd.out.cell hy;clear hF hch hpc;go_wp2_with fail;refine wp_region_held_drew (S:=fun w'=>w'.cell? ⟨B,pc,none⟩=some x∧w'.cell? ⟨B,ch,none⟩=some y) k_ ⟨l1,l2⟩ (fun hHeld=>?_)
    refine tq 0 ?_;refine tq 1 ?_;refine tq 2 ?_;refine tq 3 ?_;refine tq 4 ?_;refine tq 5 ?_;refine tq 6 ?_;refine tq 7 ?_;refine tq 8 ?_;refine tq 9 ?_;refine tq 10 ?_;refine tr 11 fun K hK=>?_
    go_simp
    go_at_fn g;refine (HCxy.out _ HSd.out).mono ?_;rintro e w2 ⟨rfl,hb⟩;have hS2:=HSd.out.below hb;have HS2:=hj_ hS2;have l1:=hS2.cell hx;have l2:=hS2.cell hy;clear hS2 hb
    go_wp2_with fail;refine hK.out _ _ ⟨l1,l2⟩ (fun hHeld=>?_)
    clear hK K;refine tq 12 ?_;refine tq 13 ?_;refine wpAnyH_done k_ ?_ _
    by_cases hc:cf x y<0
    ·rw [decide_eq_true hc]
     have R1:=hj_ (show ch=r0∨∃ x y,d[nn-1-ch]? = some x∧d[ch]? = some y∧cf x y<0 from Or.inr ⟨x,y,by rw [← HCh.out.2.1];exact hx,hy,hc⟩)
     clear l1 l2 hc hx hy;go_wp2_with fail
     go_roundw
     case rel=>exact ⟨i,ch,rfl,rfl,hai,HCh.out.2.2.2.1,by have:=HCh.out;omega,P1,R1,HS2.out⟩
     case measure=>have:=HCh.out;simp [intOf];omega
    ·rw [decide_eq_false hc]
     have R1:=hj_ (show ch+1=s0∨∃ x y,d[ch+1-1]? = some x∧d[nn-(ch+1)]? = some y∧0≤cf y x from Or.inr ⟨y,x,hy,by rw [HCh.out.2.2.1];exact hx,Int.not_lt.1 hc⟩)
     clear l1 l2 hc hx hy;go_wp2_with fail
     go_roundw
     case rel=>exact ⟨ch+1,j,by go_num,rfl,by have:=HCh.out;omega,by have:=HCh.out;omega,hjb,R1,P2,HS2.out⟩
     case measure=>have:=HCh.out;simp [intOf];omega
   ·obtain rfl:i=j:=by omega
    obtain ⟨s,rfl⟩:=ex_ i;have hF:=HF.out;have hltz:¬ (s:Int)<(s:Int):=o_
    obtain ⟨e,he⟩:=ex_ (nn-s);have k17:IntKind.i64.wrap ((nn:Int)-(s:Int))=(e:Int):=by rw [show (nn:Int)-(s:Int)=(e:Int) by omega];exact IntWalk.i64_in _ o_
    have HFe:=hj_ (show mid=s+(e-m)∧a≤s∧s≤m∧m≤e∧e≤b∧a<mid∧mid<b∧b≤len∧s≤mid∧mid≤e from ⟨o_,o_,o_,o_,o_,o_,o_,hb,o_,o_⟩)
    have C1:=hj_ (show s=a∨e=b∨∃ x y,d[s-1]? = some x∧d[e]? = some y∧0≤cf y x from by
     rcases P1.out with h | h
     ·exact Or.inr (Or.inl o_)
     ·exact Or.inr (Or.inr (by rw [he];exact h)))
    have C2:=hj_ (show s=m∨e=m∨∃ x y,d[e-1]? = some x∧d[s]? = some y∧0≤cf y x from by
     rcases P2.out with h | ⟨x,y,h1,h2,h3⟩
     ·exact Or.inr (Or.inl o_)
     ·exact Or.inr (Or.inr ⟨x,y,by rw [show e-1=nn-1-s by omega];exact h1,h2,HA.out _ _ h3⟩))
    have HRot:=hj_ (fun (s m e:Nat) (w':World) (hs:SR w0 B t sp d w') h1 h2 (h3:e≤len)=>(show Calls prog 159 #[.slice (some ⟨B,0,none⟩) len c,.int .i64 s,.int .i64 m,.int .i64 e,.func (.func g) #[] cb] w' fun e' w''=>e' = .returned (.tuple #[])∧∃ d',Mv (rotI s m e) d d'∧SR w0 B t sp d' w'' from by
     rw [← hld];exact q0iq _ B c t sp w0 s m e d w' hs h1 h2 o_ o_ (fun x hx=>H1.out x (HP0.out.subset hx))))
    clear hF he;have bM:s<m:=by have:=HF.out;omega
    by_cases bD:s<mid
    ·by_cases bA:a<s
     ·by_cases bE:e<b
      ·have zM:(s:Int)<(m:Int):=by omega
       have zD1:(m:Int)<(e:Int):=by have:=HFe.out;omega
       have zA:(a:Int)<(s:Int):=o_
       have zD2:(s:Int)<(mid:Int):=o_
       have zM2:(mid:Int)<(e:Int):=by have:=HFe.out;omega
       have zE:(e:Int)<(b:Int):=o_
       go_wp2_with fail;refine (HRot.out s m e _ HSr.out o_ (oh_ HFe.out) (oh_ HFe.out)).mono ?_
       rintro e9 w1 ⟨rfl,d1,hmv,hs1⟩;have HS1:=hj_ hs1;clear hs1;have HQ:=hj_ (lf1 HT.out hmv HFe.out HSa.out HSb.out C1.out C2.out);clear hmv;go_wp2_with fail;refine (HRec.out a s mid d1 _ (by have:=HN.out;have:=HFe.out;omega) HS1.out (HQ.out.1.perm.trans HP0.out) o_ o_ (oh_ HFe.out) HQ.out.2.1 HQ.out.2.2.1).mono ?_
       rintro e9 w2 ⟨rfl,d2,hp2,hl2,hs2⟩;have HP2:=hj_ hp2;have HL2:=hj_ hl2;have HS2:=hj_ hs2;clear hp2 hl2 hs2;go_wp2_with fail;refine (HRec.out mid e b d2 _ (by have:=HN.out;have:=HFe.out;omega) HS2.out ((HP2.out.perm.trans HQ.out.1.perm).trans HP0.out) (oh_ HFe.out) o_ o_ (lf2 HFe.out HQ.out HP2.out).1 (lf2 HFe.out HQ.out HP2.out).2).mono ?_
       rintro e9 w3 ⟨rfl,d3,hp3,hl3,hs3⟩;have HP3:=hj_ hp3;have HL3:=hj_ hl3;have HS3:=hj_ hs3;clear hp3 hl3 hs3;go_wp2_with fail
       go_end0
       obtain ⟨u1,u2⟩:=lf3 HFe.out HQ.out HP2.out HP3.out HL2.out HL3.out;exact ⟨rfl,d3,u1,u2,HS3.out⟩
      ·have zM:(s:Int)<(m:Int):=by omega
       have zD1:(m:Int)<(e:Int):=by have:=HFe.out;omega
       have zA:(a:Int)<(s:Int):=o_
       have zD2:(s:Int)<(mid:Int):=o_
       have zM2:(mid:Int)<(e:Int):=by have:=HFe.out;omega
       have zE:¬ (e:Int)<(b:Int):=o_
       go_wp2_with fail;refine (HRot.out s m e _ HSr.out o_ (oh_ HFe.out) (oh_ HFe.out)).mono ?_
       rintro e9 w1 ⟨rfl,d1,hmv,hs1⟩;have HS1:=hj_ hs1;clear hs1;have HQ:=hj_ (lf1 HT.out hmv HFe.out HSa.out HSb.out C1.out C2.out);clear hmv;go_wp2_with fail;refine (HRec.out a s mid d1 _ (by have:=HN.out;have:=HFe.out;omega) HS1.out (HQ.out.1.perm.trans HP0.out) o_ o_ (oh_ HFe.out) HQ.out.2.1 HQ.out.2.2.1).mono ?_
       rintro e9 w2 ⟨rfl,d2,hp2,hl2,hs2⟩;have HP2:=hj_ hp2;have HL2:=hj_ hl2;have HS2:=hj_ hs2;clear hp2 hl2 hs2;have HL3:=hj_ (show SegS cf mid b d2 by have h:=(lf2 HFe.out HQ.out HP2.out).1;rw [show b=e by have:=HFe.out;omega];exact h)
       go_wp2_with fail
       go_end0
       obtain ⟨u1,u2⟩:=lf3 HFe.out HQ.out HP2.out (PI.refl mid b d2) HL2.out HL3.out;exact ⟨rfl,d2,u1,u2,HS2.out⟩
     ·by_cases bE:e<b
      ·have zM:(s:Int)<(m:Int):=by omega
       have zD1:(m:Int)<(e:Int):=by have:=HFe.out;omega
       have zA:¬ (a:Int)<(s:Int):=o_
       have zM2:(mid:Int)<(e:Int):=by have:=HFe.out;omega
       have zE:(e:Int)<(b:Int):=o_
       go_wp2_with fail;refine (HRot.out s m e _ HSr.out o_ (oh_ HFe.out) (oh_ HFe.out)).mono ?_
       rintro e9 w1 ⟨rfl,d1,hmv,hs1⟩;have HS1:=hj_ hs1;clear hs1;have HQ:=hj_ (lf1 HT.out hmv HFe.out HSa.out HSb.out C1.out C2.out);clear hmv;have HL2:=hj_ (show SegS cf a mid d1 by rw [show a=s by have:=HFe.out;omega];exact HQ.out.2.2.1)
       go_wp2_with fail;refine (HRec.out mid e b d1 _ (by have:=HN.out;have:=HFe.out;omega) HS1.out (((PI.refl a mid d1).perm.trans HQ.out.1.perm).trans HP0.out) (oh_ HFe.out) o_ o_ (lf2 HFe.out HQ.out (PI.refl a mid d1)).1 (lf2 HFe.out HQ.out (PI.refl a mid d1)).2).mono ?_
       rintro e9 w3 ⟨rfl,d3,hp3,hl3,hs3⟩;have HP3:=hj_ hp3;have HL3:=hj_ hl3;have HS3:=hj_ hs3;clear hp3 hl3 hs3;go_wp2_with fail
       go_end0
       obtain ⟨u1,u2⟩:=lf3 HFe.out HQ.out (PI.refl a mid d1) HP3.out HL2.out HL3.out;exact ⟨rfl,d3,u1,u2,HS3.out⟩
      ·have zM:(s:Int)<(m:Int):=by omega
       have zD1:(m:Int)<(e:Int):=by have:=HFe.out;omega
       have zA:¬ (a:Int)<(s:Int):=o_
       have zM2:(mid:Int)<(e:Int):=by have:=HFe.out;omega
       have zE:¬ (e:Int)<(b:Int):=o_
       go_wp2_with fail;refine (HRot.out s m e _ HSr.out o_ (oh_ HFe.out) (oh_ HFe.out)).mono ?_
       rintro e9 w1 ⟨rfl,d1,hmv,hs1⟩;have HS1:=hj_ hs1;clear hs1;have HQ:=hj_ (lf1 HT.out hmv HFe.out HSa.out HSb.out C1.out C2.out);clear hmv;have HL2:=hj_ (show SegS cf a mid d1 by rw [show a=s by have:=HFe.out;omega];exact HQ.out.2.2.1)
       have HL3:=hj_ (show SegS cf mid b d1 by have h:=(lf2 HFe.out HQ.out (PI.refl a mid d1)).1;rw [show b=e by have:=HFe.out;omega];exact h)
       go_wp2_with fail
       go_end0
       obtain ⟨u1,u2⟩:=lf3 HFe.out HQ.out (PI.refl a mid d1) (PI.refl mid b d1) HL2.out HL3.out;exact ⟨rfl,d1,u1,u2,HS1.out⟩
    ·by_cases bA:a<s
     ·by_cases bE:e<b
      ·have zM:(s:Int)<(m:Int):=by omega
       have zD1:¬ (m:Int)<(e:Int):=by have:=HFe.out;omega
       have zA:(a:Int)<(s:Int):=o_
       have zD2:¬ (s:Int)<(mid:Int):=o_
       have zM2:(mid:Int)<(e:Int):=by have:=HFe.out;omega
       have zE:(e:Int)<(b:Int):=o_
       go_wp2_with fail;have hmv:Mv (rotI s m e) d d:=Mv.refl d (fun q=>by have h:=HFe.out;rw [show e=m by omega];exact q0hf s m q)
       have HQ:=hj_ (lf1 HT.out hmv HFe.out HSa.out HSb.out C1.out C2.out);clear hmv;have HL2:=hj_ (show SegS cf a mid d by rw [show mid=s by omega];exact HQ.out.2.1)
       refine (HRec.out mid e b d _ (by have:=HN.out;have:=HFe.out;omega) HSr.out (((PI.refl a mid d).perm.trans HQ.out.1.perm).trans HP0.out) (oh_ HFe.out) o_ o_ (lf2 HFe.out HQ.out (PI.refl a mid d)).1 (lf2 HFe.out HQ.out (PI.refl a mid d)).2).mono ?_
       rintro e9 w3 ⟨rfl,d3,hp3,hl3,hs3⟩;have HP3:=hj_ hp3;have HL3:=hj_ hl3;have HS3:=hj_ hs3;clear hp3 hl3 hs3;go_wp2_with fail
       go_end0
       obtain ⟨u1,u2⟩:=lf3 HFe.out HQ.out (PI.refl a mid d) HP3.out HL2.out HL3.out;exact ⟨rfl,d3,u1,u2,HS3.out⟩
      ·have zM:(s:Int)<(m:Int):=by omega
       have zD1:¬ (m:Int)<(e:Int):=by have:=HFe.out;omega
       have zA:(a:Int)<(s:Int):=o_
       have zD2:¬ (s:Int)<(mid:Int):=o_
       have zM2:(mid:Int)<(e:Int):=by have:=HFe.out;omega
       have zE:¬ (e:Int)<(b:Int):=o_
       go_wp2_with fail;have hmv:Mv (rotI s m e) d d:=Mv.refl d (fun q=>by have h:=HFe.out;rw [show e=m by omega];exact q0hf s m q)
       have HQ:=hj_ (lf1 HT.out hmv HFe.out HSa.out HSb.out C1.out C2.out);clear hmv;have HL2:=hj_ (show SegS cf a mid d by rw [show mid=s by omega];exact HQ.out.2.1)
       have HL3:=hj_ (show SegS cf mid b d by have h:=(lf2 HFe.out HQ.out (PI.refl a mid d)).1;rw [show b=e by have:=HFe.out;omega];exact h)
       go_end0
       obtain ⟨u1,u2⟩:=lf3 HFe.out HQ.out (PI.refl a mid d) (PI.refl mid b d) HL2.out HL3.out;exact ⟨rfl,d,u1,u2,HSr.out⟩
     ·by_cases bE:e<b
      ·have zM:(s:Int)<(m:Int):=by omega
       have zD1:¬ (m:Int)<(e:Int):=by have:=HFe.out;omega
       have zA:¬ (a:Int)<(s:Int):=o_
       have zM2:(mid:Int)<(e:Int):=by have:=HFe.out;omega
       have zE:(e:Int)<(b:Int):=o_
       go_wp2_with fail;have hmv:Mv (rotI s m e) d d:=Mv.refl d (fun q=>by have h:=HFe.out;rw [show e=m by omega];exact q0hf s m q)
       have HQ:=hj_ (lf1 HT.out hmv HFe.out HSa.out HSb.out C1.out C2.out);clear hmv;have HL2:=hj_ (show SegS cf a mid d by rw [show a=s by have:=HFe.out;omega];exact HQ.out.2.2.1)
       refine (HRec.out mid e b d _ (by have:=HN.out;have:=HFe.out;omega) HSr.out (((PI.refl a mid d).perm.trans HQ.out.1.perm).trans HP0.out) (oh_ HFe.out) o_ o_ (lf2 HFe.out HQ.out (PI.refl a mid d)).1 (lf2 HFe.out HQ.out (PI.refl a mid d)).2).mono ?_
       rintro e9 w3 ⟨rfl,d3,hp3,hl3,hs3⟩;have HP3:=hj_ hp3;have HL3:=hj_ hl3;have HS3:=hj_ hs3;clear hp3 hl3 hs3;go_wp2_with fail
       go_end0
       obtain ⟨u1,u2⟩:=lf3 HFe.out HQ.out (PI.refl a mid d) HP3.out HL2.out HL3.out;exact ⟨rfl,d3,u1,u2,HS3.out⟩
      ·have zM:(s:Int)<(m:Int):=by omega
       have zD1:¬ (m:Int)<(e:Int):=by have:=HFe.out;omega
       have zA:¬ (a:Int)<(s:Int):=o_
       have zM2:(mid:Int)<(e:Int):=by have:=HFe.out;omega
       have zE:¬ (e:Int)<(b:Int):=o_
       go_wp2_with fail;have hmv:Mv (rotI s m e) d d:=Mv.refl d (fun q=>by have h:=HFe.out;rw [show e=m by omega];exact q0hf s m q)
       have HQ:=hj_ (lf1 HT.out hmv HFe.out HSa.out HSb.out C1.out C2.out);clear hmv;have HL2:=hj_ (show SegS cf a mid d by rw [show a=s by have:=HFe.out;omega];exact HQ.out.2.2.1)
       have HL3:=hj_ (show SegS cf mid b d by have h:=(lf2 HFe.out HQ.out (PI.refl a mid d)).1;rw [show b=e by have:=HFe.out;omega];exact h)
       go_end0
       obtain ⟨u1,u2⟩:=lf3 HFe.out HQ.out (PI.refl a mid d) (PI.refl mid b d) HL2.out HL3.out;exact ⟨rfl,d,u1,u2,HSr.out⟩
 ·obtain ⟨s0,hs0⟩:=ex_ a
  obtain ⟨r0,hr0⟩:=ex_ m;have k15:¬ (mid:Int)<(m:Int):=o_
  have HF:=hj_ (show mid=(a+b) / 2∧nn=mid+m∧pp=nn-1∧s0=a∧r0=m∧¬ mid<m from ⟨hmid,hnn,hpp,hs0,hr0,hmm⟩)
  have k16:s0≤r0∧r0≤m∧r0≤mid:=o_
  clear hma hbm hnn hpp hs0 hr0 hmid hmm
  go_enter func111,ntmps111
  go_wp2_with fail
  go_loopw [20,21] (fun iv jv wr=>∃ (i j:Nat),iv=.int .i64 i∧jv=.int .i64 j∧s0≤i∧i≤j∧j≤r0∧Hid (i=s0∨∃ x y,d[i-1]? = some x∧d[nn-i]? = some y∧0≤cf y x)∧Hid (j=r0∨∃ x y,d[nn-1-j]? = some x∧d[j]? = some y∧cf x y<0)∧SR w0 B t sp d wr) (fun iv jv _=>(intOf jv-intOf iv).toNat)
  case atStart=>exact ⟨s0,r0,by rw [HF.out.2.2.2.1],by rw [HF.out.2.2.2.2.1],Nat.le_refl _,k16.1,Nat.le_refl _,hj_ (Or.inl rfl),hj_ (Or.inl rfl),HS0.out⟩
  case round =>
   obtain ⟨i,j,rfl,rfl,hai,hij,hjb,P1,P2,hs⟩:=hrel;have HSr:=hj_ hs;clear hs
   by_cases hlt:i<j
   ·have hltz:(i:Int)<(j:Int):=by omega
    have hF:=HF.out;obtain ⟨ch,hch⟩:=ex_ ((i+j) / 2);obtain ⟨pc,hpc⟩:=ex_ (nn-1-ch);have q0:((i:Int)+(j:Int)) / 2=(ch:Int):=o_
    have q1:(0:Int)≤(ch:Int):=o_
    have q2:(ch:Int)<(len:Int):=o_
    have q3:IntKind.i64.wrap (ch:Int)=(ch:Int):=IntWalk.i64_in _ o_
    have q4:IntKind.i64.wrap ((pp:Int)-(ch:Int))=(pc:Int):=by rw [show (pp:Int)-(ch:Int)=(pc:Int) by omega];exact IntWalk.i64_in _ o_
    have q5:(0:Int)≤(pc:Int):=o_
    have q6:(pc:Int)<(len:Int):=o_
    have HCh:=hj_ (show ch=(i+j) / 2∧pc=nn-1-ch∧nn-(ch+1)=pc∧i≤ch∧ch<j from ⟨hch,hpc,o_,o_,o_⟩)
    obtain ⟨x,hx⟩:∃ x,d[pc]? = some x:=⟨_,List.getElem?_eq_getElem o_⟩
    obtain ⟨y,hy⟩:∃ y,d[ch]? = some y:=⟨_,List.getElem?_eq_getElem o_⟩
    have HCxy:=hj_ (fun w' (h:SR w0 B t sp d w')=>HC.out w' h.gr x (HP0.out.subset (List.mem_of_getElem? hx)) y (HP0.out.subset (List.mem_of_getElem? hy)))
    have HSd:=hj_ (HSr.out.drewN 1);have l1:=HSd.out.cell hx;have l2:=HSd.out.cell hy;clear hF hch hpc;go_wp2_with fail;refine wp_region_held_drew (S:=fun w'=>w'.cell? ⟨B,pc,none⟩=some x∧w'.cell? ⟨B,ch,none⟩=some y) k_ ⟨l1,l2⟩ (fun hHeld=>?_)
    refine tq 0 ?_;refine tq 1 ?_;refine tq 2 ?_;refine tq 3 ?_;refine tq 4 ?_;refine tq 5 ?_;refine tq 6 ?_;refine tq 7 ?_;refine tq 8 ?_;refine tq 9 ?_;refine tq 10 ?_;refine tr 11 fun K hK=>?_
    go_simp
    go_at_fn g;refine (HCxy.out _ HSd.out).mono ?_;rintro e w2 ⟨rfl,hb⟩;have hS2:=HSd.out.below hb;have HS2:=hj_ hS2;have l1:=hS2.cell hx;have l2:=hS2.cell hy;clear hS2 hb
    go_wp2_with fail;refine hK.out _ _ ⟨l1,l2⟩ (fun hHeld=>?_)
    clear hK K;refine tq 12 ?_;refine tq 13 ?_;refine wpAnyH_done k_ ?_ _
    by_cases hc:cf x y<0
    ·rw [decide_eq_true hc]
     have R1:=hj_ (show ch=r0∨∃ x y,d[nn-1-ch]? = some x∧d[ch]? = some y∧cf x y<0 from Or.inr ⟨x,y,by rw [← HCh.out.2.1];exact hx,hy,hc⟩)
     clear l1 l2 hc hx hy;go_wp2_with fail
     go_roundw
     case rel=>exact ⟨i,ch,rfl,rfl,hai,HCh.out.2.2.2.1,by have:=HCh.out;omega,P1,R1,HS2.out⟩
     case measure=>have:=HCh.out;simp [intOf];omega
    ·rw [decide_eq_false hc]
     have R1:=hj_ (show ch+1=s0∨∃ x y,d[ch+1-1]? = some x∧d[nn-(ch+1)]? = some y∧0≤cf y x from Or.inr ⟨y,x,hy,by rw [HCh.out.2.2.1];exact hx,Int.not_lt.1 hc⟩)
     clear l1 l2 hc hx hy;go_wp2_with fail
     go_roundw
     case rel=>exact ⟨ch+1,j,by go_num,rfl,by have:=HCh.out;omega,by have:=HCh.out;omega,hjb,R1,P2,HS2.out⟩
     case measure=>have:=HCh.out;simp [intOf];omega
   ·obtain rfl:i=j:=by omega
    obtain ⟨s,rfl⟩:=ex_ i;have hF:=HF.out;have hltz:¬ (s:Int)<(s:Int):=o_
    obtain ⟨e,he⟩:=ex_ (nn-s);have k17:IntKind.i64.wrap ((nn:Int)-(s:Int))=(e:Int):=by rw [show (nn:Int)-(s:Int)=(e:Int) by omega];exact IntWalk.i64_in _ o_
    have HFe:=hj_ (show mid=s+(e-m)∧a≤s∧s≤m∧m≤e∧e≤b∧a<mid∧mid<b∧b≤len∧s≤mid∧mid≤e from ⟨o_,o_,o_,o_,o_,o_,o_,hb,o_,o_⟩)
    have C1:=hj_ (show s=a∨e=b∨∃ x y,d[s-1]? = some x∧d[e]? = some y∧0≤cf y x from by
     rcases P1.out with h | h
     ·exact Or.inl o_
     ·exact Or.inr (Or.inr (by rw [he];exact h)))
    have C2:=hj_ (show s=m∨e=m∨∃ x y,d[e-1]? = some x∧d[s]? = some y∧0≤cf y x from by
     rcases P2.out with h | ⟨x,y,h1,h2,h3⟩
     ·exact Or.inl o_
     ·exact Or.inr (Or.inr ⟨x,y,by rw [show e-1=nn-1-s by omega];exact h1,h2,HA.out _ _ h3⟩))
    have HRot:=hj_ (fun (s m e:Nat) (w':World) (hs:SR w0 B t sp d w') h1 h2 (h3:e≤len)=>(show Calls prog 159 #[.slice (some ⟨B,0,none⟩) len c,.int .i64 s,.int .i64 m,.int .i64 e,.func (.func g) #[] cb] w' fun e' w''=>e' = .returned (.tuple #[])∧∃ d',Mv (rotI s m e) d d'∧SR w0 B t sp d' w'' from by
     rw [← hld];exact q0iq _ B c t sp w0 s m e d w' hs h1 h2 o_ o_ (fun x hx=>H1.out x (HP0.out.subset hx))))
    clear hF he
    by_cases bM:s<m
    ·by_cases bD:s<mid
     ·by_cases bA:a<s
      ·by_cases bE:e<b
       ·have zM:(s:Int)<(m:Int):=by omega
        have zD1:(m:Int)<(e:Int):=by have:=HFe.out;omega
        have zA:(a:Int)<(s:Int):=o_
        have zD2:(s:Int)<(mid:Int):=o_
        have zM2:(mid:Int)<(e:Int):=by have:=HFe.out;omega
        have zE:(e:Int)<(b:Int):=o_
        go_wp2_with fail;refine (HRot.out s m e _ HSr.out o_ (oh_ HFe.out) (oh_ HFe.out)).mono ?_
        rintro e9 w1 ⟨rfl,d1,hmv,hs1⟩;have HS1:=hj_ hs1;clear hs1;have HQ:=hj_ (lf1 HT.out hmv HFe.out HSa.out HSb.out C1.out C2.out);clear hmv;go_wp2_with fail;refine (HRec.out a s mid d1 _ (by have:=HN.out;have:=HFe.out;omega) HS1.out (HQ.out.1.perm.trans HP0.out) o_ o_ (oh_ HFe.out) HQ.out.2.1 HQ.out.2.2.1).mono ?_
        rintro e9 w2 ⟨rfl,d2,hp2,hl2,hs2⟩;have HP2:=hj_ hp2;have HL2:=hj_ hl2;have HS2:=hj_ hs2;clear hp2 hl2 hs2;go_wp2_with fail;refine (HRec.out mid e b d2 _ (by have:=HN.out;have:=HFe.out;omega) HS2.out ((HP2.out.perm.trans HQ.out.1.perm).trans HP0.out) (oh_ HFe.out) o_ o_ (lf2 HFe.out HQ.out HP2.out).1 (lf2 HFe.out HQ.out HP2.out).2).mono ?_
        rintro e9 w3 ⟨rfl,d3,hp3,hl3,hs3⟩;have HP3:=hj_ hp3;have HL3:=hj_ hl3;have HS3:=hj_ hs3;clear hp3 hl3 hs3;go_wp2_with fail
        go_end0
        obtain ⟨u1,u2⟩:=lf3 HFe.out HQ.out HP2.out HP3.out HL2.out HL3.out;exact ⟨rfl,d3,u1,u2,HS3.out⟩
       ·have zM:(s:Int)<(m:Int):=by omega
        have zD1:(m:Int)<(e:Int):=by have:=HFe.out;omega
        have zA:(a:Int)<(s:Int):=o_
        have zD2:(s:Int)<(mid:Int):=o_
        have zM2:(mid:Int)<(e:Int):=by have:=HFe.out;omega
        have zE:¬ (e:Int)<(b:Int):=o_
        go_wp2_with fail;refine (HRot.out s m e _ HSr.out o_ (oh_ HFe.out) (oh_ HFe.out)).mono ?_
        rintro e9 w1 ⟨rfl,d1,hmv,hs1⟩;have HS1:=hj_ hs1;clear hs1;have HQ:=hj_ (lf1 HT.out hmv HFe.out HSa.out HSb.out C1.out C2.out);clear hmv;go_wp2_with fail;refine (HRec.out a s mid d1 _ (by have:=HN.out;have:=HFe.out;omega) HS1.out (HQ.out.1.perm.trans HP0.out) o_ o_ (oh_ HFe.out) HQ.out.2.1 HQ.out.2.2.1).mono ?_
        rintro e9 w2 ⟨rfl,d2,hp2,hl2,hs2⟩;have HP2:=hj_ hp2;have HL2:=hj_ hl2;have HS2:=hj_ hs2;clear hp2 hl2 hs2;have HL3:=hj_ (show SegS cf mid b d2 by have h:=(lf2 HFe.out HQ.out HP2.out).1;rw [show b=e by have:=HFe.out;omega];exact h)
        go_wp2_with fail
        go_end0
        obtain ⟨u1,u2⟩:=lf3 HFe.out HQ.out HP2.out (PI.refl mid b d2) HL2.out HL3.out;exact ⟨rfl,d2,u1,u2,HS2.out⟩
      ·by_cases bE:e<b
       ·have zM:(s:Int)<(m:Int):=by omega
        have zD1:(m:Int)<(e:Int):=by have:=HFe.out;omega
        have zA:¬ (a:Int)<(s:Int):=o_
        have zM2:(mid:Int)<(e:Int):=by have:=HFe.out;omega
        have zE:(e:Int)<(b:Int):=o_
        go_wp2_with fail;refine (HRot.out s m e _ HSr.out o_ (oh_ HFe.out) (oh_ HFe.out)).mono ?_
        rintro e9 w1 ⟨rfl,d1,hmv,hs1⟩;have HS1:=hj_ hs1;clear hs1;have HQ:=hj_ (lf1 HT.out hmv HFe.out HSa.out HSb.out C1.out C2.out);clear hmv;have HL2:=hj_ (show SegS cf a mid d1 by rw [show a=s by have:=HFe.out;omega];exact HQ.out.2.2.1)
        go_wp2_with fail;refine (HRec.out mid e b d1 _ (by have:=HN.out;have:=HFe.out;omega) HS1.out (((PI.refl a mid d1).perm.trans HQ.out.1.perm).trans HP0.out) (oh_ HFe.out) o_ o_ (lf2 HFe.out HQ.out (PI.refl a mid d1)).1 (lf2 HFe.out HQ.out (PI.refl a mid d1)).2).mono ?_
        rintro e9 w3 ⟨rfl,d3,hp3,hl3,hs3⟩;have HP3:=hj_ hp3;have HL3:=hj_ hl3;have HS3:=hj_ hs3;clear hp3 hl3 hs3;go_wp2_with fail
        go_end0
        obtain ⟨u1,u2⟩:=lf3 HFe.out HQ.out (PI.refl a mid d1) HP3.out HL2.out HL3.out;exact ⟨rfl,d3,u1,u2,HS3.out⟩
       ·have zM:(s:Int)<(m:Int):=by omega
        have zD1:(m:Int)<(e:Int):=by have:=HFe.out;omega
        have zA:¬ (a:Int)<(s:Int):=o_
        have zM2:(mid:Int)<(e:Int):=by have:=HFe.out;omega
        have zE:¬ (e:Int)<(b:Int):=o_
        go_wp2_with fail;refine (HRot.out s m e _ HSr.out o_ (oh_ HFe.out) (oh_ HFe.out)).mono ?_
        rintro e9 w1 ⟨rfl,d1,hmv,hs1⟩;have HS1:=hj_ hs1;clear hs1;have HQ:=hj_ (lf1 HT.out hmv HFe.out HSa.out HSb.out C1.out C2.out);clear hmv;have HL2:=hj_ (show SegS cf a mid d1 by rw [show a=s by have:=HFe.out;omega];exact HQ.out.2.2.1)
        have HL3:=hj_ (show SegS cf mid b d1 by have h:=(lf2 HFe.out HQ.out (PI.refl a mid d1)).1;rw [show b=e by have:=HFe.out;omega];exact h)
        go_wp2_with fail
        go_end0
        obtain ⟨u1,u2⟩:=lf3 HFe.out HQ.out (PI.refl a mid d1) (PI.refl mid b d1) HL2.out HL3.out;exact ⟨rfl,d1,u1,u2,HS1.out⟩
     ·by_cases bA:a<s
      ·by_cases bE:e<b
       ·have zM:(s:Int)<(m:Int):=by omega
        have zD1:¬ (m:Int)<(e:Int):=by have:=HFe.out;omega
        have zA:(a:Int)<(s:Int):=o_
        have zD2:¬ (s:Int)<(mid:Int):=o_
        have zM2:(mid:Int)<(e:Int):=by have:=HFe.out;omega
        have zE:(e:Int)<(b:Int):=o_
        go_wp2_with fail;have hmv:Mv (rotI s m e) d d:=Mv.refl d (fun q=>by have h:=HFe.out;rw [show e=m by omega];exact q0hf s m q)
        have HQ:=hj_ (lf1 HT.out hmv HFe.out HSa.out HSb.out C1.out C2.out);clear hmv;have HL2:=hj_ (show SegS cf a mid d by rw [show mid=s by omega];exact HQ.out.2.1)
        refine (HRec.out mid e b d _ (by have:=HN.out;have:=HFe.out;omega) HSr.out (((PI.refl a mid d).perm.trans HQ.out.1.perm).trans HP0.out) (oh_ HFe.out) o_ o_ (lf2 HFe.out HQ.out (PI.refl a mid d)).1 (lf2 HFe.out HQ.out (PI.refl a mid d)).2).mono ?_
        rintro e9 w3 ⟨rfl,d3,hp3,hl3,hs3⟩;have HP3:=hj_ hp3;have HL3:=hj_ hl3;have HS3:=hj_ hs3;clear hp3 hl3 hs3;go_wp2_with fail
        go_end0
        obtain ⟨u1,u2⟩:=lf3 HFe.out HQ.out (PI.refl a mid d) HP3.out HL2.out HL3.out;exact ⟨rfl,d3,u1,u2,HS3.out⟩
       ·have zM:(s:Int)<(m:Int):=by omega
        have zD1:¬ (m:Int)<(e:Int):=by have:=HFe.out;omega
        have zA:(a:Int)<(s:Int):=o_
        have zD2:¬ (s:Int)<(mid:Int):=o_
        have zM2:(mid:Int)<(e:Int):=by have:=HFe.out;omega
        have zE:¬ (e:Int)<(b:Int):=o_
        go_wp2_with fail;have hmv:Mv (rotI s m e) d d:=Mv.refl d (fun q=>by have h:=HFe.out;rw [show e=m by omega];exact q0hf s m q)
        have HQ:=hj_ (lf1 HT.out hmv HFe.out HSa.out HSb.out C1.out C2.out);clear hmv;have HL2:=hj_ (show SegS cf a mid d by rw [show mid=s by omega];exact HQ.out.2.1)
        have HL3:=hj_ (show SegS cf mid b d by have h:=(lf2 HFe.out HQ.out (PI.refl a mid d)).1;rw [show b=e by have:=HFe.out;omega];exact h)
        go_end0
        obtain ⟨u1,u2⟩:=lf3 HFe.out HQ.out (PI.refl a mid d) (PI.refl mid b d) HL2.out HL3.out;exact ⟨rfl,d,u1,u2,HSr.out⟩
      ·by_cases bE:e<b
       ·have zM:(s:Int)<(m:Int):=by omega
        have zD1:¬ (m:Int)<(e:Int):=by have:=HFe.out;omega
        have zA:¬ (a:Int)<(s:Int):=o_
        have zM2:(mid:Int)<(e:Int):=by have:=HFe.out;omega
        have zE:(e:Int)<(b:Int):=o_
        go_wp2_with fail;have hmv:Mv (rotI s m e) d d:=Mv.refl d (fun q=>by have h:=HFe.out;rw [show e=m by omega];exact q0hf s m q)
        have HQ:=hj_ (lf1 HT.out hmv HFe.out HSa.out HSb.out C1.out C2.out);clear hmv;have HL2:=hj_ (show SegS cf a mid d by rw [show a=s by have:=HFe.out;omega];exact HQ.out.2.2.1)
        refine (HRec.out mid e b d _ (by have:=HN.out;have:=HFe.out;omega) HSr.out (((PI.refl a mid d).perm.trans HQ.out.1.perm).trans HP0.out) (oh_ HFe.out) o_ o_ (lf2 HFe.out HQ.out (PI.refl a mid d)).1 (lf2 HFe.out HQ.out (PI.refl a mid d)).2).mono ?_
        rintro e9 w3 ⟨rfl,d3,hp3,hl3,hs3⟩;have HP3:=hj_ hp3;have HL3:=hj_ hl3;have HS3:=hj_ hs3;clear hp3 hl3 hs3;go_wp2_with fail
        go_end0
        obtain ⟨u1,u2⟩:=lf3 HFe.out HQ.out (PI.refl a mid d) HP3.out HL2.out HL3.out;exact ⟨rfl,d3,u1,u2,HS3.out⟩
       ·have zM:(s:Int)<(m:Int):=by omega
        have zD1:¬ (m:Int)<(e:Int):=by have:=HFe.out;omega
        have zA:¬ (a:Int)<(s:Int):=o_
        have zM2:(mid:Int)<(e:Int):=by have:=HFe.out;omega
        have zE:¬ (e:Int)<(b:Int):=o_
        go_wp2_with fail;have hmv:Mv (rotI s m e) d d:=Mv.refl d (fun q=>by have h:=HFe.out;rw [show e=m by omega];exact q0hf s m q)
        have HQ:=hj_ (lf1 HT.out hmv HFe.out HSa.out HSb.out C1.out C2.out);clear hmv;have HL2:=hj_ (show SegS cf a mid d by rw [show a=s by have:=HFe.out;omega];exact HQ.out.2.2.1)
        have HL3:=hj_ (show SegS cf mid b d by have h:=(lf2 HFe.out HQ.out (PI.refl a mid d)).1;rw [show b=e by have:=HFe.out;omega];exact h)
        go_end0
        obtain ⟨u1,u2⟩:=lf3 HFe.out HQ.out (PI.refl a mid d) (PI.refl mid b d) HL2.out HL3.out;exact ⟨rfl,d,u1,u2,HSr.out⟩
    ·by_cases bD:s<mid
     ·by_cases bA:a<s
      ·have zM:¬ (s:Int)<(m:Int):=by omega
       have zA:(a:Int)<(s:Int):=o_
       have zD2:(s:Int)<(mid:Int):=o_
       have zM2:¬ (mid:Int)<(e:Int):=by have:=HFe.out;omega
       go_wp2_with fail;have hmv:Mv (rotI s m e) d d:=Mv.refl d (fun q=>by have h:=HFe.out;rw [show s=m by omega];exact q0he m e q)
       have HQ:=hj_ (lf1 HT.out hmv HFe.out HSa.out HSb.out C1.out C2.out);clear hmv;refine (HRec.out a s mid d _ (by have:=HN.out;have:=HFe.out;omega) HSr.out (HQ.out.1.perm.trans HP0.out) o_ o_ (oh_ HFe.out) HQ.out.2.1 HQ.out.2.2.1).mono ?_
       rintro e9 w2 ⟨rfl,d2,hp2,hl2,hs2⟩;have HP2:=hj_ hp2;have HL2:=hj_ hl2;have HS2:=hj_ hs2;clear hp2 hl2 hs2;have HL3:=hj_ (show SegS cf mid b d2 by have h:=(lf2 HFe.out HQ.out HP2.out).2;rw [show mid=e by have:=HFe.out;omega];exact h)
       go_wp2_with fail
       go_end0
       obtain ⟨u1,u2⟩:=lf3 HFe.out HQ.out HP2.out (PI.refl mid b d2) HL2.out HL3.out;exact ⟨rfl,d2,u1,u2,HS2.out⟩
      ·have zM:¬ (s:Int)<(m:Int):=by omega
       have zA:¬ (a:Int)<(s:Int):=o_
       have zM2:¬ (mid:Int)<(e:Int):=by have:=HFe.out;omega
       go_wp2_with fail;have hmv:Mv (rotI s m e) d d:=Mv.refl d (fun q=>by have h:=HFe.out;rw [show s=m by omega];exact q0he m e q)
       have HQ:=hj_ (lf1 HT.out hmv HFe.out HSa.out HSb.out C1.out C2.out);clear hmv;have HL2:=hj_ (show SegS cf a mid d by rw [show a=s by have:=HFe.out;omega];exact HQ.out.2.2.1)
       have HL3:=hj_ (show SegS cf mid b d by have h:=(lf2 HFe.out HQ.out (PI.refl a mid d)).2;rw [show mid=e by have:=HFe.out;omega];exact h)
       go_end0
       obtain ⟨u1,u2⟩:=lf3 HFe.out HQ.out (PI.refl a mid d) (PI.refl mid b d) HL2.out HL3.out;exact ⟨rfl,d,u1,u2,HSr.out⟩
     ·by_cases bA:a<s
      ·have zM:¬ (s:Int)<(m:Int):=by omega
       have zA:(a:Int)<(s:Int):=o_
       have zD2:¬ (s:Int)<(mid:Int):=o_
       have zM2:¬ (mid:Int)<(e:Int):=by have:=HFe.out;omega
       go_wp2_with fail;have hmv:Mv (rotI s m e) d d:=Mv.refl d (fun q=>by have h:=HFe.out;rw [show s=m by omega];exact q0he m e q)
       have HQ:=hj_ (lf1 HT.out hmv HFe.out HSa.out HSb.out C1.out C2.out);clear hmv;have HL2:=hj_ (show SegS cf a mid d by rw [show mid=s by omega];exact HQ.out.2.1)
       have HL3:=hj_ (show SegS cf mid b d by have h:=(lf2 HFe.out HQ.out (PI.refl a mid d)).2;rw [show mid=e by have:=HFe.out;omega];exact h)
       go_end0
       obtain ⟨u1,u2⟩:=lf3 HFe.out HQ.out (PI.refl a mid d) (PI.refl mid b d) HL2.out HL3.out;exact ⟨rfl,d,u1,u2,HSr.out⟩
      ·have zM:¬ (s:Int)<(m:Int):=by omega
       have zA:¬ (a:Int)<(s:Int):=o_
       have zM2:¬ (mid:Int)<(e:Int):=by have:=HFe.out;omega
       go_wp2_with fail;have hmv:Mv (rotI s m e) d d:=Mv.refl d (fun q=>by have h:=HFe.out;rw [show s=m by omega];exact q0he m e q)
       have HQ:=hj_ (lf1 HT.out hmv HFe.out HSa.out HSb.out C1.out C2.out);clear hmv;have HL2:=hj_ (show SegS cf a mid d by rw [show a=s by have:=HFe.out;omega];exact HQ.out.2.2.1)
       have HL3:=hj_ (show SegS cf mid b d by have h:=(lf2 HFe.out HQ.out (PI.refl a mid d)).2;rw [show mid=e by have:=HFe.out;omega];exact h)
       go_end0
       obtain ⟨u1,u2⟩:=lf3 HFe.out HQ.out (PI.refl a mid d) (PI.refl mid b d) HL2.out HL3.out;exact ⟨rfl,d,u1,u2,HSr.out⟩
theorem int_eq {a b:Int} (h:a=b):Value.int .i64 a=Value.int .i64 b:=by rw [h]
theorem q0fu (h1:d ∣ p) (h2:d ∣ a) (h:p<a+d):p≤a:=by
 rcases Nat.lt_or_ge a p with h3 | h3
 ·have:=Nat.le_of_dvd o_ (Nat.dvd_sub h1 h2)
  omega
 ·exact h3
theorem q0fv (h1:d ∣ p) (h2:d ∣ a) (h:p<a):p+d≤a:=by
 have:=Nat.le_of_dvd o_ (Nat.dvd_sub h2 h1)
 omega
def Blk {α:Type} (cf:α→α→Int) (s n:Nat) (d:List α):Prop:=∀ p,s ∣ p→p<n→SegS cf p (min (p+s) n) d
def Mix {α:Type} (cf:α→α→Int) (s a n:Nat) (d:List α):Prop:=(∀ p,2*s ∣ p→p<a→SegS cf p (p+2*s) d)∧∀ p,s ∣ p→a≤p→p<n→SegS cf p (min (p+s) n) d
section
variable {α:Type} {cf:α→α→Int}
theorem q0ee {d d':List α} (hd:s ∣ a) (h:Blk cf s a d) (hp:PI a (a+s) d d') (hs:SegS cf a (a+s) d'):Blk cf s (a+s) d':=fun p h1 h2=>by
 rcases Nat.lt_or_eq_of_le (q0fu h1 hd h2) with h3 | rfl
 ·have h4:=q0fv h1 hd h3
  rw [Nat.min_eq_left o_]
  have h5:=h p h1 h3;rw [Nat.min_eq_left h4] at h5;exact h5.far hp (Or.inl h4)
 ·rw [Nat.min_eq_left lr_]
  exact hs
theorem q0ed {d d':List α} (hd:s ∣ a) (h:Blk cf s a d) (han:a≤n) (hn:n<a+s) (hp:PI a n d d') (hs:SegS cf a n d'):Blk cf s n d':=fun p h1 h2=>by
 rcases Nat.lt_or_eq_of_le (q0fu h1 hd o_) with h3 | rfl
 ·have h4:=q0fv h1 hd h3
  rw [Nat.min_eq_left o_]
  have h5:=h p h1 h3;rw [Nat.min_eq_left h4] at h5;exact h5.far hp (Or.inl h4)
 ·rw [Nat.min_eq_right o_]
  exact hs
theorem q0ft {d:List α} (h:Blk cf s n d):Mix cf s 0 n d:=⟨fun _ _ h=>absurd h (Nat.not_lt_zero _),fun p h1 _ h2=>h p h1 h2⟩
theorem Mix.two {d:List α} (hs:0<s) (hd:2*s ∣ a) (h:Mix cf s a n d) (hb:a+s<n):SegS cf a (a+s) d∧SegS cf (a+s) (min (a+2*s) n) d:=by
 have ha:s ∣ a:=Nat.dvd_trans (Nat.dvd_mul_left s 2) hd;have h1:=h.2 a ha lr_ o_
 rw [Nat.min_eq_left o_] at h1
 have h2:=h.2 (a+s) (Nat.dvd_add ha (Nat.dvd_refl _)) o_ hb
 rw [show a+s+s=a+2*s by omega] at h2
 exact ⟨h1,h2⟩
theorem Mix.step {d d':List α} (hd:2*s ∣ a) (h:Mix cf s a n d) (hb:a+2*s≤n) (hp:PI a (a+2*s) d d') (hs:SegS cf a (a+2*s) d'):Mix cf s (a+2*s) n d' :=
 ⟨fun p h1 h2=>by
  rcases Nat.lt_or_eq_of_le (q0fu h1 hd h2) with h3 | rfl
  ·exact (h.1 p h1 h3).far hp (Or.inl (q0fv h1 hd h3))
  ·exact hs,fun p h1 h2 h3=>(h.2 p h1 o_ h3).far hp (Or.inr h2)⟩
theorem Mix.last {d d':List α} (hd:2*s ∣ a) (h:Mix cf s a n d) (hn:n<a+2*s) (hp:PI a n d d') (hs:SegS cf a n d'):Blk cf (2*s) n d':=fun p h1 h2=>by
 rcases Nat.lt_or_eq_of_le (q0fu h1 hd o_) with h3 | rfl
 ·have h4:=q0fv h1 hd h3
  rcases Nat.le_total (p+2*s) n with h6 | h6
  ·rw [Nat.min_eq_left h6]
   exact (h.1 p h1 h3).far hp (Or.inl h4)
  ·exact fun i j x y q1 q2 q3 hx hy=>(h.1 p h1 h3).far hp (Or.inl h4) i j x y q1 q2 o_ hx hy
 ·rw [Nat.min_eq_right o_]
  exact hs
theorem Mix.one {d:List α} (hs:0<s) (hd:2*s ∣ a) (h:Mix cf s a n d) (hn:n≤a+s):Blk cf (2*s) n d:=by
 refine h.last hd o_ (PI.refl _ _ _) ?_
 by_cases ha:a<n
 ·have h1:=h.2 a (Nat.dvd_trans (Nat.dvd_mul_left s 2) hd) lr_ ha
  rw [Nat.min_eq_right hn] at h1;exact h1
 ·exact SegS.empty o_
theorem q0ec {d:List α} (h:Blk cf s n d) (hs:n≤s):SegS cf 0 n d:=by
 by_cases hn:0<n
 ·have h1:=h 0 (Nat.dvd_zero _) hn
  rw [Nat.zero_add,Nat.min_eq_right hs] at h1;exact h1
 ·exact SegS.empty o_
end
theorem q0iu (g:Nat) (cb:Array Value) (cf:Value→Value→Int) (B c:Nat) (t:TypeId) (sp d0:List Value) (w0:World) (eg:∀ args w,(callFunc g args).run prog w=.ok (.enter g args) w) (hT:∀ x y z,0≤cf y x→0≤cf z y→0≤cf z x) (hA:∀ x y,cf x y<0→0≤cf y x)
  (hcmp:∀ w',w0.grownBy w' (some B)→∀ x ∈ d0,∀ y ∈ d0,Calls prog g (#[x,y] ++ cb) w' fun e w''=>e=.returned (.int .i64 (cf x y))∧Below w'.heap.size w' w'') (h1c:∀ x ∈ d0,∃ A n c,x=.slice A n c) (len:Nat) (hlen:d0.length=len) (hsz:len≤1000000) (w:World) (hS:SR w0 B t sp d0 w) :
  Calls prog 65 #[.slice (some ⟨B,0,none⟩) len c,.int .i64 len,.func (.func g) #[] cb] w fun e w'=>e=.returned (.tuple #[])∧∃ d',d'.Perm d0∧SegS cf 0 len d'∧SR w0 B t sp d' w':=by
 have HIns:=hj_ (fun (a b:Nat) (d:List Value) (w':World) (hs:SR w0 B t sp d w') (hp:d.Perm d0) h1 (h2:b≤len)=>(show Calls prog 110 #[.slice (some ⟨B,0,none⟩) len c,.int .i64 a,.int .i64 b,.func (.func g) #[] cb] w' fun e w''=>e=.returned (.tuple #[])∧∃ d',PI a b d d'∧SegS cf a b d'∧SR w0 B t sp d' w'' from by
  have hl:d.length=len:=hp.length_eq.trans hlen;rw [← hl] at h2 ⊢;exact q0ie g cb cf B c t sp d0 w0 eg hT hA hcmp a b d w' hs hp h1 h2 o_ h1c))
 have HSym:=hj_ (fun (a m b:Nat) (d:List Value) (w':World)=>q0iw g cb cf B c t sp d0 w0 eg hT hA hcmp h1c len hlen o_ (b-a) a m b d w' lr_)
 have HS0:=hj_ hS;clear hS hcmp eg hT hA h1c hlen
 go_enter func65,ntmps65
 go_wp2_with fail
 go_loopw [7,8] (fun av bv wr=>∃ (a:Nat) (d1:List Value),av=.int .i64 a∧bv=.int .i64 ((a:Int)+20)∧a≤len∧Hid (20 ∣ a)∧d1.Perm d0∧Hid (Blk cf 20 a d1)∧SR w0 B t sp d1 wr) (fun av _ _=>len-(intOf av).toNat)
 case atStart=>exact ⟨0,d0,rfl,int_eq o_,Nat.zero_le _,hj_ (Nat.dvd_zero _),List.Perm.refl _,hj_ (fun p _ h=>absurd h (Nat.not_lt_zero _)),HS0.out⟩
 case round =>
  obtain ⟨a,d1,rfl,rfl,han,hdv,hp,hbk,hs⟩:=hrel;have HP:=hj_ hp;have HSr:=hj_ hs;clear hp hs
  by_cases hlt:a+20≤len
  ·have hltz:(a:Int)+20≤(len:Int):=by omega
   have k1:IntKind.i64.wrap ((a:Int)+20+20)=(a:Int)+20+20:=IntWalk.i64_in _ o_
   have HIn2:=hj_ (HIns.out a (a+20) d1);rw [show ((a+20:Nat):Int)=(a:Int)+20 by omega] at HIn2
   go_wp2_with fail;refine (HIn2.out _ HSr.out HP.out o_ hlt).mono ?_
   rintro e w2 ⟨rfl,d2,hpi,hse,hs2⟩;have HP2:=hj_ (hpi.perm.trans HP.out);have HB2:=hj_ (q0ee hdv.out hbk.out hpi hse);have HD2:=hj_ (Nat.dvd_add hdv.out (Nat.dvd_refl 20));have HS2:=hj_ hs2;clear hpi hse hs2;go_wp2_with fail
   go_roundw
   case rel=>exact ⟨a+20,d2,int_eq o_,int_eq o_,hlt,HD2,HP2.out,HB2,HS2.out⟩
   case measure=>simp [intOf];omega
  ·have hltz:¬ (a:Int)+20≤(len:Int):=by omega
   rename World=>V1
   go_wp2_with fail;refine (HIns.out a len d1 _ HSr.out HP.out han lr_).mono ?_;rintro e w2 ⟨rfl,d2,hpi,hse,hs2⟩;have HP2:=hj_ (hpi.perm.trans HP.out);have HB2:=hj_ (q0ed hdv.out hbk.out han o_ hpi hse)
   have HS2:=hj_ hs2;clear hpi hse hs2 hltz hdv hbk;go_wp2_with fail
   go_loopw [6,7,8,9] (fun sv av bv mv wr=>∃ (s:Nat) (d3:List Value),sv=.int .i64 s∧0<s∧s≤2*len+20∧d3.Perm d0∧Hid (Blk cf s len d3)∧SR w0 B t sp d3 wr) (fun sv _ _ _ _=>2*len-(intOf sv).toNat)
   case atStart=>exact ⟨20,d2,rfl,o_,o_,HP2.out,HB2,HS2.out⟩
   case round =>
    obtain ⟨s,d3,rfl,hs0,hs1,hp,hbk,hs⟩:=hrel;have HP3:=hj_ hp;have HS3:=hj_ hs;clear hp hs
    by_cases hlt2:s<len
    ·have hltz:(s:Int)<(len:Int):=by omega
     have k1:IntKind.i64.wrap (2*(s:Int))=2*(s:Int):=IntWalk.i64_in _ o_
     have k2:IntKind.i64.wrap ((s:Int)*2)=(s:Int)*2:=IntWalk.i64_in _ o_
     have hbk0:=hj_ (q0ft hbk.out)
     rename World=>V2
     go_wp2_with fail
     go_loopw [7,8] (fun av bv wr=>∃ (a:Nat) (d4:List Value),av=.int .i64 a∧bv=.int .i64 ((a:Int)+2*(s:Int))∧a≤len∧Hid (2*s ∣ a)∧d4.Perm d0∧Hid (Mix cf s a len d4)∧SR w0 B t sp d4 wr) (fun av _ _=>len-(intOf av).toNat)
     case atStart=>exact ⟨0,d3,rfl,int_eq o_,Nat.zero_le _,hj_ (Nat.dvd_zero _),HP3.out,hbk0,HS3.out⟩
     case round =>
      obtain ⟨a,d4,rfl,rfl,han,hdv,hp,hmx,hs⟩:=hrel;have HP4:=hj_ hp;have HS4:=hj_ hs;have k3:IntKind.i64.wrap ((a:Int)+(s:Int))=(a:Int)+(s:Int):=IntWalk.i64_in _ o_
      clear hp hs
      by_cases hlt3:a+2*s≤len
      ·have hz3:(a:Int)+2*(s:Int)≤(len:Int):=by omega
       have k4:IntKind.i64.wrap ((a:Int)+2*(s:Int)+2*(s:Int))=(a:Int)+2*(s:Int)+2*(s:Int):=IntWalk.i64_in _ o_
       have HSy:=hj_ (HSym.out a (a+s) (a+2*s) d4);rw [show ((a+s:Nat):Int)=(a:Int)+(s:Int) by omega,show ((a+2*s:Nat):Int)=(a:Int)+2*(s:Int) by omega] at HSy
       have h2:=hmx.out.two hs0 hdv.out o_
       rw [Nat.min_eq_left hlt3] at h2;have H2:=hj_ h2;clear h2;go_wp2_with fail;refine (HSy.out _ HS4.out HP4.out o_ o_ hlt3 H2.out.1 H2.out.2).mono ?_
       rintro e w5 ⟨rfl,d5,hpi,hse,hs5⟩;have HP5:=hj_ (hpi.perm.trans HP4.out);have HB5:=hj_ (hmx.out.step hdv.out hlt3 hpi hse);have HD5:=hj_ (Nat.dvd_add hdv.out (Nat.dvd_refl (2*s)));have HS5:=hj_ hs5;clear hpi hse hs5;go_wp2_with fail
       go_roundw
       case rel=>exact ⟨a+2*s,d5,int_eq o_,int_eq o_,hlt3,HD5,HP5.out,HB5,HS5.out⟩
       case measure=>simp [intOf];omega
      ·have hz3:¬ (a:Int)+2*(s:Int)≤(len:Int):=by omega
       by_cases hm:a+s<len
       ·have hz4:(a:Int)+(s:Int)<(len:Int):=by omega
        have HSy:=hj_ (HSym.out a (a+s) len d4);rw [show ((a+s:Nat):Int)=(a:Int)+(s:Int) by omega] at HSy
        have h2:=hmx.out.two hs0 hdv.out hm;rw [Nat.min_eq_right o_] at h2
        have H2:=hj_ h2;clear h2;go_wp2_with fail;refine (HSy.out _ HS4.out HP4.out o_ hm lr_ H2.out.1 H2.out.2).mono ?_
        rintro e w5 ⟨rfl,d5,hpi,hse,hs5⟩;have HP5:=hj_ (hpi.perm.trans HP4.out);have HB5:=hj_ (hmx.out.last hdv.out o_ hpi hse)
        have HS5:=hj_ hs5;clear hpi hse hs5;go_wp2_with fail
        go_roundw
        case rel=>exact ⟨2*s,d5,int_eq o_,o_,o_,HP5.out,HB5,HS5.out⟩
        case measure=>simp [intOf];omega
       ·have hz4:¬ (a:Int)+(s:Int)<(len:Int):=by omega
        have HB5:=hj_ (hmx.out.one hs0 hdv.out o_)
        go_wp2_with fail
        go_roundw
        case rel=>exact ⟨2*s,d4,int_eq o_,o_,o_,HP4.out,HB5,HS4.out⟩
        case measure=>simp [intOf];omega
    ·have hltz:¬ (s:Int)<(len:Int):=by omega
     have HF:=hj_ (q0ec hbk.out o_)
     go_wp2_with fail
     go_end0
     exact ⟨rfl,d3,HP3.out,HF.out,HS3.out⟩
theorem q0it (g:Nat) (cb:Array Value) (cf:Value→Value→Int) (B c:Nat) (t:TypeId) (sp d0:List Value) (w0:World) (eg:∀ args w,(callFunc g args).run prog w=.ok (.enter g args) w) (hT:∀ x y z,0≤cf y x→0≤cf z y→0≤cf z x) (hA:∀ x y,cf x y<0→0≤cf y x)
  (hcmp:∀ w',w0.grownBy w' (some B)→∀ x ∈ d0,∀ y ∈ d0,Calls prog g (#[x,y] ++ cb) w' fun e w''=>e=.returned (.int .i64 (cf x y))∧Below w'.heap.size w' w'') (h1c:∀ x ∈ d0,∃ A n c,x=.slice A n c) (len:Nat) (hlen:d0.length=len) (hsz:len≤1000000) (w:World) (hS:SR w0 B t sp d0 w) :
  Calls prog 33 #[.slice (some ⟨B,0,none⟩) len c,.func (.func g) #[] cb] w fun e w'=>e=.returned (.tuple #[])∧∃ d',d'.Perm d0∧SegS cf 0 len d'∧SR w0 B t sp d' w':=by
 have HS:=hj_ (q0iu g cb cf B c t sp d0 w0 eg hT hA hcmp h1c len hlen hsz w hS);clear eg hT hA hcmp h1c hlen hsz hS
 go_enter func33,ntmps33
 go_wp2_with fail;refine HS.out.mono ?_;rintro e w2 ⟨rfl,h⟩;have H:=hj_ h;clear h;go_wp2_with fail
 go_end0
 exact ⟨rfl,H.out⟩
end Go.Proofs.YtabhjdmmfdfpeaaGreatDoor
