/- Lemmas. -/
import Derived.Test.YtabhjdmmfdfpeaaGreatDoorPPwA
namespace Go.Proofs.YtabhjdmmfdfpeaaGreatDoor
set_option maxHeartbeats 32000000
set_option maxRecDepth 100000
open _root_.Go.Proofs.Tryz
open Go.RowKit
variable {a b e i j k m p q s:Nat}
theorem q0ie (g:Nat) (cb:Array Value) (cf:Value→Value→Int) (B c:Nat) (t:TypeId) (sp d0:List Value) (w0:World) (eg:∀ args w,(callFunc g args).run prog w=.ok (.enter g args) w) (hT:∀ x y z,0≤cf y x→0≤cf z y→0≤cf z x) (hA:∀ x y,cf x y<0→0≤cf y x)
  (hcmp:∀ w',w0.grownBy w' (some B)→∀ x ∈ d0,∀ y ∈ d0,Calls prog g (#[x,y] ++ cb) w' fun e w''=>e=.returned (.int .i64 (cf x y))∧Below w'.heap.size w' w'')
  (a b:Nat) (d:List Value) (w:World) (hS:SR w0 B t sp d w) (hp:d.Perm d0) (hab:a≤b) (hb:b≤d.length) (hsz:d.length<4611686018427387904) (h1c:∀ x ∈ d0,∃ A n c,x=.slice A n c) :
  Calls prog 110 #[.slice (some ⟨B,0,none⟩) d.length c,.int .i64 a,.int .i64 b,.func (.func g) #[] cb] w fun e w'=>e=.returned (.tuple #[])∧∃ d',PI a b d d'∧SegS cf a b d'∧SR w0 B t sp d' w':=by
 have mixed:prog.follows Departure.mixedOrders=true:=k_
 have HT:=hj_ hT;have HA:=hj_ hA;have HC:=hj_ hcmp;have HS0:=hj_ hS;have HP0:=hj_ hp;have H1:=hj_ h1c;clear hT hA hcmp hS hp h1c
 go_enter func110,ntmps110
 go_wp2_with fail
 go_loopw [8] (fun iv wr=>∃ (i:Nat) (d1:List Value),iv=.int .i64 i∧a<i∧i≤b+1∧PI a b d d1∧SegS cf a i d1∧SR w0 B t sp d1 wr) (fun iv _=>b+1-(intOf iv).toNat)
 case atStart=>exact ⟨a+1,d,by go_num,o_,o_,PI.refl _ _ _,fun i j x y h1 h2 h3 _ _=>o_,HS0.out⟩
 case round =>
  obtain ⟨i,d1,rfl,hai,hib,hpi,hse,hsr⟩:=hrel;have HPi:=hj_ hpi;have HSe:=hj_ hse;have HSr:=hj_ hsr;clear hpi hse hsr
  by_cases hlt:i<b
  ·have hltz:(i:Int)<(b:Int):=by omega
   rename World=>V1
   go_wp2_with fail
   go_loopw [9] (fun jv wr=>∃ (j:Nat) (d2:List Value),jv=.int .i64 j∧a≤j∧j≤i∧PI a b d d2∧InsI cf a i j d2∧SR w0 B t sp d2 wr) (fun jv _=>(intOf jv).toNat)
   case atStart=>exact ⟨i,d1,rfl,o_,Nat.le_refl _,HPi.out,InsI.start HSe.out,HSr.out⟩
   case round =>
    obtain ⟨j,d2,rfl,haj,hji,hpi,hin,hsr⟩:=hrel;have hl2:d2.length=d.length:=hpi.len;have HPj:=hj_ hpi;have HIn:=hj_ hin;have HSj:=hj_ hsr;clear hpi hin hsr
    by_cases hja:a<j
    ·obtain ⟨jp,rfl⟩:∃ q,j=q+1:=⟨j-1,o_⟩
     obtain ⟨x,hx⟩:∃ x,d2[jp+1]? = some x:=⟨_,List.getElem?_eq_getElem o_⟩
     obtain ⟨y,hy⟩:∃ y,d2[jp]? = some y:=⟨_,List.getElem?_eq_getElem o_⟩
     have hmx:x ∈ d0:=(HPj.out.perm.trans HP0.out).subset (List.mem_of_getElem? hx);have hmy:y ∈ d0:=(HPj.out.perm.trans HP0.out).subset (List.mem_of_getElem? hy);have HCxy:=hj_ (fun w' (h:SR w0 B t sp d2 w')=>HC.out w' h.gr x hmx y hmy)
     have HX1:=hj_ (And.intro (H1.out x hmx) (H1.out y hmy));have HSd:=hj_ (HSj.out.drewN 1);have l1:=HSd.out.cell hx;have l2:=HSd.out.cell hy;clear hmx hmy;have hjaz:(a:Int)<(jp:Int)+1:=o_
     have hjad:decide ((jp:Int)+1 > (a:Int))=true:=decide_eq_true o_
     have i0:(0:Int)≤(jp:Int)+1:=o_
     have i1:(jp:Int)+1<(d.length:Int):=o_
     have i2:(0:Int)≤(jp:Int):=o_
     have i3:(jp:Int)<(d.length:Int):=o_
     have i5:IntKind.i64.wrap ((jp:Int)+1)=(jp:Int)+1:=IntWalk.i64_in _ o_
     have i6:IntKind.i64.wrap (jp:Int)=(jp:Int):=IntWalk.i64_in _ o_
     have ea:((jp:Int)+1).toNat=jp+1:=o_
     rw [show ((jp+1:Nat):Int)=(jp:Int)+1 by omega]
     go_wp2_with fail;refine wp_region_held_drew (S:=fun w'=>w'.cell? ⟨B,jp+1,none⟩=some x∧w'.cell? ⟨B,jp,none⟩=some y) k_ ⟨l1,l2⟩ (fun hHeld=>?_)
     refine tq 0 ?_;refine tq 1 ?_;refine tq 2 ?_;refine tq 3 ?_;refine tq 4 ?_;refine tq 5 ?_;refine tq 6 ?_;refine tq 7 ?_;refine tq 8 ?_;refine tq 9 ?_;refine tq 10 ?_;refine tq 11 ?_;refine tq 12 ?_;refine tq 13 ?_;refine tr 14 fun K hK=>?_
     go_simp
     go_at_fn g;refine (HCxy.out _ HSd.out).mono ?_;rintro e w2 ⟨rfl,hb⟩;have hS2:=HSd.out.below hb;have HS2:=hj_ hS2;have l1:=hS2.cell hx;have l2:=hS2.cell hy;clear hS2 hb
     go_wp2_with fail;refine hK.out _ _ ⟨l1,l2⟩ (fun hHeld=>?_)
     clear hK K;refine tq 15 ?_;refine tq 16 ?_;refine wpAnyH_done k_ ?_ _
     by_cases hc:cf x y<0
     ·rw [decide_eq_true hc]
      have g1:=HS2.out.fr (jp+1);have g2:=HS2.out.fr jp;have l3:(w2.setCell ⟨B,jp+1,none⟩ y).cell? ⟨B,jp,none⟩=some y:=(World.cell?_setCell_other w2 ⟨B,jp+1,none⟩ ⟨B,jp,none⟩ y (by intro e;injection e with _ e;omega)).trans l2
      have h3:=HS2.out.swap (i:=jp+1) (j:=jp) o_ o_ x y
      have HS3:=hj_ h3.drew;have hdn:=hj_ (InsI.down HA.out HIn.out hja hji hx hy hc);have hpd:=hj_ (HPj.out.trans (PI.swap (a:=a) (b:=b) hx hy o_ o_ o_ o_))
      clear h3;obtain ⟨xA,xn,xc,rfl⟩:=HX1.out.1;obtain ⟨yA,yn,yc,rfl⟩:=HX1.out.2;go_wp2_with fail
      go_big_region_o
      clear l1 l2 l3 g1 g2;generalize ((w2.setCell ⟨B,jp+1,none⟩ (Value.slice yA yn yc)).setCell ⟨B,jp,none⟩ (Value.slice xA xn xc)).drew=w3 at HS3 ⊢;go_wp2_with fail
      go_roundw
      case rel=>exact ⟨jp,(d2.set (jp+1) (.slice yA yn yc)).set jp (.slice xA xn xc),by go_num,o_,o_,hpd.out,hdn.out,HS3.out⟩
      case measure=>simp [intOf]
     ·rw [decide_eq_false hc]
      clear l1 l2;have hSt:=hj_ (InsI.stop HT.out HIn.out hji (Or.inr ⟨x,y,hx,hy,Int.not_lt.1 hc⟩) haj);go_wp2_with fail
      go_roundw
      case rel=>exact ⟨i+1,d2,by go_num,o_,o_,HPj.out,hSt.out,HS2.out⟩
      case measure=>simp [intOf];omega
    ·have hja0:j=a:=by omega
     have hSt:=hj_ (InsI.stop HT.out HIn.out hji (Or.inl hja0) haj);have HSd:=hj_ (HSj.out.drewN 1);have hjaz:¬ (a:Int)<(j:Int):=o_
     have hjad:decide ((j:Int) > (a:Int))=false:=decide_eq_false o_
     clear hja0;go_wp2_with fail;refine wp_region_held_drew (S:=fun _=>True) k_ (by first | trivial) (fun hHeld=>?_)
     refine tq 0 ?_;refine tq 1 ?_;refine tq 2 ?_;refine tq 3 ?_;refine tq 4 ?_;refine tq 5 ?_;refine tq 6 ?_;refine tq 7 ?_;refine tq 8 ?_;refine tq 9 ?_;refine tq 10 ?_;refine tq 11 ?_;refine tq 12 ?_;refine tq 13 ?_;refine tq 14 ?_;refine tq 15 ?_;refine tq 16 ?_;refine wpAnyH_done k_ ?_ _
     go_wp2_with fail
     go_roundw
     case rel=>exact ⟨i+1,d2,by go_num,o_,o_,HPj.out,hSt.out,HSd.out⟩
     case measure=>simp [intOf];omega
  ·have hltz:¬ (i:Int)<(b:Int):=by omega
   go_wp2_with fail
   go_end0
   exact ⟨rfl,d1,HPi.out,fun p q x y h1 h2 h3 hp hq=>HSe.out p q x y h1 h2 o_ hp hq,HSr.out⟩
def swI (p q n k:Nat):Nat:=if p≤k∧k<p+n then q+(k-p) else if q≤k∧k<q+n then p+(k-q) else k
def rotI (a m b k:Nat):Nat:=if a≤k∧k<a+(b-m) then m+(k-a) else if a+(b-m)≤k∧k<b then a+(k-(a+(b-m))) else k
section
variable {α:Type}
structure Mv (f:Nat→Nat) (d d':List α):Prop where
 len:d'.length=d.length
 perm:d'.Perm d
 at_:∀ k,d'[k]? = d[f k]?
theorem Mv.refl {f:Nat→Nat} (d:List α) (h:∀ k,f k=k):Mv f d d:=⟨rfl,List.Perm.refl _,fun k=>by rw [h]⟩
theorem Mv.trans {f g e:Nat→Nat} {d d' d'':List α} (h:Mv f d d') (k:Mv g d' d'') (he:∀ i,e i=f (g i)):Mv e d d'' :=
 ⟨k.len.trans h.len,k.perm.trans h.perm,fun i=>by rw [k.at_,h.at_,he]⟩
theorem Mv.swap {f:Nat→Nat} {d d':List α} (h:Mv f d d') {x y:α} (hi:d'[i]? = some x) (hj:d'[j]? = some y):Mv (fun k=>f (if k=j then i else if k=i then j else k)) d ((d'.set i y).set j x):=by
 have li:=(List.getElem?_eq_some_iff.1 hi).1;have lj:=(List.getElem?_eq_some_iff.1 hj).1;have ei:=(List.getElem?_eq_some_iff.1 hi).2;have ej:=(List.getElem?_eq_some_iff.1 hj).2;refine ⟨by rw [List.length_set,List.length_set];exact h.len,?_,fun k=>?_⟩
 ·have:=List.set_set_perm li lj
  rw [ei,ej] at this;exact this.trans h.perm
 ·rw [q0i2 hi hj]
  by_cases e1:k=j
  ·rw [if_pos e1,if_pos e1,← hi,h.at_]
  ·rw [if_neg e1,if_neg e1]
   by_cases e2:k=i
   ·rw [if_pos e2,if_pos e2,← hj,h.at_]
   ·rw [if_neg e2,if_neg e2,h.at_]
theorem Mv.pi {f:Nat→Nat} {d d':List α} (h:Mv f d d') (ho:∀ k,k<a∨b≤k→f k=k) (hi:∀ k,a≤k→k<b→a≤f k∧f k<b):PI a b d d' :=
 ⟨h.len,fun k hk=>by rw [h.at_,ho k hk],fun k h1 h2=>⟨f k,(hi k h1 h2).1,(hi k h1 h2).2,h.at_ k⟩,h.perm⟩
theorem q0i1 {d d1:List α} (hpq:p+i<q) {x y:α} (h:Mv (swI p q i) d d1) (hx:d1[p+i]? = some x) (hy:d1[q+i]? = some y):Mv (swI p q (i+1)) d ((d1.set (p+i) y).set (q+i) x):=by
 have:=h.swap hx hy
 refine ⟨this.len,this.perm,fun k=>?_⟩
 rw [this.at_]
 congr 1
 unfold swI
 repeat' split <;> try omega
theorem q0hi {d d1 dr:List α} (hij:j<i) (him:i≤m) (h:Mv (swI (m-i) m j) d d1) (k:Mv (rotI (m-(i-j)) m (m+j)) d1 dr):Mv (rotI (m-i) m (m+j)) d dr :=
 h.trans k fun q=>by
  unfold swI rotI
  repeat' split <;> try omega
theorem q0hk {d d1 dr:List α} (hij:i<j) (him:i≤m) (h:Mv (swI (m-i) (m+j-i) i) d d1) (k:Mv (rotI (m-i) m (m+(j-i))) d1 dr):Mv (rotI (m-i) m (m+j)) d dr :=
 h.trans k fun q=>by
  unfold swI rotI
  repeat' split <;> try omega
theorem q0hh {d d1:List α} (him:i≤m) (h:Mv (swI (m-i) m i) d d1):Mv (rotI (m-i) m (m+i)) d d1 :=
 ⟨h.len,h.perm,fun k=>by
  rw [h.at_]
  congr 1
  unfold swI rotI
  repeat' split <;> try omega⟩
theorem rot_up {d d1:List α} {x y:α} (hak:a≤k) (h:Mv (rotI a (a+1) (k+1)) d d1) (hx:d1[k]? = some x) (hy:d1[k+1]? = some y):Mv (rotI a (a+1) (k+2)) d ((d1.set k y).set (k+1) x):=by
 have:=h.swap hx hy
 refine ⟨this.len,this.perm,fun q=>?_⟩
 rw [this.at_]
 congr 1
 unfold rotI
 repeat' split <;> try omega
theorem q0hg {d d1:List α} {x y:α} (hk:0<k) (hkm:k≤m) (h:Mv (rotI k m (m+1)) d d1) (hx:d1[k]? = some x) (hy:d1[k-1]? = some y):Mv (rotI (k-1) m (m+1)) d ((d1.set k y).set (k-1) x):=by
 have:=h.swap hx hy
 refine ⟨this.len,this.perm,fun q=>?_⟩
 rw [this.at_]
 congr 1
 unfold rotI
 repeat' split <;> try omega
theorem q0he (m e k:Nat):rotI m m e k=k:=by unfold rotI;repeat' split <;> try omega
theorem q0hf (s m k:Nat):rotI s m m k=k:=by unfold rotI;repeat' split <;> try omega
theorem rot_pi {d d1:List α} (h:Mv (rotI s m e) d d1) (h1:a≤s) (h2:s≤m) (h3:m≤e) (h4:e≤b):PI a b d d1 :=
 h.pi (fun k hk=>by unfold rotI;repeat' split <;> try omega) (fun k q1 q2=>by unfold rotI;repeat' split <;> try omega)
def Cr (cf:α→α→Int) (a m b:Nat) (d:List α):Prop:=∀ (i j:Nat) x y,a≤i→i<m→m≤j→j<b→d[i]? = some x→d[j]? = some y→0≤cf y x
theorem Cr.left {cf:α→α→Int} {d d':List α} (h:Cr cf a m b d) (k:PI a m d d'):Cr cf a m b d':=fun i j x y h1 h2 h3 h4 hx hy=>by
 obtain ⟨q,q1,q2,e⟩:=k.inn i h1 h2;rw [e] at hx;rw [k.out j o_] at hy
 exact h q j x y q1 q2 h3 h4 hx hy
theorem Cr.right {cf:α→α→Int} {d d':List α} (h:Cr cf a m b d) (k:PI m b d d'):Cr cf a m b d':=fun i j x y h1 h2 h3 h4 hx hy=>by
 obtain ⟨q,q1,q2,e⟩:=k.inn j h3 h4;rw [e] at hy;rw [k.out i o_] at hx
 exact h i q x y h1 h2 q1 q2 hx hy
theorem SegS.far {cf:α→α→Int} {d d':List α} (h:SegS cf p q d) (k:PI a b d d') (hf:q≤a∨b≤p):SegS cf p q d':=fun i j x y h1 h2 h3 hx hy=>by
 rw [k.out i o_] at hx
 rw [k.out j o_] at hy
 exact h i j x y h1 h2 h3 hx hy
theorem SegS.join {cf:α→α→Int} {d:List α} (h:SegS cf a m d) (k:SegS cf m b d) (c:Cr cf a m b d):SegS cf a b d:=fun i j x y h1 h2 h3 hx hy=>by
 by_cases e1:j<m
 ·exact h i j x y h1 h2 e1 hx hy
 ·by_cases e2:m≤i
  ·exact k i j x y e2 h2 h3 hx hy
  ·exact c i j x y h1 o_ o_ h3 hx hy
theorem SegS.empty {cf:α→α→Int} {d:List α} (h:b≤a+1):SegS cf a b d:=fun i j x y h1 h2 h3 _ _=>o_
theorem q0hj {cf:α→α→Int} {d d1:List α} (hT:∀ x y z,0≤cf y x→0≤cf z y→0≤cf z x) (h:Mv (rotI s m e) d d1) (h1:a≤s) (h2:s≤m) (h3:m≤e) (h4:e≤b) (sa:SegS cf a m d) (sb:SegS cf m b d)
  (c1:s=a∨e=b∨∃ x y,d[s-1]? = some x∧d[e]? = some y∧0≤cf y x) (c2:s=m∨e=m∨∃ x y,d[e-1]? = some x∧d[s]? = some y∧0≤cf y x) :
  SegS cf a s d1∧SegS cf s (s+(e-m)) d1∧SegS cf (s+(e-m)) e d1∧SegS cf e b d1∧Cr cf a (s+(e-m)) b d1:=by
 have r1:∀ k,k<s→rotI s m e k=k:=fun k hk=>by unfold rotI;repeat' split <;> try omega
 have r2:∀ k,s≤k→k<s+(e-m)→rotI s m e k=m+(k-s):=fun k q1 q2=>by unfold rotI;repeat' split <;> try omega
 have r3:∀ k,s+(e-m)≤k→k<e→rotI s m e k=s+(k-(s+(e-m))):=fun k q1 q2=>by unfold rotI;repeat' split <;> try omega
 have r4:∀ k,e≤k→rotI s m e k=k:=fun k hk=>by unfold rotI;repeat' split <;> try omega
 refine ⟨fun i j x y q1 q2 q3 hx hy=>?_,fun i j x y q1 q2 q3 hx hy=>?_,fun i j x y q1 q2 q3 hx hy=>?_,fun i j x y q1 q2 q3 hx hy=>?_,fun i j x y q1 q2 q3 q4 hx hy=>?_⟩
 ·rw [h.at_,r1 _ o_] at hx hy
  exact sa i j x y q1 q2 o_ hx hy
 ·rw [h.at_,r2 _ o_ o_] at hx hy
  exact sb _ _ x y o_ o_ o_ hx hy
 ·rw [h.at_,r3 _ o_ o_] at hx hy
  exact sa _ _ x y o_ o_ o_ hx hy
 ·rw [h.at_,r4 _ o_] at hx hy
  exact sb _ _ x y o_ o_ o_ hx hy
 ·have le_of:∀ {a b:Nat} {d:List α} {x y:α} {i j:Nat},SegS cf a b d→a≤i→i≤j→j<b→d[i]? = some x→d[j]? = some y→x=y∨0≤cf y x:=fun hs g1 g2 g3 gx gy=>by
   rcases Nat.lt_or_eq_of_le g2 with g | rfl
   ·exact Or.inr (hs _ _ _ _ g1 g g3 gx gy)
   ·rw [gx] at gy;injection gy with gy;exact Or.inl gy
  have tr:∀ {x y z:α},(x=y∨0≤cf y x)→0≤cf z y→0≤cf z x:=fun g k=>by
   rcases g with rfl | g
   ·exact k
   ·exact hT _ _ _ g k
  have tr2:∀ {x y z:α},0≤cf y x→(y=z∨0≤cf z y)→0≤cf z x:=fun g k=>by
   rcases k with rfl | k
   ·exact g
   ·exact hT _ _ _ g k
  rw [h.at_] at hx hy
  by_cases e1:i<s
  ·rw [r1 _ e1] at hx
   by_cases e2:j<e
   ·rw [r3 _ q3 e2] at hy
    exact sa _ _ x y q1 o_ o_ hx hy
   ·rw [r4 _ o_] at hy
    rcases c1 with c1 | c1 | ⟨u,v,hu,hv,hc⟩
    ·omega
    ·omega
    ·exact tr2 (tr (le_of sa q1 o_ o_ hx hu) hc) (le_of sb o_ o_ q4 hv hy)
  ·rw [r2 _ o_ q2] at hx
   by_cases e2:j<e
   ·rw [r3 _ q3 e2] at hy
    rcases c2 with c2 | c2 | ⟨u,v,hu,hv,hc⟩
    ·omega
    ·omega
    ·exact tr2 (tr (le_of sb o_ o_ o_ hx hu) hc) (le_of sa o_ o_ o_ hv hy)
   ·rw [r4 _ o_] at hy
    exact sb _ _ x y o_ o_ q4 hx hy
end
theorem q0iv (fv:Value) (B c:Nat) (t:TypeId) (sp:List Value) (w0:World) (p q n:Nat) (d:List Value) (w:World) (hS:SR w0 B t sp d w) (hpq:p+n≤q) (hq:q+n≤d.length) (hsz:d.length<4611686018427387904) (h1c:∀ x ∈ d,∃ A n c,x=.slice A n c) :
  Calls prog 228 #[.slice (some ⟨B,0,none⟩) d.length c,.int .i64 p,.int .i64 q,.int .i64 n,fv] w fun e w'=>e=.returned (.tuple #[])∧∃ d',Mv (swI p q n) d d'∧SR w0 B t sp d' w':=by
 have mixed:prog.follows Departure.mixedOrders=true:=k_
 have HS0:=hj_ hS;have H1:=hj_ h1c;have HPQ:=hj_ (And.intro hpq hq);clear hS h1c hpq hq
 go_enter func228,ntmps228
 go_wp2_with fail
 go_loopw [10] (fun iv wr=>∃ (i:Nat) (d1:List Value),iv=.int .i64 i∧i≤n∧Mv (swI p q i) d d1∧SR w0 B t sp d1 wr) (fun iv _=>n-(intOf iv).toNat)
 case atStart=>exact ⟨0,d,rfl,Nat.zero_le _,Mv.refl d (fun k=>by unfold swI;repeat' split <;> try omega),HS0.out⟩
 case round =>
  obtain ⟨i,d1,rfl,hin,hmv,hsr⟩:=hrel;have HMv:=hj_ hmv;have HSr:=hj_ hsr;have hl1:d1.length=d.length:=hmv.len;clear hmv hsr
  by_cases hlt:i<n
  ·have hltz:(i:Int)<(n:Int):=by omega
   have hpq:=HPQ.out;obtain ⟨x,hx⟩:∃ x,d1[p+i]? = some x:=⟨_,List.getElem?_eq_getElem o_⟩
   obtain ⟨y,hy⟩:∃ y,d1[q+i]? = some y:=⟨_,List.getElem?_eq_getElem o_⟩
   obtain ⟨xA,xn,xc,rfl⟩:=H1.out x (HMv.out.perm.subset (List.mem_of_getElem? hx));obtain ⟨yA,yn,yc,rfl⟩:=H1.out y (HMv.out.perm.subset (List.mem_of_getElem? hy));have HMv2:=hj_ (q0i1 o_ HMv.out hx hy)
   have l1:=HSr.out.cell hx;have l2:=HSr.out.cell hy;have g1:=HSr.out.fr (p+i);have g2:=HSr.out.fr (q+i);have l3:(wr.setCell ⟨B,p+i,none⟩ (.slice yA yn yc)).cell? ⟨B,q+i,none⟩=some (.slice yA yn yc):=(World.cell?_setCell_other wr ⟨B,p+i,none⟩ ⟨B,q+i,none⟩ (.slice yA yn yc) (by intro e;injection e with _ e;omega)).trans l2
   have HS3:=hj_ (HSr.out.swap (i:=p+i) (j:=q+i) o_ o_ (.slice xA xn xc) (.slice yA yn yc)).drew
   have j1:IntKind.i64.wrap ((p:Int)+(i:Int))=(p:Int)+(i:Int):=IntWalk.i64_in _ o_
   have j2:IntKind.i64.wrap ((q:Int)+(i:Int))=(q:Int)+(i:Int):=IntWalk.i64_in _ o_
   have j3:(0:Int)≤(p:Int)+(i:Int):=o_
   have j4:(0:Int)≤(q:Int)+(i:Int):=o_
   have j5:(p:Int)+(i:Int)<(d.length:Int):=o_
   have j6:(q:Int)+(i:Int)<(d.length:Int):=o_
   have j7:((p:Int)+(i:Int)).toNat=p+i:=o_
   have j8:((q:Int)+(i:Int)).toNat=q+i:=o_
   clear hpq hx hy;go_wp2_with fail
   go_big_region_o
   clear l1 l2 l3 g1 g2;generalize ((wr.setCell ⟨B,p+i,none⟩ (Value.slice yA yn yc)).setCell ⟨B,q+i,none⟩ (Value.slice xA xn xc)).drew=w3 at HS3 ⊢;go_wp2_with fail
   go_roundw
   case rel=>exact ⟨i+1,_,by go_num,o_,HMv2.out,HS3.out⟩
   case measure=>simp [intOf];omega
  ·obtain rfl:i=n:=by omega
   have hltz:¬ (i:Int)<(i:Int):=o_
   go_wp2_with fail
   go_end0
   exact ⟨rfl,d1,HMv.out,HSr.out⟩
theorem q0iq (fv:Value) (B c:Nat) (t:TypeId) (sp:List Value) (w0:World) (a m b:Nat) (d:List Value) (w:World) (hS:SR w0 B t sp d w) (ham:a<m) (hmb:m<b) (hb:b≤d.length) (hsz:d.length<4611686018427387904) (h1c:∀ x ∈ d,∃ A n c,x=.slice A n c) :
  Calls prog 159 #[.slice (some ⟨B,0,none⟩) d.length c,.int .i64 a,.int .i64 m,.int .i64 b,fv] w fun e w'=>e=.returned (.tuple #[])∧∃ d',Mv (rotI a m b) d d'∧SR w0 B t sp d' w':=by
 have HS0:=hj_ hS;have H1:=hj_ h1c;have HAB:=hj_ (And.intro ham (And.intro hmb hb));have HSw:=hj_ (fun (d1:List Value) (w':World) (p q n:Nat) (hs:SR w0 B t sp d1 w') (hl:d1.length=d.length) (hp:d1.Perm d) h1 h2=>(show Calls prog 228 #[.slice (some ⟨B,0,none⟩) d.length c,.int .i64 p,.int .i64 q,.int .i64 n,fv] w' fun e w''=>e=.returned (.tuple #[])∧∃ d',Mv (swI p q n) d1 d'∧SR w0 B t sp d' w'' from by
  rw [← hl];exact q0iv fv B c t sp w0 p q n d1 w' hs h1 h2 o_ (fun x hx=>h1c x (hp.subset hx))))
 have j1:IntKind.i64.wrap ((m:Int)-(a:Int))=((m-a:Nat):Int):=by rw [show ((m-a:Nat):Int)=(m:Int)-(a:Int) by omega];exact IntWalk.i64_in _ o_
 have j2:IntKind.i64.wrap ((b:Int)-(m:Int))=((b-m:Nat):Int):=by rw [show ((b-m:Nat):Int)=(b:Int)-(m:Int) by omega];exact IntWalk.i64_in _ o_
 clear hS h1c ham hmb hb
 go_enter func159,ntmps159
 go_wp2_with fail;clear j1 j2
 go_loopw [10,11] (fun iv jv wr=>∃ (i j:Nat) (d1:List Value),iv=.int .i64 i∧jv=.int .i64 j∧0<i∧0<j∧i≤m-a∧j≤b-m∧d1.length=d.length∧d1.Perm d∧SR w0 B t sp d1 wr∧Hid (∀ dr,Mv (rotI (m-i) m (m+j)) d1 dr→Mv (rotI a m b) d dr)) (fun iv jv _=>(intOf iv).toNat+(intOf jv).toNat)
 case atStart =>
  have h:=HAB.out;exact ⟨m-a,b-m,d,rfl,rfl,o_,o_,Nat.le_refl _,Nat.le_refl _,rfl,List.Perm.refl _,HS0.out,hj_ (fun dr h2=>by
   rw [show m-(m-a)=a by omega,show m+(b-m)=b by omega] at h2
   exact h2)⟩
 case round =>
  obtain ⟨i,j,d1,rfl,rfl,hi0,hj0,hia,hjb,hl,hp,hs,HG⟩:=hrel;have HL:=hj_ (And.intro hl hp);have HSr:=hj_ hs;have HI:=hj_ (And.intro hi0 (And.intro hj0 (And.intro hia hjb)));have hbm:m<d.length∧b≤d.length:=by have:=HAB.out;omega
  clear hl hp hs
  by_cases hne:i=j
  ·subst hne
   have k1:IntKind.i64.wrap ((m:Int)-(i:Int))=((m-i:Nat):Int):=by rw [show ((m-i:Nat):Int)=(m:Int)-(i:Int) by omega];exact IntWalk.i64_in _ o_
   clear hi0 hj0 hia hjb hbm;go_wp2_with fail;have h:=HAB.out;have hI:=HI.out;refine (HSw.out d1 _ (m-i) m i HSr.out HL.out.1 HL.out.2 o_ (oh_ HL.out.1)).mono ?_
   rintro e w2 ⟨rfl,d2,hmv,hs2⟩;have HF:=hj_ (HG.out d2 (q0hh o_ hmv))
   have HS2:=hj_ hs2;clear hmv hs2 h hI;go_wp2_with fail
   go_end0
   exact ⟨rfl,d2,HF.out,HS2.out⟩
  ·by_cases hlt:j<i
   ·have hnz:¬ (i:Int)=(j:Int):=by omega
    have hlz:(j:Int)<(i:Int):=o_
    have k1:IntKind.i64.wrap ((m:Int)-(i:Int))=((m-i:Nat):Int):=by rw [show ((m-i:Nat):Int)=(m:Int)-(i:Int) by omega];exact IntWalk.i64_in _ o_
    have k2:IntKind.i64.wrap ((i:Int)-(j:Int))=((i-j:Nat):Int):=by rw [show ((i-j:Nat):Int)=(i:Int)-(j:Int) by omega];exact IntWalk.i64_in _ o_
    clear hi0 hj0 hia hjb hbm;go_wp2_with fail;have h:=HAB.out;have hI:=HI.out;refine (HSw.out d1 _ (m-i) m j HSr.out HL.out.1 HL.out.2 o_ (oh_ HL.out.1)).mono ?_
    rintro e w2 ⟨rfl,d2,hmv,hs2⟩;have HF:=hj_ (fun dr (h2:Mv (rotI (m-(i-j)) m (m+j)) d2 dr)=>HG.out dr (q0hi hlt o_ hmv h2))
    have HS2:=hj_ hs2;have HL2:=hj_ (And.intro (hmv.len.trans HL.out.1) (hmv.perm.trans HL.out.2));clear hmv hs2 h hI;go_wp2_with fail
    go_roundw
    case rel=>exact ⟨i-j,j,d2,rfl,rfl,by have:=HI.out;omega,by have:=HI.out;omega,by have:=HI.out;omega,by have:=HI.out;omega,HL2.out.1,HL2.out.2,HS2.out,HF⟩
    case measure=>have:=HI.out;simp [intOf];omega
   ·have hnz:¬ (i:Int)=(j:Int):=by omega
    have hlz:¬ (j:Int)<(i:Int):=o_
    have k1:IntKind.i64.wrap ((m:Int)-(i:Int))=((m-i:Nat):Int):=by rw [show ((m-i:Nat):Int)=(m:Int)-(i:Int) by omega];exact IntWalk.i64_in _ o_
    have k2:IntKind.i64.wrap ((j:Int)-(i:Int))=((j-i:Nat):Int):=by rw [show ((j-i:Nat):Int)=(j:Int)-(i:Int) by omega];exact IntWalk.i64_in _ o_
    have k3:IntKind.i64.wrap ((m:Int)+(j:Int))=(m:Int)+(j:Int):=IntWalk.i64_in _ o_
    have k4:IntKind.i64.wrap ((m:Int)+(j:Int)-(i:Int))=((m+j-i:Nat):Int):=by rw [show ((m+j-i:Nat):Int)=(m:Int)+(j:Int)-(i:Int) by omega];exact IntWalk.i64_in _ o_
    have hlt2:i<j:=o_
    clear hi0 hj0 hia hjb hbm hlt;go_wp2_with fail;have h:=HAB.out;have hI:=HI.out;refine (HSw.out d1 _ (m-i) (m+j-i) i HSr.out HL.out.1 HL.out.2 o_ (oh_ HL.out.1)).mono ?_
    rintro e w2 ⟨rfl,d2,hmv,hs2⟩;have HF:=hj_ (fun dr (h2:Mv (rotI (m-i) m (m+(j-i))) d2 dr)=>HG.out dr (q0hk hlt2 o_ hmv h2))
    have HS2:=hj_ hs2;have HL2:=hj_ (And.intro (hmv.len.trans HL.out.1) (hmv.perm.trans HL.out.2));clear hmv hs2 h hI;go_wp2_with fail
    go_roundw
    case rel=>exact ⟨i,j-i,d2,rfl,rfl,by have:=HI.out;omega,by have:=HI.out;omega,by have:=HI.out;omega,by have:=HI.out;omega,HL2.out.1,HL2.out.2,HS2.out,HF⟩
    case measure=>have:=HI.out;simp [intOf];omega
end Go.Proofs.YtabhjdmmfdfpeaaGreatDoor
