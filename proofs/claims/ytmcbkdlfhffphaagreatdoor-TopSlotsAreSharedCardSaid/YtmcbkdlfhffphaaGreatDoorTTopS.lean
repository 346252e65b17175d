/- Lemmas. -/
import Derived.Test.YtmcbkdlfhffphaaGreatDoorRUniM
namespace Go.Proofs.YtmcbkdlfhffphaaGreatDoor
set_option maxHeartbeats 32000000
set_option maxRecDepth 100000
open _root_.Go.Proofs.Tryz

section
open Go.RowKit
theorem q0a0 {P:List PC} {l:List Fx} {i:Nat}:fxE P l i=0↔(qkt (l.getD i fx0)=true∧¬ ((l.getD i fx0).cb.size≠0∧nmB (l.getD i fx0).cb=false)∧pcF P (l.getD i fx0).pr≠none∧1≤footV P (l.getD i fx0).pr∧(l.getD i fx0).ad+footV P (l.getD i fx0).pr≤513)∧(l.take i).any (sameP (l.getD i fx0))=false∧(l.take i).any (overB P (l.getD i fx0))=false:=by
 unfold fxE
 by_cases h1:qkt (l.getD i fx0)=false
 ·rw [if_pos h1];exact ⟨fun h=>(by cases h),fun h=>by rw [h1] at h;cases h.1.1⟩
 rw [if_neg h1]
 by_cases h2:(l.getD i fx0).cb.size≠0∧nmB (l.getD i fx0).cb=false
 ·rw [if_pos h2];exact ⟨fun h=>(by cases h),fun h=>absurd h2 h.1.2.1⟩
 rw [if_neg h2]
 by_cases h3:pcF P (l.getD i fx0).pr=none
 ·rw [if_pos h3];exact ⟨fun h=>(by cases h),fun h=>absurd h3 h.1.2.2.1⟩
 rw [if_neg h3]
 by_cases h4:footV P (l.getD i fx0).pr<1∨513-(l.getD i fx0).ad<footV P (l.getD i fx0).pr
 ·rw [if_pos h4];exact ⟨fun h=>(by cases h),fun h=>by have:=h.1.2.2.2;omega⟩
 rw [if_neg h4]
 cases h5:(l.take i).any (sameP (l.getD i fx0)) with
 | true=>rw [if_pos rfl];exact ⟨fun h=>(by cases h),fun h=>by cases h.2.1⟩
 | false =>
  rw [if_neg Bool.false_ne_true]
  cases h6:(l.take i).any (overB P (l.getD i fx0)) with
  | true=>rw [if_pos rfl];exact ⟨fun h=>(by cases h),fun h=>by cases h.2.2⟩
  | false=>exact ⟨fun _=>⟨⟨by simpa using h1,h2,h3,by omega,by omega⟩,rfl,rfl⟩,fun _=>rfl⟩
theorem q0a4 {P:List PC} {x y:Fx}:overB P x y=overB P y x:=by
 unfold overB;rw [Bool.eq_iff_iff];simp only [Bool.and_eq_true,decide_eq_true_eq]
 constructor
 ·rintro ⟨⟨h1,h2⟩,h3⟩;exact ⟨⟨h1.symm,h3⟩,h2⟩
 ·rintro ⟨⟨h1,h2⟩,h3⟩;exact ⟨⟨h1.symm,h3⟩,h2⟩
theorem q0a8 {x y:Fx}:sameP x y=sameP y x:=by
 unfold sameP;rw [Bool.eq_iff_iff];simp only [Bool.and_eq_true,decide_eq_true_eq];exact ⟨fun h=>⟨h.1.symm,h.2.symm⟩,fun h=>⟨h.1.symm,h.2.symm⟩⟩
theorem q0a3 {P:List PC} {x y:Fx} {u a:Int} (hx:usesB P x u a=true) (hy:usesB P y u a=true):overB P x y=true:=by
 unfold usesB at hx hy;unfold overB;simp only [Bool.and_eq_true,decide_eq_true_eq] at *;obtain ⟨⟨h1,h2⟩,h3⟩:=hx;obtain ⟨⟨k1,k2⟩,k3⟩:=hy;exact ⟨⟨by omega,by omega⟩,by omega⟩
structure Patched (P:List PC) (l:List Fx):Prop where
 ok:∀ x ∈ l,FxOK P x
 cbl:∀ x ∈ l,¬ (x.cb.size≠0∧nmB x.cb=false)
 two:l.Pairwise fun x y=>sameP x y=false∧overB P x y=false
theorem q09z {f:Nat→Int}:∀ {n:Nat},firstE f n=0↔∀ i,i<n→f i=0:=by
 intro n
 constructor
 ·intro h i hi
  exact q89 h i hi
 ·intro h
  exact q86 h
theorem q0a5 {P:List PC} {l:List Fx}:patE P l=0↔P.length≤32∧l.length≤64∧Patched P l:=by
 unfold patE
 by_cases h0:32<P.length∨64<l.length
 ·rw [if_pos h0];exact ⟨fun h=>(by cases h),fun h=>by omega⟩
 rw [if_neg h0,q09z]
 constructor
 ·intro h
  refine ⟨by omega,by omega,⟨fun x hx=>?_,fun x hx=>?_,?_⟩⟩
  ·obtain ⟨i,hi,rfl⟩:=List.getElem_of_mem hx
   have:=(fx_ok (h i hi)).1
   rwa [qa1 hi] at this
  ·obtain ⟨i,hi,rfl⟩:=List.getElem_of_mem hx
   have:=(q0a0.1 (h i hi)).1.2.1
   rwa [qa1 hi] at this
  ·rw [List.pairwise_iff_getElem]
   intro i j hi hj hij;obtain ⟨-,h5,h6⟩:=q0a0.1 (h j hj);rw [qa1 hj,List.any_eq_false] at h5 h6;have hm:l[i] ∈ l.take j:=by
    rw [List.mem_take_iff_getElem];exact ⟨i,by omega,rfl⟩
   exact ⟨by rw [q0a8];simpa using h5 _ hm,by rw [q0a4];simpa using h6 _ hm⟩
 ·rintro ⟨-,-,hp⟩ i hi
  have hx:l[i] ∈ l:=List.getElem_mem hi;obtain ⟨h1,h2,h3,p,h4⟩:=hp.ok _ hx;refine q0a0.2 ⟨?_,?_,?_⟩
  ·rw [qa1 hi];exact ⟨h1,hp.cbl _ hx,by rw [h4];simp,h2,h3⟩
  ·rw [qa1 hi,List.any_eq_false]
   intro y hy;obtain ⟨k,hk,rfl⟩:=List.mem_take_iff_getElem.1 hy
   have:=(List.pairwise_iff_getElem.1 hp.two k i (by omega) hi (by omega)).1
   rw [q0a8,this];simp
  ·rw [qa1 hi,List.any_eq_false]
   intro y hy;obtain ⟨k,hk,rfl⟩:=List.mem_take_iff_getElem.1 hy
   have:=(List.pairwise_iff_getElem.1 hp.two k i (by omega) hi (by omega)).2
   rw [q0a4,this];simp
theorem q0ab {P:List PC} {l:List Fx} {u a:Int} (hp:Patched P l):∀ n (_:n≤l.length) k (hk:k<l.length),k<n→(usesB P l[k] u a=true↔slotK P l u a n=(k:Int)+1)
 | 0,_,k,_,h=>absurd h (Nat.not_lt_zero _)
 | n+1,hn,k,hk,h=>by
  have hnl:n<l.length:=hn;rw [slotK,qa1 hnl]
  by_cases e:k=n
  ·subst e
   cases hu:usesB P l[k] u a with
   | true=>simp
   | false =>
    have:=qq1 P l u a k
    simp only [Bool.false_eq_true,if_false,false_iff];omega
  ·have ih:=q0ab (u:=u) (a:=a) hp n (by omega) k hk (by omega)
   cases hu:usesB P l[n] u a with
   | true =>
    simp only [if_true]
    constructor
    ·intro hk2
     have h1:=q0a3 hk2 hu;have h2:=(List.pairwise_iff_getElem.1 hp.two k n hk hnl (by omega)).2
     rw [h1] at h2
     cases h2
    ·intro h3;omega
   | false=>simpa using ih
theorem q0aa {P:List PC} {l:List Fx} {u a:Int} (hp:Patched P l) {k:Nat} (hk:k<l.length):usesB P l[k] u a=decide (slotK P l u a l.length=(k:Int)+1):=by
 rw [Bool.eq_iff_iff,decide_eq_true_eq];exact q0ab hp l.length (Nat.le_refl _) k hk hk
theorem q0a9 {P:List PC} {l:List Fx} {u a:Int}:decide (0<slotK P l u a l.length)=l.any fun x=>usesB P x u a:=by
 rw [qq0 P l u a l.length (Nat.le_refl _),List.take_length]
def freeN (s:Nat→Int):Nat→Nat
 | 0=>0
 | n+1=>if 0<s (n+1) then 0 else freeN s n+1
theorem q09y (s:Nat→Int):∀ n,freeN s n≤n
 | 0=>Nat.le_refl _
 | n+1=>by
  have:=q09y s n
  rw [freeN]
  by_cases h:0<s (n+1)
  ·rw [if_pos h];omega
  ·rw [if_neg h];omega
theorem q09x (s:Nat→Int):∀ n j,n<j+freeN s n→j≤n→1≤j→¬ 0<s j
 | 0,j,h1,h2,h3=>by omega
 | n+1,j,h1,h2,h3=>by
  rw [freeN] at h1
  by_cases h:0<s (n+1)
  ·rw [if_pos h] at h1;omega
  ·rw [if_neg h] at h1
   by_cases e:j=n+1
   ·subst e;exact h
   ·exact q09x s n j (by omega) (by omega) h3
def freeA (s:Nat→Int) (size:Nat):Nat→Option Nat
 | 0=>none
 | n+1=>match freeA s size n with
  | some a=>some a
  | none=>if freeN s n=size then some (n-size+1) else none
theorem q09w {s:Nat→Int} {size:Nat} (hs:1≤size):∀ {n a:Nat},freeA s size n=some a→1≤a∧a+size≤n∧∀ j,a≤j→j<a+size→¬ 0<s j
 | 0,a,h=>by cases h
 | n+1,a,h=>by
  rw [freeA] at h
  cases hq:freeA s size n with
  | some b =>
   rw [hq] at h
   injection h with h
   subst h;obtain ⟨h1,h2,h3⟩:=q09w hs hq;exact ⟨h1,by omega,h3⟩
  | none =>
   rw [hq] at h
   by_cases h2:freeN s n=size
   ·simp only [if_pos h2] at h
    injection h with h
    have:=q09y s n
    exact ⟨by omega,by omega,fun j h3 h4=>q09x s n j (by omega) (by omega) (by omega)⟩
   ·simp only [if_neg h2] at h
    cases h
def usedN (s:Nat→Int) (n:Nat):Nat:=(List.range n).countP fun a=>decide (0<s a)
theorem q0bg (s:Nat→Int) (n:Nat):usedN s (n+1)=usedN s n+if 0<s n then 1 else 0:=by
 unfold usedN;rw [List.range_succ,List.countP_append];simp [List.countP_cons]
theorem q09v {a k:Nat}:∀ n,(List.range n).countP (fun i=>decide (a≤i∧i<a+k))=min n (a+k)-min n a
 | 0=>by simp
 | n+1=>by
  rw [List.range_succ,List.countP_append,q09v n];simp only [List.countP_cons,List.countP_nil]
  by_cases h:a≤n∧n<a+k
  ·simp [h];omega
  ·simp [h];omega
theorem q09u {p q:Nat→Bool}:∀ (l:List Nat),(∀ i ∈ l,¬ (p i=true∧q i=true))→l.countP (fun i=>p i || q i)=l.countP p+l.countP q
 | [],_=>rfl
 | i :: l,h=>by
  have ih:=q09u l fun j hj=>h j (List.mem_cons_of_mem _ hj)
  have hi:=h i List.mem_cons_self;rw [List.countP_cons,List.countP_cons,List.countP_cons,ih]
  cases hp:p i <;> cases hq:q i
  ·simp
  ·simp;omega
  ·simp;omega
  ·exact absurd ⟨hp,hq⟩ hi
def Fx.to (x:Fx) (a:Int):Fx:={ x with ad:=a }
theorem q0bh {P:List PC} {x:Fx} {a:Int} {u b:Int}:usesB P (x.to a) u b=(decide (x.un=u) && decide (a≤b) && decide (b<a+footV P x.pr)):=rfl
theorem moved {P:List PC} {l:List Fx} (hp:Patched P l) {i:Nat} (hi:i<l.length) {u a:Int} (hu:usesB P l[i] u a=true) {F size:Nat} (hsz:(size:Int)=footV P l[i].pr) (hF:freeA (fun b=>slotK P l u b l.length) size 513=some F) :
  Patched P (l.set i (l[i].to F))∧slotK P (l.set i (l[i].to F)) u F l.length=(i:Int)+1∧slotK P (l.set i (l[i].to F)) u l[i].ad l.length=0∧usedN (fun b=>slotK P (l.set i (l[i].to F)) u b l.length) 513=usedN (fun b=>slotK P l u b l.length) 513:=by
 have hx:l[i] ∈ l:=List.getElem_mem hi;obtain ⟨hr,hf1,hf2,pp,hpp⟩:=hp.ok _ hx;obtain ⟨hF1,hF2,hF3⟩:=q09w (by omega) hF
 have hun:l[i].un=u:=by
  unfold usesB at hu;simp only [Bool.and_eq_true,decide_eq_true_eq] at hu;exact hu.1.1
 have hsl:=fun b:Int=>q0a9 (P:=P) (l:=l) (u:=u) (a:=b)
 have hfree:∀ y ∈ l,∀ b:Nat,F≤b→b<F+size→usesB P y u b=false:=by
  intro y hy b h1 h2;have h3:=hsl b;rw [decide_eq_false (hF3 b h1 h2)] at h3;have h4:=List.any_eq_false.1 h3.symm y hy
  simpa using h4
 have hspl:l=l.take i ++ l[i] :: l.drop (i+1):=by rw [← List.drop_eq_getElem_cons hi,List.take_append_drop]
 have hset:l.set i (l[i].to F)=l.take i ++ l[i].to F :: l.drop (i+1):=List.set_eq_take_append_cons_drop.trans (by rw [if_pos hi])
 have hlen:(l.set i (l[i].to F)).length=l.length:=List.length_set;have hov:∀ y ∈ l,overB P (l[i].to F) y=false:=by
  intro y hy;rw [Bool.eq_false_iff];intro h;unfold overB at h;simp only [Bool.and_eq_true,decide_eq_true_eq] at h;obtain ⟨⟨h1,h2⟩,h3⟩:=h;obtain ⟨hry,hyf,-,-⟩:=hp.ok y hy;have hya:1≤y.ad:=by
   unfold qkt at hry;simp only [Bool.and_eq_true,decide_eq_true_eq] at hry;exact hry.1.2.1
  have hpr:(l[i].to F).pr=l[i].pr:=rfl;have had:(l[i].to F).ad=(F:Int):=rfl;have hunx:(l[i].to F).un=l[i].un:=rfl;rw [hpr,had] at h2;rw [had] at h3;have hb:=hfree y hy (max F y.ad.toNat) (by omega) (by omega)
  have hb2:usesB P y u ((max F y.ad.toNat:Nat):Int)=true:=by
   unfold usesB;simp only [Bool.and_eq_true,decide_eq_true_eq];exact ⟨⟨by rw [h1,hunx,hun],by omega⟩,by omega⟩
  rw [hb2] at hb
  cases hb
 have hpw:=hp.two;rw [hspl,List.pairwise_append,List.pairwise_cons] at hpw;obtain ⟨hw1,⟨hw2,hw3⟩,hw4⟩:=hpw;have hmt:∀ y ∈ l.take i,y ∈ l:=fun y hy=>List.mem_of_mem_take hy
 have hmd:∀ y ∈ l.drop (i+1),y ∈ l:=fun y hy=>List.mem_of_mem_drop hy
 have hP2:Patched P (l.set i (l[i].to F)):=by
  rw [hset];refine ⟨fun y hy=>?_,fun y hy=>?_,?_⟩
  ·rcases List.mem_append.1 hy with h | h
   ·exact hp.ok y (hmt y h)
   ·rcases List.mem_cons.1 h with rfl | h
    ·refine ⟨?_,hf1,?_,pp,hpp⟩
     ·unfold qkt at hr ⊢
      simp only [Bool.and_eq_true,decide_eq_true_eq] at hr ⊢;refine ⟨⟨hr.1.1,?_⟩,hr.2⟩;show 1≤(F:Int)∧(F:Int)≤512
      omega
     ·show (F:Int)+footV P l[i].pr≤513
      omega
    ·exact hp.ok y (hmd y h)
  ·rcases List.mem_append.1 hy with h | h
   ·exact hp.cbl y (hmt y h)
   ·rcases List.mem_cons.1 h with rfl | h
    ·have hcc:=hp.cbl l[i] hx
     exact hcc
    ·exact hp.cbl y (hmd y h)
  ·rw [List.pairwise_append,List.pairwise_cons]
   refine ⟨hw1,⟨fun y hy=>⟨(hw2 y hy).1,hov y (hmd y hy)⟩,hw3⟩,fun y hy z hz=>?_⟩
   rcases List.mem_cons.1 hz with rfl | hz
   ·exact ⟨(hw4 y hy _ List.mem_cons_self).1,by rw [q0a4];exact hov y (hmt y hy)⟩
   ·exact hw4 y hy z (List.mem_cons_of_mem _ hz)
 have hsl2:=fun b:Int=>q0a9 (P:=P) (l:=l.set i (l[i].to F)) (u:=u) (a:=b)
 rw [hlen] at hsl2;have hO:=fun b:Int=>show (l.any fun x=>usesB P x u b)=((((l.take i).any fun x=>usesB P x u b) || (l.drop (i+1)).any fun x=>usesB P x u b) || usesB P l[i] u b) from by
  conv=>lhs;rw [hspl]
  rw [List.any_append,List.any_cons]
  cases usesB P l[i] u b <;> simp
 have hO2:=fun b:Int=>show ((l.set i (l[i].to F)).any fun x=>usesB P x u b)=((((l.take i).any fun x=>usesB P x u b) || (l.drop (i+1)).any fun x=>usesB P x u b) || usesB P (l[i].to F) u b) from by
  rw [hset,List.any_append,List.any_cons]
  cases usesB P (l[i].to F) u b <;> simp
 obtain ⟨O,hOd⟩:∃ O:Int→Bool,O=fun b=>((l.take i).any fun x=>usesB P x u b) || (l.drop (i+1)).any fun x=>usesB P x u b:=⟨_,rfl⟩
 have hOx:∀ b:Int,usesB P l[i] u b=true→O b=false:=by
  intro b hb;rw [hOd];rw [Bool.eq_false_iff];intro h;rw [Bool.or_eq_true,List.any_eq_true,List.any_eq_true] at h
  rcases h with ⟨y,hy,h⟩ | ⟨y,hy,h⟩
  ·have h1:=(hw4 y hy _ List.mem_cons_self).2
   rw [q0a3 h hb] at h1
   cases h1
  ·have h1:=(hw2 y hy).2
   rw [q0a3 hb h] at h1
   cases h1
 have hOf:∀ b:Nat,F≤b→b<F+size→O b=false:=by
  intro b h1 h2;rw [hOd];rw [Bool.eq_false_iff];intro h;rw [Bool.or_eq_true,List.any_eq_true,List.any_eq_true] at h
  rcases h with ⟨y,hy,h⟩ | ⟨y,hy,h⟩
  ·rw [hfree y (hmt y hy) b h1 h2] at h;cases h
  ·rw [hfree y (hmd y hy) b h1 h2] at h;cases h
 have e1:∀ b:Int,decide (0<slotK P l u b l.length)=(O b || usesB P l[i] u b):=fun b=>by rw [hsl b,hO b,hOd]
 have e2:∀ b:Int,decide (0<slotK P (l.set i (l[i].to F)) u b l.length)=(O b || usesB P (l[i].to F) u b):=fun b=>by rw [hsl2 b,hO2 b,hOd]
 have hit:i<(l.set i (l[i].to F)).length:=by rw [hlen];exact hi
 refine ⟨hP2,?_,?_,?_⟩
 ·have h1:=q0aa (u:=u) (a:=(F:Int)) hP2 hit
  rw [List.getElem_set_self,hlen] at h1;have h2:usesB P (l[i].to F) u (F:Int)=true:=by
   rw [q0bh];simp only [Bool.and_eq_true,decide_eq_true_eq];exact ⟨⟨hun,Int.le_refl _⟩,by omega⟩
  rw [h2] at h1;exact of_decide_eq_true h1.symm
 ·have h1:=e2 l[i].ad
  have hself:usesB P l[i] u l[i].ad=true:=by
   unfold usesB;simp only [Bool.and_eq_true,decide_eq_true_eq];exact ⟨⟨hun,Int.le_refl _⟩,by omega⟩
  have had:1≤l[i].ad:=by
   unfold qkt at hr;simp only [Bool.and_eq_true,decide_eq_true_eq] at hr;exact hr.1.2.1
  have h3:usesB P (l[i].to F) u l[i].ad=false:=by
   rw [Bool.eq_false_iff];intro h;rw [q0bh] at h;simp only [Bool.and_eq_true,decide_eq_true_eq] at h;have h4:=hfree _ hx l[i].ad.toNat (by omega) (by omega)
   rw [show ((l[i].ad.toNat:Nat):Int)=l[i].ad by omega,hself] at h4
   cases h4
  rw [hOx _ hself,h3] at h1;have h5:=qq1 P (l.set i (l[i].to F)) u l[i].ad l.length;have h6:¬ 0<slotK P (l.set i (l[i].to F)) u l[i].ad l.length:=of_decide_eq_false h1;omega
 ·have had:1≤l[i].ad:=by
   unfold qkt at hr;simp only [Bool.and_eq_true,decide_eq_true_eq] at hr;exact hr.1.2.1
  obtain ⟨d,hd⟩:∃ d:Nat,l[i].ad=d:=⟨l[i].ad.toNat,by omega⟩
  have u1:∀ b:Nat,usesB P l[i] u b=decide (d≤b∧b<d+size):=by
   intro b;unfold usesB;rw [Bool.eq_iff_iff];simp only [Bool.and_eq_true,decide_eq_true_eq]
   constructor
   ·rintro ⟨⟨-,h2⟩,h3⟩;omega
   ·rintro ⟨h2,h3⟩;exact ⟨⟨hun,by omega⟩,by omega⟩
  have u2:∀ b:Nat,usesB P (l[i].to F) u b=decide (F≤b∧b<F+size):=by
   intro b;rw [q0bh,Bool.eq_iff_iff];simp only [Bool.and_eq_true,decide_eq_true_eq]
   constructor
   ·rintro ⟨⟨-,h2⟩,h3⟩;omega
   ·rintro ⟨h2,h3⟩;exact ⟨⟨hun,by omega⟩,by omega⟩
  unfold usedN;have c1:(fun b:Nat=>decide (0<slotK P l u b l.length))=fun b:Nat=>(O b || decide (d≤b∧b<d+size)):=funext fun b=>by rw [e1,u1]
  have c2:(fun b:Nat=>decide (0<slotK P (l.set i (l[i].to F)) u b l.length))=fun b:Nat=>(O b || decide (F≤b∧b<F+size)):=funext fun b=>by rw [e2,u2]
  rw [c1,c2,q09u,q09u,q09v,q09v]
  ·omega
  ·rintro b - ⟨h1,h2⟩
   rw [hOx b (by rw [u1];exact h2)] at h1
   cases h1
  ·rintro b - ⟨h1,h2⟩
   have h2:=of_decide_eq_true h2;rw [hOf b h2.1 h2.2] at h1
   cases h1
end

section
open Go.RowKit
theorem q0a2 (f:Int→Int) (a:Nat) (ha:a<513) (w:World):(Instr.index 85 (.agg (rowI f)) (.int .i64 a)).run prog w=.ok (.int .i64 (f a)) w:=by
 have h1:=qmz f ha;have h2:(0:Int)≤(a:Int)∧(a:Int)<513:=by omega
 simp [Instr.index,run_underlying underlying85,asIntOf,go_sem,h1,h2];intro h;omega
def sloI (P:List PC) (l:List Fx) (u a:Int):Int:=if 0<slotK P l u a l.length then slotK P l u a l.length-1 else 0
def sloO (P:List PC) (l:List Fx) (u a:Int):Int:=if 0<slotK P l u a l.length then a-(l.getD (slotK P l u a l.length-1).toNat fx0).ad else 0
def sloB (P:List PC) (l:List Fx) (u a:Int):Bool:=decide (0<slotK P l u a l.length)
theorem q0a7 {fn:Func} {t u v x:Tmp} (h:fn.results=#[.tmp t,.tmp u,.tmp v,.tmp x]) (tmps:Array Value) (P:Program) (w:World) :
  (results fn tmps).run P w=.ok (.tuple #[tmps.getD t undef,tmps.getD u undef,tmps.getD v undef,tmps.getD x undef]) w:=by
 simp [results,h]
theorem q0ac (A:Option Addr) (n c:Nat) (A':Option Addr) (n' c':Nat) (P:List PC) (l:List Fx) (u:Int) (a:Nat) (w:World) (hl:shX.In w A n l) (hnc:n≤c) (hc:c≤9223372036854775807) (hp:shPr.In w A' n' P) (hn':n'≤9223372036854775806) (hcb:∀ x ∈ l,x.cb.size≤9223372036854775807) (hE:patE P l=0) (ha:1≤a∧a≤512) :
  Calls prog 8 #[.slice A n c,.slice A' n' c',.int .i64 u,.int .i64 a] w fun e w'=>e=.returned (.tuple #[.int .i64 (sloI P l u a),.int .i64 (sloO P l u a),.bool (sloB P l u a),.int .i64 0])∧Below w.heap.size w w':=by
 obtain ⟨rfl,_⟩:=id hl;have hlen:=(q0a5.1 hE).2.1;have hpt:=(q0a5.1 hE).2.2;have HCk:=hj_ (fun (w:World) h1 h2=>q05y A l.length c A' n' c' P l w h1 hnc hc h2 hn' hcb hE)
 have HSl:=hj_ (fun (b:Nat) (w:World) h1 h2=>qyr A l.length c b P l u w h1 (by omega) h2 (fun i hi=>hpt.ok _ (List.getElem_mem hi)))
 have hix:=fun w=>q0a2 (fun a=>slotK P l u a l.length) a (by omega) w
 have hrg:=qq1 P l u a l.length;have hI:sloI P l u a=if 0<slotK P l u a l.length then slotK P l u a l.length-1 else 0:=rfl
 have hO:sloO P l u a=if 0<slotK P l u a l.length then a-(l.getD (slotK P l u a l.length-1).toNat fx0).ad else 0:=rfl
 have hB:sloB P l u a=decide (0<slotK P l u a l.length):=rfl;have hok:=fun i (hi:i<l.length)=>hpt.ok _ (List.getElem_mem hi)
 have HL:=hj_ hl;have HP:=hj_ hp;generalize sloI P l u a=RI at *;generalize sloO P l u a=RO at *;generalize sloB P l u a=RB at *
 try dsimp only at hix
 generalize rowI (fun a=>slotK P l u a l.length)=R at *
 generalize slotK P l u a l.length=S at *;clear hl hp hpt hnc hc hn' hcb hE;have a1:¬ (a:Int)<1:=by omega
 have a2:¬ (512:Int)<(a:Int):=by omega
 have wS:IntKind.i64.wrap (S-1)=S-1:=IntWalk.i64_in _ (by omega)
 by_cases hS:0<S
 ·rw [if_pos hS] at hI hO
  rw [decide_eq_true hS] at hB;subst hI hB;obtain ⟨s,hs⟩:∃ s:Nat,S=(s:Int)+1:=⟨(S-1).toNat,by omega⟩
  have hsl:s<l.length:=by omega
  have e1:S-1=(s:Int):=by omega
  rw [e1] at hO wS ⊢;rw [Int.toNat_natCast,qa1 hsl] at hO;have hrn:=(hok s hsl).1;have had:1≤l[s].ad∧l[s].ad≤512:=by
   unfold qkt at hrn;simp only [Bool.and_eq_true,decide_eq_true_eq] at hrn;exact hrn.1.2
  have g1:¬ (s:Int)<0:=by omega
  have i0:(0:Int)≤(s:Int):=by omega
  have i1:(s:Int)<(l.length:Int):=by omega
  have wO:IntKind.i64.wrap ((a:Int)-l[s].ad)=RO:=by rw [hO];exact IntWalk.i64_in _ (by omega)
  obtain ⟨bx,ox,rfl,hbx,hcell⟩:=fx_at HL.out (by omega)
  have hk:=hcell s hsl;have HK4:=hj_ (fun (w':World) (h:Below w.heap.size w w')=>show w'.cell? ⟨bx,ox+s*7+4,none⟩=some (.int .i64 l[s].ad) from by
   obtain ⟨k0,k1,k2,k3,k4,k5,k6⟩:=hk;exact (h.cell (p:=⟨bx,_,none⟩) hbx).trans k4)
  clear hcell hk hrn hok hO had hrg;generalize l[s].ad=ad at *
  go_enter func8,ntmps8
  go_wp2_with fail;refine (HCk.out _ HL.out HP.out).mono ?_;rintro e wk ⟨b,rfl,hbl,hM,hb⟩;obtain ⟨W1,hW1⟩:∃ W1,W1=wk.alloc (.cells #[.slice (some ⟨bx,ox,none⟩) l.length c,.map (some b)] 81):=⟨_,rfl⟩;have hb1:Below wk.heap.size wk W1:=by rw [hW1];exact (br_).alloc (Nat.le_refl _) _
  have hC1:Cells W1 wk.heap.size [.slice (some ⟨bx,ox,none⟩) l.length c,.map (some b)]:=by rw [hW1];exact Cells.fresh wk [.slice (some ⟨bx,ox,none⟩) l.length c,.map (some b)] _
  have HB1:=hj_ (ht_ hb hb1);have HM1:=hj_ (hM.below hb1);have HW1:=hj_ hW1;have k0:=hC1.at_ (j:=0) rfl
  have k1:=hC1.at_ (j:=1) rfl
  clear hb hb1 hM hW1 hC1;go_wp2_with fail;rw [← HW1.out];refine (HSl.out b _ (HL.out.below HB1.out) HM1.out).mono ?_;rintro e w2 ⟨rfl,hb⟩;have HB2:=hj_ (ht_ HB1.out hb);have k4:=HK4.out _ HB2.out;clear hb k0 k1;rw [hs] at hix;have wS2:IntKind.i64.wrap ((s:Int)+1-1)=(s:Int):=by rw [show (s:Int)+1-1=(s:Int) by omega];exact wS
  go_wp2_with fail;go_quiet (fail);go_wp2_with fail
  (try simp only [Exit.inBlock,Exit.then])
  refine bodyPost_ret (q0a7 rfl _ _ _) rfl ?_;exact ⟨by first | rfl | rw [wO],q18 HB2.out _⟩
 ·rw [if_neg hS] at hI hO
  rw [decide_eq_false hS] at hB;subst hI hO hB;have g1:S-1<0:=by omega
  clear hok hrg
  go_enter func8,ntmps8
  go_wp2_with fail;refine (HCk.out _ HL.out HP.out).mono ?_;rintro e wk ⟨b,rfl,hbl,hM,hb⟩;obtain ⟨W1,hW1⟩:∃ W1,W1=wk.alloc (.cells #[.slice A l.length c,.map (some b)] 81):=⟨_,rfl⟩;have hb1:Below wk.heap.size wk W1:=by rw [hW1];exact (br_).alloc (Nat.le_refl _) _
  have hC1:Cells W1 wk.heap.size [.slice A l.length c,.map (some b)]:=by rw [hW1];exact Cells.fresh wk [.slice A l.length c,.map (some b)] _
  have HB1:=hj_ (ht_ hb hb1);have HM1:=hj_ (hM.below hb1);have HW1:=hj_ hW1;have k0:=hC1.at_ (j:=0) rfl
  have k1:=hC1.at_ (j:=1) rfl
  clear hb hb1 hM hW1 hC1;go_wp2_with fail;rw [← HW1.out];refine (HSl.out b _ (HL.out.below HB1.out) HM1.out).mono ?_;rintro e w2 ⟨rfl,hb⟩;have HB2:=hj_ (ht_ HB1.out hb);clear hb k0 k1;go_wp2_with fail
  (try simp only [Exit.inBlock,Exit.then])
  refine bodyPost_ret (q0a7 rfl _ _ _) rfl ?_;exact ⟨rfl,HB2.out⟩
theorem q0af (A:Option Addr) (n c:Nat) (A':Option Addr) (n' c':Nat) (P:List PC) (l:List Fx) (u:Int) (w:World) (hl:shX.In w A n l) (hnc:n≤c) (hc:c≤9223372036854775807) (hp:shPr.In w A' n' P) (hn':n'≤9223372036854775806) (hcb:∀ x ∈ l,x.cb.size≤9223372036854775807) (hE:patE P l=0) :
  Calls prog 12 #[.slice A n c,.slice A' n' c',.int .i64 u] w fun e w'=>e=.returned (.tuple #[.int .i64 (usedN (fun b=>slotK P l u b l.length) 513),.int .i64 0])∧Below w.heap.size w w':=by
 obtain ⟨rfl,_⟩:=id hl;have hlen:=(q0a5.1 hE).2.1;have hpt:=(q0a5.1 hE).2.2;have HCk:=hj_ (fun (w:World) h1 h2=>q05y A l.length c A' n' c' P l w h1 hnc hc h2 hn' hcb hE)
 have HSl:=hj_ (fun (b:Nat) (w:World) h1 h2=>qyr A l.length c b P l u w h1 (by omega) h2 (fun i hi=>hpt.ok _ (List.getElem_mem hi)))
 have HIx:=hj_ (fun (a:Nat) (h:a<513)=>q0a2 (fun a=>slotK P l u a l.length) a h)
 have HSc:=hj_ (fun k=>q0bg (fun b=>slotK P l u b l.length) k)
 have HUl:=hj_ (fun k=>show usedN (fun b=>slotK P l u b l.length) k≤k from by
  unfold usedN
  have:=List.countP_le_length (p:=fun a:Nat=>decide (0<slotK P l u a l.length)) (l:=List.range k)
  rw [List.length_range] at this;exact this)
 have HL:=hj_ hl;have HP:=hj_ hp
 try dsimp only at HIx HSc
 generalize hf:(fun b:Nat=>slotK P l u b l.length)=f at *
 have HFf:=hj_ (fun k:Nat=>show slotK P l u k l.length=f k from by rw [← hf])
 generalize rowI (fun a=>slotK P l u a l.length)=R at *
 clear hl hp hpt hnc hc hn' hcb hE hf
 go_enter func12,ntmps12
 go_wp2_with fail;refine (HCk.out _ HL.out HP.out).mono ?_;rintro e wk ⟨b,rfl,hbl,hM,hb⟩;obtain ⟨W1,hW1⟩:∃ W1,W1=wk.alloc (.cells #[.slice A l.length c,.map (some b)] 81):=⟨_,rfl⟩;have hb1:Below wk.heap.size wk W1:=by rw [hW1];exact (br_).alloc (Nat.le_refl _) _
 have hC1:Cells W1 wk.heap.size [.slice A l.length c,.map (some b)]:=by rw [hW1];exact Cells.fresh wk [.slice A l.length c,.map (some b)] _
 have HB1:=hj_ (ht_ hb hb1);have HM1:=hj_ (hM.below hb1);have HW1:=hj_ hW1;have k0:=hC1.at_ (j:=0) rfl
 have k1:=hC1.at_ (j:=1) rfl
 clear hb hb1 hM hW1 hC1;go_wp2_with fail;rw [← HW1.out];refine (HSl.out b _ (HL.out.below HB1.out) HM1.out).mono ?_;rintro e w2 ⟨rfl,hb⟩;have HB2:=hj_ (ht_ HB1.out hb);clear hb k0 k1;go_wp2_with fail
 go_loopw [10,25] (fun uv kv wr=>∃ k:Nat,k≤513∧kv=.int .i64 k∧uv=.int .i64 (usedN f k)∧Below w.heap.size w wr) (fun _ kv _=>513-(intOf kv).toNat)
 case atStart=>exact ⟨0,Nat.zero_le _,rfl,rfl,HB2.out⟩
 case round =>
  obtain ⟨k,hk,rfl,rfl,hB⟩:=hrel;have HBr:=hj_ hB;clear hB
  by_cases hlt:k<513
  case neg =>
   obtain rfl:k=513:=by omega
   go_wp2_with fail;go_ret2;exact ⟨rfl,HBr.out⟩
  case pos =>
   have k1:(k:Int)<513:=by omega
   have hix:=HIx.out k hlt;have hsc:=HSc.out k;rw [HFf.out] at hsc;have hul:=HUl.out k;rw [HFf.out] at hix;have w0:IntKind.i64.wrap ((k:Int)+1)=(k:Int)+1:=IntWalk.i64_in _ (by omega)
   have w1:IntKind.i64.wrap ((usedN f k:Int)+1)=(usedN f k:Int)+1:=IntWalk.i64_in _ (by omega)
   have HSc2:=hj_ hsc;clear hsc;generalize f k=s at *
   by_cases hs:0<s
   ·have hsc:=HSc2.out
    rw [if_pos hs] at hsc;have HSc3:=hj_ hsc;clear hsc;go_wp2_with fail
    go_roundw
    case rel=>exact ⟨k+1,hlt,by go_num,by rw [HSc3.out];go_num,HBr.out⟩
    case measure=>simp [intOf];omega
   ·have hsc:=HSc2.out
    rw [if_neg hs,Nat.add_zero] at hsc;have HSc3:=hj_ hsc;clear hsc;go_wp2_with fail
    go_roundw
    case rel=>exact ⟨k+1,hlt,by go_num,by rw [HSc3.out,Nat.add_zero],HBr.out⟩
    case measure=>simp [intOf];omega
def freV (s:Nat→Int) (size:Nat):Int:=match freeA s size 513 with
 | none=>0
 | some a=>a
def freE (s:Nat→Int) (size:Nat):Int:=match freeA s size 513 with
 | none=>12
 | some _=>0
theorem q0ad (A:Option Addr) (n c:Nat) (A':Option Addr) (n' c':Nat) (P:List PC) (l:List Fx) (u:Int) (size:Nat) (w:World) (hl:shX.In w A n l) (hnc:n≤c) (hc:c≤9223372036854775807) (hp:shPr.In w A' n' P) (hn':n'≤9223372036854775806) (hcb:∀ x ∈ l,x.cb.size≤9223372036854775807) (hE:patE P l=0) (hu:1≤u∧u≤8) (hsz:1≤size∧size≤512) :
  Calls prog 10 #[.slice A n c,.slice A' n' c',.int .i64 u,.int .i64 size] w fun e w'=>e=.returned (.tuple #[.int .i64 (freV (fun b=>slotK P l u b l.length) size),.int .i64 (freE (fun b=>slotK P l u b l.length) size)])∧Below w.heap.size w w':=by
 obtain ⟨rfl,_⟩:=id hl;have hlen:=(q0a5.1 hE).2.1;have hpt:=(q0a5.1 hE).2.2;have HCk:=hj_ (fun (w:World) h1 h2=>q05y A l.length c A' n' c' P l w h1 hnc hc h2 hn' hcb hE)
 have HSl:=hj_ (fun (b:Nat) (w:World) h1 h2=>qyr A l.length c b P l u w h1 (by omega) h2 (fun i hi=>hpt.ok _ (List.getElem_mem hi)))
 have HIx:=hj_ (fun (a:Nat) (h:a<513)=>q0a2 (fun a=>slotK P l u a l.length) a h)
 have HL:=hj_ hl;have HP:=hj_ hp
 try dsimp only at HIx
 generalize hf:(fun b:Nat=>slotK P l u b l.length)=f at *
 have HFf:=hj_ (fun k:Nat=>show slotK P l u k l.length=f k from by rw [← hf])
 generalize rowI (fun a=>slotK P l u a l.length)=R at *
 have HV:=hj_ (show freV f size=match freeA f size 513 with
  | none=>0
  | some a=>(a:Int) from rfl)
 have HE:=hj_ (show freE f size=match freeA f size 513 with
  | none=>12
  | some _=>0 from rfl)
 have HFl:=hj_ (fun k=>q09y f k)
 have HMono:=hj_ (fun (k j:Nat) (a:Nat) (hk:k≤j) (h:freeA f size k=some a)=>show freeA f size j=some a from by
  induction j with
  | zero =>
       obtain rfl:k=0:=by omega
       exact h
  | succ j ih =>
   by_cases e:k=j+1
   ·subst e;exact h
   ·rw [freeA,ih (by omega)])
 have g1:¬ u<1:=by omega
 have g2:¬ (8:Int)<u:=by omega
 have g3:¬ (size:Int)<1:=by omega
 have g4:¬ (512:Int)<(size:Int):=by omega
 have HSz:=hj_ hsz;clear hl hp hpt hnc hc hn' hcb hE hf hsz;generalize freV f size=RV at *;generalize freE f size=RE at *
 go_enter func10,ntmps10
 go_wp2_with fail;refine (HCk.out _ HL.out HP.out).mono ?_;rintro e wk ⟨b,rfl,hbl,hM,hb⟩;obtain ⟨W1,hW1⟩:∃ W1,W1=wk.alloc (.cells #[.slice A l.length c,.map (some b)] 81):=⟨_,rfl⟩;have hb1:Below wk.heap.size wk W1:=by rw [hW1];exact (br_).alloc (Nat.le_refl _) _
 have hC1:Cells W1 wk.heap.size [.slice A l.length c,.map (some b)]:=by rw [hW1];exact Cells.fresh wk [.slice A l.length c,.map (some b)] _
 have HB1:=hj_ (ht_ hb hb1);have HM1:=hj_ (hM.below hb1);have HW1:=hj_ hW1;have k0:=hC1.at_ (j:=0) rfl
 have k1:=hC1.at_ (j:=1) rfl
 clear hb hb1 hM hW1 hC1;go_wp2_with fail;rw [← HW1.out];refine (HSl.out b _ (HL.out.below HB1.out) HM1.out).mono ?_;rintro e w2 ⟨rfl,hb⟩;have HB2:=hj_ (ht_ HB1.out hb);clear hb k0 k1;go_wp2_with fail
 go_loopw [12,41] (fun fv kv wr=>∃ k F:Nat,k≤513∧kv=.int .i64 k∧fv=.int .i64 F∧F=freeN f (k-1)∧freeA f size k=none∧Below w.heap.size w wr) (fun _ kv _=>513-(intOf kv).toNat)
 case atStart=>exact ⟨0,0,Nat.zero_le _,rfl,rfl,rfl,rfl,HB2.out⟩
 case round =>
  obtain ⟨k,F,hk,rfl,rfl,hF,hno,hB⟩:=hrel;have HBr:=hj_ hB;have HNo:=hj_ hno;have HF:=hj_ hF;clear hB hno hF
  by_cases hlt:k<513
  case neg =>
   obtain rfl:k=513:=by omega
   have hv:=HV.out;have he:=HE.out;rw [HNo.out] at hv he;dsimp only at hv he;subst hv he;go_wp2_with fail;go_ret2;exact ⟨rfl,HBr.out⟩
  case pos =>
   have k1:(k:Int)<513:=by omega
   have hix:=HIx.out k hlt;rw [HFf.out] at hix;have w0:IntKind.i64.wrap ((k:Int)+1)=(k:Int)+1:=IntWalk.i64_in _ (by omega)
   have hstep:freeA f size (k+1)=if freeN f k=size then some (k-size+1) else none:=by rw [freeA,HNo.out]
   have HMo:=hj_ (HMono.out (k+1) 513);have hle:=HFl.out k;have hle1:=HFl.out (k-1);have HK:=hj_ hlt;have hsz:=HSz.out;have hF:=HF.out;have g5:((0:Int) == (size:Int))=false:=by rw [beq_eq_false_iff_ne];omega
   by_cases hk0:k=0
   case pos =>
    subst hk0;have hF0:F=0:=hF;subst hF0;replace hix:=(show ∀ w,(Instr.index 85 (.agg R) (.int .i64 0)).run prog w=.ok (.int .i64 (f 0)) w from hix)
    rw [if_neg (by show ¬ 0=size;omega)] at hstep
    have HSt:=hj_ hstep;clear hstep hle hle1 hsz hF;go_wp2_with fail
    go_roundw
    case rel=>exact ⟨1,0,by omega,by go_num,rfl,rfl,HSt.out,HBr.out⟩
    case measure=>simp [intOf]
   case neg =>
    obtain ⟨j,rfl⟩:∃ j,k=j+1:=⟨k-1,by omega⟩
    rw [Nat.add_sub_cancel] at hF hle1;have hfn:freeN f (j+1)=if 0<f (j+1) then 0 else freeN f j+1:=by rw [freeN]
    generalize hkj:j+1=k at *;have g6:((k:Int) == 0)=false:=by rw [beq_eq_false_iff_ne];omega
    have HKj:=hj_ hkj;rw [← hF] at hfn hle1;have wF:IntKind.i64.wrap ((F:Int)+1)=(F:Int)+1:=IntWalk.i64_in _ (by omega)
    have HFn:=hj_ hfn;clear hfn hkj;generalize f k=s at *
    by_cases hs:0<s
    case pos =>
     have hfn:=HFn.out;rw [if_pos hs] at hfn;rw [hfn,if_neg (by omega)] at hstep
     have HSt:=hj_ (And.intro hstep hfn);clear hstep hfn hle hle1 hsz hF;go_wp2_with fail
     go_roundw
     case rel=>exact ⟨k+1,0,HK.out,by go_num,rfl,by rw [Nat.add_sub_cancel];exact HSt.out.2.symm,HSt.out.1,HBr.out⟩
     case measure=>simp [intOf];have:=HK.out;omega
    case neg =>
     have hfn:=HFn.out;rw [if_neg hs] at hfn
     by_cases he:F+1=size
     case pos =>
      rw [hfn,if_pos he] at hstep;rw [hfn] at hle;have hr:=HMo.out _ (by omega) hstep
      have hv:=HV.out;have hee:=HE.out;rw [hr] at hv hee;dsimp only at hv hee;have g7:((F:Int)+1 == (size:Int))=true:=by rw [beq_iff_eq];omega
      have hks:size≤k:=by rw [← he];exact hle
      have e0:((k-size+1:Nat):Int)=(k:Int)-(size:Int)+1:=by rw [Int.natCast_add,Int.natCast_sub hks];rfl
      have e1:(k:Int)-(size:Int)+1=RV:=by rw [hv];exact e0.symm
      have w1:IntKind.i64.wrap ((k:Int)-(size:Int))=(k:Int)-(size:Int):=IntWalk.i64_in _ (by omega)
      have w2:IntKind.i64.wrap ((k:Int)-(size:Int)+1)=RV:=by rw [e1,hv,e0];exact IntWalk.i64_in _ (by omega)
      subst hee;clear hstep hfn hle hle1 hsz hF hv hr e1;go_wp2_with fail;go_ret2;exact ⟨by first | rfl | rw [w2],HBr.out⟩
     case neg =>
      rw [hfn,if_neg he] at hstep;have g7:((F:Int)+1 == (size:Int))=false:=by rw [beq_eq_false_iff_ne];omega
      have HSt:=hj_ (And.intro hstep hfn);clear hstep hfn hle hle1 hsz hF;go_wp2_with fail
      go_roundw
      case rel=>exact ⟨k+1,F+1,HK.out,by go_num,by go_num,by rw [Nat.add_sub_cancel];exact HSt.out.2.symm,HSt.out.1,HBr.out⟩
      case measure=>simp [intOf];have:=HK.out;omega
end

section
open Go.RowKit
theorem q0be (A:Option Addr) (n c:Nat) (A':Option Addr) (n' c':Nat) (P:List PC) (l:List Fx) (w:World) (hl:shX.In w A n l) (hnc:n≤c) (hc:c≤9223372036854775807) (hp:shPr.In w A' n' P) (hn':n'≤9223372036854775806) (hcb:∀ x ∈ l,x.cb.size≤9223372036854775807) (hE:patE P l=0) :
  Calls prog 29 #[.slice A n c,.slice A' n' c'] w fun e w'=>e=.returned (.tuple #[.slice A n c,.int .i64 0])∧Below w.heap.size w w':=by
 have HCk:=hj_ (qy1 A n c A' n' c' P l w hl hnc hc hp hn' hcb);rw [hE] at HCk;clear hl hnc hc hp hn' hcb hE
 go_enter func29,ntmps29
 go_wp2_with fail;refine HCk.out.mono ?_;rintro e wk ⟨rfl,hb⟩;go_wp2_with fail;go_ret2;exact ⟨rfl,hb⟩
theorem q0a1 {P:List PC} {l:List Fx} (hp:Patched P l) {i:Nat} (hi:i<l.length):idxP l l[i].ch l[i].pt=i:=by
 unfold idxP;have hself:(decide (l[i].ch=l[i].ch) && decide (l[i].pt=l[i].pt))=true:=by simp
 have h0:¬ idxOf (fun x:Fx=>decide (x.ch=l[i].ch) && decide (x.pt=l[i].pt)) l<0:=fun h=>q012 (List.getElem_mem hi) hself h
 obtain ⟨k,hk⟩:∃ k:Nat,idxOf (fun x:Fx=>decide (x.ch=l[i].ch) && decide (x.pt=l[i].pt)) l=k:=Int.eq_ofNat_of_zero_le (Int.not_lt.1 h0)
 have hlt:=qbb (p:=fun x:Fx=>decide (x.ch=l[i].ch) && decide (x.pt=l[i].pt)) l
 have hkl:k<l.length:=by omega
 have h1:=qba hkl hk;have h2:=q055 hk;rw [hk]
 by_cases e:k=i
 ·rw [e]
 ·have hki:k<i:=by
   by_cases h:i<k
   ·have:=h2 i hi h
    rw [hself] at this
    cases this
   ·omega
  have h3:=(List.pairwise_iff_getElem.1 hp.two k i hkl hi hki).1;unfold sameP at h3;simp only [Bool.and_eq_true,decide_eq_true_eq] at h1;rw [decide_eq_true h1.1.symm,decide_eq_true h1.2.symm] at h3
  cases h3
theorem q0bi:∀ (l:List Fx) (k:Nat) (h:k<l.length) (a:Int),((shX.vs l).set (k*7+3) (.int .i64 l[k].un)).set (k*7+4) (.int .i64 a)=shX.vs (l.set k (l[k].to a))
 | x :: t,0,_,_=>rfl
 | x :: t,k+1,h,a=>by
  have ih:=q0bi t k (by simpa using h) a
  show ((Value.int .i64 x.ch :: .int .i64 x.pt :: .string x.pr :: .int .i64 x.un :: .int .i64 x.ad :: .int .i64 x.ph :: .string x.cb :: shX.vs t).set ((k+1)*7+3) (.int .i64 (t[k]'(by simpa using h)).un)).set ((k+1)*7+4) _=.int .i64 x.ch :: .int .i64 x.pt :: .string x.pr :: .int .i64 x.un :: .int .i64 x.ad :: .int .i64 x.ph :: .string x.cb :: shX.vs (t.set k ((t[k]'(by simpa using h)).to a))
  rw [show (k+1)*7+3=k*7+3+1+1+1+1+1+1+1 by omega,show (k+1)*7+4=k*7+4+1+1+1+1+1+1+1 by omega]
  simp only [List.set_cons_succ];rw [ih]
theorem q0ae (A:Option Addr) (n c:Nat) (A':Option Addr) (n' c':Nat) (P:List PC) (l:List Fx) (i:Nat) (hi:i<l.length) (ch pt:Int) (pr:ByteArray) (un ad ph:Int) (cb:ByteArray) (F:Int) (hx:l[i]=⟨ch,pt,pr,un,ad,ph,cb⟩) (w:World) (hl:shX.In w A n l) (hnc:n≤c) (hc:c≤9223372036854775807) (hp:shPr.In w A' n' P) (hn':n'≤9223372036854775806) (hcb:∀ x ∈ l,x.cb.size≤9223372036854775807) (hE:patE P l=0) (hE2:patE P (l.set i (l[i].to F))=0) :
  Calls prog 11 #[.slice A n c,.slice A' n' c',.agg #[.int .i64 ch,.int .i64 pt,.string pr,.int .i64 un,.int .i64 ad,.int .i64 ph,.string cb],.agg #[.int .i64 ch,.int .i64 pt,.string pr,.int .i64 un,.int .i64 F,.int .i64 ph,.string cb]] w fun e w'=>∃ B c2,e=.returned (.tuple #[.slice (some ⟨B,0,none⟩) l.length c2,.int .i64 0])∧shX.In w' (some ⟨B,0,none⟩) l.length (l.set i (l[i].to F))∧(l.length≤c2∧c2≤9223372036854775807)∧Below w.heap.size w w':=by
 obtain ⟨rfl,_⟩:=id hl;have hlen:=(q0a5.1 hE).2.1;have hpt:=(q0a5.1 hE).2.2;obtain ⟨Y,hY⟩:∃ Y,Y=l.set i (l[i].to F):=⟨_,rfl⟩;have hcbY:∀ x ∈ Y,x.cb.size≤9223372036854775807:=fun x hx=>by
  rw [hY] at hx
  rcases List.mem_or_eq_of_mem_set hx with h | rfl
  ·exact hcb x h
  ·exact hcb l[i] (List.getElem_mem hi)
 have hvs:=q0bi l i hi F;rw [← hY] at hE2 hvs ⊢;have hYl:Y.length=l.length:=by rw [hY];exact List.length_set
 clear hY;have hidx:=q0a1 hpt hi;rw [hx] at hidx;dsimp only at hidx;have HCk:=hj_ (fun (w:World) h1 h2=>q05y A l.length c A' n' c' P l w h1 hnc hc h2 hn' hcb hE)
 have HIn:=hj_ (fun (b:Nat) (w:World) h1=>qu3 A l.length c (.map (some b)) l ch pt w rfl h1 (by omega))
 rw [hidx] at HIn;have HCl:=hj_ (fun (w:World) h1=>q04m A l.length c l w h1 (by omega))
 have HRs:=hj_ (fun (B:Nat) (c2:Nat) (h1:l.length≤c2) (h2:c2≤9223372036854775807) (w:World) (h3:shX.In w (some ⟨B,0,none⟩) l.length Y) (h4:shPr.In w A' n' P)=>q0be (some ⟨B,0,none⟩) l.length c2 A' n' c' P Y w h3 h1 h2 h4 hn' hcbY hE2)
 rw [show l[i].un=un by rw [hx]] at hvs
 have HVs:=hj_ hvs;have HYl:=hj_ hYl;have HL:=hj_ hl;have HP:=hj_ hp;have HLn:=hj_ (And.intro hi hlen);clear hl hp hpt hnc hc hn' hcb hcbY hE hE2 hidx hx hvs hYl;obtain ⟨W,hW⟩:∃ W,W=((w.alloc (.cells #[.int .i64 ch,.int .i64 pt,.string pr,.int .i64 un,.int .i64 ad,.int .i64 ph,.string cb] 36)).alloc (.cells #[.int .i64 ch,.int .i64 pt,.string pr,.int .i64 un,.int .i64 F,.int .i64 ph,.string cb] 36)):=⟨_,rfl⟩;obtain ⟨hB0,hK0⟩:=box2 #[.int .i64 ch,.int .i64 pt,.string pr,.int .i64 un,.int .i64 ad,.int .i64 ph,.string cb] 36 #[.int .i64 ch,.int .i64 pt,.string pr,.int .i64 un,.int .i64 F,.int .i64 ph,.string cb] 36 w W hW;have hK:∀ w',Below W.heap.size W w'→w'.cell? ⟨w.heap.size,0,none⟩=some (.int .i64 ch)∧w'.cell? ⟨w.heap.size,1,none⟩=some (.int .i64 pt)∧w'.cell? ⟨w.heap.size,2,none⟩=some (.string pr)∧w'.cell? ⟨w.heap.size,3,none⟩=some (.int .i64 un)∧w'.cell? ⟨w.heap.size,4,none⟩=some (.int .i64 ad)∧w'.cell? ⟨w.heap.size,5,none⟩=some (.int .i64 ph)∧w'.cell? ⟨w.heap.size,6,none⟩=some (.string cb)∧w'.cell? ⟨w.heap.size+1,0,none⟩=some (.int .i64 ch)∧w'.cell? ⟨w.heap.size+1,1,none⟩=some (.int .i64 pt)∧w'.cell? ⟨w.heap.size+1,2,none⟩=some (.string pr)∧w'.cell? ⟨w.heap.size+1,3,none⟩=some (.int .i64 un)∧w'.cell? ⟨w.heap.size+1,4,none⟩=some (.int .i64 F)∧w'.cell? ⟨w.heap.size+1,5,none⟩=some (.int .i64 ph)∧w'.cell? ⟨w.heap.size+1,6,none⟩=some (.string cb):=fun w' h=>⟨(hK0 w' h).1 0 _ rfl,(hK0 w' h).1 1 _ rfl,(hK0 w' h).1 2 _ rfl,(hK0 w' h).1 3 _ rfl,(hK0 w' h).1 4 _ rfl,(hK0 w' h).1 5 _ rfl,(hK0 w' h).1 6 _ rfl,(hK0 w' h).2 0 _ rfl,(hK0 w' h).2 1 _ rfl,(hK0 w' h).2 2 _ rfl,(hK0 w' h).2 3 _ rfl,(hK0 w' h).2 4 _ rfl,(hK0 w' h).2 5 _ rfl,(hK0 w' h).2 6 _ rfl⟩
 have HK:=hj_ hK;have HW:=hj_ hW;have HB0:=hj_ hB0;have hB:=Below.refl W.heap.size W;obtain ⟨c0,c1,c2,c3,c4,c5,c6,c7,c8,c9,c10,c11,c12,c13⟩:=hK W hB;clear hW hB0 hK hK0;replace HL:=hj_ (HL.out.below HB0.out);replace HP:=hj_ (HP.out.below HB0.out);clear c0 c1 c2 c3 c4 c5 c6 c7 c8 c9 c10 c11 c12 c13
 go_enter func11,ntmps11
 go_wp2_with fail;rw [← HW.out];refine (HCk.out _ (HL.out.below hB) (HP.out.below hB)).mono ?_;rintro e wk ⟨b,rfl,hbl,hM,hb⟩;obtain ⟨W1,hW1⟩:∃ W1,W1=wk.alloc (.cells #[.slice A l.length c,.map (some b)] 81):=⟨_,rfl⟩;have hb1:Below wk.heap.size wk W1:=by rw [hW1];exact (br_).alloc (Nat.le_refl _) _
 have hC1:Cells W1 wk.heap.size [.slice A l.length c,.map (some b)]:=by rw [hW1];exact Cells.fresh wk [.slice A l.length c,.map (some b)] _
 have hBk:=ht_ hB hb;have hB1:=ht_ hBk hb1;have HW1:=hj_ hW1;have k0:=hC1.at_ (j:=0) rfl
 have k1:=hC1.at_ (j:=1) rfl
 obtain ⟨c0,c1,c2,c3,c4,c5,c6,c7,c8,c9,c10,c11,c12,c13⟩:=HK.out _ hBk;have n1:w.heap.size<wk.heap.size:=Nat.lt_of_lt_of_le (by rw [HW.out];simp;omega) hBk.size
 have n2:¬ w.heap.size=wk.heap.size:=by omega
 have HB1:=hj_ hB1;clear c2 c3 c4 c5 c6 c7 c8 c9 c10 c11 c12 c13 hb hb1 hM hW1 hC1 hBk hB1 hB hbl;go_wp2_with fail;rw [← HW1.out];refine (HIn.out b _ (HL.out.below HB1.out)).mono ?_;rintro e w2 ⟨rfl,hb⟩;have HB2:=hj_ (ht_ HB1.out hb);have g1:¬ (i:Int)<0:=by omega
 clear hb k0 k1 c0 c1 n1 n2;go_wp2_with fail;refine (HCl.out _ (HL.out.below HB2.out)).mono ?_;rintro e w3 ⟨v',rfl,hown,hb⟩;obtain ⟨Ao,co,rfl⟩:=qfu hown;have HB3:=hj_ (ht_ HB2.out hb);have hz2:=HB2.out.size;clear hb;have hcap:=qft hown
 rcases hown.2 with ⟨hv,hxs⟩ | ⟨g,cap,cur,hv,hg,hcur,-⟩
 ·injection hv with e1 e2 e3
  have:=HLn.out.1
  omega
 injection hv with e1 e2 e3
 subst e1 e3;have hC3:=q05b hown;have HCp:=hj_ hcap;have hgw:W.heap.size≤g:=Nat.le_trans hz2 hg;have hne:g≠w.heap.size+1:=by
  have:W.heap.size=w.heap.size+1+1:=by rw [HW.out];simp
  omega
 clear hown hcap hcur hg hz2;obtain ⟨-,-,-,-,-,-,-,-,-,-,t3,t4,-⟩:=HK.out _ HB3.out;have hvl:=q04w l;have hil:=HLn.out.1;have i0:(0:Int)≤(i:Int):=by omega
 have i1:(i:Int)<(l.length:Int):=by omega
 have HC3:=hj_ hC3;have hgs:g<w3.heap.size:=hC3.1;have z3:=hC3.at_ (List.getElem?_eq_getElem (show i*7+3<(shX.vs l).length by omega))
 have z4:=hC3.at_ (List.getElem?_eq_getElem (show i*7+4<(shX.vs l).length by omega))
 have f3:=hC3.fr (List.getElem?_eq_getElem (show i*7+3<(shX.vs l).length by omega))
 have f4:=hC3.fr (List.getElem?_eq_getElem (show i*7+4<(shX.vs l).length by omega))
 clear hC3;go_wp2_with fail;refine wp_region_held_drew (S:=fun w'=>w'.cell? ⟨w.heap.size+1,3,none⟩=some (.int .i64 un)∧w'.cell? ⟨w.heap.size+1,4,none⟩=some (.int .i64 F)) (by kernel_rfl) (by first | exact ⟨t3,t4⟩) (fun hHeld=>?_)
 refine wpAnyH_take (i:=0) (oi:=?_) (v:=?_) ?_ (by kernel_rfl) (by kernel_rfl) (by kernel_rfl) ?_ (Or.inl ⟨?_,?_⟩) (by assumption) ?_
 rotate_left 2
 ·(simp only [List.getElem?_toArray,List.getElem?_cons_zero];rfl)
 ·exact fun _ _ _ h=>h
 ·rfl
 ·(intro w hSw;(try dsimp only at hSw);go_simp;try with_reducible rfl)
 simp only [Act.put,List.setIfInBounds_toArray,List.set_cons_zero,List.set_cons_succ];refine wpAnyH_take (i:=1) (oi:=?_) (v:=?_) ?_ (by kernel_rfl) (by kernel_rfl) (by kernel_rfl) ?_ (Or.inl ⟨?_,?_⟩) (by assumption) ?_
 rotate_left 2
 ·(simp only [List.getElem?_toArray,List.getElem?_cons_succ,List.getElem?_cons_zero];rfl)
 ·exact fun _ _ _ h=>h
 ·rfl
 ·(intro w hSw;(try dsimp only at hSw);go_simp;try with_reducible rfl)
 simp only [Act.put,List.setIfInBounds_toArray,List.set_cons_zero,List.set_cons_succ];refine wpAnyH_take (i:=2) (oi:=?_) (v:=?_) ?_ (by kernel_rfl) (by kernel_rfl) (by kernel_rfl) ?_ (Or.inl ⟨?_,?_⟩) (by assumption) ?_
 rotate_left 2
 ·(simp only [List.getElem?_toArray,List.getElem?_cons_succ,List.getElem?_cons_zero];rfl)
 ·exact fun _ _ _ h=>h
 ·rfl
 ·(intro w hSw;(try dsimp only at hSw);go_simp;try with_reducible rfl)
 simp only [Act.put,List.setIfInBounds_toArray,List.set_cons_zero,List.set_cons_succ];refine wpAnyH_take (i:=3) (oi:=?_) (v:=?_) ?_ (by kernel_rfl) (by kernel_rfl) (by kernel_rfl) ?_ (Or.inl ⟨?_,?_⟩) (by assumption) ?_
 rotate_left 2
 ·(simp only [List.getElem?_toArray,List.getElem?_cons_succ,List.getElem?_cons_zero];rfl)
 ·exact fun _ _ _ h=>h
 ·rfl
 ·(intro w hSw;(try dsimp only at hSw);go_simp;try with_reducible rfl)
 simp only [Act.put,List.setIfInBounds_toArray,List.set_cons_zero,List.set_cons_succ];refine wpAnyH_take (i:=4) (oi:=?_) (v:=?_) ?_ (by kernel_rfl) (by kernel_rfl) (by kernel_rfl) ?_ (Or.inl ⟨?_,?_⟩) (by assumption) ?_
 rotate_left 2
 ·(simp only [List.getElem?_toArray,List.getElem?_cons_succ,List.getElem?_cons_zero];rfl)
 ·exact fun _ _ _ h=>h
 ·rfl
 ·(intro w hSw;(try dsimp only at hSw);go_simp;try with_reducible rfl)
 simp only [Act.put,List.setIfInBounds_toArray,List.set_cons_zero,List.set_cons_succ];refine wpAnyH_take (i:=5) (oi:=?_) (v:=?_) ?_ (by kernel_rfl) (by kernel_rfl) (by kernel_rfl) ?_ (Or.inl ⟨?_,?_⟩) (by assumption) ?_
 rotate_left 2
 ·(simp only [List.getElem?_toArray,List.getElem?_cons_succ,List.getElem?_cons_zero];rfl)
 ·exact fun _ _ _ h=>h
 ·rfl
 ·(intro w hSw;(try dsimp only at hSw);go_simp;try with_reducible rfl)
 simp only [Act.put,List.setIfInBounds_toArray,List.set_cons_zero,List.set_cons_succ];refine wpAnyH_take (i:=6) (oi:=?_) (v:=?_) ?_ (by kernel_rfl) (by kernel_rfl) (by kernel_rfl) ?_ (Or.inl ⟨?_,?_⟩) (by assumption) ?_
 rotate_left 2
 ·(simp only [List.getElem?_toArray,List.getElem?_cons_succ,List.getElem?_cons_zero];rfl)
 ·exact fun _ _ _ h=>h
 ·rfl
 ·(intro w hSw;(try dsimp only at hSw);go_simp;try with_reducible rfl)
 simp only [Act.put,List.setIfInBounds_toArray,List.set_cons_zero,List.set_cons_succ];refine wpAnyH_take (i:=7) (oi:=?_) (v:=?_) ?_ (by kernel_rfl) (by kernel_rfl) (by kernel_rfl) ?_ (Or.inl ⟨?_,?_⟩) (by assumption) ?_
 rotate_left 2
 ·(simp only [List.getElem?_toArray,List.getElem?_cons_succ,List.getElem?_cons_zero];rfl)
 ·exact fun _ _ _ h=>h
 ·rfl
 ·(intro w hSw;(try dsimp only at hSw);go_simp;try with_reducible rfl)
 simp only [Act.put,List.setIfInBounds_toArray,List.set_cons_zero,List.set_cons_succ];refine wpAnyH_take (i:=8) (oi:=?_) (v:=?_) ?_ (by kernel_rfl) (by kernel_rfl) (by kernel_rfl) ?_ (Or.inl ⟨?_,?_⟩) (by assumption) ?_
 rotate_left 2
 ·(simp only [List.getElem?_toArray,List.getElem?_cons_succ,List.getElem?_cons_zero];rfl)
 ·exact fun _ _ _ h=>h
 ·rfl
 ·(intro w hSw;(try dsimp only at hSw);go_simp;try with_reducible rfl)
 simp only [Act.put,List.setIfInBounds_toArray,List.set_cons_zero,List.set_cons_succ];refine wpAnyH_take (i:=9) (oi:=?_) (v:=?_) ?_ (by kernel_rfl) (by kernel_rfl) (by kernel_rfl) ?_ (Or.inl ⟨?_,?_⟩) (by assumption) ?_
 rotate_left 2
 ·(simp only [List.getElem?_toArray,List.getElem?_cons_succ,List.getElem?_cons_zero];rfl)
 ·exact fun _ _ _ h=>h
 ·rfl
 ·(intro w hSw;(try dsimp only at hSw);go_simp;try with_reducible rfl)
 simp only [Act.put,List.setIfInBounds_toArray,List.set_cons_zero,List.set_cons_succ];refine wpAnyH_ready (rs:=[10]) (by kernel_rfl) (by simp) ?_
 refine AllReadyH.cons rfl (fun K hK=>?_) AllReadyH.nil
 go_simp
 refine hK.out _ _ (by first | exact ⟨t3,t4⟩ | exact ⟨(World.cell?_setCell_far _ _ _ _ hne).trans t3,(World.cell?_setCell_far _ _ _ _ hne).trans t4⟩ | exact ⟨(World.cell?_setCell_far _ _ _ _ hne).trans ((World.cell?_setCell_far _ _ _ _ hne).trans t3),(World.cell?_setCell_far _ _ _ _ hne).trans ((World.cell?_setCell_far _ _ _ _ hne).trans t4)⟩) (fun hHeld=>?_)
 clear hK K
 try simp only [Act.put,List.setIfInBounds_toArray,List.set_cons_zero,List.set_cons_succ]
 refine wpAnyH_take (i:=11) (oi:=?_) (v:=?_) ?_ (by kernel_rfl) (by kernel_rfl) (by kernel_rfl) ?_ (Or.inl ⟨?_,?_⟩) (by assumption) ?_
 rotate_left 2
 ·(simp only [List.getElem?_toArray,List.getElem?_cons_succ,List.getElem?_cons_zero];rfl)
 ·exact fun _ _ _ h=>h
 ·rfl
 ·(intro w hSw;(try dsimp only at hSw);go_simp;try with_reducible rfl)
 simp only [Act.put,List.setIfInBounds_toArray,List.set_cons_zero,List.set_cons_succ];refine wpAnyH_take (i:=12) (oi:=?_) (v:=?_) ?_ (by kernel_rfl) (by kernel_rfl) (by kernel_rfl) ?_ (Or.inl ⟨?_,?_⟩) (by assumption) ?_
 rotate_left 2
 ·(simp only [List.getElem?_toArray,List.getElem?_cons_succ,List.getElem?_cons_zero];rfl)
 ·exact fun _ _ _ h=>h
 ·rfl
 ·(intro w hSw;(try dsimp only at hSw);go_simp;try with_reducible rfl)
 simp only [Act.put,List.setIfInBounds_toArray,List.set_cons_zero,List.set_cons_succ];refine wpAnyH_ready (rs:=[13]) (by kernel_rfl) (by simp) ?_
 refine AllReadyH.cons rfl (fun K hK=>?_) AllReadyH.nil
 go_simp
 refine hK.out _ _ (by first | exact ⟨t3,t4⟩ | exact ⟨(World.cell?_setCell_far _ _ _ _ hne).trans t3,(World.cell?_setCell_far _ _ _ _ hne).trans t4⟩ | exact ⟨(World.cell?_setCell_far _ _ _ _ hne).trans ((World.cell?_setCell_far _ _ _ _ hne).trans t3),(World.cell?_setCell_far _ _ _ _ hne).trans ((World.cell?_setCell_far _ _ _ _ hne).trans t4)⟩) (fun hHeld=>?_)
 clear hK K
 try simp only [Act.put,List.setIfInBounds_toArray,List.set_cons_zero,List.set_cons_succ]
 refine wpAnyH_done (by kernel_rfl) ?_ _
 have hs1:=HC3.out.set (i*7+3) (.int .i64 un) (by omega)
 have hs2:=hs1.set (i*7+4) (.int .i64 F) (by rw [List.length_set];omega)
 rw [HVs.out] at hs2;have hb2:=(HB3.out.setCell (p:=⟨g,i*7+3,none⟩) hgw (.int .i64 un)).setCell (p:=⟨g,i*7+4,none⟩) hgw (.int .i64 F);generalize (w3.setCell ⟨g,i*7+3,none⟩ (.int .i64 un)).setCell ⟨g,i*7+4,none⟩ (.int .i64 F)=V5 at *;have hin:=fx_in hs2;rw [HYl.out] at hin;have HI5:=hj_ (hin.below ((Below.refl V5.heap.size V5).drew));have HB5:=hj_ hb2.drew;clear hs1 hs2 hb2 hin hHeld;go_wp2_with fail;refine (HRs.out g co HCp.out.1 HCp.out.2 _ HI5.out (HP.out.below HB5.out)).mono ?_;rintro e w6 ⟨rfl,hb⟩;have HI6:=hj_ (HI5.out.below hb);have HB6:=hj_ (HB0.out.trans ((ht_ HB5.out hb).mono HB0.out.size));clear hb;go_wp2_with fail;go_ret2;exact ⟨g,co,rfl,HI6.out,HCp.out,HB6.out⟩
end

end Go.Proofs.YtmcbkdlfhffphaaGreatDoor
