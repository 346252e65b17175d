/- Lemmas. -/
import Derived.Lib.ItoaNum
import Derived.Lib.ParseIntB
import Derived.Lib.SlTrimSet
import Derived.Lib.Bytealg
namespace Go.Proofs.YtabhjdmmfdfpeaaGreatDoor
set_option maxHeartbeats 32000000
variable {x y z:Int} {L O l:List Nat} {B D N Q R V a c d e i j k m n o q v:Nat} {b r:Rat}
universe u
theorem o_ {p:Prop} (h:p:=by omega):p:=h
theorem d_ {p:Prop} (h:p:=by decide):p:=h
theorem s_ {p:Prop} (h:p:=by simp):p:=h
theorem oh_ {p q:Prop} (h:p) (g:p→q:=by intro h;omega):q:=g h
theorem ex_ {α:Sort u} (a:α):∃ x,x=a:=⟨a,rfl⟩
theorem xe_ {α:Sort u} (a:α):∃ x,a=x:=⟨a,rfl⟩
theorem lr_:n≤n:=Nat.le_refl n
def wv (B:Nat):List Nat→Nat
 | []=>0
 | x :: t=>x+B*wv B t
def Wd (B:Nat) (l:List Nat):Prop:=∀ x ∈ l,x<B
def wds (B:Nat) (n:Nat):List Nat:=if _h:n=0∨B≤1 then [] else n % B :: wds B (n / B)
termination_by n
decreasing_by exact Nat.div_lt_self o_ o_
theorem q00f (B:Nat) (l k:List Nat):wv B (l ++ k)=wv B l+B ^ l.length*wv B k:=by
 induction l with
 | nil=>simp [wv]
 | cons x t ih=>simp only [List.cons_append,wv,ih,List.length_cons,Nat.pow_succ];rw [Nat.mul_add,← Nat.mul_assoc,Nat.mul_comm B (B ^ t.length)];omega
theorem q00j (B:Nat) (l:List Nat) (x:Nat):wv B (l ++ [x])=wv B l+B ^ l.length*x:=by rw [q00f];simp [wv]
theorem q00k (B:Nat) (l:List Nat) (k:Nat) (h:k<l.length):wv B (l.take (k+1))=wv B (l.take k)+B ^ k*l[k]:=by
 rw [List.take_succ_eq_append_getElem h,q00j,List.length_take,Nat.min_eq_left o_]
theorem wv_lt (h:Wd B l):wv B l<B ^ l.length:=by
 induction l with
 | nil=>simp [wv]
 | cons x t ih =>
  have h1:=h x s_
  have h2:=ih fun y hy=>h y (by simp [hy])
  simp only [wv,List.length_cons,Nat.pow_succ];have h3:B*(wv B t+1)≤B*B ^ t.length:=Nat.mul_le_mul_left _ h2;rw [Nat.mul_comm (B ^ t.length)];rw [Nat.mul_add] at h3;omega
theorem q00h (B k:Nat):wv B (List.replicate k 0)=0:=by
 induction k with
 | zero=>rfl
 | succ k ih=>simp [List.replicate_succ,wv,ih]
theorem wv_set {B:Nat}:∀ {l:List Nat} {k:Nat} (h:k<l.length) (x:Nat),wv B (l.set k x)+B ^ k*l[k]=wv B l+B ^ k*x
 | y :: t,0,_,x=>by simp [wv];omega
 | y :: t,k+1,h,x=>by
  have ih:=wv_set (B:=B) (l:=t) (k:=k) (by simpa using h) x
  simp only [List.set_cons_succ,wv,List.getElem_cons_succ,Nat.pow_succ];have e:∀ z,B ^ k*B*z=B*(B ^ k*z):=fun z=>by rw [Nat.mul_comm (B ^ k) B,Nat.mul_assoc]
  rw [e,e]
  have:=congrArg (B * ·) ih
  simp only [Nat.mul_add] at this;omega
theorem Wd.nil (B:Nat):Wd B []:=by intro x hx;cases hx
theorem Wd.snoc (h:Wd B l) {x:Nat} (hx:x<B):Wd B (l ++ [x]):=by
 intro y hy
 rcases List.mem_append.1 hy with hy | hy
 ·exact h y hy
 ·simp at hy;omega
theorem Wd.set (h:Wd B l) {x:Nat} (hx:x<B) (k:Nat):Wd B (l.set k x):=by
 intro y hy
 rcases List.mem_or_eq_of_mem_set hy with hy | hy
 ·exact h y hy
 ·omega
theorem Wd.at (h:Wd B l) (hk:k<l.length):l[k]<B:=h _ (List.getElem_mem hk)
theorem Wd.take (h:Wd B l) (k:Nat):Wd B (l.take k):=fun x hx=>h x (List.mem_of_mem_take hx)
theorem Wd.drop (h:Wd B l) (k:Nat):Wd B (l.drop k):=fun x hx=>h x (List.mem_of_mem_drop hx)
theorem Wd.replicate (h:0<B) (k:Nat):Wd B (List.replicate k 0):=by
 intro x hx
 have:=List.eq_of_mem_replicate hx
 omega
theorem Wd.append {k:List Nat} (h:Wd B l) (h':Wd B k):Wd B (l ++ k):=by
 intro x hx
 rcases List.mem_append.1 hx with hx | hx
 ·exact h x hx
 ·exact h' x hx
theorem qzi (B:Nat):wds B 0=[]:=by rw [wds,dif_pos (.inl rfl)]
theorem qze (hB:2≤B) (h:0<n):wds B n=n % B :: wds B (n / B):=by rw [wds,dif_neg o_]
theorem qzh (hB:2≤B):∀ n,wv B (wds B n)=n:=by
 intro n
 induction n using Nat.strongRecOn with
 | _ n ih =>
  by_cases h:n=0
  ·subst h;rw [qzi];rfl
  ·rw [qze hB o_,wv,ih (n / B) (Nat.div_lt_self o_ o_)]
   exact Nat.mod_add_div n B
theorem wds_wd (hB:2≤B):∀ n,Wd B (wds B n):=by
 intro n
 induction n using Nat.strongRecOn with
 | _ n ih =>
  by_cases h:n=0
  ·subst h;rw [qzi];exact Wd.nil B
  ·rw [qze hB o_]
   intro x hx
   rcases List.mem_cons.1 hx with rfl | hx
   ·exact Nat.mod_lt _ o_
   ·exact ih (n / B) (Nat.div_lt_self o_ o_) x hx
def Top (l:List Nat):Prop:=∀ x,l.getLast? = some x→x≠0
theorem wds_of:∀ {B:Nat} {l:List Nat},2≤B→Wd B l→Top l→wds B (wv B l)=l
 | B,[],hB,_,_=>qzi B
 | B,x :: t,hB,h,ht=>by
  have hx:=h x s_
  have h':Wd B t:=fun y hy=>h y (by simp [hy])
  have ht':Top t:=by
   intro y hy;refine ht y ?_
   cases t with
   | nil=>cases hy
   | cons z u=>simpa [List.getLast?_cons_cons] using hy
  have ih:=wds_of hB h' ht';have hpos:0<wv B (x :: t):=by
   cases t with
   | nil =>
    have:=ht x s_
    simp [wv];omega
   | cons z u =>
    have:wv B (z :: u)≠0:=by
     intro h0;rw [h0,qzi] at ih
     cases ih
    have h2:0<B*wv B (z :: u):=Nat.mul_pos o_ o_
    simp only [wv] at h2 ⊢;omega
  rw [qze hB hpos];simp only [wv];rw [Nat.add_mul_mod_self_left,Nat.mod_eq_of_lt hx,Nat.add_mul_div_left _ _ o_,Nat.div_eq_of_lt hx,Nat.zero_add,ih]
theorem qzg (hB:2≤B):∀ n,Top (wds B n):=by
 intro n
 induction n using Nat.strongRecOn with
 | _ n ih =>
  by_cases h:n=0
  ·subst h;rw [qzi];intro x hx;cases hx
  ·rw [qze hB o_]
   intro x hx
   by_cases hd:n / B=0
   ·rw [hd,qzi] at hx
    simp at hx
    have:n<B:=by rcases Nat.div_eq_zero_iff.1 hd with h | h <;> omega
    rw [Nat.mod_eq_of_lt this] at hx;omega
   ·rw [qze hB (Nat.pos_of_ne_zero hd),List.getLast?_cons_cons,← qze hB (Nat.pos_of_ne_zero hd)] at hx
    exact ih (n / B) (Nat.div_lt_self o_ o_) x hx
theorem qz9 (hB:2≤B) (h:wds B m=wds B n):m=n:=by rw [← qzh hB m,h,qzh hB]
theorem qz8 (hB:2≤B):wds B n=[]↔n=0:=⟨fun h=>by rw [← qzh hB n,h];rfl,fun h=>by rw [h,qzi]⟩
theorem qzc (hB:2≤B):0<(wds B n).length↔0<n:=by
 rw [List.length_pos_iff,ne_eq,qz8 hB];omega
theorem wds_lt (hB:2≤B) (n:Nat):n<B ^ (wds B n).length:=by
 have:=wv_lt (wds_wd hB n)
 rwa [qzh hB] at this
theorem wds_ge (hB:2≤B) (h:0<n):B ^ ((wds B n).length-1)≤n:=by
 induction n using Nat.strongRecOn with
 | _ n ih =>
  rw [qze hB h]
  by_cases hd:n / B=0
  ·rw [hd,qzi];simp;omega
  ·have:=ih (n / B) (Nat.div_lt_self o_ o_) (Nat.pos_of_ne_zero hd)
   rw [List.length_cons,Nat.add_sub_cancel];have hl:=(qzc (B:=B) hB).2 (Nat.pos_of_ne_zero hd);obtain ⟨k,hk⟩:∃ k,(wds B (n / B)).length=k+1:=⟨(wds B (n / B)).length-1,o_⟩
   rw [hk] at this ⊢;rw [Nat.add_sub_cancel] at this;rw [Nat.pow_succ];exact Nat.le_trans (Nat.mul_le_mul_right B this) (Nat.div_mul_le_self n B)
theorem qza (hB:2≤B) (h:m≤n):(wds B m).length≤(wds B n).length:=by
 by_cases h0:m=0
 ·rw [h0,qzi];simp
 ·have h1:=wds_ge hB (show 0<m by omega)
  have h2:=wds_lt hB n;have h3:B ^ ((wds B m).length-1)<B ^ (wds B n).length:=o_
  have:=(Nat.pow_lt_pow_iff_right o_).1 h3
  omega
theorem qzb (hB:2≤B) (h:n<B ^ k):(wds B n).length≤k:=by
 by_cases h0:n=0
 ·rw [h0,qzi];simp
 ·have h1:=wds_ge hB (show 0<n by omega)
  have h3:B ^ ((wds B n).length-1)<B ^ k:=o_
  have:=(Nat.pow_lt_pow_iff_right o_).1 h3
  omega
theorem qz5 (hB:2≤B) (h:Wd B l) (k:Nat) (hk:k<l.length) (hx:l[k]≠0) (hz:∀ j (hj:j<l.length),k<j→l[j]=0):wds B (wv B l)=l.take (k+1):=by
 have e:wv B l=wv B (l.take (k+1)):=by
  have hd:l.drop (k+1)=List.replicate (l.length-(k+1)) 0:=by
   refine List.ext_getElem s_ fun j h1 h2=>?_
   rw [List.getElem_drop,List.getElem_replicate];exact hz _ _ o_
  have e2:wv B l=wv B (l.take (k+1) ++ l.drop (k+1)):=by rw [List.take_append_drop]
  rw [e2,q00f,hd,q00h,Nat.mul_zero,Nat.add_zero]
 rw [e];refine wds_of hB (h.take _) fun x hlast=>?_
 rw [List.take_succ_eq_append_getElem hk] at hlast;rw [List.getLast?_append] at hlast;simp at hlast;rw [← hlast];exact hx
theorem qz6 (hz:∀ j (hj:j<l.length),l[j]=0):wds B (wv B l)=[]:=by
 have hd:l=List.replicate l.length 0:=by
  refine List.ext_getElem s_ fun j h1 h2=>?_
  rw [List.getElem_replicate];exact hz _ _
 rw [hd,q00h,qzi]
theorem q09 {b x y:Nat} (h:a+B ^ k*c=b):(a+B ^ k*((c+x+y) % B))+B ^ (k+1)*((c+x+y) / B)=b+B ^ k*x+B ^ k*y:=by
 have e:=Nat.mod_add_div (c+x+y) B
 have:B ^ k*((c+x+y) % B)+B ^ (k+1)*((c+x+y) / B)=B ^ k*(c+x+y):=by
  rw [Nat.pow_succ,Nat.mul_assoc,← Nat.mul_add,e]
 rw [Nat.add_assoc,this,Nat.mul_add,Nat.mul_add];omega
section
open Go.Lib
abbrev BT:=List UInt8
theorem qqf {α:Type} {P:List α→Prop} (h0:P []) (hs:∀ l c,P l→P (l ++ [c])) (l:List α):P l:=by
 have:∀ r:List α,P r.reverse:=by
  intro r
  induction r with
  | nil=>exact h0
  | cons c r ih=>rw [List.reverse_cons];exact hs _ _ ih
 have:=this l.reverse
 rwa [List.reverse_reverse] at this
def isDg (c:UInt8):Bool:=decide (48≤c.toNat∧c.toNat≤57)
theorem qbv {c:UInt8}:isDg c=true↔48≤c.toNat∧c.toNat≤57:=by simp [isDg]
def Dgs (l:BT):Prop:=∀ c ∈ l,isDg c=true
theorem Dgs.append {l k:BT} (h:Dgs l) (h':Dgs k):Dgs (l ++ k):=by
 intro c hc
 rcases List.mem_append.1 hc with hc | hc
 ·exact h c hc
 ·exact h' c hc
theorem Dgs.left {l k:BT} (h:Dgs (l ++ k)):Dgs l:=fun c hc=>h c (List.mem_append.2 (.inl hc))
theorem Dgs.take {l:BT} (h:Dgs l) (k:Nat):Dgs (l.take k):=fun c hc=>h c (List.mem_of_mem_take hc)
theorem Dgs.drop {l:BT} (h:Dgs l) (k:Nat):Dgs (l.drop k):=fun c hc=>h c (List.mem_of_mem_drop hc)
def dg1 (d:Nat):UInt8:=UInt8.ofNat (48+d)
theorem q56 (h:d<10):(dg1 d).toNat=48+d:=by simp [dg1,UInt8.toNat_ofNat];omega
theorem dg1_dg (h:d<10):isDg (dg1 d)=true:=by rw [qbv,q56 h];omega
theorem dg1_of {c:UInt8} (h:isDg c=true):c=dg1 (c.toNat-48):=by
 rw [qbv] at h
 apply UInt8.toNat_inj.1
 rw [q56 o_];omega
def dval:BT→Nat:=List.foldl (fun a c=>10*a+(c.toNat-48)) 0
theorem q6m:dval []=0:=rfl
theorem q6p (l:BT) (c:UInt8):dval (l ++ [c])=10*dval l+(c.toNat-48):=by unfold dval;rw [List.foldl_append];rfl
theorem q6h (l k:BT):dval (l ++ k)=dval l*10 ^ k.length+dval k:=by
 refine qqf (P:=fun k=>dval (l ++ k)=dval l*10 ^ k.length+dval k) ?_ ?_ k
 ·simp [q6m]
 ·intro k c ih
  rw [← List.append_assoc,q6p,ih,q6p,List.length_append,List.length_singleton,Nat.pow_succ,Nat.mul_add,← Nat.mul_assoc,Nat.mul_comm 10 (dval l),Nat.mul_assoc,Nat.mul_comm 10 (10 ^ k.length),Nat.add_assoc]
theorem q6n (c:UInt8):dval [c]=c.toNat-48:=by have:=q6p [] c;simpa [q6m] using this
theorem q6l {l:BT} (h:Dgs l):dval l<10 ^ l.length:=by
 revert h
 refine qqf (P:=fun l=>Dgs l→dval l<10 ^ l.length) (fun _=>by simp [q6m]) (fun l c ih h=>?_) l
 have h1:=ih h.left;have h2:=qbv.1 (h c s_)
 rw [q6p,List.length_append,List.length_singleton,Nat.pow_succ];omega
theorem q6r (k:Nat):dval (List.replicate k 48)=0:=by
 induction k with
 | zero=>rfl
 | succ k ih=>rw [List.replicate_succ',q6p,ih];rfl
theorem q4w (h:n<10):decDigits n=[dg1 n]:=by rw [decDigits,dif_pos h];rfl
theorem q4i (h:¬ n<10):decDigits n=decDigits (n / 10) ++ [dg1 (n % 10)]:=by rw [decDigits,dif_neg h];rfl
theorem q4y:∀ n,dval (decDigits n)=n:=by
 intro n
 induction n using Nat.strongRecOn with
 | _ n ih =>
  by_cases h:n<10
  ·rw [q4w h,q6n,q56 h];omega
  ·rw [q4i h,q6p,ih (n / 10) o_,q56 o_];omega
theorem q4k:∀ n,Dgs (decDigits n):=by
 intro n
 induction n using Nat.strongRecOn with
 | _ n ih =>
  by_cases h:n<10
  ·rw [q4w h];intro c hc;simp at hc;subst hc;exact dg1_dg h
  ·rw [q4i h]
   refine (ih (n / 10) o_).append ?_
   intro c hc;simp at hc;subst hc;exact dg1_dg o_
theorem q4o:∀ n,(decDigits n).length=nDigits n:=by
 intro n
 induction n using Nat.strongRecOn with
 | _ n ih =>
  by_cases h:n<10
  ·rw [q4w h,nDigits_small h];rfl
  ·rw [q4i h,nDigits_big h,List.length_append,ih (n / 10) o_];rfl
theorem q4u (n:Nat):0<(decDigits n).length:=by rw [q4o];exact nDigits_pos n
theorem dec_ne (n:Nat):decDigits n≠[]:=by have:=q4u n;intro h;rw [h] at this;simp at this
theorem q50:decDigits 0=[48]:=by rw [q4w o_];rfl
theorem q4x (hv:0<v) (hd:d<10):decDigits (10*v+d)=decDigits v ++ [dg1 d]:=by
 rw [q4i o_]
 rw [show (10*v+d) / 10=v from o_,show (10*v+d) % 10=d from o_]
theorem q4l:∀ n,0<n→∃ c t,decDigits n=c :: t∧c≠48:=by
 intro n
 induction n using Nat.strongRecOn with
 | _ n ih =>
  intro hn
  by_cases h:n<10
  ·refine ⟨dg1 n,[],q4w h,fun e=>?_⟩
   have:=q56 h
   rw [e] at this;simp at this;omega
  ·obtain ⟨c,t,e,hc⟩:=ih (n / 10) o_ o_
   exact ⟨c,t ++ [dg1 (n % 10)],by rw [q4i h,e];rfl,hc⟩
theorem dec_of {l:BT} (hd:Dgs l) (h:∃ c t,l=c :: t∧(c≠48∨t=[])):decDigits (dval l)=l:=by
 obtain ⟨c,t,rfl,hc⟩:=h;refine qqf (P:=fun t=>Dgs (c :: t)→(c≠48∨t=[])→decDigits (dval (c :: t))=c :: t) ?_ ?_ t hd hc
 ·intro hd _
  have h:=hd c s_
  have h':=qbv.1 h;rw [q6n,q4w o_,← dg1_of h]
 ·intro t x ih hd hc
  have hc:c≠48:=by rcases hc with h | h;exact h;simp at h
  have hd':Dgs (c :: t):=fun y hy=>hd y (by rcases List.mem_cons.1 hy with h | h <;> simp [h])
  have ih:=ih hd' (.inl hc);have hx:=hd x s_
  have hx':=qbv.1 hx;have hpos:0<dval (c :: t):=by
   rw [show c :: t=[c] ++ t from rfl,q6h,q6n]
   have h1:=qbv.1 (hd c s_)
   have h2:c.toNat-48≠0:=by
    intro h
    apply hc
    apply UInt8.toNat_inj.1
    show c.toNat=48
    omega
   have:=Nat.mul_pos (Nat.pos_of_ne_zero h2) (Nat.pow_pos (n:=t.length) (show 0<10 by omega))
   omega
  rw [show c :: (t ++ [x])=(c :: t) ++ [x] from rfl,q6p,q4x hpos o_,ih,← dg1_of hx]
theorem q4n (h:decDigits m=decDigits n):m=n:=by rw [← q4y m,h,q4y]
theorem q4q (hk:0<k):(decDigits n).length≤k↔n<10 ^ k:=by
 constructor
 ·intro h
  have h1:=q6l (q4k n);rw [q4y] at h1;exact Nat.lt_of_lt_of_le h1 (Nat.pow_le_pow_right o_ h)
 ·intro h
  by_cases h0:n=0
  ·subst h0;rw [q50];simp;omega
  ·obtain ⟨c,t,e,hc⟩:=q4l n o_
   have hd:=q4k n;have hv:=q4y n;rw [e] at hd hv ⊢;rw [show c :: t=[c] ++ t from rfl,q6h,q6n] at hv
   have h1:=qbv.1 (hd c s_)
   have h2:c.toNat-48≠0:=by
    intro h
    apply hc
    apply UInt8.toNat_inj.1
    show c.toNat=48
    omega
   have h3:10 ^ t.length≤n:=by
    have:=Nat.le_mul_of_pos_left (10 ^ t.length) (Nat.pos_of_ne_zero h2)
    omega
   have h4:10 ^ t.length<10 ^ k:=o_
   have:=(Nat.pow_lt_pow_iff_right o_).1 h4
   simp;omega
theorem q4z {x:Nat} (hv:0<v) (hx:x<10 ^ k) (hk:0<k):decDigits (v*10 ^ k+x)=decDigits v ++ (List.replicate (k-(decDigits x).length) 48 ++ decDigits x):=by
 have hl:=(q4q hk).2 hx;obtain ⟨c,t,e,hc⟩:=q4l v hv;have hd:Dgs (decDigits v ++ (List.replicate (k-(decDigits x).length) 48 ++ decDigits x)):=by
  refine (q4k v).append (Dgs.append ?_ (q4k x));intro y hy;rw [List.eq_of_mem_replicate hy];decide
 have hval:dval (decDigits v ++ (List.replicate (k-(decDigits x).length) 48 ++ decDigits x))=v*10 ^ k+x:=by
  rw [q6h,q6h,q4y,q4y,q6r,List.length_append,List.length_replicate,Nat.sub_add_cancel hl];omega
 rw [← hval];refine dec_of hd ⟨c,t ++ (List.replicate (k-(decDigits x).length) 48 ++ decDigits x),by rw [e];rfl,.inl hc⟩
end
section
open Go.Lib
def bodyT (s:BT):BT:=match s with
 | 45 :: t=>t
 | _=>s
def negT (s:BT):Bool:=match s with
 | 45 :: _=>true
 | _=>false
theorem q1h {c:UInt8} {t:BT} (h:c≠45):bodyT (c :: t)=c :: t:=by
 unfold bodyT;split
 ·rename_i h';injection h' with h1 _;exact absurd h1 h
 ·rfl
theorem qei {c:UInt8} {t:BT} (h:c≠45):negT (c :: t)=false:=by
 unfold negT;split
 ·rename_i h';injection h' with h1 _;exact absurd h1 h
 ·rfl
theorem qs3 (s:BT):s=(if negT s then 45 :: bodyT s else bodyT s):=by
 unfold negT bodyT;split <;> simp
def chkI (s:BT):Int :=
 if bodyT s=[]∨¬ (∀ c ∈ bodyT s,isDg c=true)∨((bodyT s).head? = some 48∧(1<(bodyT s).length∨negT s=true)) then 3
 else if 4096<(bodyT s).length then 23 else 0
theorem qc7 (h:z<0):itoa z=45 :: decDigits z.natAbs:=by unfold itoa;rw [if_pos h]
theorem qca (h:0≤z):itoa z=decDigits z.natAbs:=by unfold itoa;rw [if_neg o_,show z.toNat=z.natAbs from o_]
theorem q4m (n:Nat):∃ c t,decDigits n=c :: t∧c≠45:=by
 have hd:=q4k n
 cases h:decDigits n with
 | nil=>exact absurd h (dec_ne n)
 | cons c t =>
  rw [h] at hd;refine ⟨c,t,rfl,fun e=>?_⟩
  have:=qbv.1 (hd c s_)
  rw [e] at this;simp at this
theorem q1f (z:Int):bodyT (itoa z)=decDigits z.natAbs:=by
 by_cases h:z<0
 ·rw [qc7 h];rfl
 ·rw [qca o_]
  obtain ⟨c,t,e,hc⟩:=q4m z.natAbs;rw [e,q1h hc]
theorem qeg (z:Int):negT (itoa z)=decide (z<0):=by
 by_cases h:z<0
 ·rw [qc7 h,decide_eq_true h];rfl
 ·rw [qca o_,decide_eq_false h]
  obtain ⟨c,t,e,hc⟩:=q4m z.natAbs;rw [e,qei hc]
theorem qc2 (h:itoa x=itoa y):x=y:=by
 have h1:=congrArg bodyT h;have h2:=congrArg negT h;rw [q1f,q1f] at h1;rw [qeg,qeg,decide_eq_decide] at h2
 have:=q4n h1
 omega
theorem qcc:itoa 0=[48]:=by rw [qca o_];exact q50
theorem qc0:itoa z=[48]↔z=0:=⟨fun h=>qc2 (h.trans qcc.symm),fun h=>by rw [h,qcc]⟩
theorem q2y (z:Int):chkI (itoa z)=if 4096<(decDigits z.natAbs).length then 23 else 0:=by
 unfold chkI;rw [q1f,qeg];rw [if_neg];rintro (h | h | ⟨h1,h2⟩)
 ·exact dec_ne _ h
 ·exact h (q4k _)
 ·by_cases h0:z.natAbs=0
  ·rw [h0,q50] at h2
   simp at h2;omega
  ·obtain ⟨c,t,e,hc⟩:=q4l z.natAbs o_
   rw [e] at h1;simp at h1;exact hc h1
theorem q2x {s:BT} (h:chkI s≠3):∃ z:Int,s=itoa z:=by
 unfold chkI at h
 by_cases hc:bodyT s=[]∨¬ (∀ c ∈ bodyT s,isDg c=true)∨((bodyT s).head? = some 48∧(1<(bodyT s).length∨negT s=true))
 ·rw [if_pos hc] at h;exact absurd rfl h
 ·have h1:bodyT s≠[]:=fun e=>hc (.inl e)
  have h2:∀ c ∈ bodyT s,isDg c=true:=Classical.not_not.1 fun e=>hc (.inr (.inl e))
  have h3:¬ ((bodyT s).head? = some 48∧(1<(bodyT s).length∨negT s=true)):=fun e=>hc (.inr (.inr e))
  have hs:=qs3 s;obtain ⟨c,t,e⟩:∃ c t,bodyT s=c :: t:=by
   cases hb:bodyT s with
   | nil=>exact absurd hb h1
   | cons c t=>exact ⟨c,t,rfl⟩
  rw [e] at h2 h3;have hdec:decDigits (dval (c :: t))=c :: t:=by
   refine dec_of h2 ⟨c,t,rfl,?_⟩
   by_cases hc48:c=48
   ·refine .inr ?_
    cases t with
    | nil=>rfl
    | cons d u=>exact absurd ⟨by simp [hc48],.inl s_⟩ h3
   ·exact .inl hc48
  cases hn:negT s with
  | false =>
   rw [hn,e] at hs;refine ⟨(dval (c :: t):Nat),?_⟩;rw [qca o_,Int.natAbs_natCast,hdec]
   simpa using hs
  | true =>
   rw [hn,e] at hs;have hpos:0<dval (c :: t):=by
    refine Nat.pos_of_ne_zero fun h0=>?_
    rw [h0,q50] at hdec
    injection hdec with h4 h5
    exact h3 ⟨by rw [← h4];rfl,.inr hn⟩
   refine ⟨-(dval (c :: t):Nat),?_⟩;rw [qc7 o_,Int.natAbs_neg,Int.natAbs_natCast,hdec]
   simpa using hs
def Fit (z:Int):Prop:=z.natAbs<10 ^ 4096
theorem q8f:Fit z↔¬ 4096<(decDigits z.natAbs).length:=by
 unfold Fit;rw [← q4q (k:=4096) o_];omega
theorem q2z {s:BT} (h:chkI s=0):∃ z:Int,s=itoa z∧Fit z:=by
 obtain ⟨z,rfl⟩:=q2x (s:=s) o_
 refine ⟨z,rfl,q8f.2 fun h'=>?_⟩
 rw [q2y,if_pos h'] at h;omega
theorem q2w (h:Fit z):chkI (itoa z)=0:=by rw [q2y,if_neg (q8f.1 h)]
theorem qc3 (z:Int):(itoa z).length≤(decDigits z.natAbs).length+1:=by
 by_cases h:z<0
 ·rw [qc7 h];simp
 ·rw [qca o_];omega
def longT (z:Int):BT × Int:=if 4096<(decDigits z.natAbs).length then ([],23) else (itoa z,0)
end
section
open Go.Lib
theorem q3a (s:BT) (b:Nat) (e:Nat) (he:e≤s.length):dval (s.take e)=dval (s.take (e-b))*10 ^ b+dval ((s.take e).drop (e-b)):=by
 have h1:s.take e=s.take (e-b) ++ (s.take e).drop (e-b):=by
  have:=List.take_append_drop (e-b) (s.take e)
  rw [List.take_take,Nat.min_eq_left o_] at this
  exact this.symm
 have h2:((s.take e).drop (e-b)).length=e-(e-b):=by rw [List.length_drop,List.length_take,Nat.min_eq_left he]
 by_cases hb:b≤e
 ·have h3:dval (s.take e)=dval (s.take (e-b) ++ (s.take e).drop (e-b)):=by rw [← h1]
  rw [h3,q6h,h2,show e-(e-b)=b from o_]
 ·rw [show e-b=0 from o_]
  simp [q6m]
theorem q39 {s:BT} (hs:Dgs s) (b e:Nat) (he:e≤s.length):dval ((s.take e).drop (e-b))<10 ^ b:=by
 refine Nat.lt_of_lt_of_le (q6l ((hs.take e).drop (e-b))) (Nat.pow_le_pow_right o_ ?_)
 rw [List.length_drop,List.length_take,Nat.min_eq_left he];omega
theorem qlk {s:BT} {b:Nat} (he:e≤s.length) (hl:l.length=k) (h:dval s=dval (s.take e)*(10 ^ b) ^ k+wv (10 ^ b) l) :
  dval s=dval (s.take (e-b))*(10 ^ b) ^ (k+1)+wv (10 ^ b) (l ++ [dval ((s.take e).drop (e-b))]):=by
 rw [q00j,hl,h,q3a s b e he,Nat.pow_succ,Nat.add_mul,Nat.mul_assoc,Nat.mul_comm (10 ^ b) ((10 ^ b) ^ k),Nat.mul_comm (dval ((s.take e).drop (e-b)))];omega
theorem q6g (B:Nat) (l:List Nat) (i:Nat) (h:i<l.length):wv B (l.drop i)=l[i]+B*wv B (l.drop (i+1)):=by
 rw [List.drop_eq_getElem_cons h];rfl
theorem qz7 (hB:2≤B) (h:i<(wds B n).length):0<wv B ((wds B n).drop i):=by
 refine Nat.pos_of_ne_zero fun h0=>?_
 have h1:=qzg hB n;have h2:=(wds_wd hB n).drop i;have ht:Top ((wds B n).drop i):=by
  intro x hx;refine h1 x ?_;rw [List.getLast?_drop,if_neg o_] at hx
  exact hx
 have:=wds_of hB h2 ht
 rw [h0,qzi] at this
 have:=congrArg List.length this
 rw [List.length_drop] at this;simp at this;omega
theorem q00b (h:i+1=(wds B n).length):wv B ((wds B n).drop i)=(wds B n)[i]:=by
 rw [q6g B _ i o_,List.drop_eq_nil_of_le o_];simp [wv]
theorem q009 (h:i+1<(wds (10 ^ 9) n).length) :
  decDigits (wv (10 ^ 9) ((wds (10 ^ 9) n).drop i))=decDigits (wv (10 ^ 9) ((wds (10 ^ 9) n).drop (i+1))) ++ (List.replicate (9-(decDigits (wds (10 ^ 9) n)[i]).length) 48 ++ decDigits (wds (10 ^ 9) n)[i]):=by
 rw [q6g _ _ i o_,Nat.add_comm,Nat.mul_comm]
 exact q4z (qz7 o_ h) ((wds_wd o_ n).at o_) o_
theorem cmp_lt {k:List Nat} (hl:Wd B l) (hlen:l.length=k.length) (i:Nat) (hi:i<l.length) (he:l.drop (i+1)=k.drop (i+1)) (hlt:l[i]<k[i]'(hlen ▸ hi)):wv B l<wv B k:=by
 have e1:wv B l=wv B (l.take i)+B ^ i*wv B (l.drop i):=by
  conv=>lhs;rw [← List.take_append_drop i l]
  rw [q00f,List.length_take,Nat.min_eq_left o_]
 have e2:wv B k=wv B (k.take i)+B ^ i*wv B (k.drop i):=by
  conv=>lhs;rw [← List.take_append_drop i k]
  rw [q00f,List.length_take,Nat.min_eq_left o_]
 have h1:wv B (l.take i)<B ^ i:=by
  have:=wv_lt (hl.take i)
  rwa [List.length_take,Nat.min_eq_left o_] at this
 rw [e1,e2,q6g B l i hi,q6g B k i o_,he]
 have h2:B ^ i*(l[i]+B*wv B (k.drop (i+1))+1)≤B ^ i*(k[i]'(hlen ▸ hi)+B*wv B (k.drop (i+1))):=Nat.mul_le_mul_left _ o_
 rw [Nat.mul_add] at h2;omega
theorem q3o (hB:2≤B) (h:(wds B m).length<(wds B n).length):m<n:=by
 refine Nat.lt_of_not_le fun hle=>?_
 have:=qza hB hle
 omega
theorem qzn {x:Nat} (h:V=d*Q+R):x+B*V=d*((R*B+x) / d+B*Q)+(R*B+x) % d:=by
 have:=Nat.mod_add_div (R*B+x) d
 rw [h,Nat.mul_add,Nat.mul_add,← Nat.mul_assoc d B Q,← Nat.mul_assoc B d Q,Nat.mul_comm d B,Nat.mul_comm B R];omega
theorem wds_at (hB:2≤B):∀ (n i:Nat),(wds B n).getD i 0=n / B ^ i % B:=by
 intro n
 induction n using Nat.strongRecOn with
 | _ n ih =>
  intro i
  by_cases h:n=0
  ·subst h;rw [qzi];simp
  ·rw [qze hB o_]
   cases i with
   | zero=>simp
   | succ i =>
    rw [List.getD_cons_succ,ih (n / B) (Nat.div_lt_self o_ o_),Nat.pow_succ,Nat.mul_comm,Nat.div_div_eq_div_mul]
theorem qaj {L:Nat} (hB:2≤B) (hL:0<L) (hN:B ^ (L-1)≤N) (hR:R<N*B ^ k*B) (hN2:N<B ^ L) :
  R / (N*B ^ k)≤min ((R / B ^ (L+k) % B*B+R / B ^ (L+k-1) % B) / (N / B ^ (L-1) % B)) (B-1):=by
 have hBk:0<B ^ k:=Nat.pow_pos o_
 have hBL:0<B ^ (L-1):=Nat.pow_pos o_
 have hNp:0<N:=Nat.lt_of_lt_of_le hBL hN;have e1:B ^ L=B ^ (L-1)*B:=by rw [← Nat.pow_succ];congr 1;omega
 have e2:B ^ (L+k)=B ^ (L+k-1)*B:=by rw [← Nat.pow_succ];congr 1;omega
 have e3:B ^ (L+k-1)=B ^ (L-1)*B ^ k:=by rw [← Nat.pow_add];congr 1;omega
 have hRlt:R<B ^ (L+k)*B:=by
  refine Nat.lt_of_lt_of_le hR (Nat.mul_le_mul_right _ ?_);rw [Nat.pow_add];exact Nat.mul_le_mul_right _ (Nat.le_of_lt hN2)
 have ha:N / B ^ (L-1) % B=N / B ^ (L-1):=Nat.mod_eq_of_lt (Nat.div_lt_of_lt_mul (by rw [← e1];exact hN2))
 have hap:0<N / B ^ (L-1):=Nat.div_pos hN hBL;have ht:R / B ^ (L+k) % B=R / B ^ (L+k):=Nat.mod_eq_of_lt (Nat.div_lt_of_lt_mul hRlt);have hsum:R / B ^ (L+k) % B*B+R / B ^ (L+k-1) % B=R / B ^ (L+k-1):=by
  rw [ht,e2,← Nat.div_div_eq_div_mul,Nat.mul_comm]
  have:=Nat.mod_add_div (R / B ^ (L+k-1)) B
  omega
 rw [hsum,ha];refine Nat.le_min.2 ⟨?_,?_⟩
 ·rw [e3,Nat.div_div_eq_div_mul]
  refine Nat.div_le_div_left ?_ (Nat.mul_pos (Nat.mul_pos hBL hBk) hap);rw [Nat.mul_assoc,Nat.mul_comm (B ^ k),← Nat.mul_assoc];refine Nat.mul_le_mul_right _ ?_;rw [Nat.mul_comm];exact Nat.div_mul_le_self N _
 ·have:R / (N*B ^ k)<B:=Nat.div_lt_of_lt_mul hR
  omega
theorem q5j (hD:0<D) (h1:R / D≤q) (h2:q*D≤R):q=R / D :=
 Nat.le_antisymm ((Nat.le_div_iff_mul_le hD).2 h2) h1
theorem q5h (hD:0<D) (_h1:R / D≤q) (h2:R<q*D):0<q∧R / D≤q-1:=by
 have:R / D<q:=(Nat.div_lt_iff_lt_mul hD).2 h2
 exact ⟨Nat.lt_of_le_of_lt (Nat.zero_le _) this,Nat.le_pred_of_lt this⟩
theorem q5s {M:Nat} (h:M=R+N*B ^ (k+1)*Q) (hq:0<N*B ^ k) :
  M=(R-R / (N*B ^ k)*(N*B ^ k))+N*B ^ k*(Q*B+R / (N*B ^ k))∧R-R / (N*B ^ k)*(N*B ^ k)<N*B ^ k:=by
 have h1:=Nat.div_add_mod R (N*B ^ k);have h2:=Nat.mod_lt R hq;have e1:R / (N*B ^ k)*(N*B ^ k)=N*B ^ k*(R / (N*B ^ k)):=Nat.mul_comm _ _;have e2:N*B ^ (k+1)*Q=N*B ^ k*(Q*B):=by rw [Nat.pow_succ,← Nat.mul_assoc,Nat.mul_assoc (N*B ^ k),Nat.mul_comm B Q]
 rw [e1,Nat.mul_add,← e2]
 constructor
 ·omega
 ·omega
theorem q5r {s:Nat} (hs:0<s) (h:m*s=R+n*s*Q) (hR:R<n*s):Q=m / n∧R / s=m % n:=by
 have hn:0<n:=by
  refine Nat.pos_of_ne_zero fun h0=>?_
  subst h0;simp at hR
 have hQ:Q=m / n:=by
  have h1:m*s / (n*s)=Q:=by
   rw [h,Nat.add_mul_div_left _ _ (Nat.mul_pos hn hs),Nat.div_eq_of_lt hR,Nat.zero_add]
  rw [Nat.mul_div_mul_right _ _ hs] at h1;exact h1.symm
 refine ⟨hQ,?_⟩;have h2:R=m % n*s:=by
  have h3:=Nat.div_add_mod m n;rw [← hQ] at h3;have h4:m*s=(n*Q+m % n)*s:=by rw [h3]
  rw [Nat.add_mul,Nat.mul_assoc,Nat.mul_comm Q s,← Nat.mul_assoc] at h4;omega
 rw [h2,Nat.mul_div_cancel _ hs]
theorem q00i (B:Nat) (l:List Nat) (q:Nat):wv B (l ++ [q]).reverse=wv B l.reverse*B+q:=by
 rw [List.reverse_append];simp [wv];rw [Nat.mul_comm];omega
end
section
open Go.Lib
theorem takeD (B:Nat) (l:List Nat) (k:Nat):wv B (l.take (k+1))=wv B (l.take k)+B ^ k*l.getD k 0:=by
 by_cases h:k<l.length
 ·rw [q00k B l k h,List.getD_eq_getElem?_getD,List.getElem?_eq_getElem h];rfl
 ·rw [List.take_of_length_le o_,List.take_of_length_le o_,List.getD_eq_getElem?_getD,List.getElem?_eq_none o_];simp
theorem qa0 (hB:0<B) (h:Wd B l) (k:Nat):l.getD k 0<B:=by
 rw [List.getD_eq_getElem?_getD]
 by_cases hk:k<l.length
 ·rw [List.getElem?_eq_getElem hk];exact h.at hk
 ·rw [List.getElem?_eq_none o_];simpa using hB
theorem qrx (hB:2≤B) (n k:Nat) (hk:(wds B n).length≤k):wv B ((wds B n).take k)=n:=by
 rw [List.take_of_length_le hk,qzh hB]
def AddAt (B:Nat) (a b:Nat) (k:Nat) (L:List Nat) (c:Nat):Prop :=
 L.length=k∧Wd B L∧c≤1∧wv B L+B ^ k*c=wv B ((wds B a).take k)+wv B ((wds B b).take k)
theorem q04 (B a b:Nat):AddAt B a b 0 [] 0:=⟨rfl,Wd.nil B,o_,by simp [wv]⟩
theorem q02 {b:Nat} {x y:Nat} (hB:2≤B) (h:AddAt B a b k L c) (hx:(wds B a).getD k 0=x) (hy:(wds B b).getD k 0=y) :
  AddAt B a b (k+1) (L ++ [(c+(x+y)) % B]) ((c+(x+y)) / B)∧x<B∧y<B:=by
 subst hx;subst hy;obtain ⟨h1,h2,h3,h4⟩:=h;have hx:=qa0 o_ (wds_wd hB a) k
 have hy:=qa0 o_ (wds_wd hB b) k
 refine ⟨⟨by simp [h1],h2.snoc (Nat.mod_lt _ o_),?_,?_⟩,hx,hy⟩
 ·have:(c+((wds B a).getD k 0+(wds B b).getD k 0)) / B<2:=Nat.div_lt_of_lt_mul o_
  omega
 ·rw [q00j,h1,takeD,takeD,← Nat.add_assoc c]
  have:=q09 (x:=(wds B a).getD k 0) (y:=(wds B b).getD k 0) h4
  rw [this];omega
theorem q00 {b:Nat} (hB:2≤B) (h:AddAt B a b k L c) (ha:(wds B a).length<k) (hb:(wds B b).length<k):c=0∧wv B L=a+b:=by
 obtain ⟨h1,h2,h3,h4⟩:=h;rw [qrx hB a k o_,qrx hB b k o_] at h4
 obtain ⟨j,rfl⟩:∃ j,k=j+1:=⟨k-1,o_⟩
 have ha':a<B ^ j:=Nat.lt_of_lt_of_le (wds_lt hB a) (Nat.pow_le_pow_right o_ o_)
 have hb':b<B ^ j:=Nat.lt_of_lt_of_le (wds_lt hB b) (Nat.pow_le_pow_right o_ o_)
 have hp:B ^ j*2≤B ^ (j+1):=by rw [Nat.pow_succ];exact Nat.mul_le_mul_left _ hB
 obtain rfl | rfl:c=0∨c=1:=o_
 ·simp at h4;exact ⟨rfl,h4⟩
 ·simp at h4;omega
def SubAt (B:Nat) (a b:Nat) (k:Nat) (L:List Nat) (c:Nat):Prop :=
 L.length=k∧Wd B L∧c≤1∧wv B L+wv B ((wds B b).take k)=wv B ((wds B a).take k)+B ^ k*c
theorem qr5 (B a b:Nat):SubAt B a b 0 [] 0:=⟨rfl,Wd.nil B,o_,by simp [wv]⟩
theorem qr8 {P x y t r:Nat} (h:r+B*q=x+B-y-c) (hy:y+c≤x+B) (hq:q≤1) (ht:t=1-q):P*r+P*y+P*c=P*x+P*B*t:=by
 have h1:r+y+c+B*q=x+B:=o_
 have h2:=congrArg (P * ·) h1
 simp only [Nat.mul_add] at h2;subst ht;obtain rfl | rfl:q=0∨q=1:=o_
 ·simp at h2 ⊢;omega
 ·simp at h2 ⊢;omega
theorem qr3 {b:Nat} {x y:Nat} (hB:2≤B) (h:SubAt B a b k L c) (hx:(wds B a).getD k 0=x) (hy:(wds B b).getD k 0=y) :
  SubAt B a b (k+1) (L ++ [(x+(B-y-c)) % B]) (1-(x+(B-y-c)) / B)∧x<B∧y<B∧y+c≤B∧(x+(B-y-c)) / B≤1:=by
 subst hx;subst hy;obtain ⟨h1,h2,h3,h4⟩:=h;have hx:=qa0 o_ (wds_wd hB a) k
 have hy:=qa0 o_ (wds_wd hB b) k
 have hq:((wds B a).getD k 0+(B-(wds B b).getD k 0-c)) / B<2:=Nat.div_lt_of_lt_mul o_
 refine ⟨⟨by simp [h1],h2.snoc (Nat.mod_lt _ o_),Nat.sub_le _ _,?_⟩,hx,hy,o_,Nat.le_of_lt_succ hq⟩
 rw [q00j,h1,takeD,takeD];have e:=Nat.mod_add_div ((wds B a).getD k 0+(B-(wds B b).getD k 0-c)) B
 have:=qr8 (P:=B ^ k) (x:=(wds B a).getD k 0) (y:=(wds B b).getD k 0) (c:=c) (t:=1-((wds B a).getD k 0+(B-(wds B b).getD k 0-c)) / B) (B:=B) (e.trans o_) o_ (Nat.le_of_lt_succ hq) rfl
 rw [Nat.pow_succ];omega
theorem qr1 {b:Nat} (hB:2≤B) (h:SubAt B a b k L c) (hk:(wds B a).length=k) (hab:b≤a):c=0∧wv B L=a-b:=by
 obtain ⟨h1,h2,h3,h4⟩:=h;have hbl:=qza hB hab;rw [qrx hB a k o_,qrx hB b k o_] at h4
 have hl:=wv_lt h2;rw [h1] at hl;obtain rfl | rfl:c=0∨c=1:=o_
 ·simp at h4;exact ⟨rfl,o_⟩
 ·simp at h4;omega
def MulAt (B:Nat) (V v n i j:Nat) (O:List Nat) (c:Nat):Prop :=
 Wd B O∧c<B∧wv B O+B ^ (i+j)*c=V+B ^ i*(v*wv B ((wds B n).take j))
theorem mul_lt {y:Nat} (hv:v<B) (hy:y<B) (hc:c<B) (ho:o<B):c+(o+v*y)<B*B:=by
 have h1:v*y≤(B-1)*(B-1):=Nat.mul_le_mul o_ o_
 obtain ⟨k,rfl⟩:∃ k,B=k+1:=⟨B-1,o_⟩
 simp only [Nat.add_sub_cancel] at h1
 have:(k+1)*(k+1)=k*k+k+k+1:=by rw [Nat.mul_add,Nat.add_mul];omega
 omega
theorem qe3 (hB:2≤B) (h:Wd B O) (hv:wv B O=V):MulAt B V v n i 0 O 0:=⟨h,o_,by simp [wv,hv]⟩
theorem qe1 {y:Nat} (hB:2≤B) (h:MulAt B V v n i j O c) (hk:i+j<O.length) (ho:O[i+j]=o) (hy:(wds B n).getD j 0=y) (hv:v<B) :
  MulAt B V v n i (j+1) (O.set (i+j) ((c+(o+v*y)) % B)) ((c+(o+v*y)) / B)∧c+(o+v*y)<B*B∧y<B∧o<B:=by
 subst ho;subst hy;obtain ⟨h1,h2,h3⟩:=h;have hy:=qa0 o_ (wds_wd hB n) j
 have ho:=h1.at hk;have hlt:=mul_lt hv hy h2 ho;refine ⟨⟨h1.set (Nat.mod_lt _ o_) _,Nat.div_lt_of_lt_mul hlt,?_⟩,hlt,hy,ho⟩
 have hs:=wv_set (B:=B) hk ((c+(O[i+j]+v*(wds B n).getD j 0)) % B);have e:=Nat.mod_add_div (c+(O[i+j]+v*(wds B n).getD j 0)) B;have e2:=congrArg (B ^ (i+j) * ·) e
 simp only [Nat.mul_add] at e2;rw [takeD,Nat.mul_add v,Nat.mul_add (B ^ i)];have e4:B ^ i*(v*(B ^ j*(wds B n).getD j 0))=B ^ (i+j)*(v*(wds B n).getD j 0):=by
  rw [Nat.pow_add,Nat.mul_assoc (B ^ i)];congr 1;rw [← Nat.mul_assoc,← Nat.mul_assoc,Nat.mul_comm v]
 have e5:B ^ (i+(j+1))*((c+(O[i+j]+v*(wds B n).getD j 0)) / B)=B ^ (i+j)*(B*((c+(O[i+j]+v*(wds B n).getD j 0)) / B)):=by
  rw [← Nat.add_assoc,Nat.pow_succ,Nat.mul_assoc]
 rw [e4,e5];omega
theorem qe0 (hB:2≤B) (h:MulAt B (wv B ((wds B m).take i)*n) v n i j O c) (hj:(wds B n).length<j) (hi:i<(wds B m).length) (hv:(wds B m).getD i 0=v) :
  c=0∧wv B O=wv B ((wds B m).take (i+1))*n:=by
 subst hv;obtain ⟨h1,h2,h3⟩:=h;rw [qrx hB n j o_] at h3
 have e:wv B ((wds B m).take (i+1))*n=wv B ((wds B m).take i)*n+B ^ i*((wds B m).getD i 0*n):=by rw [takeD,Nat.add_mul,Nat.mul_assoc]
 rw [← e] at h3;have hlt:wv B ((wds B m).take (i+1))<B ^ (i+1):=by
  have:=wv_lt ((wds_wd hB m).take (i+1))
  rwa [List.length_take,Nat.min_eq_left o_] at this
 have hn:n<B ^ (j-1):=Nat.lt_of_lt_of_le (wds_lt hB n) (Nat.pow_le_pow_right o_ o_)
 have hprod:wv B ((wds B m).take (i+1))*n<B ^ (i+j):=by
  have:B ^ (i+j)=B ^ (i+1)*B ^ (j-1):=by rw [← Nat.pow_add];congr 1;omega
  rw [this];exact Nat.mul_lt_mul'' hlt hn
 obtain rfl | hc:c=0∨1≤c:=o_
 ·simp at h3;exact ⟨rfl,h3⟩
 ·have:=Nat.mul_le_mul_left (B ^ (i+j)) hc
  omega
end
section
open Go.Lib
end
section
open Go.Lib
def cut10:BT:=[48,49,50,51,52,53,54,55,56,57]
theorem q43 (c:UInt8):cut10.contains c=isDg c:=by
 rw [Bool.eq_iff_iff,qbv];simp only [cut10,List.contains_iff_mem,List.mem_cons,List.not_mem_nil,or_false]
 constructor
 ·rintro (rfl | rfl | rfl | rfl | rfl | rfl | rfl | rfl | rfl | rfl) <;> decide
 ·rintro ⟨h1,h2⟩
  have:c.toNat=48∨c.toNat=49∨c.toNat=50∨c.toNat=51∨c.toNat=52∨c.toNat=53∨c.toNat=54∨c.toNat=55∨c.toNat=56∨c.toNat=57:=o_
  rcases this with h | h | h | h | h | h | h | h | h | h <;> (simp only [← UInt8.toNat_inj,h];decide)
theorem q69 {p:UInt8→Bool} {l:BT} {c:UInt8} (h:c ∈ l) (hp:p c=false):c ∈ l.dropWhile p:=by
 rw [← List.takeWhile_append_dropWhile (p:=p) (l:=l)] at h
 rcases List.mem_append.1 h with h | h
 ·have:=List.all_eq_true.1 (List.all_takeWhile (p:=p) (l:=l)) c h
  rw [hp] at this;cases this
 ·exact h
theorem q68 {p:UInt8→Bool}:∀ {l:BT},(∀ c ∈ l,p c=true)→l.dropWhile p=[]
 | [],_=>rfl
 | c :: t,h=>by
  rw [List.dropWhile_cons,if_pos (h c s_)]
  exact q68 fun x hx=>h x (by simp [hx])
theorem qt0 {s:BT}:trimS s cut10=[]↔Dgs s:=by
 unfold trimS trimLeftS trimRightS
 constructor
 ·intro h c hc
  cases hd:isDg c with
  | true=>rfl
  | false =>
   have h1:c ∈ s.reverse.dropWhile (cut10.contains ·):=q69 (by simpa using hc) (by rw [q43];exact hd)
   have h2:c ∈ ((s.reverse.dropWhile (cut10.contains ·)).reverse).dropWhile (cut10.contains ·):=q69 (by simpa using h1) (by rw [q43];exact hd)
   rw [h] at h2;cases h2
 ·intro h
  have:s.reverse.dropWhile (cut10.contains ·)=[]:=q68 fun c hc=>by
   rw [q43];exact h c (by simpa using hc)
  rw [this];rfl
theorem q5l {acc:Nat} (c:UInt8) (r:BT):acc*10 ^ (c :: r).length+dval (c :: r)=(acc*10+(c.toNat-48))*10 ^ r.length+dval r:=by
 rw [show c :: r=[c] ++ r from rfl,q6h,q6n,List.length_append,List.length_singleton,Nat.add_comm 1,Nat.pow_succ,Nat.add_mul,Nat.mul_comm (10 ^ r.length) 10,← Nat.mul_assoc,Nat.add_assoc]
theorem qgm:∀ (l:BT) (acc:Nat),Dgs l→acc*10 ^ l.length+dval l≤18446744073709551615→parseUintM (2 ^ 64-1) acc l=.ok (acc*10 ^ l.length+dval l)
 | [],acc,_,_=>by simp [parseUintM,q6m]
 | c :: r,acc,hd,hle=>by
  have hc:=qbv.1 (hd c s_)
  rw [q5l] at hle ⊢;have h1:acc*10+(c.toNat-48)≤18446744073709551615:=by
   have:=Nat.le_mul_of_pos_right (acc*10+(c.toNat-48)) (Nat.pow_pos (n:=r.length) (show 0<10 by omega))
   omega
  unfold parseUintM;rw [if_pos hc,if_neg o_,if_neg o_]
  exact qgm r _ (fun x hx=>hd x (by simp [hx])) hle
theorem qgl {l:BT} (hd:Dgs l) (h0:l≠[]) (hl:l.length≤18):parseUintB 64 l=.ok (dval l):=by
 unfold parseUintB;have h1:=q6l hd;have h2:10 ^ l.length≤10 ^ 18:=Nat.pow_le_pow_right o_ hl
 rw [if_neg h0,qgm l 0 hd o_]
 simp
theorem qgk:∀ (l:BT) (acc:Nat),Dgs l→parseUint10 acc l=if acc*10 ^ l.length+dval l<18446744073709551616∨l=[] then .ok (acc*10 ^ l.length+dval l) else .range
 | [],acc,_=>by simp [parseUint10,q6m]
 | c :: r,acc,hd=>by
  have hc:=qbv.1 (hd c s_)
  have hp:=Nat.pow_pos (n:=r.length) (show 0<10 by omega)
  have h1:=Nat.le_mul_of_pos_right (acc*10+(c.toNat-48)) hp;have ih:=qgk r (acc*10+(c.toNat-48)) (fun x hx=>hd x (by simp [hx]))
  rw [q5l];unfold parseUint10;rw [if_pos hc]
  by_cases h2:1844674407370955162≤acc
  ·rw [if_pos h2,if_neg (by simp;omega)]
  ·rw [if_neg h2]
   by_cases h3:18446744073709551616≤acc*10+(c.toNat-48)
   ·rw [if_pos h3,if_neg (by simp;omega)]
   ·rw [if_neg h3,ih]
    cases r with
    | nil=>simp [q6m];omega
    | cons x t=>simp
theorem qgn (n:Nat):parseMag (decDigits n)=if n<18446744073709551616 then .ok n else .range:=by
 unfold parseMag;rw [if_neg (dec_ne n),qgk _ _ (q4k n),q4y];simp [dec_ne n]
theorem q0y (z:Int):atoiAll (itoa z)=if -9223372036854775808≤z∧z≤9223372036854775807 then .ok z else .range:=by
 by_cases h:z<0
 ·rw [qc7 h]
  unfold atoiAll;simp only [show (45:UInt8).toNat=45 from rfl,or_true,if_true]
  rw [qgn]
  by_cases h1:z.natAbs<18446744073709551616
  ·rw [if_pos h1]
   simp only [not_true,false_and,if_false,true_and]
   by_cases h2:9223372036854775808<z.natAbs
   ·rw [if_pos h2,if_neg o_]
   ·rw [if_neg h2,if_pos o_]
    congr 1;omega
  ·rw [if_neg h1,if_neg o_]
 ·rw [qca o_]
  obtain ⟨c,t,e,hc⟩:=q4m z.natAbs;have hd:=q4k z.natAbs;rw [e] at hd;have hcd:=qbv.1 (hd c s_)
  rw [e];unfold atoiAll;simp only;rw [if_neg o_,← e,qgn]
  by_cases h1:z.natAbs<18446744073709551616
  ·rw [if_pos h1]
   simp only [show ¬ c.toNat=45 from o_,not_false_eq_true,true_and,false_and,if_false]
   by_cases h2:9223372036854775808≤z.natAbs
   ·rw [if_pos h2,if_neg o_]
   ·rw [if_neg h2,if_pos o_]
    congr 1;omega
  ·rw [if_neg h1,if_neg o_]
end
theorem qre (h:decide (x<0)=decide (y<0)):(x+y).natAbs=x.natAbs+y.natAbs∧decide (x+y<0)=decide (x<0):=by
 rw [decide_eq_decide] at h;refine ⟨o_,?_⟩
 rw [decide_eq_decide];omega
theorem qrb (h:¬ decide (x<0)=decide (y<0)) (hle:y.natAbs≤x.natAbs):(x+y).natAbs=x.natAbs-y.natAbs∧decide (x+y<0)=(decide (x<0) && decide (0<x.natAbs-y.natAbs)):=by
 rw [decide_eq_decide] at h;refine ⟨o_,?_⟩
 rw [Bool.eq_iff_iff,Bool.and_eq_true,decide_eq_true_eq,decide_eq_true_eq,decide_eq_true_eq];omega
theorem qio (x y:Int):(x*y).natAbs=x.natAbs*y.natAbs∧decide (x*y<0)=((decide (x<0) != decide (y<0)) && decide (0<(x*y).natAbs)):=by
 refine ⟨Int.natAbs_mul x y,?_⟩
 rcases Int.lt_trichotomy x 0 with hx | hx | hx
 ·rcases Int.lt_trichotomy y 0 with hy | hy | hy
  ·have:=Int.mul_pos_of_neg_of_neg hx hy
   rw [decide_eq_false o_,decide_eq_true hx,decide_eq_true hy];rfl
  ·subst hy;simp
  ·have:=Int.mul_neg_of_neg_of_pos hx hy
   rw [decide_eq_true this,decide_eq_true hx,decide_eq_false o_,decide_eq_true o_];rfl
 ·subst hx;simp
 ·rcases Int.lt_trichotomy y 0 with hy | hy | hy
  ·have:=Int.mul_neg_of_pos_of_neg hx hy
   rw [decide_eq_true this,decide_eq_false o_,decide_eq_true hy,decide_eq_true o_];rfl
  ·subst hy;simp
  ·have:=Int.mul_pos hx hy
   rw [decide_eq_false o_,decide_eq_false o_,decide_eq_false o_];rfl
def FD (x y Q R:Int):Prop:=x=y*Q+R∧(0<y→0≤R∧R<y)∧(y<0→y<R∧R≤0)
theorem q7d {Q R Q' R':Int} (hy:y≠0) (h:FD x y Q R) (h':FD x y Q' R'):Q=Q'∧R=R':=by
 obtain ⟨h1,h2,h3⟩:=h;obtain ⟨h1',h2',h3'⟩:=h';have e:y*(Q-Q')=R' - R:=by rw [Int.mul_sub];omega
 have hq:Q-Q' = 0:=by
  by_cases hc:Q-Q' = 0
  ·exact hc
  ·exfalso
   have hab:=congrArg Int.natAbs e;rw [Int.natAbs_mul] at hab;have h4:y.natAbs≤y.natAbs*(Q-Q').natAbs:=Nat.le_mul_of_pos_right _ o_
   rcases Int.lt_trichotomy y 0 with hy' | hy' | hy'
   ·have:=h3 hy';have:=h3' hy';omega
   ·exact hy hy'
   ·have:=h2 hy';have:=h2' hy';omega
 rw [hq,Int.mul_zero] at e;omega
theorem q7c (x:Int) (_:y≠0):FD x y (x.fdiv y) (x.fmod y):=by
 refine ⟨by have:=Int.mul_fdiv_add_fmod x y;omega,fun h=>⟨Int.fmod_nonneg_of_pos x h,Int.fmod_lt_of_pos x h⟩,fun h=>?_⟩
 have h1:x.fmod y=- ((-x).fmod (-y)):=by rw [Int.neg_fmod_neg];omega
 have h2:=Int.fmod_nonneg_of_pos (-x) (show 0 < -y by omega)
 have h3:=Int.fmod_lt_of_pos (-x) (show 0 < -y by omega)
 omega
theorem q7a (hy:y≠0) (h:decide (x<0)=decide (y<0)∨x.natAbs % y.natAbs=0) :
  (x.fdiv y).natAbs=x.natAbs / y.natAbs∧decide (x.fdiv y<0)=((decide (x<0) != decide (y<0)) && decide (0<x.natAbs / y.natAbs)) ∧
  (x.fmod y).natAbs=x.natAbs % y.natAbs∧decide (x.fmod y<0)=(decide (y<0) && decide (0<x.natAbs % y.natAbs)):=by
 have hd:=Nat.div_add_mod x.natAbs y.natAbs;have hr:=Nat.mod_lt x.natAbs (show 0<y.natAbs by omega)
 generalize x.natAbs / y.natAbs=q at *;generalize x.natAbs % y.natAbs=r at *;have hd':(y.natAbs:Int)*q+r=x.natAbs:=by exact_mod_cast hd
 by_cases hs:decide (x<0)=decide (y<0)
 ·have hs':=decide_eq_decide.1 hs
  have hfd:FD x y q (if y<0 then -(r:Int) else r):=by
   by_cases hy0:y<0
   ·rw [if_pos hy0]
    rw [show (y.natAbs:Int)=-y by omega,Int.neg_mul] at hd'
    exact ⟨o_,o_,o_⟩
   ·rw [if_neg hy0]
    rw [show (y.natAbs:Int)=y by omega] at hd'
    exact ⟨o_,o_,o_⟩
  obtain ⟨e1,e2⟩:=q7d hy (q7c x hy) hfd;rw [e1,e2,hs];refine ⟨o_,?_,?_,?_⟩
  ·rw [decide_eq_false o_];simp
  ·split <;> omega
  ·by_cases hy0:y<0
   ·rw [if_pos hy0,decide_eq_true hy0,Bool.true_and,decide_eq_decide];omega
   ·rw [if_neg hy0,decide_eq_false hy0,decide_eq_false o_];rfl
 ·have hr0:r=0:=by rcases h with h | h;exact absurd h hs;exact h
  subst hr0;have hs':¬ (x<0↔y<0):=fun h=>hs (decide_eq_decide.2 h)
  have hfd:FD x y (-(q:Int)) 0:=by
   refine ⟨?_,o_,o_⟩
   by_cases hy0:y<0
   ·rw [show (y.natAbs:Int)=-y by omega,Int.neg_mul] at hd'
    rw [Int.mul_neg];omega
   ·rw [show (y.natAbs:Int)=y by omega] at hd'
    rw [Int.mul_neg];omega
  obtain ⟨e1,e2⟩:=q7d hy (q7c x hy) hfd;rw [e1,e2];refine ⟨o_,?_,rfl,s_⟩
  have:(decide (x<0) != decide (y<0))=true:=by simpa using hs
  rw [this,Bool.true_and,decide_eq_decide];omega
theorem q7b (hy:y≠0) (hs:¬ decide (x<0)=decide (y<0)) (hr0:0<x.natAbs % y.natAbs) :
  (x.fdiv y).natAbs=x.natAbs / y.natAbs+1∧decide (x.fdiv y<0)=true ∧
  (x.fmod y).natAbs=y.natAbs-x.natAbs % y.natAbs∧0<y.natAbs-x.natAbs % y.natAbs∧decide (x.fmod y<0)=decide (y<0):=by
 have hd:=Nat.div_add_mod x.natAbs y.natAbs;have hr:=Nat.mod_lt x.natAbs (show 0<y.natAbs by omega)
 generalize x.natAbs / y.natAbs=q at *;generalize x.natAbs % y.natAbs=r at *;have hd':(y.natAbs:Int)*q+r=x.natAbs:=by exact_mod_cast hd
 have hs':¬ (x<0↔y<0):=fun h=>hs (decide_eq_decide.2 h)
 have hfd:FD x y (-((q:Int)+1)) (if y<0 then y+r else y-r):=by
  by_cases hy0:y<0
  ·rw [if_pos hy0]
   rw [show (y.natAbs:Int)=-y by omega,Int.neg_mul] at hd'
   refine ⟨?_,o_,o_⟩
   rw [Int.mul_neg,Int.mul_add];omega
  ·rw [if_neg hy0]
   rw [show (y.natAbs:Int)=y by omega] at hd'
   refine ⟨?_,o_,o_⟩
   rw [Int.mul_neg,Int.mul_add];omega
 obtain ⟨e1,e2⟩:=q7d hy (q7c x hy) hfd;rw [e1,e2];refine ⟨o_,decide_eq_true o_,?_,o_,?_⟩
 ·split <;> omega
 ·rw [decide_eq_decide];split <;> omega
section
open Go.Lib
def valI (s:BT):Int:=if negT s then -(dval (bodyT s):Int) else (dval (bodyT s):Int)
theorem qyz (z:Int):valI (itoa z)=z:=by
 unfold valI;rw [qeg,q1f,q4y]
 by_cases h:z<0
 ·rw [decide_eq_true h,if_pos rfl];omega
 ·rw [decide_eq_false h,if_neg s_];omega
def chk2 (s t:BT):Int:=if chkI s≠0 then chkI s else chkI t
theorem q2r {s t:BT}:chk2 s t=0↔chkI s=0∧chkI t=0:=by
 unfold chk2
 by_cases h:chkI s=0
 ·rw [if_neg (by simpa using h)];simp [h]
 ·rw [if_pos h];simp [h]
theorem qz0 {s:BT} (h:chkI s=0):s=itoa (valI s)∧Fit (valI s):=by
 obtain ⟨z,rfl,hz⟩:=q2z h;rw [qyz];exact ⟨rfl,hz⟩
def opT (op:Int→Int→Int) (s t:BT):BT × Int:=if chk2 s t≠0 then ([],chk2 s t) else longT (op (valI s) (valI t))
def divT (op:Int→Int→Int) (s t:BT):BT × Int:=if chk2 s t≠0 then ([],chk2 s t) else if valI t=0 then ([],15) else longT (op (valI s) (valI t))
theorem qia (h:e≤9*k):(10:Nat) ^ e≤1000000000 ^ k:=by
 rw [show (1000000000:Nat)=10 ^ 9 from rfl,← Nat.pow_mul]
 exact Nat.pow_le_pow_right o_ h
theorem qer (h:n<10 ^ e) (h2:e≤9*k):(wds 1000000000 n).length≤k :=
 qzb o_ (Nat.lt_of_lt_of_le h (qia h2))
theorem q8h (h:Fit z):(wds 1000000000 z.natAbs).length≤456:=by
 unfold Fit at h;exact qer (e:=4096) h d_
theorem q1c (h:z.natAbs<10 ^ 8200):(wds 1000000000 z.natAbs).length≤1000:=by
 exact qer (e:=8200) h d_
def Bounded (op:Int→Int→Int):Prop:=∀ x y,Fit x→Fit y→(op x y).natAbs<10 ^ 8200
theorem qic {b:Nat} (h:a+b≤c):(10:Nat) ^ a*10 ^ b≤10 ^ c:=by
 rw [← Nat.pow_add];exact Nat.pow_le_pow_right o_ h
theorem qib (h:a+1≤c):(10:Nat) ^ a+10 ^ a≤10 ^ c:=by
 have h1:(10:Nat) ^ (a+1)=10*10 ^ a:=by rw [Nat.pow_succ,Nat.mul_comm]
 have h2:(10:Nat) ^ (a+1)≤10 ^ c:=Nat.pow_le_pow_right o_ h
 generalize (10:Nat) ^ a=A at *;omega
theorem qi8:(10:Nat) ^ 4096*10 ^ 4096≤10 ^ 8200:=qic (a:=4096) (b:=4096) (c:=8200) d_
theorem qid:(10:Nat) ^ 4096+10 ^ 4096≤10 ^ 8200:=qib (a:=4096) (c:=8200) d_
theorem q1o {op:Int→Int→Int} (h:∀ x y,(op x y).natAbs≤x.natAbs+y.natAbs):Bounded op:=by
 intro x y hx hy;unfold Fit at hx hy;have h1:=h x y;have h2:=qid;generalize (10:Nat) ^ 4096=A at *;generalize (10:Nat) ^ 8200=B at *;omega
theorem q1l:Bounded (fun x y=>x+y):=q1o fun x y=>o_
theorem q1p:Bounded (fun x y=>x-y):=q1o fun x y=>o_
theorem q1n:Bounded (fun x y=>x*y):=by
 intro x y hx hy;show (x*y).natAbs<_
 rw [Int.natAbs_mul];exact Nat.lt_of_lt_of_le (Nat.mul_lt_mul'' hx hy) qi8
theorem q1m:Bounded (fun x y=>(Nat.gcd x.natAbs y.natAbs:Int)):=q1o fun x y=>by
 show Nat.gcd x.natAbs y.natAbs≤_
 by_cases h:x.natAbs=0
 ·rw [h,Nat.gcd_zero_left];omega
 ·have:=Nat.gcd_le_left (m:=x.natAbs) y.natAbs o_;omega
theorem qe9 (x:Int) (hy:y≠0):(x.fdiv y).natAbs≤x.natAbs+y.natAbs:=by
 have h:=q7c x hy;obtain ⟨h1,h2,h3⟩:=h;generalize x.fdiv y=q at *;generalize x.fmod y=r at *
 by_cases hq:q=0
 ·subst hq;simp
 ·have hyq:(y*q).natAbs=y.natAbs*q.natAbs:=Int.natAbs_mul _ _
  have hy1:1≤y.natAbs:=o_
  have hq1:1≤q.natAbs:=o_
  have hm:q.natAbs+y.natAbs≤y.natAbs*q.natAbs+1:=by
   obtain ⟨a,ha⟩:∃ a,y.natAbs=a+1:=⟨y.natAbs-1,o_⟩
   obtain ⟨b,hb⟩:∃ b,q.natAbs=b+1:=⟨q.natAbs-1,o_⟩
   rw [ha,hb,Nat.add_mul,Nat.mul_add];omega
  have hr:r.natAbs<y.natAbs:=by
   rcases Int.lt_trichotomy y 0 with h | h | h
   ·have:=h3 h;omega
   ·exact absurd h hy
   ·have:=h2 h;omega
  have:(y*q).natAbs≤x.natAbs+r.natAbs:=o_
  omega
theorem qea (x:Int) (hy:y≠0):(x.fmod y).natAbs≤x.natAbs+y.natAbs:=by
 obtain ⟨_,h2,h3⟩:=q7c x hy;generalize x.fmod y=r at *
 rcases Int.lt_trichotomy y 0 with h | h | h
 ·have:=h3 h;omega
 ·exact absurd h hy
 ·have:=h2 h;omega
end
section
open Go.Lib
def rT (r:Rat):BT:=if r.den=1 then itoa r.num else itoa r.num ++ 47 :: decDigits r.den
def topT (s:BT):BT:=s.takeWhile (fun c=>c != 47)
def qpv (s:BT):Bool:=s.any (fun c=>c == 47)
def botT (s:BT):BT:=if qpv s then (s.dropWhile (fun c=>c != 47)).drop 1 else [49]
theorem qro {p:UInt8→Bool}:∀ {l:BT},(∀ c ∈ l,p c=true)→l.takeWhile p=l
 | [],_=>rfl
 | c :: t,h=>by rw [List.takeWhile_cons_of_pos (h c (.head _)),qro fun d hd=>h d (.tail _ hd)]
theorem qrp {p:UInt8→Bool}:∀ {l:BT} {c:UInt8},c ∈ l.takeWhile p→p c=true
 | [],c,h=>by simp at h
 | d :: t,c,h=>by
  by_cases hd:p d=true
  ·rw [List.takeWhile_cons_of_pos hd] at h
   rcases List.mem_cons.1 h with rfl | h
   ·exact hd
   ·exact qrp h
  ·rw [List.takeWhile_cons_of_neg hd] at h
   simp at h
theorem q57 {l:BT} (h:Dgs l):∀ c ∈ l,c≠47:=by
 intro c hc e
 have:=qbv.1 (h c hc)
 rw [e] at this
 revert this
 decide
theorem qc8 (z:Int):∀ c ∈ itoa z,c≠47:=by
 intro c hc
 by_cases h:z<0
 ·rw [qc7 h] at hc
  rcases List.mem_cons.1 hc with rfl | hc
  ·decide
  ·exact q57 (q4k _) c hc
 ·rw [qca o_] at hc
  exact q57 (q4k _) c hc
theorem qsu {p:BT} (h:∀ c ∈ p,c≠47):topT p=p∧qpv p=false∧botT p=[49]:=by
 have h1:qpv p=false:=by
  unfold qpv;rw [List.any_eq_false];intro c hc;simp [h c hc]
 refine ⟨?_,h1,by unfold botT;rw [h1];rfl⟩
 unfold topT;exact qro fun c hc=>by simp [h c hc]
theorem qsv {p q:BT} (h:∀ c ∈ p,c≠47):topT (p ++ 47 :: q)=p∧qpv (p ++ 47 :: q)=true∧botT (p ++ 47 :: q)=q:=by
 have h1:qpv (p ++ 47 :: q)=true:=by unfold qpv;simp
 refine ⟨?_,h1,?_⟩
 ·unfold topT
  rw [List.takeWhile_append_of_pos (by intro c hc;simp [h c hc])]
  simp
 ·unfold botT
  rw [h1,if_pos rfl,List.dropWhile_append_of_pos (by intro c hc;simp [h c hc])]
  simp
theorem qql {s:BT} (h:qpv s=true):s=topT s ++ 47 :: botT s:=by
 have e:s=topT s ++ s.dropWhile (fun c=>c != 47):=(List.takeWhile_append_dropWhile (p:=fun c:UInt8=>c != 47) (l:=s)).symm
 unfold botT;rw [h,if_pos rfl]
 cases hd:s.dropWhile (fun c=>c != 47) with
 | nil =>
  exfalso
  rw [hd,List.append_nil] at e;unfold qpv at h;obtain ⟨c,hc,hc2⟩:=List.any_eq_true.1 h;rw [e] at hc
  have:=qrp hc
  simp at this hc2;exact this hc2
 | cons c t =>
  have h2:c=47:=by
   have:=List.head_dropWhile_not (p:=fun c:UInt8=>c != 47) (w:=by rw [hd];simp) (l:=s)
   simp only [hd,List.head_cons] at this
   simpa using this
  rw [hd,h2] at e
  simpa using e
theorem qqj {s:BT} (h:qpv s=false):topT s=s:=by
 unfold topT;unfold qpv at h;rw [List.any_eq_false] at h;refine qro fun c hc=>?_
 have:=h c hc
 simpa using this
theorem qkq (r:Rat):topT (rT r)=itoa r.num∧botT (rT r)=decDigits r.den∧qpv (rT r)=decide (r.den≠1):=by
 unfold rT
 by_cases h:r.den=1
 ·rw [if_pos h,h]
  obtain ⟨h1,h2,h3⟩:=qsu (qc8 r.num);exact ⟨h1,by rw [h3,q4w o_];rfl,by rw [h2];rfl⟩
 ·rw [if_neg h]
  obtain ⟨h1,h2,h3⟩:=qsv (q:=decDigits r.den) (qc8 r.num);exact ⟨h1,h3,by rw [h2,decide_eq_true h]⟩
theorem qeb (n:Nat):itoa (n:Int)=decDigits n:=by rw [qca o_,Int.natAbs_natCast]
theorem qc9:itoa 1=[49]:=by rw [qca o_];exact q4w o_
def FitR (r:Rat):Prop:=Fit r.num∧Fit (r.den:Int)
def chkR (s:BT):Int :=
 if chkI (topT s)=3∨chkI (botT s)=3 then 3
 else if qpv s=true∧(valI (botT s)≤0∨botT s=[49]) then 3
 else if 4096<(bodyT (topT s)).length∨4096<(bodyT (botT s)).length then 23
 else if qpv s=true∧Nat.gcd (valI (topT s)).natAbs (valI (botT s)).natAbs≠1 then 3 else 0
def valR (s:BT):Rat:=mkRat (valI (topT s)) (valI (botT s)).natAbs
theorem qz3 (r:Rat):valR (rT r)=r:=by
 obtain ⟨h1,h2,_⟩:=qkq r;unfold valR;rw [h1,h2,← qeb,qyz,qyz,Int.natAbs_natCast];exact Rat.mkRat_self r
theorem q33 (h:FitR r):chkR (rT r)=0:=by
 obtain ⟨h1,h2,h3⟩:=qkq r;obtain ⟨f1,f2⟩:=h;unfold chkR;rw [h1,h2,h3,← qeb,q2w f1,q2w f2,qyz,qyz,q1f,q1f];have hd:=r.den_pos;rw [if_neg d_,if_neg,if_neg,if_neg]
 ·rintro ⟨_,hg⟩
  exact hg (by rw [Int.natAbs_natCast];exact r.reduced)
 ·rintro (h | h)
  ·exact q8f.1 f1 h
  ·exact q8f.1 f2 h
 ·rintro ⟨h4,h5 | h5⟩
  ·omega
  ·rw [← qc9] at h5
   have:=qc2 h5
   simp at h4;omega
theorem q34 {s:BT} (h:chkR s=0):s=rT (valR s)∧FitR (valR s):=by
 unfold chkR at h
 split at h
 ·cases h
 rename_i c1
 split at h
 ·cases h
 rename_i c2
 split at h
 ·cases h
 rename_i c3
 split at h
 ·cases h
 rename_i c4
 obtain ⟨x,hx⟩:=q2x (s:=topT s) (fun e=>c1 (.inl e))
 obtain ⟨y,hy⟩:=q2x (s:=botT s) (fun e=>c1 (.inr e))
 rw [hx,hy,qyz,qyz] at c4;rw [hx,hy,q1f,q1f] at c3;have fx:Fit x:=q8f.2 (fun e=>c3 (.inl e))
 have fy:Fit y:=q8f.2 (fun e=>c3 (.inr e))
 by_cases hs:qpv s=true
 ·rw [hs] at c2 c4
  rw [hy,qyz] at c2;have y0:0<y:=by
   rcases Int.lt_or_le 0 y with h | h
   ·exact h
   ·exact absurd ⟨rfl,.inl h⟩ c2
  have y1:y≠1:=fun e=>c2 ⟨rfl,.inr (by rw [e];exact qc9)⟩
  have hg:Nat.gcd x.natAbs y.natAbs=1:=by
   rcases Nat.decEq (Nat.gcd x.natAbs y.natAbs) 1 with h | h
   ·exact absurd ⟨rfl,h⟩ c4
   ·exact h
  have hv:valR s=⟨x,y.natAbs,o_,hg⟩:=by
   unfold valR;rw [hx,hy,qyz,qyz];exact (Rat.mk_eq_mkRat x y.natAbs o_ hg).symm
  refine ⟨?_,?_⟩
  ·rw [hv]
   unfold rT;have hd:y.natAbs≠1:=o_
   rw [if_neg hd]
   conv=>lhs;rw [qql hs,hx,hy,qca (z:=y) o_]
  ·rw [hv]
   exact ⟨fx,by show Fit ((y.natAbs:Nat):Int);rwa [show ((y.natAbs:Nat):Int)=y by omega]⟩
 ·have hs':qpv s=false:=by simpa using hs
  have hb:botT s=[49]:=by unfold botT;rw [hs'];rfl
  have y1:y=1:=qc2 (hy.symm.trans (hb.trans qc9.symm));have hv:valR s=(x:Rat):=by
   unfold valR;rw [hx,hb,qyz,show valI [49]=1 by decide]
   exact Rat.mkRat_one x
  refine ⟨?_,?_⟩
  ·rw [hv]
   unfold rT;rw [Rat.den_intCast,if_pos rfl,Rat.num_intCast,← hx,qqj hs']
  ·rw [hv]
   refine ⟨by rw [Rat.num_intCast];exact fx,?_⟩
   rw [Rat.den_intCast];rw [y1] at fy;exact fy
theorem qkz (r:Rat):Rat.divInt r.num (r.den:Int)=r:=by
 rw [Rat.divInt_ofNat];exact Rat.mkRat_self r
theorem q08 (a b:Rat):a+b=Rat.divInt (a.num*b.den+b.num*a.den) ((a.den:Int)*b.den):=by
 conv=>lhs;rw [← qkz a,← qkz b]
 exact Rat.divInt_add_divInt _ _ (oh_ a.den_pos) (oh_ b.den_pos)
theorem qr9 (a b:Rat):a-b=Rat.divInt (a.num*b.den-b.num*a.den) ((a.den:Int)*b.den):=by
 conv=>lhs;rw [← qkz a,← qkz b]
 exact Rat.divInt_sub_divInt _ _ (oh_ a.den_pos) (oh_ b.den_pos)
theorem qe8 (a b:Rat):a*b=Rat.divInt (a.num*b.num) ((a.den:Int)*b.den):=by
 conv=>lhs;rw [← qkz a,← qkz b]
 exact Rat.divInt_mul_divInt _ _
theorem q5q (a b:Rat):a / b=Rat.divInt (a.num*b.den) ((a.den:Int)*b.num):=by
 conv=>lhs;rw [Rat.div_def,← qkz a,← qkz b]
 rw [Rat.inv_divInt];exact Rat.divInt_mul_divInt _ _
def ordR (a b:Rat):Int:=(a.num*b.den-b.num*a.den).sign
theorem qfd {a:Rat}:ordR a b<0↔a<b:=by
 unfold ordR;rw [Int.sign_neg_iff,Rat.lt_iff];omega
theorem qfh {a:Rat}:0<ordR a b↔b<a:=by
 unfold ordR;rw [Int.sign_pos_iff,Rat.lt_iff];omega
theorem qfj {a:Rat}:ordR a b=0↔a=b:=by
 constructor
 ·intro h
  have h1:¬ a<b:=fun e=>by have:=qfd.2 e;omega
  have h2:¬ b<a:=fun e=>by have:=qfh.2 e;omega
  exact Rat.le_antisymm (Rat.not_lt.1 h2) (Rat.not_lt.1 h1)
 ·rintro rfl
  unfold ordR;simp
end
section
open Go.Lib
theorem q48 (c:UInt8):∀ s:BT,(s.any (fun d=>d == c)=true→indexByte s c=((s.takeWhile (fun d=>d != c)).length:Int))∧(s.any (fun d=>d == c)=false→indexByte s c=-1)
 | []=>⟨fun h=>by simp at h,fun _=>rfl⟩
 | b :: l=>by
  obtain ⟨h1,h2⟩:=q48 c l;unfold indexByte
  by_cases h:b=c
  ·subst h
   refine ⟨fun _=>s_,fun h=>by simp at h⟩
  ·have hb:(b == c)=false:=by simpa using h
   rw [hb,if_neg s_]
   have ht:(b :: l).takeWhile (fun d=>d != c)=b :: l.takeWhile (fun d=>d != c):=List.takeWhile_cons_of_pos (by simpa using h)
   rw [List.any_cons,hb,Bool.false_or,ht];refine ⟨fun h3=>?_,fun h3=>?_⟩
   ·rw [h1 h3,if_neg (by rw [beq_iff_eq];omega)]
    simp
   ·rw [h2 h3];rfl
theorem qru (p:UInt8→Bool) (s:BT):s.take (s.takeWhile p).length=s.takeWhile p:=by
 have h:s=s.takeWhile p ++ s.dropWhile p:=(List.takeWhile_append_dropWhile (p:=p) (l:=s)).symm;generalize s.takeWhile p=a at *;generalize s.dropWhile p=b at *;subst h;simp
theorem q6f (p:UInt8→Bool) (s:BT):s.drop (s.takeWhile p).length=s.dropWhile p:=by
 have h:s=s.takeWhile p ++ s.dropWhile p:=(List.takeWhile_append_dropWhile (p:=p) (l:=s)).symm;generalize s.takeWhile p=a at *;generalize s.dropWhile p=b at *;subst h;simp
def headB (c:UInt8) (s:BT):BT:=s.takeWhile (fun d=>d != c)
def hasB (c:UInt8) (s:BT):Bool:=s.any (fun d=>d == c)
def tailB (c:UInt8) (s:BT):BT:=if hasB c s then (s.dropWhile (fun d=>d != c)).drop 1 else []
theorem qau {c:UInt8} {s:BT} (h:hasB c s=false):headB c s=s∧tailB c s=[]:=by
 refine ⟨?_,by unfold tailB;rw [h];rfl⟩
 unfold hasB at h;rw [List.any_eq_false] at h;exact qro fun x hx=>by have:=h x hx;simpa using this
theorem qaw {c:UInt8} {s:BT} (h:hasB c s=true):headB c s=s.take (headB c s).length∧tailB c s=s.drop ((headB c s).length+1)∧(headB c s).length+1≤s.length:=by
 have e:=qru (fun d=>d != c) s
 have e2:=q6f (fun d=>d != c) s
 refine ⟨e.symm,?_,?_⟩
 ·unfold tailB
  rw [h,if_pos rfl,← e2,List.drop_drop]
  rfl
 ·have h3:s.dropWhile (fun d=>d != c)≠[]:=by
   intro h4;have h5:=List.takeWhile_append_dropWhile (p:=fun d:UInt8=>d != c) (l:=s)
   rw [h4,List.append_nil] at h5;unfold hasB at h;obtain ⟨d,hd,hd2⟩:=List.any_eq_true.1 h;rw [← h5] at hd
   have:=qrp hd
   simp at this hd2;exact this hd2
  have h6:=congrArg List.length (List.takeWhile_append_dropWhile (p:=fun d:UInt8=>d != c) (l:=s))
  have h7:=List.length_pos_iff.2 h3;rw [List.length_append] at h6;unfold headB;omega
theorem q1u (c:UInt8) (s:BT):(hasB c s=true→indexByte s c=((headB c s).length:Int))∧(hasB c s=false→indexByte s c=-1):=q48 c s
theorem qav (s:BT):headB 47 s=topT s∧hasB 47 s=qpv s∧(qpv s=true→tailB 47 s=botT s):=by
 refine ⟨rfl,rfl,fun h=>?_⟩
 unfold tailB botT;rw [show hasB 47 s=qpv s from rfl,h,if_pos rfl,if_pos rfl]
end
section
open Go.Lib
end
section
open Go.Lib
def redG (x y:Int):Int:=if y<0 then -(Nat.gcd x.natAbs y.natAbs:Int) else (Nat.gcd x.natAbs y.natAbs:Int)
theorem gcd_ne (hy:y≠0):0<Nat.gcd x.natAbs y.natAbs:=Nat.gcd_pos_of_pos_right _ o_
theorem qlq (hy:y≠0):x.fdiv (redG x y)=(Rat.divInt x y).num∧y.fdiv (redG x y)=((Rat.divInt x y).den:Int):=by
 rw [Rat.num_divInt,Rat.den_divInt,if_neg hy];have hG:=gcd_ne (x:=x) hy;have e:y.gcd x=Nat.gcd x.natAbs y.natAbs:=by rw [Int.gcd_comm];rfl
 have d1:((Nat.gcd x.natAbs y.natAbs:Nat):Int) ∣ x:=Int.ofNat_dvd_left.2 (Nat.gcd_dvd_left _ _);have d2:((Nat.gcd x.natAbs y.natAbs:Nat):Int) ∣ y:=Int.ofNat_dvd_left.2 (Nat.gcd_dvd_right _ _);rw [e];unfold redG;generalize Nat.gcd x.natAbs y.natAbs=G at *;obtain ⟨a,rfl⟩:=d1;obtain ⟨b,rfl⟩:=d2;have G0:(G:Int)≠0:=o_
 have hb:b≠0:=by rintro rfl;simp at hy
 have na:((G:Int)*b).natAbs=G*b.natAbs:=by rw [Int.natAbs_mul,Int.natAbs_natCast]
 by_cases h:(G:Int)*b<0
 ·rw [if_pos h,Int.sign_eq_neg_one_of_neg h]
  have hb0:b<0:=by
   rcases Int.lt_or_le b 0 with h1 | h1
   ·exact h1
   ·exact absurd h (by have:=Int.mul_nonneg (show (0:Int)≤G by omega) h1;omega)
  have e1:∀ z:Int,((G:Int)*z).fdiv (-(G:Int))=-z:=fun z=>by
   rw [show (G:Int)*z=-(G:Int)*(-z) by rw [Int.neg_mul_neg]]
   exact Int.mul_fdiv_cancel_left _ o_
  refine ⟨?_,?_⟩
  ·rw [e1,show (-1:Int)*((G:Int)*a)=(G:Int)*(-a) by rw [Int.mul_neg,Int.neg_mul,Int.one_mul],Int.mul_ediv_cancel_left _ G0]
  ·rw [e1,na,Nat.mul_div_cancel_left _ hG];omega
 ·rw [if_neg h]
  have hb0:0<b:=by
   rcases Int.lt_or_le 0 b with h1 | h1
   ·exact h1
   ·exact absurd (show (G:Int)*b<0 from Int.mul_neg_of_pos_of_neg o_ o_) h
  have hp:0<(G:Int)*b:=Int.mul_pos o_ hb0
  rw [Int.sign_eq_one_of_pos hp,Int.one_mul];refine ⟨?_,?_⟩
  ·rw [Int.mul_fdiv_cancel_left _ G0,Int.mul_ediv_cancel_left _ G0]
  ·rw [Int.mul_fdiv_cancel_left _ G0,na,Nat.mul_div_cancel_left _ hG];omega
theorem red_le (hy:y≠0):(Rat.divInt x y).num.natAbs≤x.natAbs∧(Rat.divInt x y).den≤y.natAbs:=by
 rw [Rat.num_divInt,Rat.den_divInt,if_neg hy];refine ⟨?_,Nat.div_le_self _ _⟩;refine Nat.le_trans (Int.natAbs_ediv_le_natAbs _ _) ?_;rw [Int.natAbs_mul]
 rcases Int.lt_trichotomy y 0 with h | h | h
 ·rw [Int.sign_eq_neg_one_of_neg h];simp
 ·exact absurd h hy
 ·rw [Int.sign_eq_one_of_pos h];simp
theorem fit_le {a b:Int} (h:Fit a) (hb:b.natAbs≤a.natAbs):Fit b:=by
 unfold Fit at *;exact Nat.lt_of_le_of_lt hb h
theorem qlp (hx:Fit x) (hy:Fit y) (h0:y≠0):FitR (Rat.divInt x y) :=
 ⟨fit_le hx (red_le h0).1,fit_le hy (by rw [Int.natAbs_natCast];exact (red_le h0).2)⟩
def SzR (k:Nat) (r:Rat):Prop:=r.num.natAbs<10 ^ k∧r.den<10 ^ k
theorem SzR.up (h:SzR k r) (hk:k≤m):SzR m r :=
 ⟨Nat.lt_of_lt_of_le h.1 (Nat.pow_le_pow_right o_ hk),Nat.lt_of_lt_of_le h.2 (Nat.pow_le_pow_right o_ hk)⟩
theorem qi9 {b:Nat} (ha:a<10 ^ k) (hb:b<10 ^ m):a*b<10 ^ (k+m):=by
 rw [Nat.pow_add];exact Nat.mul_lt_mul'' ha hb
theorem SzR.red (hy:y≠0) (h1:x.natAbs<10 ^ k) (h2:y.natAbs<10 ^ k):SzR k (Rat.divInt x y) :=
 ⟨Nat.lt_of_le_of_lt (red_le hy).1 h1,Nat.lt_of_le_of_lt (red_le hy).2 h2⟩
theorem q55 (a b:Rat):((a.den:Int)*b.den)≠0:=Int.mul_ne_zero (oh_ a.den_pos) (oh_ b.den_pos)
theorem SzR.prods {a:Rat} (ha:SzR k a) (hb:SzR m b) :
  (a.num*b.den).natAbs<10 ^ (k+m)∧(b.num*a.den).natAbs<10 ^ (k+m)∧((a.den:Int)*b.den).natAbs<10 ^ (k+m)∧(a.num*b.num).natAbs<10 ^ (k+m) ∧
  (a.num*b.den+b.num*a.den).natAbs<10 ^ (k+m+1)∧(a.num*b.den-b.num*a.den).natAbs<10 ^ (k+m+1)∧((a.den:Int)*b.num).natAbs<10 ^ (k+m):=by
 have h1:(a.num*b.den).natAbs<10 ^ (k+m):=by rw [Int.natAbs_mul,Int.natAbs_natCast];exact qi9 ha.1 hb.2
 have h2:(b.num*a.den).natAbs<10 ^ (k+m):=by rw [Int.natAbs_mul,Int.natAbs_natCast,Nat.add_comm];exact qi9 hb.1 ha.2
 have h3:((a.den:Int)*b.den).natAbs<10 ^ (k+m):=by rw [Int.natAbs_mul,Int.natAbs_natCast,Int.natAbs_natCast];exact qi9 ha.2 hb.2
 have h4:(a.num*b.num).natAbs<10 ^ (k+m):=by rw [Int.natAbs_mul];exact qi9 ha.1 hb.1
 have h7:((a.den:Int)*b.num).natAbs<10 ^ (k+m):=by rw [Int.natAbs_mul,Int.natAbs_natCast];exact qi9 ha.2 hb.1
 have hp:(10:Nat) ^ (k+m+1)=10*10 ^ (k+m):=by rw [Nat.pow_succ,Nat.mul_comm]
 refine ⟨h1,h2,h3,h4,?_,?_,h7⟩
 all_goals
  rw [hp];generalize (10:Nat) ^ (k+m)=P at *;omega
theorem SzR.add {a:Rat} (ha:SzR k a) (hb:SzR m b):SzR (k+m+1) (a+b):=by
 obtain ⟨_,_,h3,_,h5,_,_⟩:=SzR.prods ha hb;rw [q08];exact SzR.red (q55 a b) h5 (Nat.lt_of_lt_of_le h3 (Nat.pow_le_pow_right o_ o_))
theorem SzR.sub {a:Rat} (ha:SzR k a) (hb:SzR m b):SzR (k+m+1) (a-b):=by
 obtain ⟨_,_,h3,_,_,h6,_⟩:=SzR.prods ha hb;rw [qr9];exact SzR.red (q55 a b) h6 (Nat.lt_of_lt_of_le h3 (Nat.pow_le_pow_right o_ o_))
theorem SzR.mul {a:Rat} (ha:SzR k a) (hb:SzR m b):SzR (k+m) (a*b):=by
 obtain ⟨_,_,h3,h4,_,_,_⟩:=SzR.prods ha hb;rw [qe8];exact SzR.red (q55 a b) h4 h3
theorem num_ne (hb:b≠0):b.num≠0:=fun h=>hb (Rat.num_eq_zero.1 h)
theorem SzR.div {a:Rat} (ha:SzR k a) (hb:SzR m b) (h0:b≠0):SzR (k+m) (a / b):=by
 obtain ⟨h1,_,_,_,_,_,h7⟩:=SzR.prods ha hb;rw [q5q];exact SzR.red (Int.mul_ne_zero (oh_ a.den_pos) (num_ne h0)) h1 h7
theorem SzR.fit (h:SzR k r) (hk:k≤4096):FitR r:=by
 unfold FitR Fit;have h2:=h.up (m:=4096) hk;exact ⟨h2.1,by rw [Int.natAbs_natCast];exact h2.2⟩
theorem SzR.int (h:z.natAbs<10 ^ k) (hk:0<k):SzR k (z:Rat):=by
 refine ⟨by rw [Rat.num_intCast];exact h,?_⟩
 rw [Rat.den_intCast];exact Nat.one_lt_pow o_ o_
theorem q8v (r:Rat):r.num.fdiv (r.den:Int)=r.floor:=by
 rw [Rat.floor_def,Int.fdiv_eq_ediv_of_nonneg _ o_]
theorem q24 {a b:Int}:(a:Rat)≤(b:Rat)↔a≤b:=Rat.intCast_le_intCast
theorem q26 {a b:Int}:(a:Rat)<(b:Rat)↔a<b:=Rat.intCast_lt_intCast
theorem q91 (h1:(z:Rat)≤r) (h2:r<(z:Rat)+1):r.floor=z:=by
 have a1:=Rat.floor_le r;have a2:=Rat.lt_floor_add_one r;have b1:z<r.floor+1:=q26.1 (by rw [Rat.intCast_add] at *;grind)
 have b2:r.floor<z+1:=q26.1 (by rw [Rat.intCast_add];have:((1:Int):Rat)=1:=rfl;grind)
 omega
end
section
open Go.Lib
def halfR:Rat:=mkRat 1 2
theorem q8t (r:Rat):(r.floor:Rat)≤r∧r<(r.floor:Rat)+1:=by
 have a2:=Rat.lt_floor_add_one r;refine ⟨Rat.floor_le r,?_⟩;rw [Rat.intCast_add] at a2;exact a2
def mixR (a b w:Rat):Rat:=a+(b-a)*w
theorem qaq:halfR*2=1:=by decide +kernel
theorem qed (r:Rat):((r+halfR).floor=r.floor∧2*r<2*(r.floor:Rat)+1)∨((r+halfR).floor=r.floor+1∧2*(r.floor:Rat)+1≤2*r):=by
 obtain ⟨f1,f2⟩:=q8t r;have h2:=qaq
 by_cases h:2*r<2*(r.floor:Rat)+1
 ·refine .inl ⟨q91 ?_ ?_,h⟩ <;> grind
 ·refine .inr ⟨q91 ?_ ?_,Rat.not_lt.1 h⟩
  ·rw [Rat.intCast_add];have:((1:Int):Rat)=1:=rfl;grind
  ·rw [Rat.intCast_add];have:((1:Int):Rat)=1:=rfl;grind
theorem den_pos (r:Rat):(0:Rat)<((r.den:Int):Rat):=q26.2 (show (0:Int)<(r.den:Int) by have:=r.den_pos;omega)
theorem num_eq (r:Rat):r*((r.den:Int):Rat)=(r.num:Rat):=by
 have h:=qkz r;rw [Rat.divInt_eq_div,Rat.div_def] at h;have hd:((r.den:Int):Rat)≠0:=by
  have:=den_pos r
  grind
 have:r*((r.den:Int):Rat)=(r.num:Rat)*((r.den:Int):Rat)⁻¹*((r.den:Int):Rat):=by rw [h]
 rw [this,Rat.mul_assoc,Rat.inv_mul_cancel _ hd,Rat.mul_one]
theorem qlv (r:Rat):(r.num.fmod (r.den:Int)<(r.den:Int)-r.num.fmod (r.den:Int))↔2*r<2*(r.floor:Rat)+1:=by
 have h1:=(q7c r.num (y:=(r.den:Int)) (oh_ r.den_pos)).1
 rw [q8v] at h1;have hd:=den_pos r;have hn:=num_eq r;generalize r.num.fmod (r.den:Int)=m at *;have hc:m<(r.den:Int)-m↔2*r.num<2*((r.den:Int)*r.floor)+(r.den:Int):=o_
 rw [hc,← q26];have e:((2*r.num:Int):Rat)=2*(r.num:Rat):=by rw [Rat.intCast_mul];rfl
 have e2:((2*((r.den:Int)*r.floor)+(r.den:Int):Int):Rat)=2*(((r.den:Int):Rat)*(r.floor:Rat))+((r.den:Int):Rat):=by
  rw [Rat.intCast_add,Rat.intCast_mul,Rat.intCast_mul];rfl
 rw [e,e2,← hn];generalize ((r.den:Int):Rat)=d at *
 constructor
 ·intro h
  by_cases h2:2*r<2*(r.floor:Rat)+1
  ·exact h2
  ·have:=Rat.mul_le_mul_of_nonneg_right (Rat.not_lt.1 h2) (show (0:Rat)≤d by grind)
   grind
 ·intro h
  have:=Rat.mul_lt_mul_of_pos_right h hd
  grind
theorem qee (r:Rat):(r.num.fmod (r.den:Int)<(r.den:Int)-r.num.fmod (r.den:Int)∧(r+halfR).floor=r.floor)∨(¬ r.num.fmod (r.den:Int)<(r.den:Int)-r.num.fmod (r.den:Int)∧(r+halfR).floor=r.floor+1):=by
 rcases qed r with ⟨e,h⟩ | ⟨e,h⟩
 ·exact .inl ⟨(qlv r).2 h,e⟩
 ·exact .inr ⟨fun h2=>absurd ((qlv r).1 h2) (Rat.not_lt.2 h),e⟩
end
abbrev PT:=Int × Int
def isLev (v:Int):Prop:=0≤v∧v≤65535
instance (v:Int):Decidable (isLev v):=by unfold isLev;infer_instance
def scanC:Int→List PT→Int
 | _,[]=>0
 | p,q :: t=>if ¬ (isLev q.1∧isLev q.2) then 2 else if q.1≤p then 9 else scanC q.1 t
def firstX (c:List PT):Int:=(c.headD (0,0)).1
def lastX (c:List PT):Int:=(c.getLastD (0,0)).1
def firstY (c:List PT):Int:=(c.headD (0,0)).2
def lastY (c:List PT):Int:=(c.getLastD (0,0)).2
def chkC (c:List PT):Int :=
 if c.length<2 then 14 else if 16<c.length then 5 else if scanC (-1) c≠0 then scanC (-1) c else if firstX c≠0∨lastX c≠65535 then 14 else 0
def UpC:Int→List PT→Prop
 | _,[]=>True
 | p,q :: t=>(isLev q.1∧isLev q.2)∧p<q.1∧UpC q.1 t
theorem qos:∀ {p:Int} {c:List PT},scanC p c=0↔UpC p c
 | _,[]=>by simp [scanC,UpC]
 | p,q :: t=>by
  unfold scanC UpC
  by_cases h1:isLev q.1∧isLev q.2
  ·rw [if_neg (by simpa using h1)]
   by_cases h2:q.1≤p
   ·rw [if_pos h2]
    refine ⟨(fun h=>by cases h),fun h=>o_⟩
   ·rw [if_neg h2,qos]
    exact ⟨fun h=>⟨h1,o_,h⟩,fun h=>h.2.2⟩
  ·rw [if_pos h1]
   exact ⟨(fun h=>by cases h),fun h=>absurd h.1 h1⟩
structure OkC (c:List PT):Prop where
 two:2≤c.length
 few:c.length≤16
 up:UpC (-1) c
 first:firstX c=0
 last:lastX c=65535
theorem q2t {c:List PT}:chkC c=0↔OkC c:=by
 unfold chkC
 by_cases h1:c.length<2
 ·rw [if_pos h1];exact ⟨(fun h=>by cases h),fun h=>by have:=h.two;omega⟩
 rw [if_neg h1]
 by_cases h2:16<c.length
 ·rw [if_pos h2];exact ⟨(fun h=>by cases h),fun h=>by have:=h.few;omega⟩
 rw [if_neg h2]
 by_cases h3:scanC (-1) c=0
 ·rw [if_neg (by simpa using h3)]
  by_cases h4:firstX c≠0∨lastX c≠65535
  ·rw [if_pos h4]
   refine ⟨(fun h=>by cases h),fun h=>?_⟩
   rcases h4 with h4 | h4
   ·exact absurd h.first h4
   ·exact absurd h.last h4
  ·rw [if_neg h4]
   exact ⟨fun _=>⟨o_,o_,qos.1 h3,o_,o_⟩,fun _=>rfl⟩
 ·rw [if_pos h3]
  exact ⟨fun h=>absurd h h3,fun h=>absurd (qos.2 h.up) h3⟩
def segR (a b:PT) (r:Rat):Rat:=mixR (a.2:Rat) (b.2:Rat) ((r-(a.1:Rat)) / ((b.1-a.1:Int):Rat))
def valC:List PT→Rat→Rat
 | a :: b :: t,r=>if r≤(b.1:Rat) then segR a b r else valC (b :: t) r
 | [a],_=>(a.2:Rat)
 | [],_=>0
theorem q27 (h:0<z):(0:Rat)<(z:Rat):=by
 have:=q26.2 h
 exact this
theorem qp0 {a b:PT} (h:a.1<b.1):(segR a b r-(a.2:Rat))*((b.1:Rat)-(a.1:Rat))=((b.2:Rat)-(a.2:Rat))*(r-(a.1:Rat)):=by
 unfold segR mixR;rw [Rat.intCast_sub];have hd:((b.1:Rat)-(a.1:Rat))≠0:=by
  have:=q26.2 h
  grind
 generalize (b.1:Rat)-(a.1:Rat)=d at *;generalize (r-(a.1:Rat))=s at *
 have:s / d*d=s:=by rw [Rat.div_def,Rat.mul_assoc,Rat.inv_mul_cancel _ hd,Rat.mul_one]
 grind
theorem qe5 {x y d:Rat} (hd:d≠0) (h:x*d=y*d):x=y:=by
 have:=congrArg (· * d⁻¹) h
 simp only [Rat.mul_assoc,Rat.mul_inv_cancel _ hd,Rat.mul_one] at this;exact this
theorem qpb {a b:PT} {y:Rat} (h:a.1<b.1) (hy:(y-(a.2:Rat))*((b.1:Rat)-(a.1:Rat))=((b.2:Rat)-(a.2:Rat))*(r-(a.1:Rat))):segR a b r=y:=by
 have h1:=qp0 (r:=r) h;have hd:((b.1:Rat)-(a.1:Rat))≠0:=by
  have:=q26.2 h
  grind
 have:=qe5 hd (h1.trans hy.symm)
 grind
theorem qp5 {a b:PT} (h:a.1<b.1):segR a b (a.1:Rat)=(a.2:Rat):=qpb h (by grind)
theorem qp9 {a b:PT} (h:a.1<b.1):segR a b (b.1:Rat)=(b.2:Rat):=qpb h (by grind)
theorem le_mul {x y d:Rat} (hd:0<d) (h:x*d≤y*d):x≤y:=by
 by_cases h1:y<x
 ·exact absurd (Rat.mul_lt_mul_of_pos_right h1 hd) (Rat.not_lt.2 h)
 ·exact Rat.not_lt.1 h1
theorem qp3 {a b:PT} (h:a.1<b.1) (h0:(a.1:Rat)≤r) (h1:r≤(b.1:Rat)) :
  ((min a.2 b.2:Int):Rat)≤segR a b r∧segR a b r≤((max a.2 b.2:Int):Rat):=by
 have e:=qp0 (r:=r) h;have hd:(0:Rat)<(b.1:Rat)-(a.1:Rat):=by
  have:=q26.2 h
  grind
 generalize segR a b r=y at *
 rcases Int.le_total a.2 b.2 with hy | hy
 ·rw [Int.min_eq_left hy,Int.max_eq_right hy]
  have hy':=q24.2 hy;have p1:(0:Rat)≤((b.2:Rat)-(a.2:Rat))*(r-(a.1:Rat)):=Rat.mul_nonneg (by grind) (by grind)
  have p2:(0:Rat)≤((b.2:Rat)-(a.2:Rat))*((b.1:Rat)-r):=Rat.mul_nonneg (by grind) (by grind)
  exact ⟨le_mul hd (by grind),le_mul hd (by grind)⟩
 ·rw [Int.min_eq_right hy,Int.max_eq_left hy]
  have hy':=q24.2 hy;have p1:(0:Rat)≤((a.2:Rat)-(b.2:Rat))*(r-(a.1:Rat)):=Rat.mul_nonneg (by grind) (by grind)
  have p2:(0:Rat)≤((a.2:Rat)-(b.2:Rat))*((b.1:Rat)-r):=Rat.mul_nonneg (by grind) (by grind)
  exact ⟨le_mul hd (by grind),le_mul hd (by grind)⟩
theorem qyy (a b:PT) (t:List PT) (r:Rat):valC (a :: b :: t) r=if r≤(b.1:Rat) then segR a b r else valC (b :: t) r:=by rw [valC]
theorem qyx:∀ {c:List PT} {p:Int} {i:Nat} {r:Rat},UpC p c→(h:i+1<c.length)→((c[i]'o_).1:Rat)≤r→r≤(c[i+1].1:Rat)→valC c r=segR (c[i]'o_) c[i+1] r
 | a :: b :: t,p,0,r,_,_,_,h1=>by
  have h1':r≤(b.1:Rat):=h1;rw [qyy,if_pos h1'];rfl
 | a :: b :: t,p,i+1,r,hu,h,h0,h1=>by
  have hb:UpC a.1 (b :: t):=hu.2.2;have hi:=qyx (c:=b :: t) (i:=i) (r:=r) hb (by simpa using h) h0 h1
  rw [qyy]
  by_cases hr:r≤(b.1:Rat)
  ·rw [if_pos hr]
   cases i with
   | zero =>
    obtain rfl:r=(b.1:Rat):=Rat.le_antisymm hr h0
    match t,h,hu with
    | d :: t,_,hu =>
     show segR a b _=segR b d _
     rw [qp9 hu.2.2.2.1,qp5 hu.2.2.2.2.2.1]
   | succ i =>
    exfalso
    have hlt:∀ (t:List PT) (q:Int) (i:Nat) (h:i<t.length),UpC q t→q<t[i].1:=by
     intro t
     induction t with
     | nil=>intro q i h;simp at h
     | cons d t ih =>
      intro q i h hu
      cases i with
      | zero=>exact hu.2.1
      | succ i=>exact Int.lt_trans hu.2.1 (ih d.1 i (by simpa using h) hu.2.2)
    have h3:b.1<((a :: b :: t)[i+1+1]'o_).1:=by
     show b.1<(t[i]'(by simp at h;omega)).1
     exact hlt t b.1 i _ hb.2.2
    have:=q26.2 h3
    grind
  ·rw [if_neg hr];exact hi
 | [a],_,i,_,_,h,_,_=>by simp at h
 | [],_,i,_,_,h,_,_=>by simp at h
theorem up_lt:∀ {t:List PT} {q:Int} {i:Nat} (h:i<t.length),UpC q t→q<t[i].1
 | d :: t,q,0,_,hu=>hu.2.1
 | d :: t,q,i+1,h,hu=>by
  have h0:i<t.length:=by simpa using h
  have h1:=up_lt h0 hu.2.2;exact Int.lt_trans hu.2.1 h1
theorem up_lev:∀ {t:List PT} {q:Int} {i:Nat} (h:i<t.length),UpC q t→isLev t[i].1∧isLev t[i].2
 | d :: t,q,0,_,hu=>hu.1
 | d :: t,q,i+1,h,hu=>by
  have h0:i<t.length:=by simpa using h
  exact up_lev h0 hu.2.2
theorem qyc:∀ {t:List PT} {q:Int} {i:Nat} (h:i+1<t.length),UpC q t→(t[i]'o_).1<t[i+1].1
 | d :: t,q,0,h,hu=>by
  have h0:0<t.length:=by simpa using h
  exact up_lt h0 hu.2.2
 | d :: t,q,i+1,h,hu=>by
  have h0:i+1<t.length:=by simpa using h
  exact qyc h0 hu.2.2
theorem qp4:∀ {c:List PT} {r:Rat},2≤c.length→(firstX c:Rat)≤r→r≤(lastX c:Rat)→∃ i,∃ h:i+1<c.length,((c[i]'o_).1:Rat)≤r∧r≤(c[i+1].1:Rat)
 | [a,b],r,_,h0,h1=>⟨0,s_,h0,h1⟩
 | a :: b :: d :: t,r,_,h0,h1=>by
  by_cases h:r≤(b.1:Rat)
  ·exact ⟨0,s_,h0,h⟩
  ·obtain ⟨i,hi,h2,h3⟩:=qp4 (c:=b :: d :: t) (r:=r) s_ (by show (b.1:Rat)≤r;grind) h1
   exact ⟨i+1,by simpa using hi,h2,h3⟩
 | [a],_,h,_,_=>by simp at h
 | [],_,h,_,_=>by simp at h
theorem OkC.seg {c:List PT} (h:OkC c) (h0:0≤r) (h1:r≤65535):∃ i,∃ hi:i+1<c.length,((c[i]'o_).1:Rat)≤r∧r≤(c[i+1].1:Rat)∧valC c r=segR (c[i]'o_) c[i+1] r∧(c[i]'o_).1<c[i+1].1:=by
 obtain ⟨i,hi,h2,h3⟩:=qp4 h.two (r:=r) (by rw [h.first];exact h0) (by rw [h.last];exact h1)
 exact ⟨i,hi,h2,h3,qyx h.up hi h2 h3,qyc hi h.up⟩
theorem q25 (h:isLev z):(0:Rat)≤(z:Rat)∧(z:Rat)≤65535:=⟨q24.2 h.1,q24.2 h.2⟩
theorem OkC.lev {c:List PT} (h:OkC c) (h0:0≤r) (h1:r≤65535):0≤valC c r∧valC c r≤65535:=by
 obtain ⟨i,hi,h2,h3,e,hs⟩:=h.seg h0 h1;obtain ⟨b1,b2⟩:=qp3 hs h2 h3;have l1:=(up_lev (i:=i) o_ h.up).2
 have l2:=(up_lev hi h.up).2;rw [e];unfold isLev at l1 l2;have c1:=(q25 (z:=min (c[i]'o_).2 c[i+1].2) (by unfold isLev;omega)).1
 have c2:=(q25 (z:=max (c[i]'o_).2 c[i+1].2) (by unfold isLev;omega)).2
 exact ⟨Rat.le_trans c1 b1,Rat.le_trans b2 c2⟩
theorem OkC.at {c:List PT} (h:OkC c) (hi:i<c.length):valC c (c[i].1:Rat)=(c[i].2:Rat):=by
 have h2:=h.two
 by_cases h3:i+1<c.length
 ·rw [qyx h.up h3 (Rat.le_refl) (by have:=q26.2 (qyc h3 h.up);grind)]
  exact qp5 (qyc h3 h.up)
 ·obtain ⟨j,rfl⟩:∃ j,i=j+1:=⟨i-1,o_⟩
  rw [qyx h.up hi (by have:=q26.2 (qyc hi h.up);grind) (Rat.le_refl)]
  exact qp9 (qyc hi h.up)
def wholeC (c:List PT):Prop:=(firstY c=0∧lastY c=65535)∨(firstY c=65535∧lastY c=0)
instance (c:List PT):Decidable (wholeC c):=by unfold wholeC;infer_instance
theorem q8d {c:List PT} (h:0<c.length):firstX c=c[0].1:=by
 match c,h with
 | q :: t,_=>rfl
theorem qco {c:List PT} (h:0<c.length):c.getLastD (0,0)=c[c.length-1]:=by
 rw [List.getLastD_eq_getLast?,List.getLast?_eq_getElem?,List.getElem?_eq_getElem o_]
 rfl
theorem qcm {c:List PT} (h:0<c.length):lastX c=c[c.length-1].1:=by unfold lastX;rw [qco h]
end Go.Proofs.YtabhjdmmfdfpeaaGreatDoor
