/- Lemmas. -/
import Derived.Test.YtbfikenbgfnfiaaGreatDoorSUniN
namespace Go.Proofs.YtbfikenbgfnfiaaGreatDoor
set_option maxHeartbeats 32000000
set_option maxRecDepth 100000
open _root_.Go.Proofs.Tryz

section
open Go.RowKit
def bfP (p q:Int × Int):Bool:=decide (p.1<q.1) || (decide (p.1=q.1) && decide (p.2<q.2))
theorem q077 {p q:Int × Int}:bfP p q=true↔p.1<q.1∨p.1=q.1∧p.2<q.2:=by
 unfold bfP;rw [Bool.or_eq_true,Bool.and_eq_true,decide_eq_true_eq,decide_eq_true_eq,decide_eq_true_eq]
theorem q079 {p q r:Int × Int} (h:bfP p q=true) (k:bfP q r=true):bfP p r=true:=by
 rw [q077] at *;omega
theorem q078 {p:Int × Int}:bfP p p=false:=by
 rw [Bool.eq_false_iff];intro h;rw [q077] at h;omega
theorem q07a {p q:Int × Int} (h:bfP p q=false) (k:bfP q p=false):p=q:=by
 rw [Bool.eq_false_iff] at h k;rw [ne_eq,q077] at h k;obtain ⟨a,b⟩:=p;obtain ⟨c,d⟩:=q;dsimp only at h k;have h1:a=c:=by omega
 have h2:b=d:=by omega
 rw [h1,h2]
def insP (p:Int × Int):List (Int × Int)→List (Int × Int)
 | []=>[p]
 | q :: t=>if bfP p q=true then p :: q :: t else q :: insP p t
def putQ (l:List (Int × Int)) (p:Int × Int):List (Int × Int):=if p ∈ l then l else insP p l
def AscP (l:List (Int × Int)):Prop:=l.Pairwise fun p q=>bfP p q=true
theorem q07q {p q:Int × Int}:∀ {l:List (Int × Int)},q ∈ insP p l↔q=p∨q ∈ l
 | []=>by simp [insP]
 | x :: t=>by
  rw [insP]
  by_cases h:bfP p x=true
  ·rw [if_pos h,List.mem_cons]
  ·rw [if_neg h,List.mem_cons,q07q (l:=t),List.mem_cons]
   constructor
   ·rintro (h | h | h)
    ·exact .inr (.inl h)
    ·exact .inl h
    ·exact .inr (.inr h)
   ·rintro (h | h | h)
    ·exact .inr (.inl h)
    ·exact .inl h
    ·exact .inr (.inr h)
theorem q07l {p:Int × Int}:∀ {l:List (Int × Int)},AscP l→p ∉ l→AscP (insP p l)
 | [],_,_=>by simp [insP,AscP]
 | x :: t,h,hn=>by
  obtain ⟨h1,h2⟩:=List.pairwise_cons.1 h;rw [insP]
  by_cases hb:bfP p x=true
  ·rw [if_pos hb]
   exact List.pairwise_cons.2 ⟨fun q hq=>by
    rcases List.mem_cons.1 hq with rfl | hq
    ·exact hb
    ·exact q079 hb (h1 q hq),h⟩
  ·rw [if_neg hb]
   have hxp:bfP x p=true:=by
    cases hc:bfP x p with
    | true=>rfl
    | false=>exact absurd (q07a (by simpa using hb) hc) (fun e=>hn (e ▸ List.mem_cons_self))
   exact List.pairwise_cons.2 ⟨fun q hq=>by
    rcases q07q.1 hq with rfl | hq
    ·exact hxp
    ·exact h1 q hq,q07l h2 (fun q=>hn (List.mem_cons_of_mem _ q))⟩
theorem q087 {l:List (Int × Int)} {p q:Int × Int}:q ∈ putQ l p↔q=p∨q ∈ l:=by
 unfold putQ
 by_cases h:p ∈ l
 ·rw [if_pos h]
  exact ⟨.inr,fun k=>k.elim (fun e=>e ▸ h) id⟩
 ·rw [if_neg h];exact q07q
theorem q086 {l:List (Int × Int)} {p:Int × Int} (h:AscP l):AscP (putQ l p):=by
 unfold putQ
 by_cases hm:p ∈ l
 ·rw [if_pos hm];exact h
 ·rw [if_neg hm];exact q07l h hm
theorem q089:∀ (xs:List (Int × Int)) {l:List (Int × Int)},AscP l→AscP (xs.foldl putQ l)∧∀ q,q ∈ xs.foldl putQ l↔q ∈ l∨q ∈ xs
 | [],l,h=>⟨h,fun q=>by simp⟩
 | x :: xs,l,h=>by
  obtain ⟨h1,h2⟩:=q089 xs (q086 (p:=x) h);refine ⟨h1,fun q=>?_⟩
  rw [List.foldl_cons,h2 q,q087,List.mem_cons]
  constructor
  ·rintro ((h | h) | h)
   ·exact .inr (.inl h)
   ·exact .inl h
   ·exact .inr (.inr h)
  ·rintro (h | h | h)
   ·exact .inl (.inr h)
   ·exact .inl (.inl h)
   ·exact .inr h
def compP:List (Int × Int)→List (Int × Int)
 | a :: b :: t=>if a=b then compP (b :: t) else a :: compP (b :: t)
 | l=>l
theorem q07g {q:Int × Int}:∀ {l:List (Int × Int)},q ∈ compP l↔q ∈ l
 | []=>Iff.rfl
 | [_]=>Iff.rfl
 | a :: b :: t=>by
  rw [compP]
  by_cases h:a=b
  ·rw [if_pos h,q07g (l:=b :: t),List.mem_cons (b:=a),h]
   exact ⟨.inr,fun k=>k.elim (fun e=>e ▸ List.mem_cons_self) id⟩
  ·rw [if_neg h,List.mem_cons,q07g (l:=b :: t),List.mem_cons (b:=a)]
theorem q07d:∀ {l:List (Int × Int)},(l.Pairwise fun p q=>bfP q p=false)→AscP (compP l)
 | [],_=>List.Pairwise.nil
 | [_],_=>by simp [compP,AscP]
 | a :: b :: t,h=>by
  obtain ⟨h1,h2⟩:=List.pairwise_cons.1 h;rw [compP]
  by_cases e:a=b
  ·rw [if_pos e];exact q07d h2
  ·rw [if_neg e]
   refine List.pairwise_cons.2 ⟨fun q hq=>?_,q07d h2⟩
   have hq':=q07g.1 hq;have hab:bfP a b=true:=by
    cases hc:bfP a b with
    | true=>rfl
    | false=>exact absurd (q07a hc (h1 b List.mem_cons_self)) e
   rcases List.mem_cons.1 hq' with rfl | hq'
   ·exact hab
   ·have hbq:=(List.pairwise_cons.1 h2).1 q hq'
    cases hc:bfP a q with
    | true=>rfl
    | false =>
     have:=q07a hc (h1 q (List.mem_cons_of_mem _ hq'))
     subst this;rw [hab] at hbq
     cases hbq
theorem q075:∀ {l m:List (Int × Int)},AscP l→AscP m→(∀ q,q ∈ l↔q ∈ m)→l=m
 | [],[],_,_,_=>rfl
 | [],b :: m,_,_,h=>by have:=(h b).2 List.mem_cons_self;simp at this
 | a :: l,[],_,_,h=>by have:=(h a).1 List.mem_cons_self;simp at this
 | a :: l,b :: m,hl,hm,h=>by
  obtain ⟨l1,l2⟩:=List.pairwise_cons.1 hl;obtain ⟨m1,m2⟩:=List.pairwise_cons.1 hm;have e:a=b:=by
   rcases List.mem_cons.1 ((h a).1 List.mem_cons_self) with e | ha
   ·exact e
   ·rcases List.mem_cons.1 ((h b).2 List.mem_cons_self) with e | hb
    ·exact e.symm
    ·have:=q079 (m1 a ha) (l1 b hb)
     rw [q078] at this
     cases this
  subst e;rw [q075 l2 m2 fun q=>?_]
  constructor
  ·intro hq
   rcases List.mem_cons.1 ((h q).1 (List.mem_cons_of_mem _ hq)) with e | hq'
   ·subst e;have:=l1 q hq;rw [q078] at this;cases this
   ·exact hq'
  ·intro hq
   rcases List.mem_cons.1 ((h q).2 (List.mem_cons_of_mem _ hq)) with e | hq'
   ·subst e;have:=m1 q hq;rw [q078] at this;cases this
   ·exact hq'
theorem q08j {xs s:List (Int × Int)} (hp:s.Perm xs) (hs:s.Pairwise fun p q=>bfP q p=false):compP s=xs.foldl putQ []:=by
 obtain ⟨h1,h2⟩:=q089 xs (l:=[]) List.Pairwise.nil;refine q075 (q07d hs) h1 fun q=>?_
 rw [q07g,h2 q,hp.mem_iff];simp
theorem q07r {p q:Int × Int}:∀ {l:List (Int × Int)},l.any (bfP p)=true→insP p (l ++ [q])=insP p l ++ [q]
 | [],h=>by cases h
 | x :: t,h=>by
  rw [List.any_cons,Bool.or_eq_true] at h;rw [List.cons_append,insP,insP]
  by_cases hb:bfP p x=true
  ·rw [if_pos hb,if_pos hb];rfl
  ·rw [if_neg hb,if_neg hb,q07r (h.resolve_left hb)];rfl
theorem q07n {p q:Int × Int} (hq:bfP p q=true):∀ {l:List (Int × Int)},l.any (bfP p)=false→insP p (l ++ [q])=l ++ [p,q]
 | [],_=>by rw [List.nil_append,insP,if_pos hq];rfl
 | x :: t,h=>by
  rw [List.any_cons,Bool.or_eq_false_iff] at h;rw [List.cons_append,insP,if_neg (by rw [h.1];decide),q07n hq h.2];rfl
theorem q07m {p:Int × Int}:∀ {l:List (Int × Int)},l.any (bfP p)=false→insP p l=l ++ [p]
 | [],_=>rfl
 | x :: t,h=>by
  rw [List.any_cons,Bool.or_eq_false_iff] at h;rw [insP,if_neg (by rw [h.1];decide),q07m h.2];rfl
end

section
open Go.RowKit
theorem q08h (A B:Option Addr) (n m c d:Nat) (l k:List PT) (w:World) (hl:shP.In w A n l) (hk:shP.In w B m k) (hn:n≤9223372036854775807) (hm:m≤9223372036854775807) :
  Calls prog 38 #[.slice A n c,.slice B m d] w fun e w'=>e=.returned (.bool (decide (l=k)))∧Below w.heap.size w w':=by
 obtain ⟨rfl,_⟩:=id hl;obtain ⟨rfl,_⟩:=id hk;have hB:=Below.refl w.heap.size w
 by_cases hlen:l.length=k.length
 ·obtain ⟨r,hr⟩:∃ r,r=decide (l=k):=⟨_,rfl⟩
  rw [← hr];have HR:=hj_ hr;have HLen:=hj_ hlen;have hl2:((l.length:Int) == (k.length:Int))=true:=by rw [beq_iff_eq];omega
  have HN:=hj_ hn;clear hr hB;rw [hlen] at hn ⊢;clear hlen hl2
  go_enter func38,ntmps38
  go_wp2
  go_loopw [5] (fun iv wr=>∃ j:Nat,j≤k.length∧iv=.int .i64 j∧(∀ i (h1:i<l.length) (h2:i<k.length),i<j→l[i]=k[i])∧Below w.heap.size w wr) (fun iv _=>k.length-(intOf iv).toNat)
  case atStart=>exact ⟨0,Nat.zero_le _,rfl,fun _ _ _ h=>absurd h (by omega),br_⟩
  case round =>
   obtain ⟨j,hj,rfl,hall,hBr⟩:=hrel;have HAll:=hj_ hall;have HBr:=hj_ hBr;clear hall
   by_cases hlt:j<k.length
   ·have hlt2:j<l.length:=by have:=HLen.out;omega
    obtain ⟨b,o,rfl,hbl,hc⟩:=pt_at (hl.below hBr) (by omega)
    obtain ⟨b',o',rfl,hbl',hc'⟩:=pt_at (hk.below hBr) (by omega)
    obtain ⟨p0,p1⟩:=hc j hlt2;obtain ⟨q0,q1⟩:=hc' j hlt;have HE:=hj_ (Prod.ext_iff (x:=l[j]) (y:=k[j]));have hjl:(j:Int)<(l.length:Int):=by omega
    have hjk:(j:Int)<(k.length:Int):=by omega
    have hj0:(0:Int)≤(j:Int):=by omega
    have HF:=hj_ (show l[j]≠k[j]→r=false from fun h=>by
     rw [HR.out];refine decide_eq_false fun e=>h ?_
     subst e
     rfl)
    have HNx:=hj_ (show l[j]=k[j]→∀ i (h1:i<l.length) (h2:i<k.length),i<j+1→l[i]=k[i] from fun e i h1 h2 h3=>by
     by_cases h4:i<j
     ·exact HAll.out i h1 h2 h4
     ·obtain rfl:i=j:=by omega
      exact e)
    generalize hx:l[j]=x at *;generalize hy:k[j]=y at *;obtain ⟨xa,xs⟩:=x;obtain ⟨ya,ys⟩:=y;dsimp only at *;have hBw:=hj_ (fun n=>q18 HBr.out n)
    clear hc hc' hx hy hBr;rw [HLen.out] at hjl
    by_cases h1:xa=ya
    ·by_cases h2:xs=ys
     ·subst h1 h2
      have HN3:=hj_ (HNx.out rfl);clear HNx HF HE;go_wp2_with fail;go_quiet (fail);go_wp2
      go_roundw
      case rel=>exact ⟨j+1,by omega,by go_num,HN3.out,hBw.out _⟩
      case measure=>simp [intOf];omega
     ·have hf:=HF.out (fun e=>h2 (HE.out.1 e).2)
      subst h1;have g2:(xs == ys)=false:=by simpa using h2
      clear HNx HF HE HR;subst hf;go_wp2_with fail;go_quiet (fail);go_wp2;go_ret;exact ⟨rfl,hBw.out _⟩
    ·have hf:=HF.out (fun e=>h1 (HE.out.1 e).1)
     have g2:(xa == ya)=false:=by simpa using h1
     clear HNx HF HE HR;subst hf;go_wp2_with fail;go_quiet (fail);go_wp2;go_ret;exact ⟨rfl,hBw.out _⟩
   ·have hf:r=true:=by
     rw [HR.out];refine decide_eq_true (List.ext_getElem HLen.out fun i h1 h2=>HAll.out i h1 h2 (by omega))
    clear HR;subst hf;obtain rfl:j=k.length:=by omega
    go_wp2;go_ret;exact ⟨rfl,HBr.out⟩
 ·have e:decide (l=k)=false:=decide_eq_false fun h=>hlen (by rw [h])
  rw [e];have hl2:((l.length:Int) == (k.length:Int))=false:=by rw [beq_eq_false_iff_ne];omega
  clear e
  go_enter func38,ntmps38
  go_wp2;go_ret;exact ⟨rfl,hB⟩
theorem q08f (A0:Option Addr) (n0 d0:Nat) (H:List Hd) (L:List (List PT)) (A1:Option Addr) (n1 d1:Nat) (PL:List (PC × List Fea)) (A2:Option Addr) (n2 d2:Nat) (X:List Fx) (A:Option Addr) (n c:Nat) (l:List Fm) (w:World)
  (hl:InN w A0 n0 H L) (hm:∀ h ∈ H,h.n≤9223372036854775807) (hn0:n0≤9223372036854775807) (hp:InPs w A1 n1 PL) (hpo:PsOK PL) (hnd1:n1≤d1) (hd1:d1≤9223372036854775807) (hn1:n1≤9223372036854775806) (hx:shX.In w A2 n2 X) (hn2:n2≤9223372036854775806) (hcb:∀ x ∈ X,x.cb.size≤9223372036854775807)
  (hf:shFm.In w A n l) (hn:n≤9223372036854775806) (hs:∀ x ∈ l,x.sl.size≤9223372036854775807) :
  Calls prog 87 #[.agg #[.slice A0 n0 d0,.slice A1 n1 d1,.slice A2 n2 d2],.slice A n c] w fun e w'=>e=.returned (.int .i64 (bothE L PL X l))∧Below w.heap.size w w':=by
 have HCk:=hj_ (fun w h1 h2 h3=>ql9 A0 n0 d0 H L A1 n1 d1 PL A2 n2 d2 X w h1 hm hn0 h2 hpo hn1 hnd1 hd1 h3 hn2 hcb)
 have HRt:=hj_ (fun w h=>qni A n c l w h hn hs)
 have hE:bothE L PL X l=if uniE L PL X≠0 then uniE L PL X else rightE l:=rfl
 obtain ⟨W,hW⟩:∃ W,W=(w.alloc (.cells #[.slice A0 n0 d0,.slice A1 n1 d1,.slice A2 n2 d2] 29)):=⟨_,rfl⟩;obtain ⟨hB0,hK0⟩:=box1 #[.slice A0 n0 d0,.slice A1 n1 d1,.slice A2 n2 d2] 29 w W hW;have hK:∀ w',Below W.heap.size W w'→w'.cell? ⟨w.heap.size,0,none⟩=some (.slice A0 n0 d0)∧w'.cell? ⟨w.heap.size,1,none⟩=some (.slice A1 n1 d1)∧w'.cell? ⟨w.heap.size,2,none⟩=some (.slice A2 n2 d2):=fun w' h=>⟨(hK0 w' h) 0 _ rfl,(hK0 w' h) 1 _ rfl,(hK0 w' h) 2 _ rfl⟩
 have HK:=hj_ hK;have HW:=hj_ hW;have HB0:=hj_ hB0;have hB:=Below.refl W.heap.size W;obtain ⟨c0,c1,c2⟩:=hK W hB;clear hW hB0 hK hK0;have HL:=hj_ (hl.below HB0.out);have HP:=hj_ (hp.below HB0.out);have HX:=hj_ (hx.below HB0.out);have HF:=hj_ (hf.below HB0.out);generalize bothE L PL X l=E at *;generalize uniE L PL X=U at *;generalize rightE l=R at *;clear hl hm hn0 hp hpo hnd1 hd1 hn1 hx hn2 hcb hf hn hs
 by_cases hu:U=0
 ·rw [if_neg (fun h=>h hu)] at hE
  subst hu hE
  go_enter func87,ntmps87
  go_wp2_with fail;rw [← HW.out];refine uq_ (HCk.out _ (HL.out.below hB) (HP.out.below hB) (HX.out.below hB)) hB ?_;clear hB;intro wk hB;go_wp2_with fail;refine uq_ (HRt.out _ (HF.out.below hB)) hB ?_;clear hB;intro wk hB;go_wp2_with fail;go_ret;exact ⟨rfl,ht_ HB0.out hB⟩
 ·rw [if_pos hu] at hE
  have g1:(U == 0)=false:=by simpa using hu
  have g2:(U != 0)=true:=by simpa using hu
  subst hE
  go_enter func87,ntmps87
  go_wp2_with fail;rw [← HW.out];refine uq_ (HCk.out _ (HL.out.below hB) (HP.out.below hB) (HX.out.below hB)) hB ?_;clear hB;intro wk hB;go_wp2_with fail;go_ret;exact ⟨rfl,ht_ HB0.out hB⟩
theorem q08i (A:Option Addr) (n c:Nat) (l:List Fm) (x:Fx) (f:FC) (wl:List Slt) (w:World) (hl:shFm.In w A n l) (hn:n≤9223372036854775806) (k:Nat) (hk:plI l x.un=k) (hkl:k<l.length) (hsz:l[k].sl.size=512) (had:1≤x.ad∧x.ad≤512) (hf:FitF x.ad (f.fea wl)) :
  Calls prog 90 #[.slice A n c,x.val,f.val] w fun e w'=>e=.returned (.int .i64 (shV (pgOf l x.un) x.ad (f.fea wl)))∧Below w.heap.size w w':=by
 obtain ⟨ch,pt,pr,un,ad,ph,cb⟩:=x;obtain ⟨at_,bits,co,fi,cu,ho,lo,hi,sn,FA,fn,fc⟩:=f
 obtain ⟨f0,f1,f2,f3⟩:=hf;dsimp only [FC.fea] at hk had f0 f1 f2 f3;obtain ⟨a,ha⟩:∃ a:Nat,(a:Int)=ad-1+co:=⟨(ad-1+co).toNat,by omega⟩
 have hpg:pgOf l un=l[k].sl.data.toList:=by
  unfold pgOf;rw [hk,Int.toNat_natCast,qa1 hkl]
 have hv:shV (pgOf l un) ad (FC.fea ⟨at_,bits,co,fi,cu,ho,lo,hi,sn,FA,fn,fc⟩ wl)=if bits=16 then 256*((l[k].sl.data.toList.getD a 0).toNat:Int)+((l[k].sl.data.toList.getD (ad-1+fi).toNat 0).toNat:Int) else ((l[k].sl.data.toList.getD a 0).toNat:Int):=by
  rw [hpg,show a=(ad-1+co).toNat by omega]
  rfl
 show Calls prog 90 #[.slice A n c,.agg #[.int .i64 ch,.int .i64 pt,.string pr,.int .i64 un,.int .i64 ad,.int .i64 ph,.string cb],.agg #[.int .i64 at_,.int .i64 bits,.int .i64 co,.int .i64 fi,.int .i64 cu,.int .i64 ho,.int .i64 lo,.int .i64 hi,.bool sn,.slice FA fn fc]] w fun e w'=>e=.returned (.int .i64 (shV (pgOf l un) ad (FC.fea ⟨at_,bits,co,fi,cu,ho,lo,hi,sn,FA,fn,fc⟩ wl)))∧Below w.heap.size w w'
 rw [hv];clear hv hpg;have HPl:=hj_ (fun w h=>qnb A n c l un w h hn)
 rw [hk] at HPl;have HL:=hj_ hl;obtain rfl:n=l.length:=hl.1;obtain ⟨b,o,rfl,hbl,hcell⟩:=fm_at hl (by omega)
 have hp1:=(hcell k hkl).2;generalize l[k].sl=s at *;have hjs:a<s.size:=by omega
 have e1:IntKind.i64.wrap (ad-1)=ad-1:=IntWalk.i64_in _ (by omega)
 have e2:IntKind.i64.wrap (ad-1+co)=(a:Int):=by rw [ha];exact IntWalk.i64_in _ (by omega)
 have i0:(0:Int)≤(k:Int):=by omega
 have i1:(k:Int)<(l.length:Int):=by omega
 have j0:(0:Int)≤(a:Int):=by omega
 have j1:(a:Int)<(s.size:Int):=by omega
 rw [qa1 (by simpa using hjs),qcx s hjs]
 obtain ⟨c1',hc1⟩:∃ c1',s[a]=c1':=⟨_,rfl⟩;rw [hc1];have w2:IntKind.i64.wrap (c1'.toNat:Int)=(c1'.toNat:Int):=IntWalk.i64_in _ (by have:=c1'.toNat_lt;omega)
 have HP1:=hj_ hp1;have HBl:=hj_ hbl;clear hp1 hcell hl hk
 by_cases h16:bits=16
 ·obtain ⟨g1,g2,-⟩:=f3 h16
  obtain ⟨b2,hb2⟩:∃ b:Nat,(b:Int)=ad-1+fi:=⟨(ad-1+fi).toNat,by omega⟩
  rw [if_pos h16,show (ad-1+fi).toNat=b2 by omega]
  have e4:IntKind.i64.wrap (ad-1+fi)=(b2:Int):=by rw [hb2];exact IntWalk.i64_in _ (by omega)
  have hjs2:b2<s.size:=by omega
  rw [qa1 (by simpa using hjs2),qcx s hjs2]
  obtain ⟨c2',hc2⟩:∃ c2',s[b2]=c2':=⟨_,rfl⟩;rw [hc2];have k0:(0:Int)≤(b2:Int):=by omega
  have k1:(b2:Int)<(s.size:Int):=by omega
  have w3:IntKind.i64.wrap (c2'.toNat:Int)=(c2'.toNat:Int):=IntWalk.i64_in _ (by have:=c2'.toNat_lt;omega)
  have w4:IntKind.i64.wrap (256*(c1'.toNat:Int))=256*(c1'.toNat:Int):=IntWalk.i64_in _ (by have:=c1'.toNat_lt;omega)
  have w5:IntKind.i64.wrap (256*(c1'.toNat:Int)+(c2'.toNat:Int))=256*(c1'.toNat:Int)+(c2'.toNat:Int):=IntWalk.i64_in _ (by have:=c1'.toNat_lt;have:=c2'.toNat_lt;omega)
  have z:(bits == 16)=true:=by simpa using h16
  clear h16 f0 f1 f2 f3 g1 g2 had ha hb2 hsz hkl hbl;obtain ⟨W,hW⟩:∃ W,W=((w.alloc (.cells #[.int .i64 ch,.int .i64 pt,.string pr,.int .i64 un,.int .i64 ad,.int .i64 ph,.string cb] 55)).alloc (.cells #[.int .i64 at_,.int .i64 bits,.int .i64 co,.int .i64 fi,.int .i64 cu,.int .i64 ho,.int .i64 lo,.int .i64 hi,.bool sn,.slice FA fn fc] 90)):=⟨_,rfl⟩
  obtain ⟨hB0,hK0⟩:=box2 #[.int .i64 ch,.int .i64 pt,.string pr,.int .i64 un,.int .i64 ad,.int .i64 ph,.string cb] 55 #[.int .i64 at_,.int .i64 bits,.int .i64 co,.int .i64 fi,.int .i64 cu,.int .i64 ho,.int .i64 lo,.int .i64 hi,.bool sn,.slice FA fn fc] 90 w W hW
  have hK:∀ w',Below W.heap.size W w'→w'.cell? ⟨w.heap.size,0,none⟩=some (.int .i64 ch)∧w'.cell? ⟨w.heap.size,1,none⟩=some (.int .i64 pt)∧w'.cell? ⟨w.heap.size,2,none⟩=some (.string pr)∧w'.cell? ⟨w.heap.size,3,none⟩=some (.int .i64 un)∧w'.cell? ⟨w.heap.size,4,none⟩=some (.int .i64 ad)∧w'.cell? ⟨w.heap.size,5,none⟩=some (.int .i64 ph)∧w'.cell? ⟨w.heap.size,6,none⟩=some (.string cb)∧w'.cell? ⟨w.heap.size+1,0,none⟩=some (.int .i64 at_)∧w'.cell? ⟨w.heap.size+1,1,none⟩=some (.int .i64 bits)∧w'.cell? ⟨w.heap.size+1,2,none⟩=some (.int .i64 co)∧w'.cell? ⟨w.heap.size+1,3,none⟩=some (.int .i64 fi)∧w'.cell? ⟨w.heap.size+1,4,none⟩=some (.int .i64 cu)∧w'.cell? ⟨w.heap.size+1,5,none⟩=some (.int .i64 ho)∧w'.cell? ⟨w.heap.size+1,6,none⟩=some (.int .i64 lo)∧w'.cell? ⟨w.heap.size+1,7,none⟩=some (.int .i64 hi)∧w'.cell? ⟨w.heap.size+1,8,none⟩=some (.bool sn)∧w'.cell? ⟨w.heap.size+1,9,none⟩=some (.slice FA fn fc):=fun w' h=>⟨(hK0 w' h).1 0 _ rfl,(hK0 w' h).1 1 _ rfl,(hK0 w' h).1 2 _ rfl,(hK0 w' h).1 3 _ rfl,(hK0 w' h).1 4 _ rfl,(hK0 w' h).1 5 _ rfl,(hK0 w' h).1 6 _ rfl,(hK0 w' h).2 0 _ rfl,(hK0 w' h).2 1 _ rfl,(hK0 w' h).2 2 _ rfl,(hK0 w' h).2 3 _ rfl,(hK0 w' h).2 4 _ rfl,(hK0 w' h).2 5 _ rfl,(hK0 w' h).2 6 _ rfl,(hK0 w' h).2 7 _ rfl,(hK0 w' h).2 8 _ rfl,(hK0 w' h).2 9 _ rfl⟩
  have HK:=hj_ hK;have HW:=hj_ hW;have HB0:=hj_ hB0;have hB:=Below.refl W.heap.size W;obtain ⟨c0,c1,c2,c3,c4,c5,c6,c7,c8,c9,c10,c11,c12,c13,c14,c15,c16⟩:=hK W hB;clear hW hB0 hK hK0;replace HL:=hj_ (HL.out.below HB0.out);have HPW:=hj_ (fun (w':World) (h:Below W.heap.size W w')=>((ht_ HB0.out h).cell (p:=⟨b,o+k*2+1,none⟩) HBl.out).trans HP1.out)
  go_enter func90,ntmps90
  go_wp2_with fail;rw [← HW.out];refine uq_ (HPl.out _ (HL.out.below hB)) hB ?_;clear hB;intro wk hB;obtain ⟨c0,c1,c2,c3,c4,c5,c6,c7,c8,c9,c10,c11,c12,c13,c14,c15,c16⟩:=HK.out _ hB;have p1:=HPW.out _ hB;go_wp2_with fail;go_ret;exact ⟨qlz (by simp),ht_ HB0.out hB⟩
 ·rw [if_neg h16]
  have z:(bits == 16)=false:=by simpa using h16
  clear h16 f0 f1 f2 f3 had ha hsz hkl hbl;obtain ⟨W,hW⟩:∃ W,W=((w.alloc (.cells #[.int .i64 ch,.int .i64 pt,.string pr,.int .i64 un,.int .i64 ad,.int .i64 ph,.string cb] 55)).alloc (.cells #[.int .i64 at_,.int .i64 bits,.int .i64 co,.int .i64 fi,.int .i64 cu,.int .i64 ho,.int .i64 lo,.int .i64 hi,.bool sn,.slice FA fn fc] 90)):=⟨_,rfl⟩
  obtain ⟨hB0,hK0⟩:=box2 #[.int .i64 ch,.int .i64 pt,.string pr,.int .i64 un,.int .i64 ad,.int .i64 ph,.string cb] 55 #[.int .i64 at_,.int .i64 bits,.int .i64 co,.int .i64 fi,.int .i64 cu,.int .i64 ho,.int .i64 lo,.int .i64 hi,.bool sn,.slice FA fn fc] 90 w W hW
  have hK:∀ w',Below W.heap.size W w'→w'.cell? ⟨w.heap.size,0,none⟩=some (.int .i64 ch)∧w'.cell? ⟨w.heap.size,1,none⟩=some (.int .i64 pt)∧w'.cell? ⟨w.heap.size,2,none⟩=some (.string pr)∧w'.cell? ⟨w.heap.size,3,none⟩=some (.int .i64 un)∧w'.cell? ⟨w.heap.size,4,none⟩=some (.int .i64 ad)∧w'.cell? ⟨w.heap.size,5,none⟩=some (.int .i64 ph)∧w'.cell? ⟨w.heap.size,6,none⟩=some (.string cb)∧w'.cell? ⟨w.heap.size+1,0,none⟩=some (.int .i64 at_)∧w'.cell? ⟨w.heap.size+1,1,none⟩=some (.int .i64 bits)∧w'.cell? ⟨w.heap.size+1,2,none⟩=some (.int .i64 co)∧w'.cell? ⟨w.heap.size+1,3,none⟩=some (.int .i64 fi)∧w'.cell? ⟨w.heap.size+1,4,none⟩=some (.int .i64 cu)∧w'.cell? ⟨w.heap.size+1,5,none⟩=some (.int .i64 ho)∧w'.cell? ⟨w.heap.size+1,6,none⟩=some (.int .i64 lo)∧w'.cell? ⟨w.heap.size+1,7,none⟩=some (.int .i64 hi)∧w'.cell? ⟨w.heap.size+1,8,none⟩=some (.bool sn)∧w'.cell? ⟨w.heap.size+1,9,none⟩=some (.slice FA fn fc):=fun w' h=>⟨(hK0 w' h).1 0 _ rfl,(hK0 w' h).1 1 _ rfl,(hK0 w' h).1 2 _ rfl,(hK0 w' h).1 3 _ rfl,(hK0 w' h).1 4 _ rfl,(hK0 w' h).1 5 _ rfl,(hK0 w' h).1 6 _ rfl,(hK0 w' h).2 0 _ rfl,(hK0 w' h).2 1 _ rfl,(hK0 w' h).2 2 _ rfl,(hK0 w' h).2 3 _ rfl,(hK0 w' h).2 4 _ rfl,(hK0 w' h).2 5 _ rfl,(hK0 w' h).2 6 _ rfl,(hK0 w' h).2 7 _ rfl,(hK0 w' h).2 8 _ rfl,(hK0 w' h).2 9 _ rfl⟩
  have HK:=hj_ hK;have HW:=hj_ hW;have HB0:=hj_ hB0;have hB:=Below.refl W.heap.size W;obtain ⟨c0,c1,c2,c3,c4,c5,c6,c7,c8,c9,c10,c11,c12,c13,c14,c15,c16⟩:=hK W hB;clear hW hB0 hK hK0;replace HL:=hj_ (HL.out.below HB0.out);have HPW:=hj_ (fun (w':World) (h:Below W.heap.size W w')=>((ht_ HB0.out h).cell (p:=⟨b,o+k*2+1,none⟩) HBl.out).trans HP1.out)
  go_enter func90,ntmps90
  go_wp2_with fail;rw [← HW.out];refine uq_ (HPl.out _ (HL.out.below hB)) hB ?_;clear hB;intro wk hB;obtain ⟨c0,c1,c2,c3,c4,c5,c6,c7,c8,c9,c10,c11,c12,c13,c14,c15,c16⟩:=HK.out _ hB;have p1:=HPW.out _ hB;go_wp2_with fail;go_ret;exact ⟨rfl,ht_ HB0.out hB⟩
end

section
open Go.RowKit
theorem q08c (A0:Option Addr) (n0 d0:Nat) (H:List Hd) (L:List (List PT)) (A1:Option Addr) (n1 d1:Nat) (PL:List (PC × List Fea)) (A2:Option Addr) (n2 d2:Nat) (X:List Fx) (A:Option Addr) (n c:Nat) (l:List Fm) (ch at_:Int) (w:World)
  (hl:InN w A0 n0 H L) (hm:∀ h ∈ H,h.n≤9223372036854775807) (hn0:n0≤9223372036854775807) (hp:InPs w A1 n1 PL) (hpo:PsOK PL) (hnd1:n1≤d1) (hd1:d1≤9223372036854775807) (hn1:n1≤9223372036854775806) (hx:shX.In w A2 n2 X) (hn2:n2≤9223372036854775806) (hcb:∀ x ∈ X,x.cb.size≤9223372036854775807)
  (hf:shFm.In w A n l) (hn:n≤9223372036854775806) (hs:∀ x ∈ l,x.sl.size≤9223372036854775807) :
  Calls prog 36 #[.agg #[.slice A0 n0 d0,.slice A1 n1 d1,.slice A2 n2 d2],.slice A n c,.agg #[.int .i64 ch,.int .i64 at_]] w fun e w'=>e=.returned (.tuple #[.int .i64 (rawUV L PL X l ch at_),.int .i64 (rawUE L PL X l ch at_)])∧Below w.heap.size w w':=by
 have HBo:=hj_ (fun (w:World) h1 h2 h3 h4=>q08f A0 n0 d0 H L A1 n1 d1 PL A2 n2 d2 X A n c l w h1 hm hn0 h2 hpo hnd1 hd1 hn1 h3 hn2 hcb h4 hn hs)
 have HPr:=hj_ (fun w=>qn7 ch at_ w)
 have HPl:=hj_ (fun (u:Int) (w:World) (h:shFm.In w A n l)=>qnb A n c l u w h hn)
 have HL:=hj_ hl;have HP:=hj_ hp;have HX:=hj_ hx;have HF:=hj_ hf;have HHa:=hj_ (fun (w:World) (h100:n2≤100) (h1:shX.In w A2 n2 X) (h2:InPs w A1 n1 PL) (hE:patE (PL.map Prod.fst) X=0) hFx=>q05p A2 n2 d2 A1 n1 d1 PL X ch at_ w h1 h2 hn1 h100 hE hFx)
 have HSh:=hj_ (fun (x:Fx) (f:FC) (wl:List Slt) (w:World) (h:shFm.In w A n l) k hk hkl hsz had hf=>q08i A n c l x f wl w h hn k hk hkl hsz had hf)
 clear hl hp hx hf hm hn1 hn2 hcb hn hs hn0 hpo hnd1 hd1;obtain ⟨W,hW⟩:∃ W,W=((w.alloc (.cells #[.slice A0 n0 d0,.slice A1 n1 d1,.slice A2 n2 d2] 29)).alloc (.cells #[.int .i64 ch,.int .i64 at_] 43)):=⟨_,rfl⟩
 obtain ⟨hB0,hK0⟩:=box2 #[.slice A0 n0 d0,.slice A1 n1 d1,.slice A2 n2 d2] 29 #[.int .i64 ch,.int .i64 at_] 43 w W hW
 have hK:∀ w',Below W.heap.size W w'→w'.cell? ⟨w.heap.size,0,none⟩=some (.slice A0 n0 d0)∧w'.cell? ⟨w.heap.size,1,none⟩=some (.slice A1 n1 d1)∧w'.cell? ⟨w.heap.size,2,none⟩=some (.slice A2 n2 d2)∧w'.cell? ⟨w.heap.size+1,0,none⟩=some (.int .i64 ch)∧w'.cell? ⟨w.heap.size+1,1,none⟩=some (.int .i64 at_):=fun w' h=>⟨(hK0 w' h).1 0 _ rfl,(hK0 w' h).1 1 _ rfl,(hK0 w' h).1 2 _ rfl,(hK0 w' h).2 0 _ rfl,(hK0 w' h).2 1 _ rfl⟩
 have HK:=hj_ hK;have HW:=hj_ hW;have HB0:=hj_ hB0;have hB:=Below.refl W.heap.size W;obtain ⟨c0,c1,c2,c3,c4⟩:=hK W hB;clear hW hB0 hK hK0;replace HL:=hj_ (HL.out.below HB0.out);replace HP:=hj_ (HP.out.below HB0.out);replace HX:=hj_ (HX.out.below HB0.out);replace HF:=hj_ (HF.out.below HB0.out)
 by_cases hbo:bothE L PL X l=0
 case neg =>
  obtain ⟨e1,e2⟩:=q05l (ch:=ch) (at_:=at_) hbo
  rw [e1,e2];have g1:(bothE L PL X l == 0)=false:=by simpa using hbo
  clear e1 e2 hbo;generalize bothE L PL X l=E at *
  go_enter func36,ntmps36
  go_wp2_with fail;rw [← HW.out];refine uq_ (HBo.out _ (HL.out.below hB) (HP.out.below hB) (HX.out.below hB) (HF.out.below hB)) hB ?_;clear hB;intro wk hB;obtain ⟨c0,c1,c2,c3,c4⟩:=HK.out _ hB;go_wp2_with fail;go_ret2;exact ⟨rfl,ht_ HB0.out hB⟩
 case pos =>
  obtain ⟨hu,hri,hrw⟩:=q05m (ch:=ch) (at_:=at_) hbo
  rw [hbo] at HBo
  by_cases hpa:paramE ch at_=0
  case neg =>
   have e1:rawUE L PL X l ch at_=paramE ch at_:=by rw [hrw,if_pos hpa]
   have e2:rawUV L PL X l ch at_=0:=by unfold rawUV;rw [e1,if_pos hpa]
   rw [e1,e2];have g1:(paramE ch at_ == 0)=false:=by simpa using hpa
   clear e1 e2 hpa hrw hbo hu hri;generalize paramE ch at_=E at *
   go_enter func36,ntmps36
   go_wp2_with fail;rw [← HW.out];refine uq_ (HBo.out _ (HL.out.below hB) (HP.out.below hB) (HX.out.below hB) (HF.out.below hB)) hB ?_;clear hB;intro wk hB;obtain ⟨c0,c1,c2,c3,c4⟩:=HK.out _ hB;go_wp2_with fail;refine uq_ (HPr.out _) hB ?_;clear hB;intro wk hB;obtain ⟨c0,c1,c2,c3,c4⟩:=HK.out _ hB;go_wp2_with fail;go_ret2;exact ⟨rfl,ht_ HB0.out hB⟩
  case pos =>
   rw [hpa] at HPr;rw [if_neg (fun q=>q hpa)] at hrw
   obtain ⟨-,hX64,hFx,hFe⟩:=qu8 hu;have h100:n2≤100:=by have:n2=X.length:=HX.out.1;omega
   replace HHa:=hj_ (fun (w:World) h1 h2=>HHa.out w h100 h1 h2 (q060 hu) hFx)
   have HRg:=hj_ (rig_ok hu);have HFx:=hj_ hFx;have HRi:=hj_ hri;have hVE:rawUV L PL X l ch at_=if rawUE L PL X l ch at_≠0 then 0 else match havV PL X ch at_ with | none=>0 | some (x,f)=>shV (pgOf l x.un) x.ad f:=rfl
   have HMm:=hj_ (fun (x:Fx) (f:Fea) (h:havV PL X ch at_=some (x,f))=>q050 h)
   generalize rawUV L PL X l ch at_=V at *
   generalize rawUE L PL X l ch at_=E at *
   have HV:=hj_ hVE;have HE:=hj_ hrw;clear hrw hVE hbo hu hri hpa hFx hFe h100 hX64;generalize havV PL X ch at_=R at *
   go_enter func36,ntmps36
   go_wp2_with fail;rw [← HW.out];refine uq_ (HBo.out _ (HL.out.below hB) (HP.out.below hB) (HX.out.below hB) (HF.out.below hB)) hB ?_;clear hB;intro wk hB;obtain ⟨c0,c1,c2,c3,c4⟩:=HK.out _ hB;go_wp2_with fail;refine uq_ (HPr.out _) hB ?_;clear hB;intro wk hB;obtain ⟨c0,c1,c2,c3,c4⟩:=HK.out _ hB;go_wp2_with fail;refine (HHa.out _ (HX.out.below hB) (HP.out.below hB)).mono ?_;rintro e w5 ⟨xv,fv,ok,rfl,hb,hfr⟩;obtain ⟨x,cf,rfl,rfl,hcase⟩:=q04s hfr;have HCa:=hj_ hcase;have HB5:=hj_ (ht_ hB hb);clear hfr hcase hb;obtain ⟨x',hx'⟩:∃ x',x' = x:=⟨_,rfl⟩;obtain ⟨cf',hcf'⟩:∃ cf',cf' = cf:=⟨_,rfl⟩;have HXe:=hj_ hx';have HCe:=hj_ hcf';clear hx' hcf';rw [← HXe.out,← HCe.out] at HCa;obtain ⟨xc,xt,xr,xu,xa,xp,xb⟩:=x;obtain ⟨fat,bits,co,fi,cu,ho,lo,hi,sn,fA,fn,fc⟩:=cf;dsimp only [Fx.val,FC.val];obtain ⟨W6,hW6⟩:∃ W6,W6=(w5.alloc (.cells #[.int .i64 xc,.int .i64 xt,.string xr,.int .i64 xu,.int .i64 xa,.int .i64 xp,.string xb] 55)).alloc (.cells #[.int .i64 fat,.int .i64 bits,.int .i64 co,.int .i64 fi,.int .i64 cu,.int .i64 ho,.int .i64 lo,.int .i64 hi,.bool sn,.slice fA fn fc] 90):=⟨_,rfl⟩;have hb6:Below w5.heap.size w5 W6:=by rw [hW6];exact ((br_).alloc (Nat.le_refl _) _).alloc (by simp) _
   have hX6:Cells W6 w5.heap.size [.int .i64 xc,.int .i64 xt,.string xr,.int .i64 xu,.int .i64 xa,.int .i64 xp,.string xb]:=by
    rw [hW6];exact (Cells.fresh w5 [.int .i64 xc,.int .i64 xt,.string xr,.int .i64 xu,.int .i64 xa,.int .i64 xp,.string xb] _).below (B:=w5.heap.size+1) ((br_).alloc (by simp) _) (by omega)
   have hF6:Cells W6 (w5.heap.size+1) [.int .i64 fat,.int .i64 bits,.int .i64 co,.int .i64 fi,.int .i64 cu,.int .i64 ho,.int .i64 lo,.int .i64 hi,.bool sn,.slice fA fn fc]:=by
    rw [hW6]
    have:=Cells.fresh (w5.alloc (.cells #[.int .i64 xc,.int .i64 xt,.string xr,.int .i64 xu,.int .i64 xa,.int .i64 xp,.string xb] 55)) [.int .i64 fat,.int .i64 bits,.int .i64 co,.int .i64 fi,.int .i64 cu,.int .i64 ho,.int .i64 lo,.int .i64 hi,.bool sn,.slice fA fn fc] 90
    rw [World.size_alloc] at this;exact this
   have HX6:=hj_ hX6;have HF6:=hj_ hF6;have HB6:=hj_ (ht_ HB5.out hb6);have HW6:=hj_ hW6;clear hW6 hb6 hX6 hF6 c0 c1 c2 c3 c4 hB
   rcases HCa.out with ⟨rfl,e⟩ | ⟨rfl,wl,e⟩
   ·have he:E=6:=by have:=HE.out;rw [e] at this;exact this
    have hv:V=0:=by have:=HV.out;rw [he,if_pos (by decide)] at this;exact this
    clear HCa e;subst he hv;go_wp2_with fail;go_ret2;rw [← HW6.out];exact ⟨rfl,ht_ HB0.out HB6.out⟩
   ·obtain ⟨m1,-,m3,-⟩:=HMm.out _ _ e
    have hun:x'.un=xu:=by rw [HXe.out]
    have hE:E=if plI l xu<0 then 6 else 0:=by have:=HE.out;rw [e] at this;dsimp only at this;rw [hun] at this;exact this
    have hge:-1≤plI l xu:=qb9 l;have hlt:plI l xu<l.length:=qbb l;have HPu:=hj_ (HPl.out xu)
    by_cases hp0:plI l xu<0
    ·rw [if_pos hp0] at hE
     have hv:V=0:=by have:=HV.out;rw [hE,if_pos (by decide)] at this;exact this
     subst hE hv;clear HCa HE HV e m1 m3 hun hge hlt HMm;generalize plI l xu=kk at *
     go_upto_region 8 with fail
     rw [← HW6.out];have u3:=HX6.out.at_ (j:=3) rfl
     go_wp2_with fail;refine (HPu.out _ (HF.out.below HB6.out)).mono ?_;rintro e w7 ⟨rfl,hb⟩;go_wp2_with fail;go_ret2;exact ⟨rfl,HB0.out.trans ((ht_ HB6.out hb).mono HB0.out.size)⟩
    ·rw [if_neg hp0] at hE
     have hv:V=shV (pgOf l x'.un) x'.ad (cf'.fea wl):=by have:=HV.out;rw [hE,if_neg (by decide),e] at this;exact this
     obtain ⟨k,hk⟩:∃ k:Nat,plI l xu=k:=⟨(plI l xu).toNat,by omega⟩
     have hkl:k<l.length:=by omega
     have hsz:=(rg_ok ((q9q HRi.out).2 k hkl)).2.2.1;rw [qa1 hkl] at hsz;have hfit:=HRg.out.fit _ m1 _ m3;have had:1≤x'.ad∧x'.ad≤512:=by
      obtain ⟨i,hi,e5⟩:=List.getElem_of_mem m1;have hrn:=(HFx.out i hi).1;rw [e5] at hrn;unfold qkt at hrn;simp only [Bool.and_eq_true,decide_eq_true_eq] at hrn;exact hrn.1.2
     have HRa:=hj_ (fun (w:World) (h:shFm.In w A n l)=>HSh.out x' cf' wl w h k (by rw [hun];exact hk) hkl hsz had hfit)
     rw [← hv] at HRa;have hka:¬ (k:Int)<0:=by omega
     rw [hk] at HPu;have hx':=HXe.out;have hc':=HCe.out;subst hE;clear HCa HE HV e m1 m3 hge hlt HMm hv hsz hfit had hp0 hk hkl hun HXe HCe;subst hx' hc';dsimp only [Fx.val,FC.val] at HRa
     go_upto_region 8 with fail
     rw [← HW6.out];have u3:=HX6.out.at_ (j:=3) rfl
     go_wp2_with fail;refine (HPu.out _ (HF.out.below HB6.out)).mono ?_;rintro e w7 ⟨rfl,hb⟩;have h7:=HX6.out.below hb HX6.out.1;have k7:=HF6.out.below hb HF6.out.1;have a0:=h7.at_ (j:=0) rfl
     have a1:=h7.at_ (j:=1) rfl
     have a2:=h7.at_ (j:=2) rfl
     have a3:=h7.at_ (j:=3) rfl
     have a4:=h7.at_ (j:=4) rfl
     have a5:=h7.at_ (j:=5) rfl
     have a6:=h7.at_ (j:=6) rfl
     have b0:=k7.at_ (j:=0) rfl
     have b1:=k7.at_ (j:=1) rfl
     have b2:=k7.at_ (j:=2) rfl
     have b3:=k7.at_ (j:=3) rfl
     have b4:=k7.at_ (j:=4) rfl
     have b5:=k7.at_ (j:=5) rfl
     have b6:=k7.at_ (j:=6) rfl
     have b7:=k7.at_ (j:=7) rfl
     have b8:=k7.at_ (j:=8) rfl
     have b9:=k7.at_ (j:=9) rfl
     have HB7:=hj_ (ht_ HB6.out hb);clear hb h7 k7 u3;go_wp2_with fail;refine (HRa.out _ (HF.out.below HB7.out)).mono ?_;rintro e w8 ⟨rfl,hb⟩;go_wp2_with fail;go_ret2;exact ⟨rfl,HB0.out.trans ((ht_ HB7.out hb).mono HB0.out.size)⟩
end

section
open Go.RowKit
theorem infoPm:(prog.info? 43).map (fun i=>(i.zero,i.size,i.bytes))=some (some (.agg #[.int .i64 0,.int .i64 0]),2,16):=by kernel_rfl
def stP (l:List PT) (p:PT) (i:Nat):List PT:=if (l.take i).any (bfP p)=true then insP p (l.take i) else l.take i
theorem q07o (p:PT):∀ l:List PT,(insP p l).length=l.length+1
 | []=>rfl
 | q :: t=>by
  rw [insP]
  by_cases h:bfP p q=true
  ·rw [if_pos h];rfl
  ·rw [if_neg h,List.length_cons,q07o p t,List.length_cons]
theorem q08o (l:List PT) (p:PT) (i:Nat):(stP l p i).length≤l.length+1:=by
 unfold stP
 have:(l.take i).length≤l.length:=by rw [List.length_take];exact Nat.min_le_right _ _
 by_cases h:(l.take i).any (bfP p)=true
 ·rw [if_pos h,q07o];omega
 ·rw [if_neg h];omega
theorem q08l {l:List PT} {p:PT} {i:Nat} (hi:i<l.length) (h:(l.take i).any (bfP p)=true):stP l p (i+1)=stP l p i ++ [l[i]]∧(l.take (i+1)).any (bfP p)=true:=by
 have h2:(l.take (i+1)).any (bfP p)=true:=by rw [List.take_succ_eq_append_getElem hi,List.any_append,h];rfl
 refine ⟨?_,h2⟩;unfold stP;rw [if_pos h2,if_pos h,List.take_succ_eq_append_getElem hi,q07r h]
theorem q08n {l:List PT} {p:PT} {i:Nat} (hi:i<l.length) (h:(l.take i).any (bfP p)=false) (hb:bfP p l[i]=true):stP l p (i+1)=(stP l p i ++ [p]) ++ [l[i]]∧(l.take (i+1)).any (bfP p)=true:=by
 have h2:(l.take (i+1)).any (bfP p)=true:=by rw [List.take_succ_eq_append_getElem hi,List.any_append,h];simp [hb]
 refine ⟨?_,h2⟩;unfold stP;rw [if_pos h2,if_neg (by rw [h];decide),List.take_succ_eq_append_getElem hi,q07n hb h,List.append_assoc]
 rfl
theorem q08p {l:List PT} {p:PT} {i:Nat} (hi:i<l.length) (h:(l.take i).any (bfP p)=false) (hb:bfP p l[i]=false):stP l p (i+1)=stP l p i ++ [l[i]]∧(l.take (i+1)).any (bfP p)=false:=by
 have h2:(l.take (i+1)).any (bfP p)=false:=by rw [List.take_succ_eq_append_getElem hi,List.any_append,h];simp [hb]
 refine ⟨?_,h2⟩;unfold stP;rw [if_neg (by rw [h2];decide),if_neg (by rw [h];decide),List.take_succ_eq_append_getElem hi]
theorem q08m {l:List PT} {p:PT} (hn:p ∉ l):(l.any (bfP p)=true→stP l p l.length=putQ l p)∧(l.any (bfP p)=false→stP l p l.length ++ [p]=putQ l p):=by
 unfold stP putQ;rw [List.take_length,if_neg hn];exact ⟨fun h=>if_pos h,fun h=>by rw [if_neg (by rw [h];decide),q07m h]⟩
theorem q08d (p q:PT) (v:World) :
  Calls prog 95 #[.agg #[.int .i64 p.1,.int .i64 p.2],.agg #[.int .i64 q.1,.int .i64 q.2]] v fun e w'=>e=.returned (.bool (bfP p q))∧Below v.heap.size v w' :=
 ql6 ⟨p.1,p.2,⟨#[]⟩⟩ ⟨q.1,q.2,⟨#[]⟩⟩ v
theorem in_own {w':World} {B:Nat} {A:Option Addr} {m c:Nat} {l:List PT} (h:w'.ownsRow B 43 2 (.slice A m c) m (shP.vs l)) (hm:m=l.length):shP.In w' A l.length l:=by
 subst hm;exact Sh.In.of_own h rfl
theorem q08g (A:Option Addr) (n c:Nat) (l:List PT) (p:PT) (w:World) (hl:shP.In w A n l) (hn:n≤100000) :
  Calls prog 138 #[.slice A n c,.agg #[.int .i64 p.1,.int .i64 p.2]] w fun e w'=>∃ A' c',e=.returned (.slice A' (putQ l p).length c')∧shP.In w' A' (putQ l p).length (putQ l p)∧Below w.heap.size w w':=by
 obtain ⟨rfl,_⟩:=id hl;have HBf:=hj_ (fun q w=>q08d p q w)
 have HEnd:=hj_ (fun h=>q08m (l:=l) (p:=p) h)
 have HL:=hj_ hl;have HN:=hj_ hn;have HIn:=hj_ (show ∀ i (hi:i<l.length),l[i]=p→putQ l p=l from fun i hi e=>by
  unfold putQ;rw [if_pos (e ▸ List.getElem_mem hi)])
 obtain ⟨pa,pb⟩:=p;clear hl hn;obtain ⟨W,hW⟩:∃ W,W=(w.alloc (.cells #[.int .i64 pa,.int .i64 pb] 43)):=⟨_,rfl⟩;obtain ⟨hB0,hK0⟩:=box1 #[.int .i64 pa,.int .i64 pb] 43 w W hW;have hK:∀ w',Below W.heap.size W w'→w'.cell? ⟨w.heap.size,0,none⟩=some (.int .i64 pa)∧w'.cell? ⟨w.heap.size,1,none⟩=some (.int .i64 pb):=fun w' h=>⟨(hK0 w' h) 0 _ rfl,(hK0 w' h) 1 _ rfl⟩
 have HK:=hj_ hK;have HW:=hj_ hW;have HB0:=hj_ hB0;have hB:=Below.refl W.heap.size W;obtain ⟨c0,c1⟩:=hK W hB;clear hW hB0 hK hK0;replace HL:=hj_ (HL.out.below HB0.out)
 go_enter func138,ntmps138
 go_wp2_with fail;rw [← HW.out]
 go_loopw [5,6,7] (fun ov dv iv wr=>∃ i:Nat,i≤l.length∧iv=.int .i64 i∧dv=.bool ((l.take i).any (bfP (pa,pb)))∧(∀ j (hj:j<l.length),j<i→l[j]≠(pa,pb))∧wr.ownsRow W.heap.size 43 2 ov (stP l (pa,pb) i).length (shP.vs (stP l (pa,pb) i))∧Below W.heap.size W wr) (fun _ _ iv _=>l.length-(intOf iv).toNat)
 case atStart=>exact ⟨0,Nat.zero_le _,rfl,rfl,fun j _ h=>absurd h (Nat.not_lt_zero _),World.ownsRow_nil _ _ _ _,br_⟩
 case round =>
  obtain ⟨i,hi,rfl,rfl,hno,hown,hB⟩:=hrel;obtain ⟨Ao,co,rfl⟩:=qfu hown;have HNo:=hj_ hno;have HBr:=hj_ hB;clear hno
  rename World=>V3
  by_cases hlt:i<l.length
  case neg =>
   obtain rfl:i=l.length:=by omega
   have hnm:(pa,pb) ∉ l:=fun h=>by
    obtain ⟨j,hj,e⟩:=List.getElem_of_mem h;exact HNo.out j hj hj e
   have HE2:=hj_ (HEnd.out hnm);rw [List.take_length];clear hnm hlt;obtain ⟨c0,c1⟩:=HK.out _ hB
   cases hd:l.any (bfP (pa,pb)) with
   | true =>
    have he:=HE2.out.1 hd;have HE3:=hj_ he;clear hd he HE2 HEnd HNo HIn;go_wp2_with fail;go_ret;exact ⟨Ao,co,by rw [← HE3.out];rfl,by rw [← HE3.out];exact in_own hown rfl,ht_ HB0.out HBr.out⟩
   | false =>
    have he:=HE2.out.2 hd;have HE3:=hj_ he;have hsz:=HBr.out.size;have hsl:=q08o l (pa,pb) l.length;have hn:=HN.out;clear hd he HE2 HEnd HNo HIn;go_wp2_with (at_builtin;refine q003 rfl _ _ _ rfl W.heap.size _ _ 2 16 underlying61 infoPm rfl (by omega) _ ((stP l (pa,pb) l.length).length) (shP.vs (stP l (pa,pb) l.length)) rfl hown [.int .i64 pa,.int .i64 pb] _ _ _ rfl (by first | rfl | simp) rfl (pt_one _ _) (by unfold maxLen;omega) (by omega) (by first | omega | (simp;omega) | simp) ?_;intro g cap w1 hown1 hg1)
    go_ret;refine ⟨some ⟨g,0,none⟩,cap,?_,?_,?_⟩
    ·rw [← HE3.out,List.length_append];rfl
    ·rw [← HE3.out];exact in_own (l:=stP l (pa,pb) l.length ++ [(pa,pb)]) (by rw [shP.vs_append];exact hown1) (by rw [List.length_append];rfl)
    ·exact HB0.out.trans ((q1a HBr.out (Nat.le_refl _) hown hg1).mono HB0.out.size)
  case pos =>
   obtain ⟨b,o,rfl,hbl,hcell⟩:=pt_at HL.out (by omega)
   have hq:=hcell i hlt;have HKq:=hj_ (fun (w':World) (h:Below W.heap.size W w')=>show w'.cell? ⟨b,o+i*2,none⟩=some (.int .i64 l[i].1)∧w'.cell? ⟨b,o+i*2+1,none⟩=some (.int .i64 l[i].2) from ⟨(h.cell (p:=⟨b,_,none⟩) hbl).trans hq.1,(h.cell (p:=⟨b,_,none⟩) hbl).trans hq.2⟩)
   have HSt:=hj_ (And.intro (q08l (p:=(pa,pb)) hlt) (And.intro (q08n (p:=(pa,pb)) hlt) (q08p (p:=(pa,pb)) hlt)));have HNx:=hj_ (show l[i]≠(pa,pb)→∀ j (hj:j<l.length),j<i+1→l[j]≠(pa,pb) from fun h j hj hji=>by
    by_cases e:j=i
    ·subst e;exact h
    ·exact HNo.out j hj (by omega))
   have HIi:=hj_ (HIn.out i hlt);have HBe:=hj_ (HBf.out l[i]);have hil:(i:Int)<(l.length:Int):=by omega
   have hi0:(0:Int)≤(i:Int):=by omega
   have HI:=hj_ hlt;clear hq hcell HNo HIn HBf HEnd;generalize l[i]=q at *;obtain ⟨xa,xb⟩:=q;dsimp only at HKq HBe;have hBd:=q18 HBr.out 1;obtain ⟨p0,p1⟩:=HKq.out _ HBr.out;obtain ⟨c0,c1⟩:=HK.out _ hB
   by_cases heq:(xa,xb)=(pa,pb)
   ·have he:=HIi.out heq
    have HPu:=hj_ he
    injection heq with e1 e2
    subst e1 e2;clear HSt HNx HIi he;go_wp2_with fail;go_quiet (fail);go_wp2_with fail;go_ret;exact ⟨_,c,by rw [HPu.out];rfl,by rw [HPu.out];exact HL.out.below (q18 HBr.out _),HB0.out.trans ((q18 HBr.out _).mono HB0.out.size)⟩
   ·have HNy:=hj_ (HNx.out heq)
    clear HIi HNx
    by_cases ea:xa=pa
    ·have g2:(xb == pb)=false:=by simpa using fun e2=>heq (by rw [ea,e2])
     have ea':=ea.symm;subst ea';clear heq
     cases hd:(l.take i).any (bfP (pa,pb)) with
     | true =>
      obtain ⟨e1,e2⟩:=HSt.out.1 hd;have HE1:=hj_ e1;have HE2:=hj_ e2;clear hd HSt e1 e2;go_wp2_with fail;go_quiet (fail);go_wp2_with fail;refine wp_region_held_drew (S:=fun _=>True) (by kernel_rfl) (by first | exact trivial) (fun hHeld=>?_)
      refine wpAnyH_take (i:=0) (oi:=?_) (v:=?_) ?_ (by kernel_rfl) (by kernel_rfl) (by kernel_rfl) ?_ (Or.inl ⟨?_,?_⟩) (by assumption) ?_
      rotate_left 2
      ·(simp only [List.getElem?_toArray,List.getElem?_cons_zero];rfl)
      ·exact fun _ _ _ h=>h
      ·rfl
      ·(intro w hSw;(try dsimp only at hSw);go_simp;try with_reducible rfl)
      simp only [Act.put,List.setIfInBounds_toArray,List.set_cons_zero,List.set_cons_succ];refine wpAnyH_take (i:=1) (oi:=?_) (v:=?_) ?_ (by kernel_rfl) (by kernel_rfl) (by kernel_rfl) ?_ (Or.inl ⟨?_,?_⟩) (by assumption) ?_
      rotate_left 2
      ·(simp only [List.getElem?_toArray,List.getElem?_cons_succ,List.getElem?_cons_zero];rfl)
      ·exact fun _ _ _ h=>h
      ·rfl
      ·(intro w hSw;(try dsimp only at hSw);go_simp;try with_reducible rfl)
      simp only [Act.put,List.setIfInBounds_toArray,List.set_cons_zero,List.set_cons_succ];refine wpAnyH_take (i:=2) (oi:=?_) (v:=?_) ?_ (by kernel_rfl) (by kernel_rfl) (by kernel_rfl) ?_ (Or.inl ⟨?_,?_⟩) (by assumption) ?_
      rotate_left 2
      ·(simp only [List.getElem?_toArray,List.getElem?_cons_succ,List.getElem?_cons_zero];rfl)
      ·exact fun _ _ _ h=>h
      ·rfl
      ·(intro w hSw;(try dsimp only at hSw);go_simp;try with_reducible rfl)
      simp only [Act.put,List.setIfInBounds_toArray,List.set_cons_zero,List.set_cons_succ];refine wpAnyH_take (i:=3) (oi:=?_) (v:=undef) ?_ (by kernel_rfl) (by kernel_rfl) (by kernel_rfl) ?_ (Or.inr ⟨?_,rfl⟩) (by assumption) ?_
      rotate_left 1
      ·(simp only [List.getElem?_toArray,List.getElem?_cons_succ,List.getElem?_cons_zero];rfl)
      ·exact fun _ _ _ h=>h
      ·rfl
      simp only [Act.put,List.setIfInBounds_toArray,List.set_cons_zero,List.set_cons_succ];refine wpAnyH_take (i:=4) (oi:=?_) (v:=undef) ?_ (by kernel_rfl) (by kernel_rfl) (by kernel_rfl) ?_ (Or.inr ⟨?_,rfl⟩) (by assumption) ?_
      rotate_left 1
      ·(simp only [List.getElem?_toArray,List.getElem?_cons_succ,List.getElem?_cons_zero];rfl)
      ·exact fun _ _ _ h=>h
      ·rfl
      simp only [Act.put,List.setIfInBounds_toArray,List.set_cons_zero,List.set_cons_succ];refine wpAnyH_take (i:=5) (oi:=?_) (v:=undef) ?_ (by kernel_rfl) (by kernel_rfl) (by kernel_rfl) ?_ (Or.inr ⟨?_,rfl⟩) (by assumption) ?_
      rotate_left 1
      ·(simp only [List.getElem?_toArray,List.getElem?_cons_succ,List.getElem?_cons_zero];rfl)
      ·exact fun _ _ _ h=>h
      ·rfl
      simp only [Act.put,List.setIfInBounds_toArray,List.set_cons_zero,List.set_cons_succ];refine wpAnyH_take (i:=6) (oi:=?_) (v:=undef) ?_ (by kernel_rfl) (by kernel_rfl) (by kernel_rfl) ?_ (Or.inr ⟨?_,rfl⟩) (by assumption) ?_
      rotate_left 1
      ·(simp only [List.getElem?_toArray,List.getElem?_cons_succ,List.getElem?_cons_zero];rfl)
      ·exact fun _ _ _ h=>h
      ·rfl
      simp only [Act.put,List.setIfInBounds_toArray,List.set_cons_zero,List.set_cons_succ];refine wpAnyH_take (i:=7) (oi:=?_) (v:=undef) ?_ (by kernel_rfl) (by kernel_rfl) (by kernel_rfl) ?_ (Or.inr ⟨?_,rfl⟩) (by assumption) ?_
      rotate_left 1
      ·(simp only [List.getElem?_toArray,List.getElem?_cons_succ,List.getElem?_cons_zero];rfl)
      ·exact fun _ _ _ h=>h
      ·rfl
      simp only [Act.put,List.setIfInBounds_toArray,List.set_cons_zero,List.set_cons_succ];refine wpAnyH_take (i:=8) (oi:=?_) (v:=undef) ?_ (by kernel_rfl) (by kernel_rfl) (by kernel_rfl) ?_ (Or.inr ⟨?_,rfl⟩) (by assumption) ?_
      rotate_left 1
      ·(simp only [List.getElem?_toArray,List.getElem?_cons_succ,List.getElem?_cons_zero];rfl)
      ·exact fun _ _ _ h=>h
      ·rfl
      simp only [Act.put,List.setIfInBounds_toArray,List.set_cons_zero,List.set_cons_succ];refine wpAnyH_take (i:=9) (oi:=?_) (v:=?_) ?_ (by kernel_rfl) (by kernel_rfl) (by kernel_rfl) ?_ (Or.inl ⟨?_,?_⟩) (by assumption) ?_
      rotate_left 2
      ·(simp only [List.getElem?_toArray,List.getElem?_cons_succ,List.getElem?_cons_zero];rfl)
      ·exact fun _ _ _ h=>h
      ·rfl
      ·(intro w hSw;(try dsimp only at hSw);go_simp;try with_reducible rfl)
      simp only [Act.put,List.setIfInBounds_toArray,List.set_cons_zero,List.set_cons_succ];refine wpAnyH_done (by kernel_rfl) ?_ _
      generalize hV4:(V3.drewN nq).drew=V4;have h34:Below V3.heap.size V3 V4:=by rw [← hV4];exact (q18 (br_) nq).drew
      have hB4:=ht_ HBr.out h34;have hown4:=qfq hown h34;have HB4:=hj_ hB4;have hsz:=hB4.size;have hsl:=q08o l (pa,pb) i;have hn:=HN.out;clear hV4 h34 p0 p1 c0 c1 hB hBd hown;obtain ⟨p0,p1⟩:=HKq.out _ hB4;clear hB4;go_wp2_with (at_builtin;refine q003 rfl _ _ _ rfl W.heap.size _ _ 2 16 underlying61 infoPm rfl (by omega) _ ((stP l (pa,pb) i).length) (shP.vs (stP l (pa,pb) i)) rfl hown4 [.int .i64 pa,.int .i64 xb] _ _ _ rfl (by first | rfl | simp) rfl (pt_one _ _) (by unfold maxLen;omega) (by omega) (by first | omega | (simp;omega) | simp) ?_;intro g cap w1 hown1 hg1)
      go_roundw
      case rel=>exact ⟨i+1,by have:=HI.out;omega,by go_num,by rw [HE2.out],HNy.out,by rw [HE1.out,List.length_append,shP.vs_append];exact hown1,q1a HB4.out (Nat.le_refl _) hown4 hg1⟩
      case measure=>simp [intOf];omega
     | false =>
      have hst:=HSt.out.2;have HSt2:=hj_ (And.intro (hst.1 hd) (hst.2 hd));clear hd HSt hst;go_wp2_with fail;go_quiet (fail);go_wp2_with fail;generalize hV9:V3.drewN nq=V9;have h39:Below V3.heap.size V3 V9:=by rw [← hV9];exact q18 (br_) nq
      have hB9:=ht_ HBr.out h39;have hBd:=q18 hB9 1;have hOw:=hj_ hown;have H39:=hj_ h39;clear hV9 p0 p1 c0 c1 hB hown h39;obtain ⟨p0,p1⟩:=HKq.out _ hBd;obtain ⟨c0,c1⟩:=HK.out _ hBd;refine wp_region_held_drew (S:=fun w'=>w'.cell? ⟨b,o+i*2,none⟩=some (.int .i64 pa)∧w'.cell? ⟨b,o+i*2+1,none⟩=some (.int .i64 xb)∧w'.cell? ⟨w.heap.size,0,none⟩=some (.int .i64 pa)∧w'.cell? ⟨w.heap.size,1,none⟩=some (.int .i64 pb)) (by kernel_rfl) (by first | exact ⟨p0,p1,c0,c1⟩) (fun hHeld=>?_)
      refine wpAnyH_take (i:=0) (oi:=?_) (v:=?_) ?_ (by kernel_rfl) (by kernel_rfl) (by kernel_rfl) ?_ (Or.inl ⟨?_,?_⟩) (by assumption) ?_
      rotate_left 2
      ·(simp only [List.getElem?_toArray,List.getElem?_cons_zero];rfl)
      ·exact fun _ _ _ h=>h
      ·rfl
      ·(intro w hSw;(try dsimp only at hSw);go_simp;try with_reducible rfl)
      simp only [Act.put,List.setIfInBounds_toArray,List.set_cons_zero,List.set_cons_succ];refine wpAnyH_take (i:=1) (oi:=?_) (v:=?_) ?_ (by kernel_rfl) (by kernel_rfl) (by kernel_rfl) ?_ (Or.inl ⟨?_,?_⟩) (by assumption) ?_
      rotate_left 2
      ·(simp only [List.getElem?_toArray,List.getElem?_cons_succ,List.getElem?_cons_zero];rfl)
      ·exact fun _ _ _ h=>h
      ·rfl
      ·(intro w hSw;(try dsimp only at hSw);go_simp;try with_reducible rfl)
      simp only [Act.put,List.setIfInBounds_toArray,List.set_cons_zero,List.set_cons_succ];refine wpAnyH_take (i:=2) (oi:=?_) (v:=?_) ?_ (by kernel_rfl) (by kernel_rfl) (by kernel_rfl) ?_ (Or.inl ⟨?_,?_⟩) (by assumption) ?_
      rotate_left 2
      ·(simp only [List.getElem?_toArray,List.getElem?_cons_succ,List.getElem?_cons_zero];rfl)
      ·exact fun _ _ _ h=>h
      ·rfl
      ·(intro w hSw;(try dsimp only at hSw);go_simp;try with_reducible rfl)
      simp only [Act.put,List.setIfInBounds_toArray,List.set_cons_zero,List.set_cons_succ];refine wpAnyH_take (i:=3) (oi:=?_) (v:=?_) ?_ (by kernel_rfl) (by kernel_rfl) (by kernel_rfl) ?_ (Or.inl ⟨?_,?_⟩) (by assumption) ?_
      rotate_left 2
      ·(simp only [List.getElem?_toArray,List.getElem?_cons_succ,List.getElem?_cons_zero];rfl)
      ·exact fun _ _ _ h=>h
      ·rfl
      ·(intro w hSw;(try dsimp only at hSw);go_simp;try with_reducible rfl)
      simp only [Act.put,List.setIfInBounds_toArray,List.set_cons_zero,List.set_cons_succ];refine wpAnyH_take (i:=4) (oi:=?_) (v:=?_) ?_ (by kernel_rfl) (by kernel_rfl) (by kernel_rfl) ?_ (Or.inl ⟨?_,?_⟩) (by assumption) ?_
      rotate_left 2
      ·(simp only [List.getElem?_toArray,List.getElem?_cons_succ,List.getElem?_cons_zero];rfl)
      ·exact fun _ _ _ h=>h
      ·rfl
      ·(intro w hSw;(try dsimp only at hSw);go_simp;try with_reducible rfl)
      simp only [Act.put,List.setIfInBounds_toArray,List.set_cons_zero,List.set_cons_succ];refine wpAnyH_take (i:=5) (oi:=?_) (v:=?_) ?_ (by kernel_rfl) (by kernel_rfl) (by kernel_rfl) ?_ (Or.inl ⟨?_,?_⟩) (by assumption) ?_
      rotate_left 2
      ·(simp only [List.getElem?_toArray,List.getElem?_cons_succ,List.getElem?_cons_zero];rfl)
      ·exact fun _ _ _ h=>h
      ·rfl
      ·(intro w hSw;(try dsimp only at hSw);go_simp;try with_reducible rfl)
      simp only [Act.put,List.setIfInBounds_toArray,List.set_cons_zero,List.set_cons_succ];refine wpAnyH_take (i:=6) (oi:=?_) (v:=?_) ?_ (by kernel_rfl) (by kernel_rfl) (by kernel_rfl) ?_ (Or.inl ⟨?_,?_⟩) (by assumption) ?_
      rotate_left 2
      ·(simp only [List.getElem?_toArray,List.getElem?_cons_succ,List.getElem?_cons_zero];rfl)
      ·exact fun _ _ _ h=>h
      ·rfl
      ·(intro w hSw;(try dsimp only at hSw);go_simp;try with_reducible rfl)
      simp only [Act.put,List.setIfInBounds_toArray,List.set_cons_zero,List.set_cons_succ];refine wpAnyH_take (i:=7) (oi:=?_) (v:=?_) ?_ (by kernel_rfl) (by kernel_rfl) (by kernel_rfl) ?_ (Or.inl ⟨?_,?_⟩) (by assumption) ?_
      rotate_left 2
      ·(simp only [List.getElem?_toArray,List.getElem?_cons_succ,List.getElem?_cons_zero];rfl)
      ·exact fun _ _ _ h=>h
      ·rfl
      ·(intro w hSw;(try dsimp only at hSw);go_simp;try with_reducible rfl)
      simp only [Act.put,List.setIfInBounds_toArray,List.set_cons_zero,List.set_cons_succ];refine wpAnyH_ready (rs:=[8]) (by kernel_rfl) (by simp) ?_
      refine AllReadyH.cons rfl (fun K hK=>?_) AllReadyH.nil
      go_simp
      go_at_call 95;refine (HBe.out _).mono ?_;rintro e wk ⟨rfl,hb⟩;have hBk:=ht_ hBd hb;obtain ⟨p0,p1⟩:=HKq.out _ hBk;obtain ⟨c0,c1⟩:=HK.out _ hBk
      go_wp2_with fail;refine hK.out _ _ (by first | exact ⟨p0,p1,c0,c1⟩) (fun hHeld=>?_)
      clear hK K
      try simp only [Act.put,List.setIfInBounds_toArray,List.set_cons_zero,List.set_cons_succ]
      refine wpAnyH_take (i:=9) (oi:=?_) (v:=?_) ?_ (by kernel_rfl) (by kernel_rfl) (by kernel_rfl) ?_ (Or.inl ⟨?_,?_⟩) (by assumption) ?_
      rotate_left 2
      ·(simp only [List.getElem?_toArray,List.getElem?_cons_succ,List.getElem?_cons_zero];rfl)
      ·exact fun _ _ _ h=>h
      ·rfl
      ·(intro w hSw;(try dsimp only at hSw);go_simp;try with_reducible rfl)
      simp only [Act.put,List.setIfInBounds_toArray,List.set_cons_zero,List.set_cons_succ];refine wpAnyH_done (by kernel_rfl) ?_ _
      have h3k:Below V3.heap.size V3 wk:=(q18 H39.out 1).trans (hb.mono (q18 H39.out 1).size);have hownk:=qfq hOw.out h3k;have HBk:=hj_ hBk;have hsz:=hBk.size;have hsl:=q08o l (pa,pb) i;have hn:=HN.out;clear h3k hb hB9 hBd H39 hOw hHeld
      cases hbf:bfP (pa,pb) (pa,xb) with
      | false =>
       obtain ⟨e1,e2⟩:=HSt2.out.2 hbf;have HE1:=hj_ e1;have HE2:=hj_ e2;clear HSt2 hbf e1 e2 hBk c0 c1;go_wp2_with (at_builtin;refine q003 rfl _ _ _ rfl W.heap.size _ _ 2 16 underlying61 infoPm rfl (by omega) _ ((stP l (pa,pb) i).length) (shP.vs (stP l (pa,pb) i)) rfl hownk [.int .i64 pa,.int .i64 xb] _ _ _ rfl (by first | rfl | simp) rfl (pt_one _ _) (by unfold maxLen;omega) (by omega) (by first | omega | (simp;omega) | simp) ?_;intro g cap w1 hown1 hg1)
       go_roundw
       case rel=>exact ⟨i+1,by have:=HI.out;omega,by go_num,by rw [HE2.out],HNy.out,by rw [HE1.out,List.length_append,shP.vs_append];exact hown1,q1a HBk.out (Nat.le_refl _) hownk hg1⟩
       case measure=>simp [intOf];omega
      | true =>
       obtain ⟨e1,e2⟩:=HSt2.out.1 hbf;have HE1:=hj_ e1;have HE2:=hj_ e2;clear HSt2 hbf e1 e2 hBk
       go_upto_region 11 with (at_builtin;refine q003 rfl _ _ _ rfl W.heap.size _ _ 2 16 underlying61 infoPm rfl (by omega) _ ((stP l (pa,pb) i).length) (shP.vs (stP l (pa,pb) i)) rfl hownk [.int .i64 pa,.int .i64 pb] _ _ _ rfl (by first | rfl | simp) rfl (pt_one _ _) (by unfold maxLen;omega) (by omega) (by first | omega | (simp;omega) | simp) ?_;intro g cap w1 hown1 hg1)
       have hBp:=q1a HBk.out (Nat.le_refl _) hownk hg1;have HBp:=hj_ hBp;have hownp:=hown1;clear hsz p0 p1 c0 c1 hown1 hg1 hownk;have hsz:=hBp.size;obtain ⟨p0,p1⟩:=HKq.out _ hBp;clear hBp;go_wp2_with (at_builtin;refine q003 rfl _ _ _ rfl W.heap.size _ _ 2 16 underlying61 infoPm rfl (by omega) _ ((stP l (pa,pb) i).length+1) (shP.vs (stP l (pa,pb) i) ++ [.int .i64 pa,.int .i64 pb]) rfl hownp [.int .i64 pa,.int .i64 xb] _ _ _ rfl (by first | rfl | simp) rfl (pt_one _ _) (by unfold maxLen;omega) (by omega) (by first | omega | (simp;omega) | simp) ?_;intro g cap w1 hown1 hg1)
       go_roundw
       case rel=>exact ⟨i+1,by have:=HI.out;omega,by go_num,by rw [HE2.out],HNy.out,by rw [HE1.out,List.length_append,List.length_append,shP.vs_append,shP.vs_append];exact hown1,q1a HBp.out (Nat.le_refl _) hownp hg1⟩
       case measure=>simp [intOf];omega
    ·have g2:(xa == pa)=false:=by simpa using ea
     clear heq ea
     cases hd:(l.take i).any (bfP (pa,pb)) with
     | true =>
      obtain ⟨e1,e2⟩:=HSt.out.1 hd;have HE1:=hj_ e1;have HE2:=hj_ e2;clear hd HSt e1 e2;go_wp2_with fail;go_quiet (fail);go_wp2_with fail;refine wp_region_held_drew (S:=fun _=>True) (by kernel_rfl) (by first | exact trivial) (fun hHeld=>?_)
      refine wpAnyH_take (i:=0) (oi:=?_) (v:=?_) ?_ (by kernel_rfl) (by kernel_rfl) (by kernel_rfl) ?_ (Or.inl ⟨?_,?_⟩) (by assumption) ?_
      rotate_left 2
      ·(simp only [List.getElem?_toArray,List.getElem?_cons_zero];rfl)
      ·exact fun _ _ _ h=>h
      ·rfl
      ·(intro w hSw;(try dsimp only at hSw);go_simp;try with_reducible rfl)
      simp only [Act.put,List.setIfInBounds_toArray,List.set_cons_zero,List.set_cons_succ];refine wpAnyH_take (i:=1) (oi:=?_) (v:=?_) ?_ (by kernel_rfl) (by kernel_rfl) (by kernel_rfl) ?_ (Or.inl ⟨?_,?_⟩) (by assumption) ?_
      rotate_left 2
      ·(simp only [List.getElem?_toArray,List.getElem?_cons_succ,List.getElem?_cons_zero];rfl)
      ·exact fun _ _ _ h=>h
      ·rfl
      ·(intro w hSw;(try dsimp only at hSw);go_simp;try with_reducible rfl)
      simp only [Act.put,List.setIfInBounds_toArray,List.set_cons_zero,List.set_cons_succ];refine wpAnyH_take (i:=2) (oi:=?_) (v:=?_) ?_ (by kernel_rfl) (by kernel_rfl) (by kernel_rfl) ?_ (Or.inl ⟨?_,?_⟩) (by assumption) ?_
      rotate_left 2
      ·(simp only [List.getElem?_toArray,List.getElem?_cons_succ,List.getElem?_cons_zero];rfl)
      ·exact fun _ _ _ h=>h
      ·rfl
      ·(intro w hSw;(try dsimp only at hSw);go_simp;try with_reducible rfl)
      simp only [Act.put,List.setIfInBounds_toArray,List.set_cons_zero,List.set_cons_succ];refine wpAnyH_take (i:=3) (oi:=?_) (v:=undef) ?_ (by kernel_rfl) (by kernel_rfl) (by kernel_rfl) ?_ (Or.inr ⟨?_,rfl⟩) (by assumption) ?_
      rotate_left 1
      ·(simp only [List.getElem?_toArray,List.getElem?_cons_succ,List.getElem?_cons_zero];rfl)
      ·exact fun _ _ _ h=>h
      ·rfl
      simp only [Act.put,List.setIfInBounds_toArray,List.set_cons_zero,List.set_cons_succ];refine wpAnyH_take (i:=4) (oi:=?_) (v:=undef) ?_ (by kernel_rfl) (by kernel_rfl) (by kernel_rfl) ?_ (Or.inr ⟨?_,rfl⟩) (by assumption) ?_
      rotate_left 1
      ·(simp only [List.getElem?_toArray,List.getElem?_cons_succ,List.getElem?_cons_zero];rfl)
      ·exact fun _ _ _ h=>h
      ·rfl
      simp only [Act.put,List.setIfInBounds_toArray,List.set_cons_zero,List.set_cons_succ];refine wpAnyH_take (i:=5) (oi:=?_) (v:=undef) ?_ (by kernel_rfl) (by kernel_rfl) (by kernel_rfl) ?_ (Or.inr ⟨?_,rfl⟩) (by assumption) ?_
      rotate_left 1
      ·(simp only [List.getElem?_toArray,List.getElem?_cons_succ,List.getElem?_cons_zero];rfl)
      ·exact fun _ _ _ h=>h
      ·rfl
      simp only [Act.put,List.setIfInBounds_toArray,List.set_cons_zero,List.set_cons_succ];refine wpAnyH_take (i:=6) (oi:=?_) (v:=undef) ?_ (by kernel_rfl) (by kernel_rfl) (by kernel_rfl) ?_ (Or.inr ⟨?_,rfl⟩) (by assumption) ?_
      rotate_left 1
      ·(simp only [List.getElem?_toArray,List.getElem?_cons_succ,List.getElem?_cons_zero];rfl)
      ·exact fun _ _ _ h=>h
      ·rfl
      simp only [Act.put,List.setIfInBounds_toArray,List.set_cons_zero,List.set_cons_succ];refine wpAnyH_take (i:=7) (oi:=?_) (v:=undef) ?_ (by kernel_rfl) (by kernel_rfl) (by kernel_rfl) ?_ (Or.inr ⟨?_,rfl⟩) (by assumption) ?_
      rotate_left 1
      ·(simp only [List.getElem?_toArray,List.getElem?_cons_succ,List.getElem?_cons_zero];rfl)
      ·exact fun _ _ _ h=>h
      ·rfl
      simp only [Act.put,List.setIfInBounds_toArray,List.set_cons_zero,List.set_cons_succ];refine wpAnyH_take (i:=8) (oi:=?_) (v:=undef) ?_ (by kernel_rfl) (by kernel_rfl) (by kernel_rfl) ?_ (Or.inr ⟨?_,rfl⟩) (by assumption) ?_
      rotate_left 1
      ·(simp only [List.getElem?_toArray,List.getElem?_cons_succ,List.getElem?_cons_zero];rfl)
      ·exact fun _ _ _ h=>h
      ·rfl
      simp only [Act.put,List.setIfInBounds_toArray,List.set_cons_zero,List.set_cons_succ];refine wpAnyH_take (i:=9) (oi:=?_) (v:=?_) ?_ (by kernel_rfl) (by kernel_rfl) (by kernel_rfl) ?_ (Or.inl ⟨?_,?_⟩) (by assumption) ?_
      rotate_left 2
      ·(simp only [List.getElem?_toArray,List.getElem?_cons_succ,List.getElem?_cons_zero];rfl)
      ·exact fun _ _ _ h=>h
      ·rfl
      ·(intro w hSw;(try dsimp only at hSw);go_simp;try with_reducible rfl)
      simp only [Act.put,List.setIfInBounds_toArray,List.set_cons_zero,List.set_cons_succ];refine wpAnyH_done (by kernel_rfl) ?_ _
      generalize hV4:(V3.drewN nq).drew=V4;have h34:Below V3.heap.size V3 V4:=by rw [← hV4];exact (q18 (br_) nq).drew
      have hB4:=ht_ HBr.out h34;have hown4:=qfq hown h34;have HB4:=hj_ hB4;have hsz:=hB4.size;have hsl:=q08o l (pa,pb) i;have hn:=HN.out;clear hV4 h34 p0 p1 c0 c1 hB hBd hown;obtain ⟨p0,p1⟩:=HKq.out _ hB4;clear hB4;go_wp2_with (at_builtin;refine q003 rfl _ _ _ rfl W.heap.size _ _ 2 16 underlying61 infoPm rfl (by omega) _ ((stP l (pa,pb) i).length) (shP.vs (stP l (pa,pb) i)) rfl hown4 [.int .i64 xa,.int .i64 xb] _ _ _ rfl (by first | rfl | simp) rfl (pt_one _ _) (by unfold maxLen;omega) (by omega) (by first | omega | (simp;omega) | simp) ?_;intro g cap w1 hown1 hg1)
      go_roundw
      case rel=>exact ⟨i+1,by have:=HI.out;omega,by go_num,by rw [HE2.out],HNy.out,by rw [HE1.out,List.length_append,shP.vs_append];exact hown1,q1a HB4.out (Nat.le_refl _) hown4 hg1⟩
      case measure=>simp [intOf];omega
     | false =>
      have hst:=HSt.out.2;have HSt2:=hj_ (And.intro (hst.1 hd) (hst.2 hd));clear hd HSt hst;go_wp2_with fail;go_quiet (fail);go_wp2_with fail;generalize hV9:V3.drewN nq=V9;have h39:Below V3.heap.size V3 V9:=by rw [← hV9];exact q18 (br_) nq
      have hB9:=ht_ HBr.out h39;have hBd:=q18 hB9 1;have hOw:=hj_ hown;have H39:=hj_ h39;clear hV9 p0 p1 c0 c1 hB hown h39;obtain ⟨p0,p1⟩:=HKq.out _ hBd;obtain ⟨c0,c1⟩:=HK.out _ hBd;refine wp_region_held_drew (S:=fun w'=>w'.cell? ⟨b,o+i*2,none⟩=some (.int .i64 xa)∧w'.cell? ⟨b,o+i*2+1,none⟩=some (.int .i64 xb)∧w'.cell? ⟨w.heap.size,0,none⟩=some (.int .i64 pa)∧w'.cell? ⟨w.heap.size,1,none⟩=some (.int .i64 pb)) (by kernel_rfl) (by first | exact ⟨p0,p1,c0,c1⟩) (fun hHeld=>?_)
      refine wpAnyH_take (i:=0) (oi:=?_) (v:=?_) ?_ (by kernel_rfl) (by kernel_rfl) (by kernel_rfl) ?_ (Or.inl ⟨?_,?_⟩) (by assumption) ?_
      rotate_left 2
      ·(simp only [List.getElem?_toArray,List.getElem?_cons_zero];rfl)
      ·exact fun _ _ _ h=>h
      ·rfl
      ·(intro w hSw;(try dsimp only at hSw);go_simp;try with_reducible rfl)
      simp only [Act.put,List.setIfInBounds_toArray,List.set_cons_zero,List.set_cons_succ];refine wpAnyH_take (i:=1) (oi:=?_) (v:=?_) ?_ (by kernel_rfl) (by kernel_rfl) (by kernel_rfl) ?_ (Or.inl ⟨?_,?_⟩) (by assumption) ?_
      rotate_left 2
      ·(simp only [List.getElem?_toArray,List.getElem?_cons_succ,List.getElem?_cons_zero];rfl)
      ·exact fun _ _ _ h=>h
      ·rfl
      ·(intro w hSw;(try dsimp only at hSw);go_simp;try with_reducible rfl)
      simp only [Act.put,List.setIfInBounds_toArray,List.set_cons_zero,List.set_cons_succ];refine wpAnyH_take (i:=2) (oi:=?_) (v:=?_) ?_ (by kernel_rfl) (by kernel_rfl) (by kernel_rfl) ?_ (Or.inl ⟨?_,?_⟩) (by assumption) ?_
      rotate_left 2
      ·(simp only [List.getElem?_toArray,List.getElem?_cons_succ,List.getElem?_cons_zero];rfl)
      ·exact fun _ _ _ h=>h
      ·rfl
      ·(intro w hSw;(try dsimp only at hSw);go_simp;try with_reducible rfl)
      simp only [Act.put,List.setIfInBounds_toArray,List.set_cons_zero,List.set_cons_succ];refine wpAnyH_take (i:=3) (oi:=?_) (v:=?_) ?_ (by kernel_rfl) (by kernel_rfl) (by kernel_rfl) ?_ (Or.inl ⟨?_,?_⟩) (by assumption) ?_
      rotate_left 2
      ·(simp only [List.getElem?_toArray,List.getElem?_cons_succ,List.getElem?_cons_zero];rfl)
      ·exact fun _ _ _ h=>h
      ·rfl
      ·(intro w hSw;(try dsimp only at hSw);go_simp;try with_reducible rfl)
      simp only [Act.put,List.setIfInBounds_toArray,List.set_cons_zero,List.set_cons_succ];refine wpAnyH_take (i:=4) (oi:=?_) (v:=?_) ?_ (by kernel_rfl) (by kernel_rfl) (by kernel_rfl) ?_ (Or.inl ⟨?_,?_⟩) (by assumption) ?_
      rotate_left 2
      ·(simp only [List.getElem?_toArray,List.getElem?_cons_succ,List.getElem?_cons_zero];rfl)
      ·exact fun _ _ _ h=>h
      ·rfl
      ·(intro w hSw;(try dsimp only at hSw);go_simp;try with_reducible rfl)
      simp only [Act.put,List.setIfInBounds_toArray,List.set_cons_zero,List.set_cons_succ];refine wpAnyH_take (i:=5) (oi:=?_) (v:=?_) ?_ (by kernel_rfl) (by kernel_rfl) (by kernel_rfl) ?_ (Or.inl ⟨?_,?_⟩) (by assumption) ?_
      rotate_left 2
      ·(simp only [List.getElem?_toArray,List.getElem?_cons_succ,List.getElem?_cons_zero];rfl)
      ·exact fun _ _ _ h=>h
      ·rfl
      ·(intro w hSw;(try dsimp only at hSw);go_simp;try with_reducible rfl)
      simp only [Act.put,List.setIfInBounds_toArray,List.set_cons_zero,List.set_cons_succ];refine wpAnyH_take (i:=6) (oi:=?_) (v:=?_) ?_ (by kernel_rfl) (by kernel_rfl) (by kernel_rfl) ?_ (Or.inl ⟨?_,?_⟩) (by assumption) ?_
      rotate_left 2
      ·(simp only [List.getElem?_toArray,List.getElem?_cons_succ,List.getElem?_cons_zero];rfl)
      ·exact fun _ _ _ h=>h
      ·rfl
      ·(intro w hSw;(try dsimp only at hSw);go_simp;try with_reducible rfl)
      simp only [Act.put,List.setIfInBounds_toArray,List.set_cons_zero,List.set_cons_succ];refine wpAnyH_take (i:=7) (oi:=?_) (v:=?_) ?_ (by kernel_rfl) (by kernel_rfl) (by kernel_rfl) ?_ (Or.inl ⟨?_,?_⟩) (by assumption) ?_
      rotate_left 2
      ·(simp only [List.getElem?_toArray,List.getElem?_cons_succ,List.getElem?_cons_zero];rfl)
      ·exact fun _ _ _ h=>h
      ·rfl
      ·(intro w hSw;(try dsimp only at hSw);go_simp;try with_reducible rfl)
      simp only [Act.put,List.setIfInBounds_toArray,List.set_cons_zero,List.set_cons_succ];refine wpAnyH_ready (rs:=[8]) (by kernel_rfl) (by simp) ?_
      refine AllReadyH.cons rfl (fun K hK=>?_) AllReadyH.nil
      go_simp
      go_at_call 95;refine (HBe.out _).mono ?_;rintro e wk ⟨rfl,hb⟩;have hBk:=ht_ hBd hb;obtain ⟨p0,p1⟩:=HKq.out _ hBk;obtain ⟨c0,c1⟩:=HK.out _ hBk
      go_wp2_with fail;refine hK.out _ _ (by first | exact ⟨p0,p1,c0,c1⟩) (fun hHeld=>?_)
      clear hK K
      try simp only [Act.put,List.setIfInBounds_toArray,List.set_cons_zero,List.set_cons_succ]
      refine wpAnyH_take (i:=9) (oi:=?_) (v:=?_) ?_ (by kernel_rfl) (by kernel_rfl) (by kernel_rfl) ?_ (Or.inl ⟨?_,?_⟩) (by assumption) ?_
      rotate_left 2
      ·(simp only [List.getElem?_toArray,List.getElem?_cons_succ,List.getElem?_cons_zero];rfl)
      ·exact fun _ _ _ h=>h
      ·rfl
      ·(intro w hSw;(try dsimp only at hSw);go_simp;try with_reducible rfl)
      simp only [Act.put,List.setIfInBounds_toArray,List.set_cons_zero,List.set_cons_succ];refine wpAnyH_done (by kernel_rfl) ?_ _
      have h3k:Below V3.heap.size V3 wk:=(q18 H39.out 1).trans (hb.mono (q18 H39.out 1).size);have hownk:=qfq hOw.out h3k;have HBk:=hj_ hBk;have hsz:=hBk.size;have hsl:=q08o l (pa,pb) i;have hn:=HN.out;clear h3k hb hB9 hBd H39 hOw hHeld
      cases hbf:bfP (pa,pb) (xa,xb) with
      | false =>
       obtain ⟨e1,e2⟩:=HSt2.out.2 hbf;have HE1:=hj_ e1;have HE2:=hj_ e2;clear HSt2 hbf e1 e2 hBk c0 c1;go_wp2_with (at_builtin;refine q003 rfl _ _ _ rfl W.heap.size _ _ 2 16 underlying61 infoPm rfl (by omega) _ ((stP l (pa,pb) i).length) (shP.vs (stP l (pa,pb) i)) rfl hownk [.int .i64 xa,.int .i64 xb] _ _ _ rfl (by first | rfl | simp) rfl (pt_one _ _) (by unfold maxLen;omega) (by omega) (by first | omega | (simp;omega) | simp) ?_;intro g cap w1 hown1 hg1)
       go_roundw
       case rel=>exact ⟨i+1,by have:=HI.out;omega,by go_num,by rw [HE2.out],HNy.out,by rw [HE1.out,List.length_append,shP.vs_append];exact hown1,q1a HBk.out (Nat.le_refl _) hownk hg1⟩
       case measure=>simp [intOf];omega
      | true =>
       obtain ⟨e1,e2⟩:=HSt2.out.1 hbf;have HE1:=hj_ e1;have HE2:=hj_ e2;clear HSt2 hbf e1 e2 hBk
       go_upto_region 11 with (at_builtin;refine q003 rfl _ _ _ rfl W.heap.size _ _ 2 16 underlying61 infoPm rfl (by omega) _ ((stP l (pa,pb) i).length) (shP.vs (stP l (pa,pb) i)) rfl hownk [.int .i64 pa,.int .i64 pb] _ _ _ rfl (by first | rfl | simp) rfl (pt_one _ _) (by unfold maxLen;omega) (by omega) (by first | omega | (simp;omega) | simp) ?_;intro g cap w1 hown1 hg1)
       have hBp:=q1a HBk.out (Nat.le_refl _) hownk hg1;have HBp:=hj_ hBp;have hownp:=hown1;clear hsz p0 p1 c0 c1 hown1 hg1 hownk;have hsz:=hBp.size;obtain ⟨p0,p1⟩:=HKq.out _ hBp;clear hBp;go_wp2_with (at_builtin;refine q003 rfl _ _ _ rfl W.heap.size _ _ 2 16 underlying61 infoPm rfl (by omega) _ ((stP l (pa,pb) i).length+1) (shP.vs (stP l (pa,pb) i) ++ [.int .i64 pa,.int .i64 pb]) rfl hownp [.int .i64 xa,.int .i64 xb] _ _ _ rfl (by first | rfl | simp) rfl (pt_one _ _) (by unfold maxLen;omega) (by omega) (by first | omega | (simp;omega) | simp) ?_;intro g cap w1 hown1 hg1)
       go_roundw
       case rel=>exact ⟨i+1,by have:=HI.out;omega,by go_num,by rw [HE2.out],HNy.out,by rw [HE1.out,List.length_append,List.length_append,shP.vs_append,shP.vs_append];exact hown1,q1a HBp.out (Nat.le_refl _) hownp hg1⟩
       case measure=>simp [intOf];omega
end

section
open Go.RowKit
def offB (l:List Fm) (x:Fx) (f:Fea):Bool:=decide (shV (pgOf l x.un) x.ad f<f.lo) || decide (f.hi<shV (pgOf l x.un) x.ad f)
def offF (l:List Fm) (x:Fx) (F:List Fea):List PT:=(F.filter (offB l x)).map fun f=>(x.ch,f.at_)
def offX (l:List Fm) (PL:List (PC × List Fea)) (X:List Fx):List PT:=X.flatMap fun x=>offF l x (featV PL x.pr)
theorem q07t {l:List Fm} {x:Fx} {F:List Fea} {k:Nat} (hk:k<F.length):offF l x (F.take (k+1))=if offB l x F[k]=true then offF l x (F.take k) ++ [(x.ch,F[k].at_)] else offF l x (F.take k):=by
 unfold offF;rw [List.take_succ_eq_append_getElem hk,List.filter_append,List.map_append]
 by_cases h:offB l x F[k]=true
 ·rw [if_pos h];simp [h]
 ·rw [if_neg h];simp [h]
theorem q07v {l:List Fm} {PL:List (PC × List Fea)} {X:List Fx} {i:Nat} (hi:i<X.length):offX l PL (X.take (i+1))=offX l PL (X.take i) ++ offF l X[i] (featV PL X[i].pr):=by
 unfold offX;rw [List.take_succ_eq_append_getElem hi,List.flatMap_append];simp
theorem q088 {xs:List PT} {p:PT}:(xs ++ [p]).foldl putQ []=putQ (xs.foldl putQ []) p:=by
 rw [List.foldl_append];rfl
theorem q07p (p:PT) (l:List PT):(putQ l p).length≤l.length+1:=by
 unfold putQ
 by_cases h:p ∈ l
 ·rw [if_pos h];omega
 ·rw [if_neg h,q07o];exact Nat.le_refl _
theorem q08a:∀ (xs:List PT) (l:List PT),(xs.foldl putQ l).length≤l.length+xs.length
 | [],l=>Nat.le_refl _
 | x :: xs,l=>by
  rw [List.foldl_cons,List.length_cons];have h1:=q08a xs (putQ l x);have h2:=q07p x l;omega
theorem q07s (l:List Fm) (x:Fx) (F:List Fea):(offF l x F).length≤F.length:=by
 unfold offF;rw [List.length_map];exact List.length_filter_le ..
theorem q07u {l:List Fm} {PL:List (PC × List Fea)}:∀ {X:List Fx},(∀ x ∈ X,(featV PL x.pr).length≤40)→(offX l PL X).length≤40*X.length
 | [],_=>Nat.le_refl _
 | x :: X,h=>by
  have h1:=q07u (l:=l) (X:=X) fun y hy=>h y (List.mem_cons_of_mem _ hy)
  have h2:=q07s l x (featV PL x.pr);have h3:=h x List.mem_cons_self;have e:offX l PL (x :: X)=offF l x (featV PL x.pr) ++ offX l PL X:=by unfold offX;rw [List.flatMap_cons]
  rw [e,List.length_append,List.length_cons];omega
end

end Go.Proofs.YtbfikenbgfnfiaaGreatDoor
