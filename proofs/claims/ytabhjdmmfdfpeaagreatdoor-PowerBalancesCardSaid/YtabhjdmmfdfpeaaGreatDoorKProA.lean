/- Lemmas. -/
import Derived.Test.YtabhjdmmfdfpeaaGreatDoorKNest
namespace Go.Proofs.YtabhjdmmfdfpeaaGreatDoor
set_option maxHeartbeats 32000000
set_option maxRecDepth 100000
open _root_.Go.Proofs.Tryz
open Go.RowKit
variable {D:Int} {k:Nat} {w:World}
def firstE (f:Nat→Int):Nat→Int
 | 0=>0
 | n+1=>if firstE f n≠0 then firstE f n else f n
theorem q86 {f:Nat→Int}:∀ {n:Nat},(∀ i,i<n→f i=0)→firstE f n=0
 | 0,_=>rfl
 | n+1,h=>by rw [firstE,q86 (n:=n) fun i hi=>h i o_,if_neg s_,h n o_]
theorem q87 {f:Nat→Int} {k:Nat} (h:∀ i,i<k→f i=0) (hk:f k≠0):∀ {n:Nat},k<n→firstE f n=f k
 | 0,hn=>absurd hn (Nat.not_lt_zero _)
 | n+1,hn=>by
  rw [firstE]
  by_cases e:k=n
  ·subst e;rw [q86 h,if_neg s_]
  ·rw [q87 h hk (n:=n) o_,if_pos hk]
theorem q89 {f:Nat→Int}:∀ {n:Nat},firstE f n=0→∀ i,i<n→f i=0
 | 0,_,i,hi=>absurd hi (Nat.not_lt_zero _)
 | n+1,h,i,hi=>by
  rw [firstE] at h
  by_cases h1:firstE f n≠0
  ·rw [if_pos h1] at h;exact absurd h h1
  ·rw [if_neg h1] at h
   rcases Nat.lt_or_eq_of_le (Nat.le_of_lt_succ hi) with h2 | h2
   ·exact q89 (Classical.not_not.1 h1) i h2
   ·rw [h2];exact h
theorem q88 {f:Nat→Int} (h:∀ i,i<k→f i=0) (hk:f k=0):∀ i,i<k+1→f i=0:=fun i hi=>by
 rcases Nat.lt_or_eq_of_le (Nat.le_of_lt_succ hi) with h2 | h2
 ·exact h i h2
 ·rw [h2];exact hk
def lowB (c:UInt8):Bool:=decide (97≤c.toNat) && decide (c.toNat≤122)
def nmC (c:UInt8):Bool:=lowB c || decide (c=95) || (decide (48≤c.toNat) && decide (c.toNat≤57))
def nmB (s:ByteArray):Bool:=decide (1≤s.data.toList.length) && decide (s.data.toList.length≤24) && (s.data.toList.take 1).all lowB && s.data.toList.all nmC
structure Slt where
 s:ByteArray
 a:Int
 z:Int
def slt0:Slt:=⟨⟨#[]⟩,0,0⟩
def whE (l:List Slt) (i:Nat):Int :=
 if nmB (l.getD i slt0).s=false then 8
 else if (l.take i).any (fun x=>decide (x.s=(l.getD i slt0).s)) then 7
 else if ¬ (isLev (l.getD i slt0).a∧isLev (l.getD i slt0).z∧(l.getD i slt0).a≤(l.getD i slt0).z) then 2
 else if 0<i∧(l.getD i slt0).a≤(l.getD (i-1) slt0).z then 9 else 0
def wheelE (l:List Slt):Int:=if 16<l.length then 5 else firstE (whE l) l.length
structure Fea where
 at_:Int
 bits:Int
 co:Int
 fi:Int
 cu:Int
 ho:Int
 lo:Int
 hi:Int
 sn:Bool
 wh:List Slt
def topV (b:Int):Int:=if b=8 then 255 else 65535
def partsE (f:Fea):Int:=if ¬ isLev f.ho∨f.lo<0∨f.hi<f.lo∨topV f.bits<f.hi then 2 else wheelE f.wh
def innerE (f:Fea) (n:Nat):Int:=if f.cu<0∨(n:Int)<f.cu then 6 else partsE f
def bitsV (b:Int):Int:=if b≠8∧b≠16 then 1 else 0
def bitsE (f:Fea):Int:=bitsV f.bits
def bareE (f:Fea):Int:=if bitsE f≠0 then bitsE f else partsE f
def aloneE (f:Fea) (L:List (List PT)):Int:=if errA L≠0 then errA L else if bitsE f≠0 then bitsE f else innerE f L.length
def usedB (l:List Fea) (o:Int):Bool:=l.any fun f=>decide (f.co=o) || (decide (f.bits=16) && decide (f.fi=o))
def fea0:Fea:=⟨0,0,0,0,0,0,0,0,false,[]⟩
def feaE (l:List Fea) (foot:Int) (n:Nat) (i:Nat):Int :=
 if (l.getD i fea0).at_<0∨15≤(l.getD i fea0).at_ then 1
 else if (l.take i).any (fun x=>decide (x.at_=(l.getD i fea0).at_)) then 7
 else if bitsE (l.getD i fea0)≠0 then 1
 else if (l.getD i fea0).co<0∨foot≤(l.getD i fea0).co∨(l.getD i fea0).bits=16∧((l.getD i fea0).fi<0∨foot≤(l.getD i fea0).fi) then 2
 else if (l.getD i fea0).bits=8∧(l.getD i fea0).fi≠0 then 3
 else if usedB (l.take i) (l.getD i fea0).co=true∨(l.getD i fea0).bits=16∧(usedB (l.take i) (l.getD i fea0).fi=true∨(l.getD i fea0).fi=(l.getD i fea0).co) then 11
 else innerE (l.getD i fea0) n
def profE (name:ByteArray) (foot watts:Int) (l:List Fea) (L:List (List PT)):Int :=
 if errA L≠0 then errA L
 else if nmB name=false then 8
 else if foot<1∨512<foot∨watts<0∨1048576<watts then 2
 else if 16<l.length then 5
 else firstE (feaE l foot L.length) l.length
def idxOf {α:Type} (p:α→Bool):List α→Int
 | []=>-1
 | a :: l=>if p a then 0 else if idxOf p l<0 then -1 else idxOf p l+1
theorem qbc {α:Type} {p:α→Bool}:∀ {l:List α},(∀ i (h:i<l.length),p l[i]=false)→idxOf p l=-1
 | [],_=>rfl
 | a :: l,h=>by
  have h0:p a=false:=h 0 s_
  rw [idxOf,h0,if_neg s_,qbc (l:=l) fun i hi=>h (i+1) (by simpa using hi)]
  rfl
theorem qbd {α:Type} {p:α→Bool}:∀ {l:List α} {k:Nat} (hk:k<l.length),(∀ i (h:i<k),p (l[i]'o_)=false)→p l[k]=true→idxOf p l=k
 | a :: l,0,_,_,h=>by rw [idxOf,if_pos (by simpa using h)];rfl
 | a :: l,k+1,hk,hb,h=>by
  have h0:p a=false:=hb 0 o_
  have ih:=qbd (l:=l) (k:=k) (by simpa using hk) (fun i hi=>hb (i+1) o_) (by simpa using h)
  rw [idxOf,h0,if_neg s_,ih,if_neg o_]
  omega
theorem qbb {α:Type} {p:α→Bool}:∀ (l:List α),idxOf p l<l.length
 | []=>by simp [idxOf]
 | a :: l=>by
  have:=qbb (p:=p) l
  rw [idxOf]
  split
  ·simp
  ·split
   ·simp
    omega
   ·simp
    omega
theorem qb9 {α:Type} {p:α→Bool}:∀ (l:List α),-1≤idxOf p l
 | []=>by simp [idxOf]
 | a :: l=>by
  have:=qb9 (p:=p) l
  rw [idxOf]
  split
  ·omega
  ·split <;> omega
theorem q0n {α:Type} {p:α→Bool} {l:List α} (hk:k<l.length):(l.take (k+1)).any p=((l.take k).any p || p l[k]):=by
 rw [List.take_succ_eq_append_getElem hk,List.any_append];simp
theorem q0m {α:Type} {p:α→Bool} {l:List α} (h:∀ i (hi:i<l.length),i<k→p l[i]=false):(l.take k).any p=false:=by
 rw [List.any_eq_false];intro x hx;obtain ⟨i,hi,rfl⟩:=List.getElem_of_mem hx;rw [List.length_take] at hi;rw [List.getElem_take,h i o_ o_]
 simp
theorem q0l {α:Type} {p:α→Bool} {l:List α} {i:Nat} (hi:i<l.length) (hik:i<k) (h:p l[i]=true):(l.take k).any p=true:=by
 rw [List.any_eq_true];exact ⟨l[i],by rw [← List.getElem_take (j:=k) (h:=by rw [List.length_take];omega)];exact List.getElem_mem _,h⟩
theorem qa1 {α:Type} {l:List α} {d:α} (h:k<l.length):l.getD k d=l[k]:=by simp [List.getD,h]
def clampR (r:Rat):Rat:=if r<0 then 0 else if 65535<r then 65535 else r
theorem q3f (r:Rat):InL (clampR r):=by
 unfold clampR InL
 by_cases h:r<0
 ·rw [if_pos h];exact ⟨d_,d_⟩
 ·rw [if_neg h]
  by_cases h2:65535<r
  ·rw [if_pos h2];exact ⟨d_,d_⟩
  ·rw [if_neg h2];exact ⟨Rat.not_lt.1 h,Rat.not_lt.1 h2⟩
theorem q3e {r:Rat} (h:InL r):clampR r=r:=by
 unfold clampR;rw [if_neg (Rat.not_lt.2 h.1),if_neg (Rat.not_lt.2 h.2)]
def qi6 (cu:Int) (L:List (List PT)):List PT:=if cu=0 then qqw else L.getD (cu-1).toNat []
theorem qi7 {cu:Int} {L:List (List PT)} (h:errA L=0) (h0:0≤cu) (h1:cu≤L.length):OkC (qi6 cu L):=by
 unfold qi6
 by_cases hc:cu=0
 ·rw [if_pos hc];exact q2t.1 d_
 ·rw [if_neg hc]
  have hA:L.length≤16∧∀ c ∈ L,OkC c:=by
   unfold errA at h
   by_cases h1:16<L.length
   ·rw [if_pos h1] at h;exact absurd h d_
   ·rw [if_neg h1] at h;exact ⟨o_,q0c h⟩
  have hl:(cu-1).toNat<L.length:=o_
  rw [qa1 hl];exact hA.2 _ (List.getElem_mem hl)
def ratD (D:Int):Rat:=Rat.divInt D 65535
theorem qkv (D:Int):ratD D*65535=(D:Rat):=by
 unfold ratD;rw [Rat.divInt_eq_div,Rat.div_def,Rat.mul_assoc];rw [show ((65535:Int):Rat)⁻¹*65535=1 by decide +kernel,Rat.mul_one]
def madeR (lo hi:Int) (c:List PT) (r:Rat):Int:=lo+(valC c (clampR r)*ratD (hi-lo)+halfR).floor
theorem q8u {x:Rat} (h0:0≤x) (h1:x≤(D:Rat)):0≤(x+halfR).floor∧(x+halfR).floor≤D:=by
 obtain ⟨f1,f2⟩:=q8t (x+halfR);have h2:=qaq;generalize (x+halfR).floor=n at *;refine ⟨Int.not_lt.1 fun h=>?_,Int.not_lt.1 fun h=>?_⟩
 ·have h3:((n+1:Int):Rat)≤((0:Int):Rat):=q24.2 o_
  rw [Rat.intCast_add] at h3;have e1:((1:Int):Rat)=1:=rfl;have e0:((0:Int):Rat)=0:=rfl
  grind
 ·have h3:((D+1:Int):Rat)≤((n:Int):Rat):=q24.2 o_
  rw [Rat.intCast_add] at h3;have e1:((1:Int):Rat)=1:=rfl
  grind
theorem qkw (h:0≤D):0≤ratD D:=by
 have h1:=qkv D;have h2:((0:Int):Rat)≤(D:Rat):=q24.2 h;have e0:((0:Int):Rat)=0:=rfl;rw [e0,← h1] at h2;exact Rat.not_lt.1 fun hn=>by grind
theorem scaled {y:Rat} (hy:InL y) (hD:0≤D):0≤y*ratD D∧y*ratD D≤(D:Rat):=by
 have q0:=qkw hD;have h1:=qkv D;refine ⟨Rat.mul_nonneg hy.1 q0,?_⟩
 have:=Rat.mul_le_mul_of_nonneg_right hy.2 q0
 rw [← h1,Rat.mul_comm (ratD D)];exact this
theorem qdm {lo hi:Int} {c:List PT} (hc:OkC c) (h:lo≤hi) (r:Rat):lo≤madeR lo hi c r∧madeR lo hi c r≤hi:=by
 unfold madeR;have hi':=q3f r;obtain ⟨s1,s2⟩:=scaled (hc.lev hi'.1 hi'.2) (D:=hi-lo) o_
 obtain ⟨f1,f2⟩:=q8u s1 s2;omega
def rawE (f:Fea) (L:List (List PT)) (s:ByteArray):Int:=if aloneE f L≠0 then aloneE f L else chkR s.data.toList
def rawV (f:Fea) (L:List (List PT)) (s:ByteArray):Int:=if rawE f L s≠0 then 0 else madeR f.lo f.hi (qi6 f.cu L) (valR s.data.toList)
def bytesE (f:Fea) (raw:Int):Int:=if bareE f≠0 then bareE f else if raw<f.lo∨f.hi<raw then 2 else 0
def bytesV (f:Fea) (raw:Int):List Int:=if bytesE f raw≠0 then [] else if f.bits=8 then [raw] else [raw / 256,raw % 256]
structure Ru where
 g:Nat
 cb:Array Value
 e:Int
 b:Bool
def shU:Sh Ru:=⟨2,fun r=>[.func (.func r.g) #[] r.cb,.int .i64 r.e],fun _=>rfl,fun a=>by simp;exact ⟨rfl,rfl⟩⟩
def shS:Sh Slt:=⟨3,fun q=>[.string q.s,.int .i64 q.a,.int .i64 q.z],fun _=>rfl,fun a=>by simp;exact ⟨rfl,rfl,rfl⟩⟩
structure FC where
 at_:Int
 bits:Int
 co:Int
 fi:Int
 cu:Int
 ho:Int
 lo:Int
 hi:Int
 sn:Bool
 A:Option Addr
 n:Nat
 c:Nat
def FC.cells (f:FC):List Value:=[.int .i64 f.at_,.int .i64 f.bits,.int .i64 f.co,.int .i64 f.fi,.int .i64 f.cu,.int .i64 f.ho,.int .i64 f.lo,.int .i64 f.hi,.bool f.sn,.slice f.A f.n f.c]
def shF:Sh FC:=⟨10,FC.cells,fun _=>rfl,fun a=>by unfold FC.cells;simp;exact ⟨rfl,rfl,rfl,rfl,rfl,rfl,rfl,rfl,rfl,rfl⟩⟩
def FC.fea (f:FC) (l:List Slt):Fea:=⟨f.at_,f.bits,f.co,f.fi,f.cu,f.ho,f.lo,f.hi,f.sn,l⟩
def InF (w:World) (A:Option Addr) (n:Nat) (H:List FC) (L:List Fea):Prop :=
 shF.In w A n H∧H.length=L.length∧∀ i (h:i<H.length) (h':i<L.length),L[i]=H[i].fea L[i].wh∧shS.In w H[i].A H[i].n L[i].wh
theorem InF.below {w':World} {A:Option Addr} {n:Nat} {H:List FC} {L:List Fea} (h:InF w A n H L) (hb:Below w.heap.size w w'):InF w' A n H L :=
 ⟨h.1.below hb,h.2.1,fun i h1 h2=>⟨(h.2.2 i h1 h2).1,(h.2.2 i h1 h2).2.below hb⟩⟩
theorem sl_at {A:Option Addr} {n:Nat} {l:List Slt} (h:shS.In w A n l) (h0:0<l.length) :
  ∃ b o,A=some ⟨b,o,none⟩∧b<w.heap.size∧∀ k (hk:k<l.length),w.cell? ⟨b,o+k*3,none⟩=some (.string l[k].s)∧w.cell? ⟨b,o+k*3+1,none⟩=some (.int .i64 l[k].a)∧w.cell? ⟨b,o+k*3+2,none⟩=some (.int .i64 l[k].z):=by
 obtain ⟨b,o,e,hb,hc⟩:=h.at_ h0
 exact ⟨b,o,e,hb,fun k hk=>⟨hc k hk 0 _ d_ rfl,hc k hk 1 _ d_ rfl,hc k hk 2 _ d_ rfl⟩⟩
theorem ru_at {A:Option Addr} {n:Nat} {l:List Ru} (h:shU.In w A n l) (h0:0<l.length) :
  ∃ b o,A=some ⟨b,o,none⟩∧b<w.heap.size∧∀ k (hk:k<l.length),w.cell? ⟨b,o+k*2,none⟩=some (.func (.func l[k].g) #[] l[k].cb)∧w.cell? ⟨b,o+k*2+1,none⟩=some (.int .i64 l[k].e):=by
 obtain ⟨b,o,e,hb,hc⟩:=h.at_ h0
 exact ⟨b,o,e,hb,fun k hk=>⟨hc k hk 0 _ d_ rfl,hc k hk 1 _ d_ rfl⟩⟩
theorem ft_at {A:Option Addr} {n:Nat} {l:List FC} (h:shF.In w A n l) (h0:0<l.length) :
  ∃ b o,A=some ⟨b,o,none⟩∧b<w.heap.size∧∀ k (hk:k<l.length),w.cell? ⟨b,o+k*10,none⟩=some (.int .i64 l[k].at_)∧w.cell? ⟨b,o+k*10+1,none⟩=some (.int .i64 l[k].bits)∧w.cell? ⟨b,o+k*10+2,none⟩=some (.int .i64 l[k].co)∧w.cell? ⟨b,o+k*10+3,none⟩=some (.int .i64 l[k].fi)∧w.cell? ⟨b,o+k*10+4,none⟩=some (.int .i64 l[k].cu)∧w.cell? ⟨b,o+k*10+5,none⟩=some (.int .i64 l[k].ho)∧w.cell? ⟨b,o+k*10+6,none⟩=some (.int .i64 l[k].lo)∧w.cell? ⟨b,o+k*10+7,none⟩=some (.int .i64 l[k].hi)∧w.cell? ⟨b,o+k*10+8,none⟩=some (.bool l[k].sn)∧w.cell? ⟨b,o+k*10+9,none⟩=some (.slice l[k].A l[k].n l[k].c):=by
 obtain ⟨b,o,e,hb,hc⟩:=h.at_ h0
 exact ⟨b,o,e,hb,fun k hk=>⟨hc k hk 0 _ d_ rfl,hc k hk 1 _ d_ rfl,hc k hk 2 _ d_ rfl,hc k hk 3 _ d_ rfl,hc k hk 4 _ d_ rfl,hc k hk 5 _ d_ rfl,hc k hk 6 _ d_ rfl,hc k hk 7 _ d_ rfl,hc k hk 8 _ d_ rfl,hc k hk 9 _ d_ rfl⟩⟩
def firstU:List Ru→Int
 | []=>0
 | r :: t=>if r.b then r.e else firstU t
theorem q8b:∀ {l:List Ru},(∀ i (h:i<l.length),l[i].b=false)→firstU l=0
 | [],_=>rfl
 | r :: t,h=>by
  have h0:r.b=false:=h 0 s_
  rw [firstU,h0,if_neg s_]
  exact q8b fun i hi=>h (i+1) (by simpa using hi)
theorem q8c:∀ {l:List Ru} {k:Nat} (hk:k<l.length),(∀ i (h:i<k),(l[i]'o_).b=false)→l[k].b=true→firstU l=l[k].e
 | r :: t,0,_,_,h=>by
  have h':r.b=true:=h;rw [firstU,h',if_pos rfl];rfl
 | r :: t,k+1,hk,hb,h=>by
  have h0:r.b=false:=hb 0 o_
  rw [firstU,h0,if_neg s_]
  exact q8c (l:=t) (k:=k) (by simpa using hk) (fun i hi=>hb (i+1) o_) h
set_option maxRecDepth 1000000 in
theorem qhg (A:Option Addr) (n c:Nat) (R:List Ru) (w:World) (hl:shU.In w A n R) (hn:n≤1000)
  (eg:∀ i (h:i<R.length) args w,(callFunc R[i].g args).run prog w=.ok (.enter R[i].g args) w)
  (hf:∀ i (h:i<R.length) (W:World),(∀ j (hj:j<i),(R[j]'o_).b=false)→Below w.heap.size w W→Calls prog R[i].g R[i].cb W fun e w'=>e=.returned (.bool R[i].b)∧Below W.heap.size W w') :
  Rt 150 #[.slice A n c] w (.int .i64 (firstU R)):=by
 obtain ⟨rfl,_⟩:=id hl;have HL:=hj_ hl;have HF:=hj_ hf;have HG:=hj_ eg;have hB:=Below.refl w.heap.size w;obtain ⟨E,hE⟩:=ex_ (firstU R);rw [← hE];have HE:=hj_ hE;clear hl hf hE eg
 go_enter func150,ntmps150
 go_wp2_with fail
 go_loopw [7] (fun iv wr=>∃ k:Nat,k≤R.length∧iv=.int .i64 k∧(∀ j (h:j<R.length),j<k→R[j].b=false)∧Below w.heap.size w wr) (fun iv _=>R.length-(intOf iv).toNat)
 case atStart=>exact ⟨0,Nat.zero_le _,rfl,fun j _ h=>absurd h (Nat.not_lt_zero _),br_⟩
 case round =>
  obtain ⟨k,hk,rfl,hall,hBr⟩:=hrel;have HAll:=hj_ hall;clear hall
  by_cases hlt:k<R.length
  ·obtain ⟨b,o,rfl,hbl,hcell⟩:=ru_at HL.out o_
   obtain ⟨p0,p1⟩:=hcell k hlt;have p0:=(hBr.cell (p:=⟨b,o+k*2,none⟩) hbl).trans p0;have p1:=(hBr.cell (p:=⟨b,o+k*2+1,none⟩) hbl).trans p1;have hbw:b<wr.heap.size:=Nat.lt_of_lt_of_le hbl hBr.size;have HC:=hj_ (fun W hW=>HF.out k hlt W (fun j hj=>HAll.out j o_ hj) hW)
   have eg:=HG.out k hlt;have HY:=hj_ (show R[k].b=true→E=R[k].e from fun h=>HE.out.trans (q8c hlt (fun i hi=>HAll.out i o_ hi) h))
   have HN:=hj_ (show R[k].b=false→∀ j (h:j<R.length),j<k+1→R[j].b=false from fun h j hj hjk=>by
    rcases Nat.lt_or_eq_of_le (Nat.le_of_lt_succ hjk) with h1 | h1
    ·exact HAll.out j hj h1
    ·subst h1;exact h)
   clear hcell;generalize R[k].g=g at *;generalize R[k].cb=cb at *;generalize R[k].e=ee at *;have hc:=HC.out (wr.alloc (.cells #[.func (.func g) #[] cb,.int .i64 ee] 215)) (hBr.alloc hBr.size _);have i0:(0:Int)≤(k:Int):=o_
   have i1:(k:Int)<(R.length:Int):=o_
   have HBr:=hj_ hBr;clear hBr
   cases hb:R[k].b with
   | true =>
    have hee:E=ee:=HY.out hb;rw [hb] at hc;subst hee;clear hb;go_wp2_with (go_at_fn g;refine hc.mono ?_;rintro e w' ⟨rfl,hb⟩;have c1:=(hb.cell (p:=⟨wr.heap.size,1,none⟩) s_).trans (show _=some (Value.int IntKind.i64 E) by rw [World.cell?_alloc_new];rfl);have hB:=HBr.out.trans (((Below.refl _ wr).alloc lr_ _).trans (hb.mono s_) |>.mono HBr.out.size))
    go_ret;exact ⟨rfl,hB⟩
   | false =>
    have hn1:=HN.out hb;have HN1:=hj_ hn1;rw [hb] at hc;clear hb hn1;go_wp2_with (go_at_fn g;refine hc.mono ?_;rintro e w' ⟨rfl,hb⟩;have hB:=HBr.out.trans (((Below.refl _ wr).alloc lr_ _).trans (hb.mono s_) |>.mono HBr.out.size))
    go_roundw
    case rel=>exact ⟨k+1,o_,by go_num,HN1.out,hB⟩
    case measure=>simp [intOf];omega
  ·obtain rfl:k=R.length:=by omega
   have hE0:E=0:=HE.out.trans (q8b fun i h=>HAll.out i h h)
   subst hE0;go_wp2_with fail;go_ret;exact ⟨rfl,hBr⟩
theorem qhh (R:List Ru) (n:Nat) (W:World) (hn:R.length=n) (hn2:n≤1000)
  (eg:∀ i (h:i<R.length) args w,(callFunc R[i].g args).run prog w=.ok (.enter R[i].g args) w)
  (hf:∀ i (h:i<R.length) (W':World),(∀ j (hj:j<i),(R[j]'o_).b=false)→Below W.heap.size W W'→Calls prog R[i].g R[i].cb W' fun e w'=>e=.returned (.bool R[i].b)∧Below W'.heap.size W' w') :
  Calls prog 150 #[.slice (some ⟨W.heap.size,0,none⟩) n n] (W.alloc (.cells (shU.vs R).toArray 215)) fun e w'=>e=.returned (.int .i64 (firstU R))∧Below W.heap.size W w':=by
 subst hn;have hb:Below W.heap.size W (W.alloc (.cells (shU.vs R).toArray 215)):=(Below.refl _ W).alloc lr_ _;refine (qhg _ _ _ R _ (Sh.In.fresh W R 215 _ rfl) hn2 eg fun i h W' hp hW'=>hf i h W' hp (ht_ hb hW')).mono ?_
 rintro e w' ⟨he,hw⟩;exact ⟨he,ht_ hb hw⟩
def cut37:BT:=[97,98,99,100,101,102,103,104,105,106,107,108,109,110,111,112,113,114,115,116,117,118,119,120,121,122,48,49,50,51,52,53,54,55,56,57,95]
theorem q44 (c:UInt8):cut37.contains c=nmC c:=by
 have h:∀ n:Fin 256,cut37.contains (UInt8.ofFin n)=nmC (UInt8.ofFin n):=by decide +kernel
 have:=h c.toFin
 simpa using this
theorem qt1 {s:BT}:(Lib.trimS s cut37=[])↔s.all nmC=true:=by
 unfold Lib.trimS Lib.trimLeftS Lib.trimRightS;rw [List.all_eq_true]
 constructor
 ·intro h c hc
  cases hd:nmC c with
  | true=>rfl
  | false =>
   have h1:c ∈ s.reverse.dropWhile (cut37.contains ·):=q69 (by simpa using hc) (by rw [q44];exact hd)
   have h2:c ∈ ((s.reverse.dropWhile (cut37.contains ·)).reverse).dropWhile (cut37.contains ·):=q69 (by simpa using h1) (by rw [q44];exact hd)
   rw [h] at h2;cases h2
 ·intro h
  have:s.reverse.dropWhile (cut37.contains ·)=[]:=q68 fun c hc=>by
   rw [q44];exact h c (by simpa using hc)
  rw [this];rfl
theorem qsx (s:ByteArray) (w:World) (hs:s.size≤9223372036854775807) :
  Rt 118 #[.string s,.string ⟨cut37.toArray⟩] w (.string ⟨(Lib.trimS s.data.toList cut37).toArray⟩) :=
 Any.strings_Trim_laid lays160 k_ s ⟨cut37.toArray⟩ w hs d_ (ascii_of_all d_)
theorem qet {s:ByteArray} {c:UInt8} {t:BT} (h:s.data.toList=c :: t):nmB s=(decide (t.length≤23) && lowB c && (c :: t).all nmC):=by
 unfold nmB;rw [h];simp only [List.length_cons,List.take_succ_cons,List.take_zero,List.all_cons,List.all_nil,Bool.and_true];rw [decide_eq_true o_,Bool.true_and]
 congr 2
 rw [decide_eq_decide];omega
theorem qi2 (s:ByteArray) (w:World) :
  Rt 152 #[.string s] w (.bool (nmB s)):=by
 have hB:=Below.refl w.heap.size w
 match hs:s.data.toList with
 | [] =>
  have e:s=⟨#[]⟩:=ByteArray.ext (Array.ext' hs);subst e;rw [show nmB ⟨#[]⟩=false from rfl]
  go_enter func152,ntmps152
  go_wp2;go_ret;exact ⟨rfl,hB⟩
 | c :: t =>
  have hz:s.size=t.length+1:=by
                     have:s.data.toList.length=s.size:=s_
                     rw [← this,hs];rfl
  rw [qet hs];have HT:=hj_ (fun w h=>qsx s w h)
  have hne:(s.toList == [])=false:=by
   rw [ByteArray.toList_eq,hs];rfl
  have hg:s.data[0]? = some c:=by
   have:s.data.toList[0]? = some c:=by rw [hs];rfl
   simpa using this
  have HS:=hj_ hs;clear hs
  by_cases h24:24<s.size
  ·have g24:(24:Int)<(s.size:Int):=by omega
   rw [decide_eq_false o_]
   clear hz
   go_enter func152,ntmps152
   go_wp2_with fail;go_ret;exact ⟨rfl,hB⟩
  ·have g24:¬ (24:Int)<(s.size:Int):=by omega
   rw [decide_eq_true o_,Bool.true_and]
   have h0:s[0]'o_=c:=by
    have:s.data[0]'(by show 0<s.size;omega)=c:=by
     have h1:=hg;rw [Array.getElem?_eq_getElem (by show 0<s.size;omega)] at h1
     exact Option.some.inj h1
    exact this
   by_cases h1:c.toNat<97
   ·have l1:((c.toNat:Nat):Int)<97:=by omega
    rw [show lowB c=false by unfold lowB;rw [decide_eq_false o_,Bool.false_and],Bool.false_and]
    go_enter func152,ntmps152
    go_wp2_with fail;go_ret;exact ⟨rfl,hB⟩
   ·by_cases h2:122<c.toNat
    ·have l1:¬ ((c.toNat:Nat):Int)<97:=by omega
     have l2:(122:Int)<((c.toNat:Nat):Int):=o_
     rw [show lowB c=false by unfold lowB;rw [decide_eq_false (p:=c.toNat≤122) o_,Bool.and_false],Bool.false_and]
     go_enter func152,ntmps152
     go_wp2_with fail;go_ret;exact ⟨rfl,hB⟩
    ·have l1:¬ ((c.toNat:Nat):Int)<97:=by omega
     have l2:¬ (122:Int)<((c.toNat:Nat):Int):=o_
     rw [show lowB c=true by unfold lowB;rw [decide_eq_true o_,decide_eq_true (p:=c.toNat≤122) o_];rfl,Bool.true_and]
     have HZ:=hj_ (fun w=>HT.out w o_)
     have hq:((⟨(Lib.trimS s.data.toList cut37).toArray⟩:ByteArray).toList == [])=(c :: t).all nmC:=by
      rw [ByteArray.toList_eq,Bool.eq_iff_iff,← HS.out,← qt1];simp
     generalize (⟨(Lib.trimS s.data.toList cut37).toArray⟩:ByteArray)=Z at *;generalize (c :: t).all nmC=B at *
     go_enter func152,ntmps152
     go_wp2_with (go_at_call 118;refine up_ (HZ.out _) hB fun wk hB=>?_);go_ret;exact ⟨rfl,hB⟩
theorem qi0 (v:Int) (w:World):Rt 312 #[.int .i64 v] w (.bool (decide (isLev v))):=by
 by_cases g1:0≤v
 ·by_cases g2:v≤65535
  ·rw [decide_eq_true (show isLev v from ⟨g1,g2⟩)]
   go_enter func312,ntmps312
   go_wp2;go_ret;exact ⟨rfl,br_⟩
  ·rw [decide_eq_false (show ¬ isLev v from fun h=>g2 h.2)]
   go_enter func312,ntmps312
   go_wp2;go_ret;exact ⟨rfl,br_⟩
 ·rw [decide_eq_false (show ¬ isLev v from fun h=>g1 h.1)]
  go_enter func312,ntmps312
  go_wp2;go_ret;exact ⟨rfl,br_⟩
theorem qnv (v:Int) (w:World):Calls prog 275 #[.int .i64 v] w fun e w'=>e=.returned (.int .i64 (topV v))∧w' = w:=by
 unfold topV
 by_cases g1:v=8
 ·rw [if_pos g1]
  subst g1
  go_enter func275,ntmps275
  go_wp2;go_ret;exact ⟨rfl,rfl⟩
 ·rw [if_neg g1]
  have g2:(v == 8)=false:=by simpa using g1
  go_enter func275,ntmps275
  go_wp2;go_ret;exact ⟨rfl,rfl⟩
theorem qh5 (A:Option Addr) (n c:Nat) (H:List Hd) (L:List (List PT)) (w:World) (hl:InN w A n H L) (hm:∀ h ∈ H,h.n≤9223372036854775807) :
  Rt 149 #[.slice A n c] w (.int .i64 (errA L)):=by
 obtain ⟨rfl,_⟩:=id hl.1;have HL:=hj_ hl;have HLen:=hj_ hl.2.1;have HM:=hj_ hm;have hB:=Below.refl w.heap.size w
 by_cases h16:16<H.length
 ·have e:errA L=5:=by unfold errA;rw [if_pos (by rw [← HLen.out];exact h16)]
  rw [e];have i1:(16:Int)<(H.length:Int):=o_
  clear hl hm e
  go_enter func149,ntmps149
  go_wp2_with fail;go_ret;exact ⟨rfl,hB⟩
 ·have eA:errA L=allE L:=by unfold errA;rw [if_neg (by rw [← HLen.out];exact h16)]
  have HEA:=hj_ eA;obtain ⟨E,hE⟩:=ex_ (errA L);rw [← hE];have HE:=hj_ hE;have i1:¬ (16:Int)<(H.length:Int):=o_
  clear hl hm hE eA
  go_enter func149,ntmps149
  go_wp2_with fail
  go_loopw [11] (fun iv wr=>∃ k:Nat,k≤H.length∧iv=.int .i64 k∧allE (L.drop k)=allE L∧Below w.heap.size w wr) (fun iv _=>H.length-(intOf iv).toNat)
  case atStart=>exact ⟨0,Nat.zero_le _,rfl,rfl,br_⟩
  case round =>
   obtain ⟨k,hk,rfl,hall,hBr⟩:=hrel;have HAll:=hj_ hall;clear hall
   by_cases hlt:k<H.length
   ·obtain ⟨b,o,rfl,hbl,hcell⟩:=hd_at HL.out.1 o_
    have hp:=hcell k hlt;have hk2:k<L.length:=by rw [← HLen.out];exact hlt
    have hq:=HL.out.2.2 k hlt hk2;have hp:=(hBr.cell (p:=⟨b,o+k,none⟩) hbl).trans hp;have hbw:b<wr.heap.size:=Nat.lt_of_lt_of_le hbl hBr.size;obtain ⟨s1,s2⟩:=q0d HAll.out hk2;have HS1:=hj_ s1;have HS2:=hj_ s2;have hm:=HM.out _ (List.getElem_mem hlt);have HC:=hj_ (fun (w:World) (hl:shP.In w H[k].A H[k].n L[k])=>q29 H[k].A H[k].n H[k].c L[k] w hl hm)
    have HQ:=hj_ (hq.below hBr);clear s1 s2 hq hm;generalize H[k].A=a at *;generalize H[k].n=m at *;generalize H[k].c=d at *;generalize chkC L[k]=q at *;generalize L[k]=cu at *;have HBr:=hj_ hBr;have hB:=Below.refl wr.heap.size wr;have i1:(k:Int)<(H.length:Int):=o_
    have i3:(0:Int)≤(k:Int):=o_
    clear hcell hBr hk2
    by_cases hq:q=0
    ·have HN2:=hj_ (HS2.out hq)
     subst hq;clear HS1 HS2;go_wp2_with fail;refine up_ (HC.out _ (HQ.out.below hB)) hB fun wk hB=>?_;go_wp2_with fail
     go_roundw
     case rel=>exact ⟨k+1,o_,by go_num,HN2.out,ht_ HBr.out hB⟩
     case measure=>simp [intOf];omega
    ·have eA:errA L=q:=HEA.out.trans (HS1.out hq)
     have hf:E=q:=HE.out.trans eA;subst hf;have g1:(E == 0)=false:=by simpa using hq
     have g2:(E != 0)=true:=by simpa using hq
     clear HS1 HS2 hq eA;go_wp2_with fail;refine up_ (HC.out _ (HQ.out.below hB)) hB fun wk hB=>?_;go_wp2_with fail;go_ret;exact ⟨rfl,ht_ HBr.out hB⟩
   ·obtain rfl:k=H.length:=by omega
    have eA:errA L=0:=HEA.out.trans (q0b HAll.out (by rw [HLen.out];omega))
    have hf:E=0:=HE.out.trans eA;subst hf;go_wp2_with fail;go_ret;exact ⟨rfl,hBr⟩
theorem qcx (s:ByteArray) (h:k<s.size):s.data.toList[k]'(by simpa using h)=s[k]:=rfl
theorem nm_bad {s:ByteArray} (h:k<s.size) (hb:nmC s[k]=false∨k=0∧lowB s[k]=false):nmB s=false:=by
 unfold nmB
 rcases hb with hb | ⟨rfl,hb⟩
 ·have:s.data.toList.all nmC=false:=by
   rw [List.all_eq_false];exact ⟨s.data.toList[k]'(by simpa using h),List.getElem_mem _,by rw [qcx s h,hb];simp⟩
  rw [this,Bool.and_false]
 ·have:(s.data.toList.take 1).all lowB=false:=by
   rw [List.all_eq_false];refine ⟨s[0],?_,by rw [hb];simp⟩
   cases hl:s.data.toList with
   | nil =>
    have h9:=q1y s;rw [hl] at h9;have h9:0=s.size:=h9;omega
   | cons x t =>
    have e:=qcx s (k:=0) h;simp only [hl] at e;rw [← e];simp
  rw [this,Bool.and_false,Bool.false_and]
theorem qes {s:ByteArray} (h:∀ j (h:j<s.size),nmC s[j]=true∧(j=0→lowB s[j]=true)):nmB s=(decide (1≤s.size) && decide (s.size≤24)):=by
 have hl:s.data.toList.length=s.size:=s_
 unfold nmB;have h1:s.data.toList.all nmC=true:=by
  rw [List.all_eq_true];intro x hx;obtain ⟨i,hi,rfl⟩:=List.getElem_of_mem hx;rw [qcx s (k:=i) o_]
  exact (h i o_).1
 have h2:(s.data.toList.take 1).all lowB=true:=by
  rw [List.all_eq_true];intro x hx;obtain ⟨i,hi,rfl⟩:=List.getElem_of_mem hx;rw [List.length_take] at hi;rw [List.getElem_take,qcx s (k:=i) o_]
  exact (h i o_).2 o_
 rw [h1,h2,hl];simp
theorem qml (s:ByteArray) (w:World) (hs:s.size≤9223372036854775807) :
  Rt 113 #[.string s] w (.bool (nmB s)):=by
 have hB:=Below.refl w.heap.size w;obtain ⟨E,hE⟩:=ex_ (nmB s);rw [← hE];have HE:=hj_ hE;clear hE
 go_enter func113,ntmps113
 go_wp2_with fail
 go_loopw [3] (fun iv wr=>∃ k:Nat,k≤s.size∧iv=.int .i64 k∧(∀ j (h:j<s.size),j<k→nmC s[j]=true∧(j=0→lowB s[j]=true))∧Below w.heap.size w wr) (fun iv _=>s.size-(intOf iv).toNat)
 case atStart=>exact ⟨0,Nat.zero_le _,rfl,fun j _ h=>absurd h (Nat.not_lt_zero _),br_⟩
 case round =>
  obtain ⟨k,hk,rfl,hall,hBr⟩:=hrel;have HAll:=hj_ hall;have HBr:=hj_ hBr;clear hall
  by_cases hlt:k<s.size
  ·have i0:(0:Int)≤(k:Int):=by omega
   have i1:(k:Int)<(s.size:Int):=o_
   have HK:=hj_ (show (nmC s[k]=false∨k=0∧lowB s[k]=false→E=false)∧(nmC s[k]=true→(k=0→lowB s[k]=true)→∀ j (h:j<s.size),j<k+1→nmC s[j]=true∧(j=0→lowB s[j]=true)) from
    ⟨fun h=>HE.out.trans (nm_bad hlt h),fun h1 h2 j hj hjk=>by
     rcases Nat.lt_or_eq_of_le (Nat.le_of_lt_succ hjk) with h3 | h3
     ·exact HAll.out j hj h3
     ·subst h3;exact ⟨h1,h2⟩⟩)
   obtain ⟨c,hc⟩:=xe_ (s[k]);rw [hc] at HK
   by_cases a1:97≤c.toNat∧c.toNat≤122
   ·have l1:(97:Int)≤((c.toNat:Nat):Int):=by omega
    have l2:((c.toNat:Nat):Int)≤122:=o_
    have hlow:lowB c=true:=by unfold lowB;rw [decide_eq_true a1.1,decide_eq_true a1.2];rfl
    have HN:=hj_ (HK.out.2 (by unfold nmC;rw [hlow];rfl) (fun _=>hlow))
    clear HK a1 hlow;go_wp2_with fail
    go_roundw
    case rel=>exact ⟨k+1,o_,by go_num,HN.out,HBr.out⟩
    case measure=>simp [intOf];omega
   ·have hlow:lowB c=false:=by
     unfold lowB
     by_cases h1:97≤c.toNat
     ·rw [decide_eq_false (p:=c.toNat≤122) (fun h2=>a1 ⟨h1,h2⟩),Bool.and_false]
     ·rw [decide_eq_false h1,Bool.false_and]
    have l1:(decide ((97:Int)≤((c.toNat:Nat):Int)) && decide (((c.toNat:Nat):Int)≤122))=false:=by
     rw [Bool.and_eq_false_iff,decide_eq_false_iff_not,decide_eq_false_iff_not];omega
    by_cases hk0:k=0
    ·have hf:E=false:=HK.out.1 (.inr ⟨hk0,hlow⟩)
     subst hk0 hf;clear HK
     by_cases l2:(97:Int)≤((c.toNat:Nat):Int)
     ·have l3:¬ ((c.toNat:Nat):Int)≤122:=by omega
      go_wp2_with fail;go_ret;exact ⟨rfl,HBr.out⟩
     ·go_wp2_with fail
      go_ret;exact ⟨rfl,HBr.out⟩
    ·have g0:((k:Int) == 0)=false:=by rw [beq_eq_false_iff_ne];omega
     have hnl:nmC c=(decide (c=95) || (decide (48≤c.toNat) && decide (c.toNat≤57))):=by unfold nmC;rw [hlow];simp
     by_cases h95:c=95
     ·subst h95
      have HN:=hj_ (HK.out.2 d_ (fun h=>absurd h hk0))
      clear HK hnl hlow l1 a1;go_wp2_with fail
      go_roundw
      case rel=>exact ⟨k+1,o_,by go_num,HN.out,HBr.out⟩
      case measure=>simp [intOf];omega
     ·have n95:(((c.toNat:Nat):Int) == 95)=false:=by
       rw [beq_eq_false_iff_ne];intro h;exact h95 (UInt8.toNat_inj.1 (by show c.toNat=95;omega))
      have m95:(((c.toNat:Nat):Int) != 95)=true:=by rw [bne,n95];rfl
      by_cases d1:48≤c.toNat∧c.toNat≤57
      ·have HN:=hj_ (HK.out.2 (by rw [hnl,decide_eq_true d1.1,decide_eq_true d1.2];simp) (fun h=>absurd h hk0))
       have l2:¬ (97:Int)≤((c.toNat:Nat):Int):=o_
       have l3:¬ ((c.toNat:Nat):Int)<48:=o_
       have l4:¬ (57:Int)<((c.toNat:Nat):Int):=o_
       clear HK hnl hlow l1 a1 d1;go_wp2_with fail
       go_roundw
       case rel=>exact ⟨k+1,o_,by go_num,HN.out,HBr.out⟩
       case measure=>simp [intOf];omega
      ·have hf:E=false:=HK.out.1 (.inl (by rw [hnl,decide_eq_false h95];simp;omega))
       subst hf;clear HK hnl hlow;have l5:(decide (((c.toNat:Nat):Int)<48) || decide ((57:Int)<((c.toNat:Nat):Int)))=true:=by simp;omega
       by_cases l2:(97:Int)≤((c.toNat:Nat):Int)
       ·have l3:¬ ((c.toNat:Nat):Int)≤122:=by omega
        have l4:(57:Int)<((c.toNat:Nat):Int):=o_
        have l6:¬ ((c.toNat:Nat):Int)<48:=o_
        go_wp2_with fail;go_ret;exact ⟨rfl,HBr.out⟩
       ·by_cases l3:((c.toNat:Nat):Int)<48
        ·go_wp2_with fail
         go_ret;exact ⟨rfl,HBr.out⟩
        ·have l4:(57:Int)<((c.toNat:Nat):Int):=by omega
         go_wp2_with fail;go_ret;exact ⟨rfl,HBr.out⟩
  ·obtain rfl:k=s.size:=by omega
   have hf:E=(decide (1≤s.size) && decide (s.size≤24)):=HE.out.trans (qes fun j hj=>HAll.out j hj hj)
   by_cases g1:1≤s.size
   ·have h1:(1:Int)≤(s.size:Int):=by omega
    by_cases g2:s.size≤24
    ·have h2:(s.size:Int)≤24:=by omega
     rw [decide_eq_true g1,decide_eq_true g2] at hf;subst hf;go_wp2_with fail;go_ret;exact ⟨rfl,HBr.out⟩
    ·have h2:¬ (s.size:Int)≤24:=by omega
     rw [decide_eq_true g1,decide_eq_false g2] at hf;subst hf;go_wp2_with fail;go_ret;exact ⟨rfl,HBr.out⟩
   ·have h1:¬ (1:Int)≤(s.size:Int):=by omega
    rw [decide_eq_false g1] at hf;subst hf;go_wp2_with fail;go_ret;exact ⟨rfl,HBr.out⟩
theorem q1w (a b:ByteArray):(a.toList == b.toList)=decide (a=b):=by
 rw [ByteArray.toList_eq,ByteArray.toList_eq,Bool.eq_iff_iff];simp only [beq_iff_eq,decide_eq_true_eq];exact ⟨fun h=>ByteArray.ext (Array.ext' h),fun h=>by rw [h]⟩
theorem ret_b {x y:Bool} (h:x=y):Ending.returned (.bool x)=Ending.returned (.bool y):=by rw [h]
theorem qbr (g:Nat) (cb:Array Value) (p:Slt→Bool) (A:Option Addr) (n c:Nat) (l:List Slt) (w:World) (eg:∀ args w,(callFunc g args).run prog w=.ok (.enter g args) w) (hl:shS.In w A n l) (hn:n≤9223372036854775807)
  (hf:∀ i (h:i<l.length) (W:World),Below w.heap.size w W→Calls prog g (#[.agg #[.string l[i].s,.int .i64 l[i].a,.int .i64 l[i].z]] ++ cb) W fun e w'=>e=.returned (.bool (p l[i]))∧Below W.heap.size W w') :
  Rt 355 #[.slice A n c,.func (.func g) #[] cb] w (.int .i64 (idxOf p l)):=by
 obtain ⟨rfl,_⟩:=id hl;have HL:=hj_ hl;have HF:=hj_ hf;have hB:=Below.refl w.heap.size w;obtain ⟨E,hE⟩:=ex_ (idxOf p l);rw [← hE];have HE:=hj_ hE;clear hl hf hE
 go_enter func355,ntmps355
 go_wp2_with fail
 go_loopw [8] (fun iv wr=>∃ k:Nat,k≤l.length∧iv=.int .i64 k∧(∀ j (h:j<l.length),j<k→p l[j]=false)∧Below w.heap.size w wr) (fun iv _=>l.length-(intOf iv).toNat)
 case atStart=>exact ⟨0,Nat.zero_le _,rfl,fun j _ h=>absurd h (Nat.not_lt_zero _),br_⟩
 case round =>
  obtain ⟨k,hk,rfl,hall,hBr⟩:=hrel;have HAll:=hj_ hall;clear hall
  by_cases hlt:k<l.length
  ·obtain ⟨b,o,rfl,hbl,hcell⟩:=sl_at HL.out o_
   obtain ⟨p0,p1,p2⟩:=hcell k hlt;have p0:=(hBr.cell (p:=⟨b,o+k*3,none⟩) hbl).trans p0;have p1:=(hBr.cell (p:=⟨b,o+k*3+1,none⟩) hbl).trans p1;have p2:=(hBr.cell (p:=⟨b,o+k*3+2,none⟩) hbl).trans p2;have hbw:b<wr.heap.size:=Nat.lt_of_lt_of_le hbl hBr.size;have hc:=HF.out k hlt wr hBr;have HY:=hj_ (show p l[k]=true→E=k from fun h=>HE.out.trans (qbd hlt (fun i hi=>HAll.out i o_ hi) h))
   have HN:=hj_ (show p l[k]=false→∀ j (h:j<l.length),j<k+1→p l[j]=false from fun h j hj hjk=>by
    rcases Nat.lt_or_eq_of_le (Nat.le_of_lt_succ hjk) with h1 | h1
    ·exact HAll.out j hj h1
    ·subst h1;exact h)
   clear hcell;have i0:(0:Int)≤(k:Int):=o_
   have i1:(k:Int)<(l.length:Int):=o_
   have HBr:=hj_ hBr;clear hBr;generalize l[k].s=xs at *;generalize l[k].a=xa at *;generalize l[k].z=xz at *
   cases hb:p l[k] with
   | true =>
    have hee:E=k:=HY.out hb;rw [hb] at hc;subst hee;clear hb;go_wp2_with (go_at_fn g;refine hc.mono ?_;rintro e w' ⟨rfl,hb⟩;have hB:=ht_ HBr.out hb);go_ret;exact ⟨rfl,hB⟩
   | false =>
    have hn1:=HN.out hb;have HN1:=hj_ hn1;rw [hb] at hc;clear hb hn1;go_wp2_with (go_at_fn g;refine hc.mono ?_;rintro e w' ⟨rfl,hb⟩;have hB:=ht_ HBr.out hb)
    go_roundw
    case rel=>exact ⟨k+1,o_,by go_num,HN1.out,hB⟩
    case measure=>simp [intOf];omega
  ·obtain rfl:k=l.length:=by omega
   have hE0:E=-1:=HE.out.trans (qbc fun i h=>HAll.out i h h)
   subst hE0;go_wp2_with fail;go_ret;exact ⟨rfl,hBr⟩
theorem qbe {α:Type} {p:α→Bool}:∀ (l:List α),decide (0≤idxOf p l)=l.any p
 | []=>rfl
 | a :: l=>by
  have ih:=qbe (p:=p) l;have hg:=qb9 (p:=p) l;rw [idxOf,List.any_cons]
  by_cases h:p a=true
  ·rw [if_pos h,h];rfl
  ·rw [if_neg h,Bool.not_eq_true] at *
   rw [h,Bool.false_or,← ih]
   split
   ·rw [decide_eq_decide];omega
   ·rw [decide_eq_decide];omega
theorem q3w (g:Nat) (cb:Array Value) (p:Slt→Bool) (A:Option Addr) (n c:Nat) (l:List Slt) (w:World) (eg:∀ args w,(callFunc g args).run prog w=.ok (.enter g args) w) (hl:shS.In w A n l) (hn:n≤9223372036854775807)
  (hf:∀ i (h:i<l.length) (W:World),Below w.heap.size w W→Calls prog g (#[.agg #[.string l[i].s,.int .i64 l[i].a,.int .i64 l[i].z]] ++ cb) W fun e w'=>e=.returned (.bool (p l[i]))∧Below W.heap.size W w') :
  Rt 339 #[.slice A n c,.func (.func g) #[] cb] w (.bool (l.any p)):=by
 have HI:=hj_ (qbr g cb p A n c l w eg hl hn hf);have hB:=Below.refl w.heap.size w;rw [← qbe];generalize idxOf p l=E at *;clear hf eg hl
 go_enter func339,ntmps339
 go_wp2_with fail;refine HI.out.mono ?_;rintro e wk ⟨rfl,hb⟩;go_wp2_with fail;go_ret;exact ⟨rfl,hb⟩
theorem qj5 (P:Nat) (s:ByteArray) (w:World) (c0:w.cell? ⟨P,0,none⟩=some (.string s)) :
  Rt 337 #[.pointer (some ⟨P,0,none⟩)] w (.bool (!nmB s)):=by
 have hB:=Below.refl w.heap.size w;have HN:=hj_ (fun w=>qi2 s w)
 generalize nmB s=b at *
 go_enter func337,ntmps337
 go_wp2_with (go_at_call 152;refine up_ (HN.out _) hB fun wk hB=>?_);go_ret;exact ⟨rfl,hB⟩
theorem qj6 (P:Nat) (s x:ByteArray) (a z:Int) (w:World) (hP:P<w.heap.size) (c0:w.cell? ⟨P,0,none⟩=some (.string s)) :
  Calls prog 340 (#[.agg #[.string x,.int .i64 a,.int .i64 z]] ++ #[.pointer (some ⟨P,0,none⟩)]) w fun e w'=>e=.returned (.bool (decide (x=s)))∧Below w.heap.size w w':=by
 have hB:Below w.heap.size w (w.alloc (.cells #[.string x,.int .i64 a,.int .i64 z] 361)):=(br_).alloc lr_ _;have hne:P≠w.heap.size:=o_
 rw [← q1w]
 go_enter func340,ntmps340
 go_wp2_with fail;go_ret;exact ⟨rfl,hB⟩
theorem Sh.In.take {α:Type} {S:Sh α} {A:Option Addr} {n:Nat} {l:List α} (h:S.In w A n l) (k:Nat) (hk:k≤n):S.In w A k (l.take k):=by
 obtain ⟨e,hl,hc⟩:=h;have hlen:(l.take k).length=k:=by rw [List.length_take];omega
 refine ⟨hlen.symm,by rw [S.vs_length,hlen],fun h0=>?_⟩
 obtain ⟨b,o,e1,hb,hat⟩:=hc o_
 refine ⟨b,o,e1,hb,fun j u hu=>hat j u ?_⟩
 have hj:j<(S.vs (l.take k)).length:=(List.getElem?_eq_some_iff.1 hu).1
 conv=>lhs;rw [← List.take_append_drop k l,S.vs_append]
 rw [List.getElem?_append_left hj];exact hu
theorem qj7 (Pl Pi Ps:Nat) (A:Option Addr) (n c k:Nat) (l:List Slt) (s:ByteArray) (w:World) (hPs:Ps<w.heap.size) (cl:w.cell? ⟨Pl,0,none⟩=some (.slice A n c)) (ci:w.cell? ⟨Pi,0,none⟩=some (.int .i64 k)) (cs:w.cell? ⟨Ps,0,none⟩=some (.string s))
  (hl:shS.In w A n l) (hk:k<n) (hc:n≤c∧c≤9223372036854775807) :
  Rt 338 #[.pointer (some ⟨Pl,0,none⟩),.pointer (some ⟨Pi,0,none⟩),.pointer (some ⟨Ps,0,none⟩)] w (.bool ((l.take k).any fun x=>decide (x.s=s))):=by
 obtain ⟨rfl,_⟩:=id hl;obtain ⟨b,o,rfl,hbl,_⟩:=sl_at hl o_
 have hB:=Below.refl w.heap.size w;have i0:(0:Int)≤(k:Int):=o_
 have i1:(k:Int)≤(c:Int):=o_
 have HT:=hj_ (hl.take k o_)
 have HC:=hj_ (fun c=>q3w 340 #[.pointer (some ⟨Ps,0,none⟩)] (fun x=>decide (x.s=s)) (some ⟨b,o,none⟩) k c (l.take k) w (enters_of func340 k_ rfl) HT.out o_
  (fun i h W hW=>qj6 Ps s _ _ _ W (Nat.lt_of_lt_of_le hPs hW.size) ((hW.cell (p:=⟨Ps,0,none⟩) hPs).trans cs)))
 generalize (l.take k).any (fun x=>decide (x.s=s))=B at *
 clear hk hc hl
 go_enter func338,ntmps338
 go_wp2_with fail;refine (HC.out _).mono ?_;rintro e wk ⟨rfl,hb⟩;go_wp2_with fail;go_ret;exact ⟨rfl,hb⟩
theorem wh3_eq (a z:Int):(!decide (isLev a) || !decide (isLev z) || decide (z<a))=decide (¬ (isLev a∧isLev z∧a≤z)):=by
 rw [Bool.eq_iff_iff];simp only [Bool.or_eq_true,Bool.not_eq_true',decide_eq_false_iff_not,decide_eq_true_eq];unfold isLev;omega
theorem qj8 (P:Nat) (a z:Int) (w:World) (hP:P<w.heap.size) (c1:w.cell? ⟨P,1,none⟩=some (.int .i64 a)) (c2:w.cell? ⟨P,2,none⟩=some (.int .i64 z)) :
  Rt 341 #[.pointer (some ⟨P,0,none⟩)] w (.bool (decide (¬ (isLev a∧isLev z∧a≤z)))):=by
 have hB:=Below.refl w.heap.size w;have HK:=hj_ (fun w' (h:Below w.heap.size w w')=>show w'.cell? ⟨P,1,none⟩=some (.int .i64 a)∧w'.cell? ⟨P,2,none⟩=some (.int .i64 z) from ⟨(h.cell (p:=⟨P,1,none⟩) hP).trans c1,(h.cell (p:=⟨P,2,none⟩) hP).trans c2⟩)
 rw [← wh3_eq];have HA:=hj_ (fun w=>qi0 a w)
 have HZ:=hj_ (fun w=>qi0 z w)
 by_cases ha:isLev a
 ·rw [decide_eq_true ha] at HA ⊢
  by_cases hz:isLev z
  ·rw [decide_eq_true hz] at HZ ⊢
   go_enter func341,ntmps341
   go_wp2_with (first | (go_at_call 312;with_reducible refine up_ (HA.out _) hB fun wk hB=>?_;obtain ⟨c1,c2⟩:=HK.out _ hB) | (go_at_call 312;with_reducible refine up_ (HZ.out _) hB fun wk hB=>?_;obtain ⟨c1,c2⟩:=HK.out _ hB))
   go_ret;exact ⟨ret_b s_,hB⟩
  ·rw [decide_eq_false hz] at HZ ⊢
   go_enter func341,ntmps341
   go_wp2_with (first | (go_at_call 312;with_reducible refine up_ (HA.out _) hB fun wk hB=>?_;obtain ⟨c1,c2⟩:=HK.out _ hB) | (go_at_call 312;with_reducible refine up_ (HZ.out _) hB fun wk hB=>?_;obtain ⟨c1,c2⟩:=HK.out _ hB))
   go_ret;exact ⟨ret_b s_,hB⟩
 ·rw [decide_eq_false ha] at HA ⊢
  go_enter func341,ntmps341
  go_wp2_with (first | (go_at_call 312;with_reducible refine up_ (HA.out _) hB fun wk hB=>?_;obtain ⟨c1,c2⟩:=HK.out _ hB) | (go_at_call 312;with_reducible refine up_ (HZ.out _) hB fun wk hB=>?_;obtain ⟨c1,c2⟩:=HK.out _ hB))
  go_ret;exact ⟨ret_b s_,hB⟩
theorem qj9 (Pi Ps Pl b o:Nat) (n c k:Nat) (l:List Slt) (a:Int) (w:World) (ci:w.cell? ⟨Pi,0,none⟩=some (.int .i64 k)) (cs:w.cell? ⟨Ps,1,none⟩=some (.int .i64 a)) (cl:w.cell? ⟨Pl,0,none⟩=some (.slice (some ⟨b,o,none⟩) n c))
  (hl:shS.In w (some ⟨b,o,none⟩) n l) (hk:k<n) (hn:n≤9223372036854775807) :
  Rt 342 #[.pointer (some ⟨Pi,0,none⟩),.pointer (some ⟨Ps,0,none⟩),.pointer (some ⟨Pl,0,none⟩)] w (.bool (decide (0<k∧a≤(l.getD (k-1) slt0).z))):=by
 obtain ⟨rfl,_⟩:=id hl;have hB:=Below.refl w.heap.size w
 rcases k with _ | j
 ·rw [decide_eq_false o_]
  go_enter func342,ntmps342
  go_wp2_with fail
  try go_quiet (fail)
  try go_wp2
  go_ret;exact ⟨rfl,bz_⟩
 ·obtain ⟨b',o',e,hbl,hcell⟩:=sl_at hl o_
  injection e with e
  injection e with e1 e2
  subst e1 e2;obtain ⟨-,-,q⟩:=hcell j o_
  rw [show decide (0<j+1∧a≤(l.getD (j+1-1) slt0).z)=decide (a≤(l[j]'o_).z) by rw [Nat.add_sub_cancel,qa1 (show j<l.length by omega)];simp]
  generalize (l[j]'o_).z=z at *
  have w1:IntKind.i64.wrap ((j:Int)+1-1)=(j:Int):=by rw [Int.add_sub_cancel];exact IntWalk.i64_in _ o_
  have w2:IntKind.i64.wrap (j:Int)=(j:Int):=IntWalk.i64_in _ o_
  have i0:(0:Int)≤(j:Int):=o_
  have i1:(j:Int)<(l.length:Int):=o_
  have i3:(0:Int)≤(j:Int)+1:=o_
  have hd:decide ((0:Int)<(j:Int)+1)=true:=by rw [decide_eq_true_eq];omega
  clear hcell hl
  go_enter func342,ntmps342
  go_wp2_with fail;go_quiet (fail);go_wp2;go_ret;exact ⟨rfl,bz_⟩
theorem qzj {l:List Slt} (hk:k<l.length) (g1 g2 g3 g4:Nat) (c1 c2 c3 c4:Array Value) :
  firstU [⟨g1,c1,8,!nmB l[k].s⟩,⟨g2,c2,7,(l.take k).any fun x=>decide (x.s=l[k].s)⟩,⟨g3,c3,2,decide (¬ (isLev l[k].a∧isLev l[k].z∧l[k].a≤l[k].z))⟩,⟨g4,c4,9,decide (0<k∧l[k].a≤(l.getD (k-1) slt0).z)⟩]=whE l k:=by
 unfold whE;rw [qa1 hk];simp only [firstU,Bool.not_eq_true',decide_eq_true_eq]
theorem q1q (wr:World) (k:Int) (s:ByteArray) (a z:Int) (W:World) (hW:(wr.alloc (.cells #[.int .i64 k] 3)).alloc (.cells #[.string s,.int .i64 a,.int .i64 z] 361)=W) :
  Below wr.heap.size wr W∧W.heap.size=wr.heap.size+1+1∧∀ w',Below W.heap.size W w'→w'.cell? ⟨wr.heap.size,0,none⟩=some (.int .i64 k)∧w'.cell? ⟨wr.heap.size+1,0,none⟩=some (.string s)∧w'.cell? ⟨wr.heap.size+1,1,none⟩=some (.int .i64 a)∧w'.cell? ⟨wr.heap.size+1,2,none⟩=some (.int .i64 z):=by
 obtain ⟨W1,h1⟩:=xe_ (wr.alloc (.cells #[.int .i64 k] 3));rw [h1] at hW;have s1:W1.heap.size=wr.heap.size+1:=by rw [← h1];simp
 have s2:W.heap.size=wr.heap.size+1+1:=by rw [← hW,← s1];simp
 have b1:Below wr.heap.size wr W1:=by rw [← h1];exact (br_).alloc lr_ _
 have b2:Below W1.heap.size W1 W:=by rw [← hW];exact (br_).alloc lr_ _
 refine ⟨ht_ b1 b2,s2,fun w' h=>?_⟩
 have e1:W1.cell? ⟨wr.heap.size,0,none⟩=some (.int .i64 k):=by rw [← h1,World.cell?_alloc_new];rfl
 have e2:∀ j u,#[Value.string s,.int .i64 a,.int .i64 z][j]? = some u→w'.cell? ⟨wr.heap.size+1,j,none⟩=some u:=fun j u hu=>by
  rw [← s1];refine (h.cell (p:=⟨W1.heap.size,j,none⟩) (show W1.heap.size<W.heap.size by omega)).trans ?_
  rw [← hW,World.cell?_alloc_new];exact hu
 exact ⟨(ht_ b2 h |>.cell (p:=⟨wr.heap.size,0,none⟩) (show wr.heap.size<W1.heap.size by omega)).trans e1,e2 0 _ rfl,e2 1 _ rfl,e2 2 _ rfl⟩
theorem qja (A:Option Addr) (n c:Nat) (l:List Slt) (w:World) (hl:shS.In w A n l) (hc:n≤c∧c≤9223372036854775807) :
  Rt 314 #[.slice A n c] w (.int .i64 (wheelE l)):=by
 obtain ⟨rfl,_⟩:=id hl;obtain ⟨W0,hW0⟩:=ex_ (w.alloc (.cells #[.slice A l.length c] 112));have hb0:Below w.heap.size w W0:=by rw [hW0];exact (Below.refl _ w).alloc lr_ _
 have hlt0:w.heap.size<W0.heap.size:=by rw [hW0];simp
 have cl0:W0.cell? ⟨w.heap.size,0,none⟩=some (.slice A l.length c):=by rw [hW0,World.cell?_alloc_new];rfl
 have HW0:=hj_ hW0;have HB0:=hj_ hb0;have HLt0:=hj_ hlt0;have HCl:=hj_ (fun w' (h:Below W0.heap.size W0 w')=>(h.cell (p:=⟨w.heap.size,0,none⟩) hlt0).trans cl0)
 have HL:=hj_ (hl.below hb0);have HC:=hj_ hc;have hB:=Below.refl W0.heap.size W0;obtain ⟨E,hE⟩:=ex_ (wheelE l);rw [← hE];have HE:=hj_ hE;clear hl hE hc hb0 hW0
 by_cases h16:16<l.length
 ·have e:E=5:=HE.out.trans (by unfold wheelE;rw [if_pos h16])
  subst e;have i1:(16:Int)<(l.length:Int):=o_
  go_enter func314,ntmps314
  go_wp2_with fail;go_ret;exact ⟨rfl,(Below.refl _ w).alloc lr_ _⟩
 ·have i1:¬ (16:Int)<(l.length:Int):=by omega
  have hEF:E=firstE (whE l) l.length:=HE.out.trans (by unfold wheelE;rw [if_neg h16])
  have HEF:=hj_ hEF;have h16':l.length≤16:=o_
  clear hEF HE h16 hlt0 cl0 hB
  go_enter func314,ntmps314
  go_wp2_with fail;rw [← HW0.out]
  go_loopw [11] (fun iv wr=>∃ k:Nat,k≤l.length∧iv=.int .i64 k∧(∀ j,j<k→whE l j=0)∧Below W0.heap.size W0 wr) (fun iv _=>l.length-(intOf iv).toNat)
  case atStart=>exact ⟨0,Nat.zero_le _,rfl,fun j h=>absurd h (Nat.not_lt_zero _),br_⟩
  case round =>
   obtain ⟨k,hk,rfl,hall,hBr⟩:=hrel;have HAll:=hj_ hall;clear hall
   by_cases hlt:k<l.length
   ·obtain ⟨b,o,rfl,hbl,hcell⟩:=sl_at HL.out o_
    obtain ⟨p0,p1,p2⟩:=hcell k hlt;have p0:=(hBr.cell (p:=⟨b,o+k*3,none⟩) hbl).trans p0;have p1:=(hBr.cell (p:=⟨b,o+k*3+1,none⟩) hbl).trans p1;have p2:=(hBr.cell (p:=⟨b,o+k*3+2,none⟩) hbl).trans p2;have hbw:b<wr.heap.size:=Nat.lt_of_lt_of_le hbl hBr.size;have c9:=HCl.out wr hBr;have HR:=hj_ (fun c1 c2 c3 c4=>qzj hlt 337 338 341 342 c1 c2 c3 c4)
    have HY:=hj_ (show whE l k≠0→E=whE l k from fun h=>HEF.out.trans (q87 HAll.out h hlt))
    have HN:=hj_ (show whE l k=0→∀ j,j<k+1→whE l j=0 from fun h=>q88 HAll.out h)
    have i0:(0:Int)≤(k:Int):=o_
    have i2:(k:Int)<(l.length:Int):=o_
    clear hcell;generalize whE l k=q at *;generalize l[k].s=S at *;generalize l[k].a=X at *;generalize l[k].z=Z at *;obtain ⟨W,hW⟩:=xe_ ((wr.alloc (.cells #[.int .i64 k] 3)).alloc (.cells #[.string S,.int .i64 X,.int .i64 Z] 361));obtain ⟨hbW,hsW,hkW⟩:=q1q wr k S X Z W hW;have h0W:Below W0.heap.size W0 W:=ht_ hBr hbW;have HKW:=hj_ hkW;have H0W:=hj_ h0W;have HsW:=hj_ hsW;have HW:=hj_ hW.symm;have HBr:=hj_ hBr;have HF:=hj_ (qhh
     [⟨337,#[.pointer (some ⟨wr.heap.size+1,0,none⟩)],8,!nmB S⟩,⟨338,#[.pointer (some ⟨w.heap.size,0,none⟩),.pointer (some ⟨wr.heap.size,0,none⟩),.pointer (some ⟨wr.heap.size+1,0,none⟩)],7,(l.take k).any fun x=>decide (x.s=S)⟩,⟨341,#[.pointer (some ⟨wr.heap.size+1,0,none⟩)],2,decide (¬ (isLev X∧isLev Z∧X≤Z))⟩,⟨342,#[.pointer (some ⟨wr.heap.size,0,none⟩),.pointer (some ⟨wr.heap.size+1,0,none⟩),.pointer (some ⟨w.heap.size,0,none⟩)],9,decide (0<k∧X≤(l.getD (k-1) slt0).z)⟩]
     4 W rfl d_
     (fun i h args w=>by
      match i,h with
      | 0,_=>exact enters_of func337 k_ rfl args w
      | 1,_=>exact enters_of func338 k_ rfl args w
      | 2,_=>exact enters_of func341 k_ rfl args w
      | 3,_=>exact enters_of func342 k_ rfl args w)
     (fun i h W' _ hb=>by
      have h0:=ht_ H0W.out hb;obtain ⟨ci,cs,ca,cz⟩:=HKW.out W' hb;have cl:=HCl.out W' h0;have hPs:wr.heap.size+1<W'.heap.size:=by have:=hb.size;have:=HsW.out;omega
      have hlW:=HL.out.below h0
      match i,h with
      | 0,_=>exact qj5 _ S W' cs
      | 1,_=>exact qj7 _ _ _ _ l.length c k l S W' hPs cl ci cs hlW hlt HC.out
      | 2,_=>exact qj8 _ X Z W' hPs ca cz
      | 3,_=>exact qj9 _ _ _ b o l.length c k l X W' ci ca cl hlW hlt (oh_ HC.out)))
    rw [HR.out] at HF;clear HR hW hbW hkW hBr h0W
    by_cases hq:q=0
    ·have HN2:=hj_ (HN.out hq)
     subst hq;clear HY HN;go_wp2_with fail;rw [← HW.out,← HsW.out];refine HF.out.mono ?_;rintro e wk ⟨rfl,hb⟩;have hB:=ht_ H0W.out hb;clear hb;go_wp2_with fail
     go_roundw
     case rel=>exact ⟨k+1,o_,by go_num,HN2.out,hB⟩
     case measure=>simp [intOf];omega
    ·have hf:=HY.out hq
     subst hf;have g1:(E == 0)=false:=by simpa using hq
     have g2:(E != 0)=true:=by simpa using hq
     clear HY HN hq;go_wp2_with fail;rw [← HW.out,← HsW.out];refine HF.out.mono ?_;rintro e wk ⟨rfl,hb⟩;have hB:=ht_ H0W.out hb;clear hb;go_wp2_with fail;go_ret;exact ⟨rfl,ht_ HB0.out hB⟩
   ·obtain rfl:k=l.length:=by omega
    have hf:E=0:=HEF.out.trans (q86 HAll.out);subst hf;go_wp2_with fail;go_ret;exact ⟨rfl,ht_ HB0.out hBr⟩
end Go.Proofs.YtabhjdmmfdfpeaaGreatDoor
