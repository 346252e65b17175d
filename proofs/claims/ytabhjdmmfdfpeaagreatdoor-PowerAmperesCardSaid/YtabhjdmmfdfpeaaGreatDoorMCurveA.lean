/- Lemmas. -/
import Derived.Test.YtabhjdmmfdfpeaaGreatDoorMLevB
namespace Go.Proofs.YtabhjdmmfdfpeaaGreatDoor
set_option maxHeartbeats 32000000

section
open Go.RowKit
def shP:Sh PT:=⟨2,fun q=>[.int .i64 q.1,.int .i64 q.2],fun _=>rfl,fun a=>by simp;exact ⟨rfl,rfl⟩⟩
theorem pt_at {w:World} {A:Option Addr} {n:Nat} {l:List PT} (h:shP.In w A n l) (h0:0<l.length) :
  ∃ b o,A=some ⟨b,o,none⟩∧b<w.heap.size∧∀ k (hk:k<l.length),w.cell? ⟨b,o+k*2,none⟩=some (.int .i64 l[k].1)∧w.cell? ⟨b,o+k*2+1,none⟩=some (.int .i64 l[k].2):=by
 obtain ⟨b,o,e,hb,hc⟩:=h.at_ h0
 exact ⟨b,o,e,hb,fun k hk=>⟨hc k hk 0 _ (by decide) rfl,hc k hk 1 _ (by decide) rfl⟩⟩
theorem qiz {w w':World} {b o:Nat} {v0 v1:Value} (hb:b<w.heap.size) (h:w.cell? ⟨b,o,none⟩=some v0∧w.cell? ⟨b,o+1,none⟩=some v1) (hB:Below w.heap.size w w') :
  w'.cell? ⟨b,o,none⟩=some v0∧w'.cell? ⟨b,o+1,none⟩=some v1:=by
 obtain ⟨hcc,_⟩:=bcell hB;exact ⟨(hcc _ _ hb).trans h.1,(hcc _ _ hb).trans h.2⟩
theorem qj0 {w w':World} {b:Nat} {v0 v1:Value} (hb:b<w.heap.size) (h:w.cell? ⟨b,0,none⟩=some v0∧w.cell? ⟨b,1,none⟩=some v1) (hB:Below w.heap.size w w') :
  w'.cell? ⟨b,0,none⟩=some v0∧w'.cell? ⟨b,1,none⟩=some v1:=qiz (o:=0) hb h hB
theorem qiy (w:World) (x y:Int) (t:TypeId):(w.alloc (.cells #[.int .i64 x,.int .i64 y] t)).cell? ⟨w.heap.size,0,none⟩=some (.int .i64 x)∧(w.alloc (.cells #[.int .i64 x,.int .i64 y] t)).cell? ⟨w.heap.size,1,none⟩=some (.int .i64 y):=by
 rw [World.cell?_alloc_new,World.cell?_alloc_new];exact ⟨rfl,rfl⟩
def prvX (l:List PT) (k:Nat):Int:=if k=0 then -1 else (l.getD (k-1) (0,0)).1
theorem qiw {l:List PT} {j:Nat} (h:j<l.length):prvX l (j+1)=l[j].1:=by
 unfold prvX;rw [if_neg (by omega),Nat.add_sub_cancel]
 simp [List.getD,h]
def ScA (l:List PT) (k:Nat):Prop:=scanC (prvX l k) (l.drop k)=scanC (-1) l
theorem qor (l:List PT):ScA l 0:=rfl
theorem qoq {l:List PT} {k:Nat} (h:ScA l k) (hk:k<l.length) :
  (¬ (isLev l[k].1∧isLev l[k].2)→scanC (-1) l=2)∧(isLev l[k].1∧isLev l[k].2→l[k].1≤prvX l k→scanC (-1) l=9)∧(isLev l[k].1∧isLev l[k].2→¬ l[k].1≤prvX l k→ScA l (k+1)):=by
 unfold ScA at h;rw [List.drop_eq_getElem_cons hk,scanC] at h;refine ⟨fun h1=>?_,fun h1 h2=>?_,fun h1 h2=>?_⟩
 ·rw [← h,if_pos h1]
 ·rw [← h,if_neg (fun hn=>hn h1),if_pos h2]
 ·rw [if_neg (fun hn=>hn h1),if_neg h2] at h
  unfold ScA;rw [qiw hk];exact h
theorem qop {l:List PT} {k:Nat} (h:ScA l k) (hk:¬ k<l.length):scanC (-1) l=0:=by
 unfold ScA at h;rw [List.drop_eq_nil_of_le (by omega)] at h
 rw [← h];rfl
theorem qix {l:List PT} (x:Int) (h:isLev x):¬ x≤prvX l 0:=by
 unfold isLev at h
 have:prvX l 0=-1:=rfl
 omega
theorem q2u {l:List PT} (h2:¬ l.length<2) (h16:¬ 16<l.length):(scanC (-1) l≠0→chkC l=scanC (-1) l)∧(scanC (-1) l=0→chkC l=if (l[0]'(by omega)).1≠0∨(l[l.length-1]'(by omega)).1≠65535 then 14 else 0):=by
 unfold chkC;rw [if_neg h2,if_neg h16];refine ⟨fun h=>by rw [if_pos h],fun h=>?_⟩
 rw [if_neg (by simpa using h),q8d (by omega),qcm (by omega)]
theorem OkC.place {c:List PT} (h:OkC c) {r:Rat} (h0:0≤r) {i:Nat} (hi:i+1<c.length) (hlow:∀ j (hj:j<c.length),0<j→j<i+1→(c[j].1:Rat)<r) (hup:r≤(c[i+1].1:Rat)) :
  ((c[i]'(by omega)).1:Rat)≤r∧valC c r=segR (c[i]'(by omega)) c[i+1] r∧(c[i]'(by omega)).1<c[i+1].1:=by
 have hlo:((c[i]'(by omega)).1:Rat)≤r:=by
  rcases i with _ | i
  ·have e:=h.first
   rw [q8d (by omega)] at e
   rw [e];exact h0
  ·exact Rat.le_of_lt (hlow _ (by omega) (by omega) (by omega))
 exact ⟨hlo,qyx h.up hi hlo hup,qyc hi h.up⟩
theorem OkC.inX {c:List PT} (h:OkC c) {i:Nat} (hi:i<c.length):0≤c[i].1∧c[i].1≤65535∧0≤c[i].2∧c[i].2≤65535:=by
 obtain ⟨a,b⟩:=up_lev hi h.up;exact ⟨a.1,a.2,b.1,b.2⟩
theorem OkC.first_at {c:List PT} (h:OkC c):(c[0]'(by have:=h.two;omega)).1=0:=by
 have e:=h.first
 rwa [q8d (by have:=h.two;omega)] at e
theorem OkC.mono_at {c:List PT} (h:OkC c) {i j:Nat} (hij:i≤j) (hj:j<c.length):(c[i]'(by omega)).1≤c[j].1:=by
 induction j with
 | zero =>
      obtain rfl:i=0:=by omega
      exact Int.le_refl _
 | succ j ih =>
  by_cases e:i=j+1
  ·subst e;exact Int.le_refl _
  ·exact Int.le_trans (ih (by omega) (by omega)) (Int.le_of_lt (qyc hj h.up))
theorem seg_sz {k:Nat} {a b:PT} {r:Rat} (hz:SzR k r) (a0:isLev a.1∧isLev a.2) (b0:isLev b.1∧isLev b.2) (hab:a.1<b.1) :
  SzR 5 (a.1:Rat)∧SzR 5 (a.2:Rat)∧SzR 5 (b.2:Rat)∧SzR 5 ((b.1-a.1:Int):Rat)∧((b.1-a.1:Int):Rat)≠0∧SzR (k+5+1) (r-(a.1:Rat)):=by
 unfold isLev at a0 b0;have ha:SzR 5 (a.1:Rat):=SzR.int (by omega) (by decide)
 refine ⟨ha,SzR.int (by omega) (by decide),SzR.int (by omega) (by decide),SzR.int (by omega) (by decide),?_,hz.sub ha⟩
 have:=q27 (show 0<b.1-a.1 by omega)
 grind
end

section
open Go.RowKit
theorem qa3 {l:List PT} {k:Nat} (h:k<l.length):l.getD k (0,0)=l[k]:=by simp [List.getD,h]
def errC (l:List PT) (s:ByteArray):Int:=if chkC l≠0 then chkC l else errLv s.data.toList
def atC (l:List PT) (s:ByteArray):ByteArray:=if errC l s≠0 then ⟨#[]⟩ else sR (valC l (valR s.data.toList))
def allE:List (List PT)→Int
 | []=>0
 | c :: r=>if chkC c≠0 then chkC c else allE r
def errA (L:List (List PT)):Int:=if 16<L.length then 5 else allE L
theorem q0c {L:List (List PT)} (h:allE L=0):∀ c ∈ L,OkC c:=by
 induction L with
 | nil=>intro c hc;cases hc
 | cons d r ih =>
  rw [allE] at h
  by_cases h1:chkC d≠0
  ·rw [if_pos h1] at h;exact absurd h h1
  ·rw [if_neg h1] at h
   intro c hc
   rcases List.mem_cons.1 hc with rfl | hc
   ·exact q2t.1 (Classical.not_not.1 h1)
   ·exact ih h c hc
theorem q0d {L:List (List PT)} {k:Nat} (h:allE (L.drop k)=allE L) (hk:k<L.length):(chkC L[k]≠0→allE L=chkC L[k])∧(chkC L[k]=0→allE (L.drop (k+1))=allE L):=by
 rw [List.drop_eq_getElem_cons hk,allE] at h;refine ⟨fun h1=>?_,fun h1=>?_⟩
 ·rw [← h,if_pos h1]
 ·rw [if_neg (fun hn=>hn h1)] at h;exact h
theorem q0b {L:List (List PT)} {k:Nat} (h:allE (L.drop k)=allE L) (hk:¬ k<L.length):allE L=0:=by
 rw [← h,List.drop_eq_nil_of_le (by omega)];rfl
theorem OkC.val_sz {c:List PT} (h:OkC c) {k:Nat} {r:Rat} (hz:SzR k r) (hr:InL r):SzR (k+28) (valC c r):=by
 obtain ⟨i,hi,h2,h3,e,hs⟩:=h.seg hr.1 hr.2;obtain ⟨z1,z2,z3,z4,z5,z6⟩:=seg_sz hz (up_lev (i:=i) (by omega) h.up) (up_lev hi h.up) hs
 rw [e]
 have:=z2.mix z3 (z6.div z4 z5)
 exact this.up (by omega)
end

section
open Go.RowKit
def qqw:List PT:=[(0,0),(65535,65535)]
end

section
open Go.RowKit
end

section
open Go.RowKit
theorem OkC.lt_at {c:List PT} (h:OkC c) {i j:Nat} (hij:i<j) (hj:j<c.length):(c[i]'(by omega)).1<c[j].1:=by
 obtain ⟨j,rfl⟩:∃ k,j=k+1:=⟨j-1,by omega⟩
 exact Int.lt_of_le_of_lt (h.mono_at (i:=i) (j:=j) (by omega) (by omega)) (qyc hj h.up)
theorem qth (w:World) (x y x2 y2:Int) (W:World) (hW:((w.alloc (.cells #[.int .i64 x,.int .i64 y] 211)).alloc (.cells #[.int .i64 x2,.int .i64 y2] 211)).drew=W) :
  Below w.heap.size w W∧∀ w',Below W.heap.size W w'→(w'.cell? ⟨w.heap.size,0,none⟩=some (.int .i64 x)∧w'.cell? ⟨w.heap.size,1,none⟩=some (.int .i64 y))∧(w'.cell? ⟨w.heap.size+1,0,none⟩=some (.int .i64 x2)∧w'.cell? ⟨w.heap.size+1,1,none⟩=some (.int .i64 y2)):=by
 have hb1:Below w.heap.size w (w.alloc (.cells #[.int .i64 x,.int .i64 y] 211)):=(Below.refl _ w).alloc (Nat.le_refl _) _;have hs:W.heap.size=w.heap.size+1+1:=by rw [← hW];simp [World.drew]
 have k1:W.cell? ⟨w.heap.size,0,none⟩=some (.int .i64 x)∧W.cell? ⟨w.heap.size,1,none⟩=some (.int .i64 y):=by
  have hk:=(Below.refl (w.alloc (.cells #[.int .i64 x,.int .i64 y] 211)).heap.size (w.alloc (.cells #[.int .i64 x,.int .i64 y] 211))).alloc (Nat.le_refl _) (.cells #[.int .i64 x2,.int .i64 y2] 211);rw [← hW];exact qj0 (by simp) (qiy w x y 211) hk.drew
 have k2:W.cell? ⟨w.heap.size+1,0,none⟩=some (.int .i64 x2)∧W.cell? ⟨w.heap.size+1,1,none⟩=some (.int .i64 y2):=by
  rw [← hW];show (World.alloc _ _).cell? _=_∧(World.alloc _ _).cell? _=_
  rw [World.cell?_alloc_at _ _ _ _ (by simp),World.cell?_alloc_at _ _ _ _ (by simp)]
  exact ⟨rfl,rfl⟩
 refine ⟨by rw [← hW];exact (hb1.alloc hb1.size _).drew,fun w' h=>⟨qj0 (by omega) k1 h,qj0 (by omega) k2 h⟩⟩
theorem OkC.first_up {c:List PT} (h:OkC c) {r:Rat} (hr:InL r):∃ m,∃ _:m<c.length,(∀ t (ht:t<c.length),t<m→((c[t].1:Int):Rat)<r)∧(∀ t (ht:t<c.length),m≤t→r≤((c[t].1:Int):Rat)):=by
 obtain ⟨i,hi,h2,h3,-,hs⟩:=h.seg hr.1 hr.2
 by_cases h4:r≤(((c[i]'(by omega)).1:Int):Rat)
 ·refine ⟨i,by omega,fun t ht hlt=>?_,fun t ht hle=>?_⟩
  ·have:=q26.2 (h.lt_at hlt (show i<c.length by omega))
   grind
  ·have:=q24.2 (h.mono_at hle ht)
   grind
 ·refine ⟨i+1,hi,fun t ht hlt=>?_,fun t ht hle=>?_⟩
  ·have:=q24.2 (h.mono_at (i:=t) (j:=i) (by omega) (by omega))
   have:=Rat.not_le.1 h4
   grind
  ·have:=q24.2 (h.mono_at hle ht)
   grind
end

section
open Go.RowKit
end

section
open Go.RowKit
end

section
open Go.RowKit
end

end Go.Proofs.YtabhjdmmfdfpeaaGreatDoor
