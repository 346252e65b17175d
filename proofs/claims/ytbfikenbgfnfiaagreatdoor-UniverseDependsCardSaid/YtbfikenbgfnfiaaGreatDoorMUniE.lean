/- Lemmas and contracts of functions, joined for the claim: UDiff, UDiff2, URef13, URef13b, URef13c, UOpen. -/
import Derived.Test.YtbfikenbgfnfiaaGreatDoorMUniD
import Derived.Test.YtbfikenbgfnfiaaGreatDoorMUniA
import Derived.Test.YtbfikenbgfnfiaaGreatDoorMOpen
import Derived.Test.YtbfikenbgfnfiaaGreatDoorMProE
import Derived.Test.YtbfikenbgfnfiaaGreatDoorMProA
import Derived.Test.YtbfikenbgfnfiaaGreatDoorMUp
namespace Go.Proofs.YtbfikenbgfnfiaaGreatDoor
set_option maxHeartbeats 32000000
open _root_.Go.Proofs.Tryz

section
open Go.RowKit
theorem infoCg:(prog.info? 52).map (fun i=>(i.zero,i.size,i.bytes))=some (some (.agg #[.int .i64 0,.int .i64 0,.int .i64 0]),3,24):=by kernel_rfl
theorem cg_one (x y z:Int):∀ u ∈ [Value.int .i64 x,.int .i64 y,.int .i64 z],u.oneCell' = true:=by simp;exact ⟨rfl,rfl,rfl⟩
def Fm.at_ (f:Fm) (k:Nat):UInt8:=f.sl.data.toList.getD k 0
def difR (f g:Fm):Nat→List Cg
 | 0=>[]
 | k+1=>difR f g k ++ (if g.at_ k=f.at_ k then [] else [⟨f.un,(k:Int)+1,((g.at_ k).toNat:Int)⟩])
def difA (a b:List Fm):Nat→List Cg
 | 0=>[]
 | i+1=>difA a b i ++ difR (a.getD i fm0) (b.getD i fm0) 512
theorem q5c (f g:Fm):∀ k,(difR f g k).length≤k
 | 0=>Nat.le_refl _
 | k+1=>by
  have:=q5c f g k
  rw [difR,List.length_append]
  by_cases h:g.at_ k=f.at_ k
  ·rw [if_pos h];simp;omega
  ·rw [if_neg h];simp;omega
theorem q59 (a b:List Fm):∀ i,(difA a b i).length≤512*i
 | 0=>Nat.le_refl _
 | i+1=>by
  have h1:=q59 a b i;have h2:=q5c (a.getD i fm0) (b.getD i fm0) 512;rw [difA,List.length_append];omega
def eqU (a b:List Fm):Bool:=decide (a.length=b.length) && (List.range a.length).all fun i=>decide ((a.getD i fm0).un=(b.getD i fm0).un)
def chgE (a b:List Fm):Int:=if rightE a≠0 then rightE a else if rightE b≠0 then rightE b else if eqU a b=false then 14 else 0
def chgV (a b:List Fm):List Cg:=if chgE a b≠0 then [] else difA a b a.length
theorem q6w {a b:List Fm} (hl:a.length=b.length) (h:∀ i,i<a.length→(a.getD i fm0).un=(b.getD i fm0).un):eqU a b=true:=by
 unfold eqU;rw [decide_eq_true hl,Bool.true_and,List.all_eq_true];intro i hi;exact decide_eq_true (h i (List.mem_range.1 hi))
theorem eqU_no {a b:List Fm} {i:Nat} (hi:i<a.length) (h:¬ (a.getD i fm0).un=(b.getD i fm0).un):eqU a b=false:=by
 unfold eqU;rw [Bool.and_eq_false_iff];refine .inr ?_;rw [List.all_eq_false];exact ⟨i,List.mem_range.2 hi,by simpa using h⟩
theorem q6u {a b:List Fm} (h:eqU a b=true):a.length=b.length:=by
 unfold eqU at h;exact of_decide_eq_true (Bool.and_eq_true_iff.1 h).1
theorem qtt (u v:Int) (s t:ByteArray) (w:World) :
  Calls prog 67 #[.agg #[.int .i64 u,.string s],.agg #[.int .i64 v,.string t]] w fun e w'=>e=.returned (.bool (u == v))∧Below w.heap.size w w':=by
 obtain ⟨W,hW⟩:∃ W,W=((w.alloc (.cells #[.int .i64 u,.string s] 66)).alloc (.cells #[.int .i64 v,.string t] 66)):=⟨_,rfl⟩;obtain ⟨hB0,hK0⟩:=box2 #[.int .i64 u,.string s] 66 #[.int .i64 v,.string t] 66 w W hW;have hK:∀ w',Below W.heap.size W w'→w'.cell? ⟨w.heap.size,0,none⟩=some (.int .i64 u)∧w'.cell? ⟨w.heap.size,1,none⟩=some (.string s)∧w'.cell? ⟨w.heap.size+1,0,none⟩=some (.int .i64 v)∧w'.cell? ⟨w.heap.size+1,1,none⟩=some (.string t):=fun w' h=>⟨(hK0 w' h).1 0 _ rfl,(hK0 w' h).1 1 _ rfl,(hK0 w' h).2 0 _ rfl,(hK0 w' h).2 1 _ rfl⟩
 have HK:=Lib.hid hK;have HW:=Lib.hid hW;have HB0:=Lib.hid hB0;have hB:=Below.refl W.heap.size W;obtain ⟨c0,c1,c2,c3⟩:=hK W hB;clear hW hB0 hK hK0
 go_enter func67,ntmps67
 go_wp2_with fail;rw [← HW.out];go_wp2_with fail;go_ret;exact ⟨rfl,HB0.out⟩
set_option maxRecDepth 100000 in
theorem qtx (A:Option Addr) (n c:Nat) (A':Option Addr) (n' c':Nat) (a b:List Fm) (w:World) (ha:shFm.In w A n a) (hb:shFm.In w A' n' b) (hn:n≤9223372036854775806) (hn':n'≤9223372036854775806) :
  Calls prog 66 #[.slice A n c,.slice A' n' c',.func (.func 67) #[] #[]] w fun e w'=>e=.returned (.bool (eqU a b))∧Below w.heap.size w w':=by
 obtain ⟨rfl,_⟩:=id ha;obtain ⟨rfl,_⟩:=id hb;have hB:=Below.refl w.heap.size w;have HA:=Lib.hid ha;have HBb:=Lib.hid hb;have HC:=Lib.hid (fun u v s t w=>qtt u v s t w)
 have eg:=enters_of func67 (by kernel_rfl) rfl
 by_cases hlen:a.length=b.length
 case neg =>
  have e:eqU a b=false:=by unfold eqU;rw [decide_eq_false hlen];rfl
  rw [e];have g1:((a.length:Int) == (b.length:Int))=false:=by rw [beq_eq_false_iff_ne];omega
  have g2:((a.length:Int) != (b.length:Int))=true:=by rw [bne,g1];rfl
  clear ha hb e hlen
  go_enter func66,ntmps66
  go_wp2_with fail;go_ret;exact ⟨rfl,hB⟩
 obtain ⟨E,hE⟩:∃ E,eqU a b=E:=⟨_,rfl⟩;rw [hE];have HE:=Lib.hid hE;have HLen:=Lib.hid hlen;have g1:((a.length:Int) == (b.length:Int))=true:=by rw [beq_iff_eq];omega
 have g2:((a.length:Int) != (b.length:Int))=false:=by rw [bne,g1];rfl
 clear ha hb hE hlen
 go_enter func66,ntmps66
 go_wp2_with fail
 go_loopw [17] (fun iv wr=>∃ k:Nat,k≤a.length∧iv=.int .i64 k∧(∀ i,i<k→(a.getD i fm0).un=(b.getD i fm0).un)∧Below w.heap.size w wr) (fun iv _=>a.length-(intOf iv).toNat)
 case atStart=>exact ⟨0,Nat.zero_le _,rfl,fun i h=>absurd h (Nat.not_lt_zero _),hB⟩
 case round =>
  clear hB;obtain ⟨k,hk,rfl,hall,hB⟩:=hrel;have HAll:=Lib.hid hall;clear hall
  by_cases hlt:k<a.length
  case neg =>
   obtain rfl:k=a.length:=by omega
   have he:=HE.out.symm.trans (q6w HLen.out HAll.out);subst he;go_wp2_with fail;go_ret;exact ⟨rfl,hB⟩
  case pos =>
   have hlt2:k<b.length:=by have:=HLen.out;omega
   obtain ⟨b1,o1,rfl,hb1,hc1⟩:=fm_at HA.out (by omega)
   obtain ⟨b2,o2,rfl,hb2,hc2⟩:=fm_at HBb.out (by omega)
   obtain ⟨k0,k1⟩:=hc1 k hlt;obtain ⟨m0,m1⟩:=hc2 k hlt2;have p0:=(hB.cell (p:=⟨b1,o1+k*2,none⟩) hb1).trans k0;have p1:=(hB.cell (p:=⟨b1,o1+k*2+1,none⟩) hb1).trans k1;have q0:=(hB.cell (p:=⟨b2,o2+k*2,none⟩) hb2).trans m0;have q1:=(hB.cell (p:=⟨b2,o2+k*2+1,none⟩) hb2).trans m1;have n1:b1<wr.heap.size:=Nat.lt_of_lt_of_le hb1 hB.size;have n2:b2<wr.heap.size:=Nat.lt_of_lt_of_le hb2 hB.size;have n3:¬ b1=wr.heap.size:=by omega
   have n4:¬ b2=wr.heap.size:=by omega
   have i0:(0:Int)≤(k:Int):=by omega
   have i1:(k:Int)<(a.length:Int):=by omega
   have i2:(k:Int)<(b.length:Int):=by omega
   have w0:IntKind.i64.wrap ((k:Int)+1)=(k:Int)+1:=IntWalk.i64_in _ (by omega)
   have HNo:=Lib.hid (fun (h:¬ (a.getD k fm0).un=(b.getD k fm0).un)=>HE.out.symm.trans (eqU_no hlt h))
   have HYes:=Lib.hid (fun (h:(a.getD k fm0).un=(b.getD k fm0).un)=>show ∀ i,i<k+1→(a.getD i fm0).un=(b.getD i fm0).un from fun i hi=>by
    rcases Nat.lt_or_eq_of_le (Nat.le_of_lt_succ hi) with h2 | h2
    ·exact HAll.out i h2
    ·subst h2;exact h)
   rw [qa1 hlt,qa1 hlt2] at HNo HYes;clear hc1 hc2 k0 k1 m0 m1;generalize a[k].un=u at *;generalize a[k].sl=s at *;generalize b[k].un=v at *;generalize b[k].sl=t at *;have ha2:Below wr.heap.size wr ((wr.alloc (.cells #[.int .i64 u,.string s] 66)).alloc (.cells #[.int .i64 v,.string t] 66)):=((Below.refl _ _).alloc (Nat.le_refl _) _).alloc (by simp) _
   have hB2:=hB.trans (ha2.mono hB.size);have hC2:=HC.out u v s t ((wr.alloc (.cells #[.int .i64 u,.string s] 66)).alloc (.cells #[.int .i64 v,.string t] 66));have HB2:=Lib.hid hB2;have HC2:=Lib.hid hC2;clear ha2 hB2 hC2
   by_cases hu:u=v
   ·have HN:=Lib.hid (HYes.out hu)
    have e1:(u == v)=true:=by simpa using hu
    rw [e1] at HC2;clear hu e1;go_wp2_with fail;refine HC2.out.mono ?_;rintro e w5 ⟨rfl,hb⟩;have HB5:=Lib.hid (HB2.out.trans (hb.mono HB2.out.size));clear hb;go_wp2_with fail
    go_roundw
    case rel=>exact ⟨k+1,hlt,by go_num,HN.out,HB5.out⟩
    case measure=>simp [intOf];omega
   ·have he:=HNo.out hu
    have e1:(u == v)=false:=by simpa using hu
    rw [e1] at HC2;subst he;clear hu e1;go_wp2_with fail;refine HC2.out.mono ?_;rintro e w5 ⟨rfl,hb⟩;have HB5:=Lib.hid (HB2.out.trans (hb.mono HB2.out.size));clear hb;go_wp2_with fail;go_ret;exact ⟨rfl,HB5.out⟩
end

section
open Go.RowKit
theorem qn6 {w w1:World} {Q base z n:Nat} {c:Array Value} {t e:TypeId} {v:Value} {xs:List Value} (hR:RowAt w Q c t) (ho:w.ownsRow base e z v n xs) (hne:t≠e) (hg:w.grownBy w1 v.ownBlock):RowAt w1 Q c t:=by
 refine (hg.block Q hR.lt fun h=>?_).trans hR
 rcases ho.2 with ⟨rfl,_⟩ | ⟨g,cap,cur,rfl,_,hgg,_⟩
 ·cases h
 ·injection h with h
  subst h;have h':w.heap[Q]? = some (.cells c t (0,0)):=hR;rw [hgg] at h'
  injection h' with h'
  injection h' with _ h2
  exact hne h2.symm
theorem at_get {f:Fm} {k:Nat} (h:k<f.sl.size):f.at_ k=f.sl[k]:=by
 unfold Fm.at_
 rw [qa1 (by simpa using h)]
 rfl
set_option maxRecDepth 100000 in
theorem qtl (A:Option Addr) (n c:Nat) (A':Option Addr) (n' c':Nat) (a b:List Fm) (w:World) (ha:shFm.In w A n a) (hb:shFm.In w A' n' b) (hn:n≤9223372036854775806) (hn':n'≤9223372036854775806) (hsa:∀ x ∈ a,x.sl.size≤9223372036854775807) (hsb:∀ x ∈ b,x.sl.size≤9223372036854775807) :
  Calls prog 21 #[.slice A n c,.slice A' n' c'] w fun e w'=>∃ r,e=.returned (.tuple #[r,.int .i64 (chgE a b)])∧shCg.Out 52 (chgV a b) w r w':=by
 have hB:=Below.refl w.heap.size w;have hE:chgE a b=if rightE a≠0 then rightE a else if rightE b≠0 then rightE b else if eqU a b=false then 14 else 0:=rfl
 have hV:chgV a b=if chgE a b≠0 then [] else difA a b a.length:=rfl
 have HRa:=Lib.hid (fun w h=>qyl A n c a w h hn hsa)
 have HRb:=Lib.hid (fun w h=>qyl A' n' c' b w h hn' hsb)
 have HEq:=Lib.hid (fun w h1 h2=>qtx A n c A' n' c' a b w h1 h2 hn hn')
 have HA:=Lib.hid ha;have HB:=Lib.hid hb;have HGa:=Lib.hid (fun (h:rightE a=0)=>q9q h)
 have HGb:=Lib.hid (fun (h:rightE b=0)=>q9q h)
 have HEl:=Lib.hid (fun (h:eqU a b=true)=>q6u h)
 generalize chgV a b=V at *;generalize chgE a b=E at *;have HVV:=Lib.hid hV;generalize eqU a b=eq at *;have ix0:∀ w,(Instr.index 129 (.agg #[.slice A n c,.slice A' n' c']) (.int .i64 0)).run prog w=.ok (.slice A n c) w:=fun w=>by rfl
 have ix1:∀ w,(Instr.index 129 (.agg #[.slice A n c,.slice A' n' c']) (.int .i64 1)).run prog w=.ok (.slice A' n' c') w:=fun w=>by rfl
 have HEE:=Lib.hid hE;clear ha hb hE hV hsa hsb
 go_enter func21,ntmps21
 go_wp2_with fail
 go_loopw [17] (fun iv wr=>∃ k:Nat,k≤2∧iv=.int .i64 k∧(0<k→rightE a=0)∧(1<k→rightE b=0)∧Below w.heap.size w wr) (fun iv _=>2-(intOf iv).toNat)
 case atStart=>exact ⟨0,by omega,rfl,fun h=>absurd h (by omega),fun h=>absurd h (by omega),hB⟩
 case round =>
  clear hB;obtain ⟨k,hk,rfl,h0,h1,hB⟩:=hrel;have H01:=Lib.hid (And.intro h0 h1);clear h0 h1;obtain rfl | rfl | rfl:k=0∨k=1∨k=2:=by omega
  ·by_cases hr:rightE a=0
   ·have HR0:=Lib.hid hr
    rw [hr] at HRa;go_wp2_with fail;refine uq_ (HRa.out _ (HA.out.below hB)) hB ?_;clear hB;intro w5 hB;go_wp2_with fail
    go_roundw
    case rel=>exact ⟨1,by omega,by go_num,fun _=>HR0.out,fun h=>absurd h (by omega),hB⟩
    case measure=>simp [intOf]
   ·have hE:=HEE.out
    rw [if_pos hr] at hE;have hV0:V=[]:=by rw [HVV.out,if_pos (by rw [hE];exact hr)]
    generalize rightE a=q at *;subst hE hV0;have g1:(E == 0)=false:=by simpa using hr
    have g2:(E != 0)=true:=by simpa using hr
    go_wp2_with fail;refine uq_ (HRa.out _ (HA.out.below hB)) hB ?_;clear hB;intro w5 hB;go_wp2_with fail;go_ret2;exact ⟨_,rfl,Sh.Out.nil hB⟩
  ·have HR0:=Lib.hid (H01.out.1 (by omega))
   by_cases hr:rightE b=0
   ·have HR1:=Lib.hid hr
    rw [hr] at HRb;go_wp2_with fail;refine uq_ (HRb.out _ (HB.out.below hB)) hB ?_;clear hB;intro w5 hB;go_wp2_with fail
    go_roundw
    case rel=>exact ⟨2,by omega,by go_num,fun _=>HR0.out,fun _=>HR1.out,hB⟩
    case measure=>simp [intOf]
   ·have hE:=HEE.out
    rw [if_neg (fun h=>h HR0.out),if_pos hr] at hE
    have hV0:V=[]:=by rw [HVV.out,if_pos (by rw [hE];exact hr)]
    generalize rightE b=q at *;subst hE hV0;have g1:(E == 0)=false:=by simpa using hr
    have g2:(E != 0)=true:=by simpa using hr
    go_wp2_with fail;refine uq_ (HRb.out _ (HB.out.below hB)) hB ?_;clear hB;intro w5 hB;go_wp2_with fail;go_ret2;exact ⟨_,rfl,Sh.Out.nil hB⟩
  ·have hR0:=H01.out.1 (by omega)
   have hR1:=H01.out.2 (by omega)
   have hE:=HEE.out;rw [if_neg (fun h=>h hR0),if_neg (fun h=>h hR1)] at hE
   obtain ⟨ha8,hga⟩:=HGa.out hR0;obtain ⟨hb8,hgb⟩:=HGb.out hR1
   cases eq with
   | false =>
    rw [if_pos rfl] at hE;have hV0:V=[]:=by rw [HVV.out,if_pos (by rw [hE];decide)]
    subst hE hV0;go_wp2_with fail;refine uq_ (HEq.out _ (HA.out.below hB) (HB.out.below hB)) hB ?_;clear hB;intro w5 hB;go_wp2_with fail;go_ret2;exact ⟨_,rfl,Sh.Out.nil hB⟩
   | true =>
    rw [if_neg (by decide)] at hE
    have hV0:V=difA a b a.length:=by rw [HVV.out,if_neg (fun h=>h hE)]
    have HV0:=Lib.hid hV0;subst hE;clear hV0;have hlen:=HEl.out rfl;obtain rfl:n=a.length:=HA.out.1;obtain rfl:n' = b.length:=HB.out.1;have HLen:=Lib.hid hlen;have HGA:=Lib.hid (fun i (h:i<a.length)=>show a[i].sl.size=512 from by have:=(rg_ok (hga i h)).2.2.1;rw [qa1 h] at this;exact this)
    have HGB:=Lib.hid (fun i (h:i<b.length)=>show b[i].sl.size=512 from by have:=(rg_ok (hgb i h)).2.2.1;rw [qa1 h] at this;exact this)
    have HUn:=Lib.hid (fun i (h:i<a.length)=>show 1≤a[i].un∧a[i].un≤8 from by have:=rg_ok (hga i h);rw [qa1 h] at this;exact ⟨this.1,this.2.1⟩)
    clear hga hgb hlen hR0 hR1 H01 HRa HRb;go_wp2_with fail;refine (HEq.out _ (HA.out.below hB) (HB.out.below hB)).mono ?_;rintro e w5 ⟨rfl,hb⟩;have HB5:=Lib.hid (hB.trans (hb.mono hB.size));clear hb hB;go_wp2_with fail
    go_loopw [9,32] (fun vo iv wr=>∃ i:Nat,i≤a.length∧iv=.int .i64 i∧wr.ownsRow w.heap.size 52 3 vo (difA a b i).length (shCg.vs (difA a b i))∧Below w.heap.size w wr) (fun _ iv _=>a.length-(intOf iv).toNat)
    case atStart=>exact ⟨0,Nat.zero_le _,rfl,World.ownsRow_nil _ _ _ _,HB5.out⟩
    case round =>
     obtain ⟨i,hi,rfl,hown,hb⟩:=hrel
     rename World=>V3
     have Hb:=Lib.hid hb;obtain ⟨Ao,co,rfl⟩:=qfu hown;have HOw:=Lib.hid hown
     by_cases hlt:i<a.length
     case neg =>
      obtain rfl:i=a.length:=by omega
      clear hown hb;go_wp2_with fail;go_ret2;exact ⟨_,rfl,by rw [HV0.out];exact ⟨Ao,co,rfl,HOw.out,Hb.out⟩⟩
     case pos =>
      have hlt2:i<b.length:=by have:=HLen.out;omega
      obtain ⟨b1,o1,rfl,hb1,hc1⟩:=fm_at HA.out (by omega)
      obtain ⟨b2,o2,rfl,hb2,hc2⟩:=fm_at HB.out (by omega)
      obtain ⟨k0,k1⟩:=hc1 i hlt;have HC2:=Lib.hid (hc2 i hlt2);have p0:=(hb.cell (p:=⟨b1,o1+i*2,none⟩) hb1).trans k0;have p1:=(hb.cell (p:=⟨b1,o1+i*2+1,none⟩) hb1).trans k1;have n1:b1<V3.heap.size:=Nat.lt_of_lt_of_le hb1 hb.size;have i0:(0:Int)≤(i:Int):=by omega
      have i1:(i:Int)<(a.length:Int):=by omega
      have i2:(i:Int)<(b.length:Int):=by omega
      have w0:IntKind.i64.wrap ((i:Int)+1)=(i:Int)+1:=IntWalk.i64_in _ (by omega)
      have hst:difA a b (i+1)=difA a b i ++ difR a[i] b[i] 512:=by rw [difA,qa1 hlt,qa1 hlt2]
      have HSt:=Lib.hid hst;have hsza:=HGA.out i hlt;have hszb:=HGB.out i hlt2;have hdl:=q59 a b i;have hdl2:(difA a b i).length≤3584:=by omega
      clear hdl;clear hst hc1 hc2 k0 k1 hown;generalize a[i]=f at *;generalize b[i]=g at *;generalize difA a b i=D at *;obtain ⟨fu,fs⟩:=f;obtain ⟨gu,gs⟩:=g;dsimp only at p0 p1 HC2 hsza hszb;obtain ⟨W1,hW1⟩:∃ W1,W1=V3.alloc (.cells #[.int .i64 fu,.string fs] 66):=⟨_,rfl⟩;have hbb1:Below V3.heap.size V3 W1:=by rw [hW1];exact (Below.refl _ _).alloc (Nat.le_refl _) _
      have HX1:=Lib.hid (show RowAt W1 V3.heap.size #[.int .i64 fu,.string fs] 66 by rw [hW1];exact RowAt.fresh V3 _ _)
      have HB1:=Lib.hid (hb.trans (hbb1.mono hb.size));have HO1:=Lib.hid (qfq HOw.out hbb1);have HW1:=Lib.hid hW1;have HQl:=Lib.hid hb.size;clear hW1 hbb1;have hcell2:=HC2.out;have r1:=(HB1.out.cell (p:=⟨b2,o2+i*2+1,none⟩) hb2).trans hcell2.2;have n2:b2<W1.heap.size:=Nat.lt_of_lt_of_le hb2 HB1.out.size;go_wp2_with fail;rw [← HW1.out]
      go_loopw [9,37] (fun vo iv w3=>∃ k:Nat,k≤512∧iv=.int .i64 k∧w3.ownsRow w.heap.size 52 3 vo (D ++ difR ⟨fu,fs⟩ ⟨gu,gs⟩ k).length (shCg.vs (D ++ difR ⟨fu,fs⟩ ⟨gu,gs⟩ k))∧Below w.heap.size w w3∧RowAt w3 V3.heap.size #[.int .i64 fu,.string fs] 66) (fun _ iv _=>512-(intOf iv).toNat)
      case atStart=>exact ⟨0,Nat.zero_le _,rfl,by simpa [difR] using HO1.out,HB1.out,HX1.out⟩
      case round =>
       obtain ⟨k,hk,rfl,hown,hb3,hR3⟩:=hrel;have Hb3:=Lib.hid hb3;have HR3:=Lib.hid hR3;obtain ⟨Ao2,co2,rfl⟩:=qfu hown;have HOw3:=Lib.hid hown;have x0:=hR3.cell (j:=0) (u:=.int .i64 fu) rfl;have x1:=hR3.cell (j:=1) (u:=.string fs) rfl;have r2:=(hb3.cell (p:=⟨b2,o2+i*2+1,none⟩) hb2).trans hcell2.2;have n3:b2<wr.heap.size:=Nat.lt_of_lt_of_le hb2 hb3.size
       by_cases hlt3:k<512
       case neg =>
        obtain rfl:k=512:=by omega
        clear hown hb3 hR3;go_wp2_with fail
        go_roundw
        case rel=>exact ⟨i+1,by omega,by go_num,by rw [HSt.out];exact HOw3.out,Hb3.out⟩
        case measure=>simp [intOf];omega
       case pos =>
        have j0:(0:Int)≤(k:Int):=by omega
        have j1:(k:Int)<512:=by omega
        have j2:(k:Int)<(fs.size:Int):=by omega
        have j3:(k:Int)<(gs.size:Int):=by omega
        have w1:IntKind.i64.wrap ((k:Int)+1)=(k:Int)+1:=IntWalk.i64_in _ (by omega)
        have hkf:k<fs.size:=by omega
        have hkg:k<gs.size:=by omega
        have hst:difR ⟨fu,fs⟩ ⟨gu,gs⟩ (k+1)=difR ⟨fu,fs⟩ ⟨gu,gs⟩ k ++ (if gs[k]=fs[k] then [] else [⟨fu,(k:Int)+1,(gs[k].toNat:Int)⟩]):=by
         rw [difR,at_get (f:=⟨fu,fs⟩) (by exact hkf),at_get (f:=⟨gu,gs⟩) (by exact hkg)]
        have hrl:=q5c ⟨fu,fs⟩ ⟨gu,gs⟩ k;obtain ⟨c1,hc1⟩:∃ c1,fs[k]=c1:=⟨_,rfl⟩;obtain ⟨d1,hd1⟩:∃ d1,gs[k]=d1:=⟨_,rfl⟩;rw [hc1,hd1] at hst
        by_cases hdc:d1=c1
        ·subst hdc
         rw [if_pos rfl,List.append_nil] at hst;have HSt3:=Lib.hid hst;have g1:((d1.toNat:Int) != (d1.toNat:Int))=false:=by simp
         clear hst hown hb3 hR3 hrl;go_wp2_with fail
         go_roundw
         case rel=>exact ⟨k+1,by omega,by go_num,by rw [HSt3.out];exact HOw3.out,Hb3.out,HR3.out⟩
         case measure=>simp [intOf];omega
        ·rw [if_neg hdc] at hst
         have g1:((d1.toNat:Int) == (c1.toNat:Int))=false:=by
          rw [beq_eq_false_iff_ne];intro h;exact hdc (UInt8.toNat_inj.1 (by omega))
         have g2:((d1.toNat:Int) != (c1.toNat:Int))=true:=by rw [bne,g1];rfl
         have w2:IntKind.i64.wrap (d1.toNat:Int)=(d1.toNat:Int):=IntWalk.i64_in _ (by have:=d1.toNat_lt;omega)
         have hvs:shCg.vs (D ++ difR ⟨fu,fs⟩ ⟨gu,gs⟩ (k+1))=shCg.vs (D ++ difR ⟨fu,fs⟩ ⟨gu,gs⟩ k) ++ [.int .i64 fu,.int .i64 ((k:Int)+1),.int .i64 (d1.toNat:Int)]:=by rw [hst,← List.append_assoc,Sh.vs_append,Sh.vs_one1];rfl
         have hln:(D ++ difR ⟨fu,fs⟩ ⟨gu,gs⟩ (k+1)).length=(D ++ difR ⟨fu,fs⟩ ⟨gu,gs⟩ k).length+1:=by rw [hst,← List.append_assoc,List.length_append];rfl
         have HSt3:=Lib.hid (And.intro hln hvs);have hlenD:(D ++ difR ⟨fu,fs⟩ ⟨gu,gs⟩ k).length≤4096:=by rw [List.length_append];omega
         have hsz:=hb3.size;clear hst hvs hln hb3 hR3 hrl hdc;generalize D ++ difR ⟨fu,fs⟩ ⟨gu,gs⟩ k=DD at *;go_wp2_with (at_builtin;refine q003 rfl _ _ _ rfl w.heap.size _ _ 3 24 underlying48 infoCg rfl (by omega) _ DD.length (shCg.vs DD) rfl hown [.int .i64 fu,.int .i64 ((k:Int)+1),.int .i64 (d1.toNat:Int)] _ _ _ rfl (by first | rfl | simp) rfl (cg_one _ _ _) (by unfold maxLen;omega) (by omega) (by first | omega | (simp;omega) | simp) ?_;intro g cap w1 hown1 hg1)
         go_roundw
         case rel=>exact ⟨k+1,by omega,by go_num,by rw [HSt3.out.1,HSt3.out.2];exact hown1,q1a Hb3.out (Nat.le_refl _) hown hg1,qn6 HR3.out hown (by decide) hg1⟩
         case measure=>simp [intOf];omega
end

section
open Go.ChangeShapes Go.WideShapes Go.ChangeAt Go.RowKit Go.Deep
section
variable {H:Type} {enc:TypeId × Value→H} {w:World} {base:Nat} {spare:Nat→Bool} {held:Bool}
end
end

section
open Go.RowKit
theorem q92 {a b:Fm}:a=b↔a.un=b.un∧a.sl=b.sl:=by
 cases a;cases b
 simp
instance:DecidableEq Fm:=fun a b=>decidable_of_iff (a.un=b.un∧a.sl=b.sl) q92.symm
theorem q2h {a b:Cg}:a=b↔a.un=b.un∧a.ad=b.ad∧a.by_=b.by_:=by
 cases a;cases b
 simp
instance:DecidableEq Cg:=fun a b=>decidable_of_iff (a.un=b.un∧a.ad=b.ad∧a.by_=b.by_) q2h.symm
end

section
open Go.RowKit
end

section
open Go.RowKit
end

end Go.Proofs.YtbfikenbgfnfiaaGreatDoor
