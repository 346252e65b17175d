/- Lemmas. -/
import Derived.Test.YtbfikenbgfnfiaaGreatDoorRUniN
namespace Go.Proofs.YtbfikenbgfnfiaaGreatDoor
set_option maxHeartbeats 32000000

section
open Go.RowKit
end

section
open Go.RowKit
theorem q05s {a b:PT} {v w:Rat} (h:a.1<b.1) (hy:a.2≤b.2) (hvw:v≤w):segR a b v≤segR a b w:=by
 have e1:=qp0 (r:=v) h;have e2:=qp0 (r:=w) h;have hd:=q26.2 h;have hy':=q24.2 hy;generalize segR a b v=x at *;generalize segR a b w=y at *;refine le_mul (d:=(b.1:Rat)-(a.1:Rat)) (by grind) ?_
 have h2:((b.2:Rat)-(a.2:Rat))*(v-(a.1:Rat))≤((b.2:Rat)-(a.2:Rat))*(w-(a.1:Rat)):=Rat.mul_le_mul_of_nonneg_left (by grind) (by grind)
 grind
theorem q073:∀ {c:List PT} {p:Int} {v w:Rat},UpC p c→ascB c=true→2≤c.length→v≤w→w≤(lastX c:Rat)→valC c v≤valC c w
 | [a,b],p,v,w,hu,hy,_,hvw,hw=>by
  have hw':w≤(b.1:Rat):=hw;have hb:v≤(b.1:Rat):=by grind
  rw [qyy,qyy,if_pos hb,if_pos hw'];exact q05s hu.2.2.2.1 (q04j.1 hy 0 (by simp)) hvw
 | a :: b :: d :: t,p,v,w,hu,hy,_,hvw,hw=>by
  have hab:a.1<b.1:=hu.2.2.2.1;have hy1:a.2≤b.2:=q04j.1 hy 0 (by simp)
  have hyt:ascB (b :: d :: t)=true:=by rw [ascB,Bool.and_eq_true] at hy;exact hy.2
  have hl:lastX (a :: b :: d :: t)=lastX (b :: d :: t):=rfl;rw [hl] at hw;rw [qyy a b,qyy a b]
  by_cases h1:w≤(b.1:Rat)
  ·rw [if_pos h1,if_pos (by grind)]
   exact q05s hab hy1 hvw
  ·rw [if_neg h1]
   have hbv:valC (b :: d :: t) (b.1:Rat)=(b.2:Rat):=by
    have hbd:b.1<d.1:=hu.2.2.2.2.2.1;rw [qyy,if_pos (by have:=q26.2 hbd;grind),qp5 hbd]
   have hm:=q073 (c:=b :: d :: t) (v:=(b.1:Rat)) (w:=w) hu.2.2 hyt (by simp) (by grind) hw
   by_cases h2:v≤(b.1:Rat)
   ·rw [if_pos h2]
    have:=q05s hab hy1 (v:=v) (w:=(b.1:Rat)) h2
    rw [qp9 hab] at this
    grind
   ·rw [if_neg h2]
    exact q073 (c:=b :: d :: t) hu.2.2 hyt (by simp) hvw hw
 | [a],_,_,_,_,_,h,_,_=>by simp at h
 | [],_,_,_,_,_,h,_,_=>by simp at h
theorem q05r {L:List (List PT)} {PL:List (PC × List Fea)} {X:List Fx} {ch at_:Int} (hu:uniE L PL X=0) (hv:riseV L PL X ch at_=true) :
  ∃ (lo hi:Int) (c:List PT),lo≤hi∧OkC c∧ascB c=true∧∀ lev:ByteArray,givE [⟨ch,at_,lev⟩]=0→lev.size≤80 →
   rawUE L PL X (frV L PL X [⟨ch,at_,lev⟩]) ch at_=0∧rawUV L PL X (frV L PL X [⟨ch,at_,lev⟩]) ch at_=madeR lo hi c (valR lev.data.toList):=by
 unfold riseV at hv
 cases hh:havV PL X ch at_ with
 | none=>rw [hh] at hv;cases hv
 | some z =>
  obtain ⟨x,f⟩:=z;rw [hh] at hv;dsimp only at hv;obtain ⟨hx,hxc,hf,hfa⟩:=q050 hh;have hr:=rig_ok hu;have ha:=hr.alone x hx f hf;obtain ⟨hA,-,hc1,hc2,-,-,hlh,-⟩:=q0g ha;refine ⟨f.lo,f.hi,qi6 f.cu L,hlh,qi7 hA hc1 hc2,?_,fun lev hg hs=>?_⟩
  ·unfold qi6
   by_cases h0:f.cu=0
   ·rw [if_pos h0];decide
   ·rw [if_neg h0]
    rw [decide_eq_false h0,Bool.false_or] at hv;exact hv
  ·obtain ⟨-,v1,r1,k1⟩:=q00r hu hg
   obtain ⟨-,hga,-⟩:=(qa7 _).1 hg;obtain ⟨hp,he⟩:=hga ⟨ch,at_,lev⟩ (List.mem_singleton.2 rfl)
   dsimp only at hp he;have hin:=(q00y hu hg (fun a h=>by rw [List.mem_singleton.1 h];exact Nat.le_trans hs (by decide)) hx).1
   have hun:=hr.un x hx;have hus:usedU X x.un=true:=by unfold usedU;exact List.any_eq_true.2 ⟨x,hx,by simp⟩
   obtain ⟨-,h2⟩:=q00z (q011 (c:=pageV L [⟨ch,at_,lev⟩] PL X) hun.1 hus 8 hun.2)
   have hE:rawUE L PL X (frV L PL X [⟨ch,at_,lev⟩]) ch at_=0:=by
    unfold rawUE;rw [if_neg (fun q=>q hu),if_neg (fun q=>q (qmd r1 k1)),if_neg (fun q=>q hp),hh]
    dsimp only;rw [v1,if_neg hin]
   refine ⟨hE,?_⟩;unfold rawUV;rw [hE,if_neg (fun q=>q rfl),hh]
   dsimp only;rw [v1,h2,shown hr hx hf];have ht:toldT [⟨ch,at_,lev⟩] x.ch f.at_ f.ho=lev:=by
    unfold toldT;rw [hxc,hfa];simp
   unfold rawF rawV
   rcases qct lev (Nat.le_trans hs (by decide)) with ⟨e1,e2⟩ | ⟨r,-,-,-,e4,-⟩
   ·rw [he] at e2;exact absurd e2.symm e1
   ·rw [ht,q7i ha e4,if_neg (fun h=>h rfl)]
theorem q05q {lo hi:Int} {c:List PT} (h:lo≤hi) (hc:OkC c) (ha:ascB c=true) {r s:Rat} (hr:InL r) (hs:InL s) :
  ((decide (0<ordR r s) || decide (madeR lo hi c r≤madeR lo hi c s)) && (decide (ordR r s<0) || decide (madeR lo hi c s≤madeR lo hi c r)))=true:=by
 have key:∀ {r s:Rat},InL r→InL s→r≤s→madeR lo hi c r≤madeR lo hi c s:=fun {r s} hr hs hrs=>qdo h (by
  rw [q3e hr,q3e hs];exact q073 hc.up ha hc.two hrs (by rw [hc.last];exact hs.2))
 rw [Bool.and_eq_true,Bool.or_eq_true,Bool.or_eq_true,decide_eq_true_eq,decide_eq_true_eq,decide_eq_true_eq,decide_eq_true_eq,qfh,qfd]
 by_cases h1:r<s
 ·exact ⟨.inr (key hr hs (by grind)),.inl h1⟩
 ·by_cases h2:s<r
  ·exact ⟨.inl h2,.inr (key hs hr (by grind))⟩
  ·exact ⟨.inr (key hr hs (by grind)),.inr (key hs hr (by grind))⟩
end

end Go.Proofs.YtbfikenbgfnfiaaGreatDoor
