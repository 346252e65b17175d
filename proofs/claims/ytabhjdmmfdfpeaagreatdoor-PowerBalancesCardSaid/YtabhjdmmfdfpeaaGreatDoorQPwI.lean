/- Lemmas. -/
import Derived.Test.YtabhjdmmfdfpeaaGreatDoorKUniG
import Derived.Test.YtabhjdmmfdfpeaaGreatDoorQPwB
import Derived.Laws.Cover1
namespace Go.Proofs.YtabhjdmmfdfpeaaGreatDoor
set_option maxHeartbeats 32000000
set_option maxRecDepth 100000
open _root_.Go.Proofs.Tryz
open Go.RowKit
variable {k:ByteArray} {X:List Fx} {P:List PC}
theorem q0j6 (A0:Option Addr) (n0 d0:Nat) (A1:Option Addr) (n1 d1:Nat) (A2:Option Addr) (n2 d2:Nat) (w:World) :
  Rt 11 #[.agg #[.slice A0 n0 d0,.slice A1 n1 d1,.slice A2 n2 d2]] w (.agg #[.slice A0 n0 d0,.slice A1 n1 d1,.slice A2 n2 d2]):=by
 go_enter func11,ntmps11
 go_wp2_with fail
 (try simp only [Exit.inBlock,Exit.then])
 refine bodyPost_ret (v:=.agg #[.slice A0 n0 d0,.slice A1 n1 d1,.slice A2 n2 d2]) ?_ rfl ⟨rfl,((Below.refl _ w).alloc lr_ _).alloc s_ _⟩
 rw [qlt rfl]
 go_simp
theorem q0j7 (A0:Option Addr) (n0 d0:Nat) (A1:Option Addr) (n1 d1:Nat) (A2:Option Addr) (n2 d2:Nat) (H:List Hd) (L:List (List PT)) (PL:List (PC × List Fea)) (w:World) (hl:InN w A0 n0 H L) (hn0:n0≤9223372036854775807) (hp:InR w A1 n1 PL) (hn1:n1≤9223372036854775807) :
  Rt 7 #[.agg #[.slice A0 n0 d0,.slice A1 n1 d1,.slice A2 n2 d2],.slice none 0 0] w (.bool (fewRg L PL n2)):=by
 have HOw:=hj_ (fun w=>q0j6 A0 n0 d0 A1 n1 d1 A2 n2 d2 w)
 have HFr:=hj_ (fun w h1 h2=>qm7 A0 n0 d0 H L A1 n1 d1 PL A2 n2 d2 w h1 hn0 h2 hn1)
 have HFa:=hj_ (fun w=>qm4 none 0 0 [] w (Sh.In.nil _ _) d_)
 rw [show fewAm []=true from rfl] at HFa
 generalize fewRg L PL n2=Q at *;obtain ⟨W,HW,HB0,HK⟩:=bx3 w (.slice A0 n0 d0) (.slice A1 n1 d1) (.slice A2 n2 d2) 26;have hB:=Below.refl W.heap.size W;obtain ⟨c0,c1,c2⟩:=HK.out W hB;have HL:=hj_ (fun (w':World) (h:Below W.heap.size W w')=>show InN w' A0 n0 H L∧InR w' A1 n1 PL from ⟨(hl.below HB0.out).below h,(hp.below HB0.out).below h⟩)
 clear hl hp hn0 hn1
 go_enter func7,ntmps7
 go_upto_region 3 with fail
 rw [← HW.out]
 go_loopw [14,5] (fun iv sv wr=>iv=.int .i64 0∧sv=.int .i64 0∧wr=W) (fun _ _ _=>0)
 case atStart=>exact ⟨rfl,rfl,rfl⟩
 case round =>
  obtain ⟨rfl,rfl,rfl⟩:=hrel;obtain ⟨c0,c1,c2⟩:=HK.out _ hB;go_wp2_with fail;refine up_ (HOw.out _) hB ?_;clear hB c0 c1 c2;intro w1 hB;go_wp2_with fail;refine up_ (HFr.out _ (HL.out _ hB).1 (HL.out _ hB).2) hB fun w2 hB=>?_
  cases Q with
  | false =>
   go_wp2_with fail;go_ret;exact ⟨rfl,ht_ HB0.out hB⟩
  | true =>
   go_wp2_with fail;refine up_ (HFa.out _) hB fun w3 hB=>?_;go_wp2_with fail;go_ret;exact ⟨rfl,ht_ HB0.out hB⟩
theorem q0of (w:World):Rt 49 #[.slice none 0 0] w (.int .i64 0):=by
 go_enter func49,ntmps49
 go_wp2_with fail
 go_loopw [3] (fun iv wr=>iv=.int .i64 0∧wr=w) (fun _ _=>0)
 case atStart=>exact ⟨rfl,rfl⟩
 case round =>
  obtain ⟨rfl,rfl⟩:=hrel;go_wp2_with fail;go_ret;exact ⟨rfl,br_⟩
def rg59 (L:List (List PT)) (PL:List (PC × List Fea)) (X:List Fx):Bool:=fewRg L PL X.length && decide (uniE L PL X=0)
theorem q0lf (A0:Option Addr) (n0 d0:Nat) (A1:Option Addr) (n1 d1:Nat) (A2:Option Addr) (n2 d2:Nat) (H:List Hd) (L:List (List PT)) (PL:List (PC × List Fea)) (X:List Fx) (w:World) (hg:RG.Is w ⟨A0,n0,d0,A1,n1,d1,A2,n2,d2⟩ H L PL X) :
  Rt 15 #[.agg #[.slice A0 n0 d0,.slice A1 n1 d1,.slice A2 n2 d2],.slice none 0 0] w (.bool (rg59 L PL X)):=by
 obtain ⟨⟨hl0,hm,hn0⟩,⟨hp,hpo,hnd1,hd1⟩,hx,⟨hnd2,hd2⟩,hcb⟩:=hg;dsimp only at hl0 hn0 hp hnd1 hd1 hx hnd2 hd2;obtain rfl:n2=X.length:=hx.1;have hq:rg59 L PL X=(fewRg L PL X.length && decide (uniE L PL X=0)):=rfl;have HOw:=hj_ (fun w=>q0j6 A0 n0 d0 A1 n1 d1 A2 X.length d2 w)
 have HSm:=hj_ (fun w h1 h2=>q0j7 A0 n0 d0 A1 n1 d1 A2 X.length d2 H L PL w h1 hn0 h2 (Nat.le_trans hnd1 hd1))
 have HRc:=hj_ (fun w h1 h2 h3 (hn1:n1≤9223372036854775806) (hn2:X.length≤9223372036854775806)=>ql9 A0 n0 d0 H L A1 n1 d1 PL A2 X.length d2 X w h1 hm hn0 h2 hpo hn1 hnd1 hd1 h3 hn2 hcb)
 have HAm:=hj_ (fun w=>q0of w)
 have hn1l:n1=PL.length:=by have:=hp.1.1;simpa using this
 have HRL:=hj_ (And.intro hl0 (And.intro hp hx));have HN1:=hj_ hn1l;generalize rg59 L PL X=Q at *;generalize uniE L PL X=UE at *;obtain ⟨W,HW,HB0,HK⟩:=bx3 w (.slice A0 n0 d0) (.slice A1 n1 d1) (.slice A2 X.length d2) 26;have hB:=Below.refl W.heap.size W;obtain ⟨c0,c1,c2⟩:=HK.out W hB;have HRLb:=hj_ (fun (w':World) (h:Below W.heap.size W w')=>show InN w' A0 n0 H L∧InR w' A1 n1 PL∧shX.In w' A2 X.length X from ⟨(HRL.out.1.below HB0.out).below h,(HRL.out.2.1.below HB0.out).below h,(HRL.out.2.2.below HB0.out).below h⟩)
 clear hl0 hm hn0 hp hpo hnd1 hd1 hx hnd2 hd2 hcb hn1l HRL
 cases hfr:fewRg L PL X.length with
 | false =>
  rw [hfr] at HSm hq;simp only [Bool.false_and] at hq;subst hq;clear hfr
  go_enter func15,ntmps15
  go_wp2_with fail;rw [← HW.out];go_wp2_with fail;refine up_ (HSm.out _ (HRLb.out _ hB).1 (HRLb.out _ hB).2.1) hB fun wk hB=>?_;go_wp2_with fail;go_ret;exact ⟨rfl,ht_ HB0.out hB⟩
 | true =>
  have hfw:=q7x hfr;have hn1:n1≤40:=by rw [HN1.out];exact hfw.1
  have hn2:X.length≤70:=hfw.2.1;have HRLc:=hj_ (fun (w':World) (h:Below W.heap.size W w')=>show InN w' A0 n0 H L∧InPs w' A1 n1 PL∧shX.In w' A2 X.length X from ⟨(HRLb.out _ h).1,(HRLb.out _ h).2.1.few hfr,(HRLb.out _ h).2.2⟩)
  replace HRc:=hj_ (fun w (h:InN w A0 n0 H L∧InPs w A1 n1 PL∧shX.In w A2 X.length X)=>HRc.out w h.1 h.2.1 h.2.2 o_ o_)
  rw [hfr] at HSm hq;rw [Bool.true_and] at hq;clear hfr hfw hn1 hn2
  by_cases hue:UE=0
  case neg =>
   rw [decide_eq_false hue] at hq;have g1:(UE == 0)=false:=by simpa using hue
   subst hq;clear hue
   go_enter func15,ntmps15
   go_wp2_with fail;rw [← HW.out];go_wp2_with fail;refine up_ (HSm.out _ (HRLb.out _ hB).1 (HRLb.out _ hB).2.1) hB ?_;clear hB c0 c1 c2;intro wk hB;obtain ⟨c0,c1,c2⟩:=HK.out _ hB;go_wp2_with fail;refine up_ (HOw.out _) hB fun wk hB=>?_;go_wp2_with fail;refine up_ (HRc.out _ (HRLc.out _ hB)) hB fun wk hB=>?_;go_wp2_with fail;go_ret;exact ⟨rfl,ht_ HB0.out hB⟩
  case pos =>
   subst hue;rw [decide_eq_true rfl] at hq;subst hq
   go_enter func15,ntmps15
   go_wp2_with fail;rw [← HW.out];go_wp2_with fail;refine up_ (HSm.out _ (HRLb.out _ hB).1 (HRLb.out _ hB).2.1) hB ?_;clear hB c0 c1 c2;intro wk hB;obtain ⟨c0,c1,c2⟩:=HK.out _ hB;go_wp2_with fail;refine up_ (HOw.out _) hB fun wk hB=>?_;go_wp2_with fail;refine up_ (HRc.out _ (HRLc.out _ hB)) hB fun wk hB=>?_;go_wp2_with fail;refine up_ (HAm.out _) hB fun wk hB=>?_;go_wp2_with fail;go_ret;exact ⟨rfl,ht_ HB0.out hB⟩
theorem q0km (A0:Option Addr) (n0 d0:Nat) (A1:Option Addr) (n1 d1:Nat) (A2:Option Addr) (n2 d2:Nat) (P:List PC) (x:Fx) (p:PC) (w:World) (hp:shPr.In w A1 n1 P) (hn:n1≤9223372036854775806) (hx:pcF P x.pr=some p) :
  Rt 16 #[.agg #[.slice A0 n0 d0,.slice A1 n1 d1,.slice A2 n2 d2],x.val] w (.int .i64 p.wa):=by
 obtain rfl:n1=P.length:=hp.1;have hnn:¬ pcI P x.pr<0:=fun h=>by rw [qgv.1 h] at hx;cases hx
 have hat:=pcI_at hnn;rw [hx] at hat;have hge:=pcI_ge P x.pr;have hlt:=pcI_lt P x.pr;obtain ⟨k,hk⟩:∃ k:Nat,pcI P x.pr=k:=⟨(pcI P x.pr).toNat,o_⟩
 have hkl:k<P.length:=o_
 rw [hk,show ((k:Int).toNat)=k by omega,qa1 hkl] at hat
 injection hat with hat
 obtain ⟨ch,pt,pr,un,ad,ph,cb⟩:=x;dsimp only at hk;obtain ⟨b,o,rfl,hbl,hcell⟩:=pc_at hp o_
 have hc:=(hcell k hkl).2.2.1;rw [← hat] at hc;have HPf:=hj_ (fun w' (hb:Below w.heap.size w w')=>(show Calls prog 50 #[.slice (some ⟨b,o,none⟩) P.length d1,.string pr] w' fun e w''=>e=.returned (.int .i64 (k:Int))∧Below w'.heap.size w' w'' from by
  rw [← hk];exact qna (some ⟨b,o,none⟩) P.length d1 P pr w' (hp.below hb) hn))
 show Rt 16 #[.agg #[.slice A0 n0 d0,.slice (some ⟨b,o,none⟩) P.length d1,.slice A2 n2 d2],.agg #[.int .i64 ch,.int .i64 pt,.string pr,.int .i64 un,.int .i64 ad,.int .i64 ph,.string cb]] w (.int .i64 p.wa)
 obtain ⟨W,HW,HB0,HK⟩:=bx3_7 w (.slice A0 n0 d0) (.slice (some ⟨b,o,none⟩) P.length d1) (.slice A2 n2 d2) 34 (.int .i64 ch) (.int .i64 pt) (.string pr) (.int .i64 un) (.int .i64 ad) (.int .i64 ph) (.string cb) 45;have hB:=Below.refl W.heap.size W;obtain ⟨c0,c1,c2,c3,c4,c5,c6,c7,c8,c9⟩:=HK.out W hB;have i0:(0:Int)≤(k:Int):=o_
 have i1:(k:Int)<(P.length:Int):=o_
 have HC:=hj_ (fun w' (hb:Below W.heap.size W w')=>((ht_ HB0.out hb).cell (p:=⟨b,o+k*4+2,none⟩) hbl).trans hc)
 clear hp hnn hge hlt hk hx hcell hc hat;generalize p.wa=pw at *;replace hB:=q18 hB 1;obtain ⟨c0,c1,c2,c3,c4,c5,c6,c7,c8,c9⟩:=HK.out _ hB;have q0:=HC.out _ hB
 go_enter func16,ntmps16
 go_wp2_with fail;rw [← HW.out];refine wp_region_held_drew (S:=fun w'=>w'.cell? ⟨w.heap.size,1,none⟩=some (.slice (some ⟨b,o,none⟩) P.length d1)∧w'.cell? ⟨w.heap.size+1,2,none⟩=some (.string pr)∧w'.cell? ⟨b,o+k*4+2,none⟩=some (.int .i64 pw)) k_ ⟨c1,c5,q0⟩ (fun hHeld=>?_)
 refine tq 0 ?_;refine tq 1 ?_;refine tq 2 ?_;refine tq 3 ?_;refine tq 4 ?_;refine tq 5 ?_;refine tr 6 fun K hK=>?_
 go_simp
 go_at_call 50;refine up_ (HPf.out _ (ht_ HB0.out hB)) hB fun wk hB=>?_;obtain ⟨c0,c1,c2,c3,c4,c5,c6,c7,c8,c9⟩:=HK.out _ hB;replace q0:=HC.out _ hB;have hbw:=Nat.lt_of_lt_of_le hbl (Nat.le_trans HB0.out.size hB.size)
 go_wp2_with fail;refine hK.out _ _ ⟨c1,c5,q0⟩ (fun hHeld=>?_)
 clear hK K;refine tq 7 ?_;refine tq 8 ?_;refine tq 9 ?_;refine tq 10 ?_;refine wpAnyH_done k_ ?_ _
 have hz:=ht_ HB0.out hB;clear c0 c1 c2 c3 c4 c5 c6 c7 c8 c9 q0;go_wp2_with fail;go_ret;exact ⟨by go_simp,hz⟩
theorem bl_irr:∀ l:List UInt8,Op.bytesLess l l=false
 | []=>rfl
 | a :: l=>by simp [Op.bytesLess,bl_irr l]
theorem bl_tot:∀ x y:List UInt8,Op.bytesLess x y=false→Op.bytesLess y x=false→x=y
 | [],[],_,_=>rfl
 | [],_ :: _,h,_=>by cases h
 | _ :: _,[],_,h=>by cases h
 | a :: x,b :: y,h1,h2=>by
  simp only [Op.bytesLess,Bool.or_eq_false_iff,decide_eq_false_iff_not,Bool.and_eq_false_iff,beq_eq_false_iff_ne] at h1 h2;have e:a=b:=UInt8.toNat_inj.1 (by
   have h3:=h1.1;have h4:=h2.1;rw [UInt8.lt_iff_toNat_lt] at h3 h4
   omega)
  subst e;rw [bl_tot x y (h1.2.resolve_left s_) (h2.2.resolve_left s_)]
theorem bl_tr:∀ x y z:List UInt8,Op.bytesLess x y=true→Op.bytesLess y z=true→Op.bytesLess x z=true
 | _,[],[],_,h=>by cases h
 | _,_ :: _,[],_,h=>by cases h
 | [],[],_ :: _,h,_=>by cases h
 | _ :: _,[],_ :: _,h,_=>by cases h
 | [],_ :: _,_ :: _,_,_=>rfl
 | a :: x,b :: y,c :: z,h1,h2=>by
  simp only [Op.bytesLess,Bool.or_eq_true,decide_eq_true_eq,Bool.and_eq_true,beq_iff_eq] at h1 h2 ⊢
  rcases h1 with h1 | ⟨rfl,h1⟩
  ·rcases h2 with h2 | ⟨rfl,h2⟩
   ·left
    rw [UInt8.lt_iff_toNat_lt] at *;omega
   ·exact Or.inl h1
  ·rcases h2 with h2 | ⟨rfl,h2⟩
   ·exact Or.inl h2
   ·exact Or.inr ⟨rfl,bl_tr x y z h1 h2⟩
def bl (x y:ByteArray):Bool:=Op.bytesLess x.toList y.toList
theorem bl_eq {x y:ByteArray} (h1:bl x y=false) (h2:bl y x=false):x=y:=by
 have h:=bl_tot _ _ h1 h2;rw [ByteArray.toList_eq,ByteArray.toList_eq] at h;exact ByteArray.ext (Array.ext' h)
def cmpS (x y:ByteArray):Int:=if bl x y then -1 else if bl y x then 1 else 0
theorem q0kx (x y:ByteArray):decide (cmpS x y<0)=bl x y:=by
 unfold cmpS
 cases bl x y <;> cases bl y x <;> rfl
def sb {α:Type} (f:α→Int):List α→Int
 | []=>0
 | a :: l=>f a+sb f l
theorem sb_app {α:Type} (f:α→Int):∀ l m:List α,sb f (l ++ m)=sb f l+sb f m
 | [],m=>by simp [sb]
 | a :: l,m=>by rw [List.cons_append,sb,sb,sb_app f l m];omega
theorem q0nv {α:Type} (f:α→Int) (l:List α) (x:α):sb f (l ++ [x])=sb f l+f x:=by rw [sb_app];simp [sb]
theorem q0nu {α:Type} (f:α→Int) {l m:List α} (h:l.Perm m):sb f l=sb f m:=by
 induction h with
 | nil=>rfl
 | cons a _ ih=>rw [sb,sb,ih]
 | swap a b l=>simp only [sb];omega
 | trans _ _ h1 h2=>exact h1.trans h2
theorem sb_map {α β:Type} (g:α→β) (f:β→Int):∀ l:List α,sb f (l.map g)=sb (fun a=>f (g a)) l
 | []=>rfl
 | a :: l=>by rw [List.map_cons,sb,sb,sb_map g f l]
theorem q0ns {α:Type} {f g:α→Int}:∀ {l:List α},(∀ x ∈ l,f x=g x)→sb f l=sb g l
 | [],_=>rfl
 | a :: l,h=>by rw [sb,sb,h a s_,q0ns fun x hx=>h x (by simp [hx])]
theorem sb_or {α:Type} (f:α→Int) (p q r:α→Bool):∀ l:List α,(∀ x ∈ l,r x=(p x || q x))→(∀ x ∈ l,(p x && q x)=false)→sb f (l.filter r)=sb f (l.filter p)+sb f (l.filter q)
 | [],_,_=>rfl
 | a :: l,h,k=>by
  have ih:=sb_or f p q r l (fun x hx=>h x (by simp [hx])) (fun x hx=>k x (by simp [hx]))
  have h1:=h a s_
  have k1:=k a s_
  rw [List.filter_cons,List.filter_cons,List.filter_cons,h1]
  cases hp:p a <;> cases hq:q a <;> rw [hp,hq] at k1 <;> simp [sb] at k1 ⊢ <;> omega
theorem q0nt {α β:Type} [DecidableEq β] (key:α→β) (f:α→Int) (l:List α):∀ ks:List β,ks.Nodup→sb (fun k=>sb f (l.filter fun x=>decide (key x=k))) ks=sb f (l.filter fun x=>ks.any fun k=>decide (key x=k))
 | [],_=>by
  have e:l.filter (fun x=>([]:List β).any fun k=>decide (key x=k))=[]:=List.filter_eq_nil_iff.2 fun _ _ h=>by cases h
  rw [e];rfl
 | k :: ks,h=>by
  have h1:=(List.nodup_cons.1 h);rw [sb,q0nt key f l ks h1.2];refine (sb_or f _ _ _ l (fun x _=>rfl) (fun x _=>?_)).symm
  by_cases e:key x=k
  ·have:ks.any (fun k=>decide (key x=k))=false:=List.any_eq_false.2 fun q hq=>by
    rw [decide_eq_true_eq];rintro rfl;exact h1.1 (e ▸ hq)
   rw [this,Bool.and_false]
  ·rw [decide_eq_false e,Bool.false_and]
theorem sb_if {α:Type} (f:α→Int) (p:α→Prop) [DecidablePred p]:∀ l:List α,sb (fun x=>if p x then f x else 0) l=sb f (l.filter fun x=>decide (p x))
 | []=>rfl
 | a :: l=>by
  rw [sb,sb_if f p l,List.filter_cons]
  by_cases h:p a
  ·rw [if_pos h,decide_eq_true h];rfl
  ·rw [if_neg h,decide_eq_false h];simp
theorem q0kz {α:Type} (f:α→Int) (l:List α):l.foldl (fun s x=>s+f x) 0=sb f l:=by
 refine q0hd (m:=fun l=>l.foldl (fun s x=>s+f x) 0=sb f l) rfl (fun l x ih=>?_) l
 rw [List.foldl_append,q0nv,ih];rfl
theorem sb_one {α:Type}:∀ l:List α,sb (fun _=>(1:Int)) l=l.length
 | []=>rfl
 | a :: l=>by rw [sb,sb_one l,List.length_cons];omega
def sumW (P:List PC) (X:List Fx):Int:=sb (wattV P) X
theorem q0o8 (P:List PC) (X:List Fx) (x:Fx):sumW P (X ++ [x])=sumW P X+wattV P x:=q0nv _ _ _
theorem WOk.sub {Y:List Fx} (h:WOk P X) (hs:∀ x ∈ Y,x ∈ X):WOk P Y:=fun x hx=>h x (hs x hx)
theorem q0o7:WOk P X→0≤sumW P X∧sumW P X≤X.length*1048576:=by
 refine q0hd (m:=fun X=>WOk P X→0≤sumW P X∧sumW P X≤X.length*1048576) ?_ ?_ X
 ·intro _;exact ⟨Int.le_refl _,by simp [sumW,sb]⟩
 ·intro X x ih h
  have h1:=ih (fun y hy=>h y (by simp [hy]))
  obtain ⟨p,hp,p0,p1⟩:=h x s_
  rw [q0o8,q0iz hp,List.length_append];simp only [List.length_cons,List.length_nil];omega
theorem q0ls (P:List PC) (X:List Fx) (k:Int):phaseV P X k=sb (wattV P) (X.filter fun x=>decide (x.ph=k)):=q0kz _ _
theorem q0lt:(∀ x ∈ X,1≤x.ph∧x.ph≤3)→phaseV P X 1+phaseV P X 2+phaseV P X 3=sumW P X:=by
 refine q0hd (m:=fun X=>(∀ x ∈ X,1≤x.ph∧x.ph≤3)→phaseV P X 1+phaseV P X 2+phaseV P X 3=sumW P X) (fun _=>rfl) (fun X x ih h=>?_) X
 have h1:=ih (fun y hy=>h y (by simp [hy]))
 have h2:=h x s_
 rw [q0g9,q0g9,q0g9,q0o8]
 repeat' split <;> try omega
def gK (X:List Fx) (k:ByteArray):List Fx:=X.filter fun x=>decide (x.cb=k)
def phOf (X:List Fx):Int:=if X.any (fun x=>decide (x.ph≠(X.headD fx0).ph)) then 0 else (X.headD fx0).ph
def cbl (P:List PC) (l:List Fx):Gl:=⟨(l.headD fx0).cb,(l.length:Int),sumW P l,phOf l⟩
def cblB (l:List Fx):Bool:=decide ((l.headD fx0).cb≠⟨#[]⟩)
def cblV (P:List PC) (X:List Fx):List Gl:=((gsV Fx.cb X).filter cblB).map (cbl P)
def nkV (X:List Fx):List ByteArray:=(ksV Fx.cb X).filter fun k=>decide (k≠⟨#[]⟩)
theorem q0l0 (h:k ∈ ksV Fx.cb X):((gK X k).headD fx0).cb=k:=by
 obtain ⟨x,hx,e⟩:=(q0fi _ _ _).1 h;have hm:x ∈ gK X k:=List.mem_filter.2 ⟨hx,by simpa using e⟩
 have ha:∀ y ∈ gK X k,y.cb=k:=fun y hy=>by simpa using (List.mem_filter.1 hy).2
 revert hm ha
 generalize gK X k=l;intro hm ha
 cases l with
 | nil=>cases hm
 | cons a l=>exact ha a s_
theorem q0ks (P:List PC) (X:List Fx):cblV P X=(nkV X).map fun k=>cbl P (gK X k):=by
 unfold cblV nkV gsV;rw [List.filter_map,List.map_map];have e:(ksV Fx.cb X).filter (cblB ∘ fun k=>X.filter fun x=>decide (x.cb=k))=(ksV Fx.cb X).filter fun k=>decide (k≠⟨#[]⟩):=by
  apply List.filter_congr
  intro k hk;show decide (((gK X k).headD fx0).cb≠⟨#[]⟩)=_
  rw [q0l0 hk]
 rw [e]
 rfl
theorem q0lk (X:List Fx):(nkV X).Nodup:=List.Pairwise.filter _ (q0fj _ _)
theorem q0lj:k ∈ nkV X↔k≠⟨#[]⟩∧∃ x ∈ X,x.cb=k:=by
 unfold nkV;rw [List.mem_filter,q0fi,decide_eq_true_eq];exact And.comm
theorem q0kt (P:List PC) (X:List Fx):(cblV P X).map (·.s)=nkV X:=by
 rw [q0ks,List.map_map];refine (List.map_congr_left (g:=id) fun k hk=>?_).trans (List.map_id _)
 exact q0l0 (List.mem_filter.1 hk).1
structure Cbs (P:List PC) (X:List Fx) (C:List Gl):Prop where
 perm:C.Perm (cblV P X)
 sort:C.Pairwise fun x y=>bl y.s x.s=false
theorem Cbs.names {C:List Gl} (h:Cbs P X C):(C.map (·.s)).Nodup:=by
 have:=h.perm.map (·.s)
 rw [q0kt] at this;exact this.nodup_iff.2 (q0lk X)
theorem Cbs.up {C:List Gl} (h:Cbs P X C) {i j:Nat} (hi:i<C.length) (hj:j<C.length) (hij:i<j):bl C[i].s C[j].s=true:=by
 have h1:=List.pairwise_iff_getElem.1 h.sort i j hi hj hij
 cases h2:bl C[i].s C[j].s with
 | true=>rfl
 | false =>
  have e:=bl_eq h2 h1;have hn:=h.names
  have:=q0fx hn (i:=i) (j:=j) (by simpa using hi) (by simpa using hj) (by simpa using e)
  omega
theorem Cbs.mem {C:List Gl} (h:Cbs P X C) {c:Gl}:c ∈ C↔∃ k ∈ nkV X,c=cbl P (gK X k):=by
 rw [h.perm.mem_iff,q0ks,List.mem_map];exact ⟨fun ⟨k,hk,e⟩=>⟨k,hk,e.symm⟩,fun ⟨k,hk,e⟩=>⟨k,hk,e.symm⟩⟩
theorem q0le (X:List Fx) (f:Fx→Int):sb (fun k=>sb f (gK X k)) (nkV X)+sb (fun x=>if x.cb=⟨#[]⟩ then f x else 0) X=sb f X:=by
 rw [sb_if];unfold gK;rw [q0nt Fx.cb f X (nkV X) (q0lk X)];have e:X.filter (fun _=>true)=X:=List.filter_eq_self.2 fun _ _=>rfl
 rw [← sb_or f _ _ (fun _=>true) X (fun x hx=>?_) (fun x hx=>?_),e]
 ·by_cases h:x.cb=⟨#[]⟩
  ·rw [decide_eq_true h,Bool.or_true]
  ·have:(nkV X).any (fun k=>decide (x.cb=k))=true:=List.any_eq_true.2 ⟨x.cb,q0lj.2 ⟨h,x,hx,rfl⟩,decide_eq_true rfl⟩
   rw [this];rfl
 ·by_cases h:x.cb=⟨#[]⟩
  ·have:(nkV X).any (fun k=>decide (x.cb=k))=false:=List.any_eq_false.2 fun k hk=>by
    rw [decide_eq_true_eq];rintro rfl;exact (q0lj.1 hk).1 h
   rw [this];rfl
  ·rw [decide_eq_false h,Bool.and_false]
theorem Cbs.total {C:List Gl} (h:Cbs P X C):sb (·.st) C+sb (fun x=>if x.cb=⟨#[]⟩ then wattV P x else 0) X=sumW P X:=by
 rw [q0nu _ h.perm,q0ks,sb_map];exact q0le X (wattV P)
theorem Cbs.count {C:List Gl} (h:Cbs P X C):sb (·.v) C+sb (fun x=>if x.cb=⟨#[]⟩ then 1 else 0) X=X.length:=by
 rw [q0nu _ h.perm,q0ks,sb_map,← sb_one X,← q0le X fun _=>1]
 congr 1
 exact q0ns fun k _=>(sb_one _).symm
theorem Cbs.bd {C:List Gl} (h:Cbs P X C) (hW:WOk P X):∀ c ∈ C,0≤c.v∧0≤c.st∧c.v≤X.length∧c.st≤X.length*1048576:=fun c hc=>by
 obtain ⟨k,_,rfl⟩:=h.mem.1 hc;have h1:=q0o7 (hW.sub (Y:=gK X k) fun x hx=>(List.mem_filter.1 hx).1)
 have h2:(gK X k).length≤X.length:=List.length_filter_le _ _;refine ⟨by show (0:Int)≤((gK X k).length:Int);omega,h1.1,by show ((gK X k).length:Int)≤_;omega,?_⟩
 show sumW P (gK X k)≤_
 omega
theorem Cbs.len {C:List Gl} (h:Cbs P X C):C.length≤X.length:=by
 rw [h.perm.length_eq,q0ks,List.length_map];exact Nat.le_trans (List.length_filter_le _ _) (ksV_le _ _)
theorem q3u (g:Nat) (cb:Array Value) (p:Fx→Bool) (A:Option Addr) (n c:Nat) (l:List Fx) (w:World) (eg:∀ args w,(callFunc g args).run prog w=.ok (.enter g args) w) (hl:shX.In w A n l) (hn:n≤9223372036854775807)
  (hf:∀ i (h:i<l.length) (W:World),Below w.heap.size w W→Calls prog g (#[l[i].val] ++ cb) W fun e w'=>e=.returned (.bool (p l[i]))∧Below W.heap.size W w') :
  Rt 135 #[.slice A n c,.func (.func g) #[] cb] w (.bool (l.any p)):=by
 have hB:=Below.refl w.heap.size w;have HI:=hj_ (qbo g cb p A n c l w eg hl hn hf);have hi:decide (0≤idxOf p l)=l.any p:=by
  rw [Bool.eq_iff_iff,decide_eq_true_eq]
  constructor
  ·intro h
   have hlt:=qbb (p:=p) l;have h2:=qba (p:=p) (l:=l) (k:=(idxOf p l).toNat) o_ o_
   exact List.any_eq_true.2 ⟨_,List.getElem_mem _,h2⟩
  ·intro h
   have hge:=qb9 (p:=p) l;refine Classical.byContradiction fun h0=>?_
   have h1:idxOf p l=-1:=o_
   obtain ⟨x,hx,hp⟩:=List.any_eq_true.1 h;have key:∀ {l:List Fx},idxOf p l=-1→∀ x ∈ l,p x=false:=by
    intro l
    induction l with
    | nil=>intro _ x hx;exact absurd hx (List.not_mem_nil)
    | cons a l ih =>
     intro h x hx;rw [idxOf] at h
     cases ha:p a with
     | true=>rw [ha] at h;simp at h
     | false =>
      rw [ha] at h;simp only [Bool.false_eq_true,if_false] at h;have hg:=qb9 (p:=p) l
      rcases List.mem_cons.1 hx with rfl | hx
      ·exact ha
      ·by_cases h2:idxOf p l<0
       ·exact ih o_ x hx
       ·rw [if_neg h2] at h;omega
   rw [key h1 x hx] at hp
   cases hp
 clear hl hf;generalize idxOf p l=K at *;generalize l.any p=q at *
 go_enter func135,ntmps135
 go_wp2_with fail;refine up_ HI.out hB fun wk hB=>?_;go_wp2_with fail;go_ret;exact ⟨by first | rfl | exact ret_b hi,hB⟩
theorem q0la (A0:Option Addr) (n0 d0:Nat) (A1:Option Addr) (n1 d1:Nat) (A2:Option Addr) (n2 d2:Nat) (P:List PC) (A:Option Addr) (c:Nat) (l:List Fx) (w:World)
  (hp:shPr.In w A1 n1 P) (hn1:n1≤9223372036854775806) (hl:shX.In w A l.length l) (hln:l.length≤1000) (hW:WOk P l) :
  Rt 94 #[.agg #[.slice A0 n0 d0,.slice A1 n1 d1,.slice A2 n2 d2],.slice A l.length c] w (.int .i64 (sumW P l)):=by
 have HWk:=hj_ hW;have HLn:=hj_ hln;have HBd:=hj_ (show ∀ k,k≤l.length→0≤sumW P (l.take k)∧sumW P (l.take k)≤1048576000 from fun k hk=>by
  have h:=q0o7 (hW.sub (Y:=l.take k) fun x hx=>List.mem_of_mem_take hx)
  rw [List.length_take,Nat.min_eq_left hk] at h
  omega)
 have HPf:=hj_ (fun (x:Fx) (p:PC) w' (hb:Below w.heap.size w w') (h:pcF P x.pr=some p)=>q0fd A0 n0 d0 A1 n1 d1 A2 n2 d2 P x p w' (hp.below hb) hn1 h)
 obtain ⟨W,HW,HB0,HK⟩:=bx3 w (.slice A0 n0 d0) (.slice A1 n1 d1) (.slice A2 n2 d2) 75;have hB:=Below.refl W.heap.size W;obtain ⟨c0,c1,c2⟩:=HK.out W hB;have HL:=hj_ (hl.below HB0.out);clear hl hp hn1 hln hW
 go_enter func94,ntmps94
 go_wp2_with fail;rw [← HW.out];go_wp2_with fail;clear c0 c1 c2
 go_loopw [5,10] (fun sv iv wr=>∃ k:Nat,k≤l.length∧iv=.int .i64 k∧sv=.int .i64 (sumW P (l.take k))∧Below W.heap.size W wr) (fun _ iv _=>l.length-(intOf iv).toNat)
 case atStart=>exact ⟨0,Nat.zero_le _,rfl,rfl,br_⟩
 case round =>
  obtain ⟨k,hk,rfl,rfl,hB⟩:=hrel
  by_cases hlt:k<l.length
  ·obtain ⟨b,o,rfl,hbl,hcell⟩:=fx_at HL.out o_
   have hk7:=hcell k hlt;have kk:=fun (q:Nat)=>hB.cell (p:=⟨b,q,none⟩) hbl
   have hbw:b<wr.heap.size:=Nat.lt_of_lt_of_le hbl hB.size;have hpush:=q0o8 P (l.take k) l[k];rw [← List.take_succ_eq_append_getElem hlt] at hpush;have hbd1:=HBd.out (k+1) hlt;obtain ⟨p,hpc,hw0,hw1⟩:=HWk.out l[k] (List.getElem_mem hlt);rw [hpush,q0iz hpc] at hbd1;rw [q0iz hpc] at hpush;have HPu:=hj_ hpush;have HPr:=hj_ (fun w' hb=>HPf.out l[k] p w' hb hpc)
   have i0:(0:Int)≤(k:Int):=o_
   have i1:(k:Int)<(l.length:Int):=o_
   have w0:IntKind.i64.wrap ((k:Int)+1)=(k:Int)+1:=IntWalk.i64_in _ (oh_ HLn.out)
   have w1:IntKind.i64.wrap (sumW P (l.take k)+p.wa)=sumW P (l.take k)+p.wa:=IntWalk.i64_in _ o_
   have HLt:=hj_ hlt;clear hcell hpush hpc hbd1 hw0 hw1;generalize l[k]=x at *;obtain ⟨ch,pt,pr,un,ad,ph,cb⟩:=x;obtain ⟨ps,pf,pw,pA,pn,pc⟩:=p;dsimp only at hk7 HPu w1;obtain ⟨k0,k1,k2,k3,k4,k5,k6⟩:=hk7;have p0:=(kk _).trans k0;have p1:=(kk _).trans k1;have p2:=(kk _).trans k2;have p3:=(kk _).trans k3;have p4:=(kk _).trans k4;have p5:=(kk _).trans k5;have p6:=(kk _).trans k6;have HPr2:=hj_ (show ∀ w',Below w.heap.size w w'→Calls prog 32 #[.agg #[.slice A0 n0 d0,.slice A1 n1 d1,.slice A2 n2 d2],.agg #[.int .i64 ch,.int .i64 pt,.string pr,.int .i64 un,.int .i64 ad,.int .i64 ph,.string cb]] w' fun e w''=>e=.returned (.agg #[.string ps,.int .i64 pf,.int .i64 pw,.slice pA pn pc])∧Below w'.heap.size w' w'' from HPr.out)
   have hb1:Below wr.heap.size wr (wr.alloc (.cells #[.int .i64 ch,.int .i64 pt,.string pr,.int .i64 un,.int .i64 ad,.int .i64 ph,.string cb] 45)):=(br_).alloc lr_ _;have hB1:=ht_ hB hb1;obtain ⟨c0,c1,c2⟩:=HK.out _ hB1;have HB1:=hj_ (ht_ HB0.out hB1);have HB2:=hj_ hB1;have hwl:w.heap.size<wr.heap.size:=Nat.lt_of_lt_of_le (by rw [HW.out];simp) hB.size
   have hfd:∀ w,(Instr.field 87 (.agg #[.string ps,.int .i64 pf,.int .i64 pw,.slice pA pn pc]) 2).run prog w=.ok (.int .i64 pw) w:=fun w=>k_
   clear k0 k1 k2 k3 k4 k5 k6 kk HPr hB hb1 hB1;generalize sumW P (l.take k)=s at *;go_wp2_with fail;refine (HPr2.out _ HB1.out).mono ?_;rintro e w2 ⟨rfl,hb⟩;have HB3:=hj_ (ht_ HB2.out hb);clear hb c0 c1 c2 p0 p1 p2 p3 p4 p5 p6;go_wp2_with fail
   go_roundw
   case rel=>exact ⟨k+1,HLt.out,by go_num,by rw [HPu.out],HB3.out⟩
   case measure=>have:=HLt.out;simp [intOf];omega
  ·obtain rfl:k=l.length:=by omega
   rw [List.take_length];go_wp2_with fail;go_ret;exact ⟨rfl,ht_ HB0.out hB⟩
theorem q0l8 (y:Fx) (Q:Nat) (A:Option Addr) (n c:Nat) (l:List Fx) (w:World) (hQ:w.cell? ⟨Q,0,none⟩=some (.slice A n c)) (bq:Q<w.heap.size) (hl:shX.In w A n l) (h0:0<l.length) :
  Rt 136 #[y.val,.pointer (some ⟨Q,0,none⟩)] w (.bool (decide (y.ph≠(l.headD fx0).ph))):=by
 obtain ⟨b,o,rfl,hbl,hcell⟩:=fx_at hl h0;have hph:=(hcell 0 h0).2.2.2.2.2.1;obtain rfl:n=l.length:=hl.1;have he:(l.headD fx0).ph=(l[0]'h0).ph:=by cases l with | nil=>cases h0 | cons a l=>rfl
 rw [he];clear he hl hcell;generalize (l[0]'h0).ph=q at *;obtain ⟨ch,pt,pr,un,ad,ph,cb⟩:=y;dsimp only;show Rt 136 #[.agg #[.int .i64 ch,.int .i64 pt,.string pr,.int .i64 un,.int .i64 ad,.int .i64 ph,.string cb],.pointer (some ⟨Q,0,none⟩)] w (.bool (decide (ph≠q)))
 obtain ⟨W,HW,HB0,HK⟩:=bx7 w (.int .i64 ch) (.int .i64 pt) (.string pr) (.int .i64 un) (.int .i64 ad) (.int .i64 ph) (.string cb) 45;have hB:=Below.refl W.heap.size W;obtain ⟨c0,c1,c2,c3,c4,c5,c6⟩:=HK.out W hB;replace hB:=q18 hB 1;have HS:=hj_ (fun (w':World) (h:Below W.heap.size W w')=>show w'.cell? ⟨w.heap.size,5,none⟩=some (.int .i64 ph)∧w'.cell? ⟨Q,0,none⟩=some (.slice (some ⟨b,o,none⟩) l.length c)∧w'.cell? ⟨b,o+5,none⟩=some (.int .i64 q) from
  ⟨(HK.out w' h).2.2.2.2.2.1,(h.cell (p:=⟨Q,0,none⟩) (Nat.lt_of_lt_of_le bq HB0.out.size)).trans ((HB0.out.cell (p:=⟨Q,0,none⟩) bq).trans hQ),(h.cell (p:=⟨b,o+5,none⟩) (Nat.lt_of_lt_of_le hbl HB0.out.size)).trans ((HB0.out.cell (p:=⟨b,o+5,none⟩) hbl).trans (by simpa using hph))⟩)
 have i1:(0:Int)<(l.length:Int):=o_
 clear hQ hbl bq hph c0 c1 c2 c3 c4 c5 c6;obtain ⟨e5,e6,e7⟩:=HS.out _ (br_);have hr:(ph != q)=decide (ph≠q):=by
  by_cases h:ph=q <;> simp [h]
 have HR:=hj_ hr;clear hr
 go_enter func136,ntmps136
 go_wp2_with fail;rw [← HW.out];go_quiet (fail);replace hB:=q18 (Below.refl W.heap.size W) nq;go_wp2_with fail;go_ret;exact ⟨ret_b HR.out,ht_ HB0.out hB⟩
theorem q0l9 (A:Option Addr) (c:Nat) (l:List Fx) (w:World) (hl:shX.In w A l.length l) (h0:0<l.length) (hln:l.length≤1000) :
  Rt 95 #[.slice A l.length c] w (.int .i64 (phOf l)):=by
 obtain ⟨W,HW,HB0,HK⟩:=bx1 w (.slice A l.length c) 24;have hB:=Below.refl W.heap.size W;have c0:=HK.out W hB;have HL:=hj_ (hl.below HB0.out);have hsz:w.heap.size<W.heap.size:=by rw [HW.out];simp
 have HCo:=hj_ (show Rt 135 #[.slice A l.length c,.func (.func 136) #[] #[.pointer (some ⟨w.heap.size,0,none⟩)]] W (.bool (l.any fun x=>decide (x.ph≠(l.headD fx0).ph))) from
  q3u 136 #[.pointer (some ⟨w.heap.size,0,none⟩)] (fun x=>decide (x.ph≠(l.headD fx0).ph)) A l.length c l W (enters_of func136 k_ rfl) HL.out o_
   (fun i h W' hW'=>q0l8 l[i] _ A l.length c l W' (HK.out W' hW') (Nat.lt_of_lt_of_le hsz hW'.size) (HL.out.below hW') h0))
 obtain ⟨b,o,rfl,hbl,hcell⟩:=fx_at HL.out h0;have hph:=(hcell 0 h0).2.2.2.2.2.1;have he:(l.headD fx0).ph=(l[0]'h0).ph:=by cases l with | nil=>cases h0 | cons a l=>rfl
 have hq:phOf l=if (l.any fun x=>decide (x.ph≠(l.headD fx0).ph)) then 0 else (l.headD fx0).ph:=rfl
 rw [hq];generalize (l.any fun x=>decide (x.ph≠(l.headD fx0).ph))=q at *
 rw [he];have hmf:∀ (fn:Fn) (first cap:Array Value) (w:World),(Instr.makeFunc fn first cap).run prog w=.ok (.func fn first cap) w:=fun _ _ _ _=>rfl
 have i1:(0:Int)<(l.length:Int):=o_
 clear he hq hl hcell hln;generalize (l[0]'h0).ph=p at *;have HPh:=hj_ (show w.heap.size<W.heap.size∧b<W.heap.size∧W.cell? ⟨b,o+5,none⟩=some (.int .i64 p) from ⟨hsz,hbl,by simpa using hph⟩)
 clear hph hbl hsz h0
 cases q with
 | true =>
  go_enter func95,ntmps95
  go_wp2_with fail;rw [← HW.out];go_wp2_with fail;refine up_ HCo.out hB fun w1 hB=>?_;go_wp2_with fail;go_ret;exact ⟨rfl,ht_ HB0.out hB⟩
 | false =>
  go_enter func95,ntmps95
  go_wp2_with fail;rw [← HW.out];go_wp2_with fail;refine up_ HCo.out hB ?_;clear hB c0;intro w1 hB;have c0:=HK.out _ hB;have d5:=(hB.cell (p:=⟨b,o+5,none⟩) HPh.out.2.1).trans HPh.out.2.2;have hb1:=Nat.lt_of_lt_of_le HPh.out.2.1 hB.size;have hb2:=Nat.lt_of_lt_of_le HPh.out.1 hB.size;go_wp2_with fail;go_ret;exact ⟨rfl,ht_ HB0.out hB⟩
theorem q0l5 (i:Nat) (y:Fx) (w:World) :
  Rt 93 #[.int .i64 (i:Int),y.val] w (.string y.cb):=by
 obtain ⟨ch,pt,pr,un,ad,ph,cb⟩:=y;show Rt 93 #[.int .i64 (i:Int),.agg #[.int .i64 ch,.int .i64 pt,.string pr,.int .i64 un,.int .i64 ad,.int .i64 ph,.string cb]] w (.string cb)
 obtain ⟨W,HW,HB0,HK⟩:=bx7 w (.int .i64 ch) (.int .i64 pt) (.string pr) (.int .i64 un) (.int .i64 ad) (.int .i64 ph) (.string cb) 45;have hB:=Below.refl W.heap.size W;obtain ⟨c0,c1,c2,c3,c4,c5,c6⟩:=HK.out W hB
 go_enter func93,ntmps93
 go_wp2_with fail;rw [← HW.out];go_wp2_with fail;go_ret;exact ⟨rfl,HB0.out⟩
theorem q0li (x:ByteArray) (w:World):Calls prog 139 #[.string x] w fun e w'=>e=.returned (.bool false)∧w' = w:=by
 go_enter func139,ntmps139
 go_wp2;go_ret;exact ⟨s_,rfl⟩
theorem bl_gtr (x y:List UInt8):(!(Op.bytesLess x y || x == y))=Op.bytesLess y x:=by
 cases h1:Op.bytesLess x y with
 | true =>
  cases h2:Op.bytesLess y x with
  | true=>have:=bl_tr x y x h1 h2;rw [bl_irr] at this;cases this
  | false=>rfl
 | false =>
  cases h2:Op.bytesLess y x with
  | true =>
   have:(x == y)=false:=by
    rw [beq_eq_false_iff_ne];rintro rfl;rw [bl_irr] at h2;cases h2
   rw [this];rfl
  | false =>
   have:=bl_tot x y h1 h2
   subst this;simp
theorem q0kw (x y:ByteArray) (w:World):Calls prog 98 #[.string x,.string y] w fun e w'=>e=.returned (.int .i64 (cmpS x y))∧w' = w:=by
 have hg:=bl_gtr x.toList y.toList;have hq:cmpS x y=if Op.bytesLess x.toList y.toList then -1 else if Op.bytesLess y.toList x.toList then 1 else 0:=rfl
 rw [hq];generalize Op.bytesLess y.toList x.toList=g at *;have HN:=hj_ (fun (x:ByteArray) (w:World)=>q0li x w)
 cases hl:Op.bytesLess x.toList y.toList with
 | true =>
  clear hg
  go_enter func98,ntmps98
  go_wp2_with (go_at_call 139;refine (HN.out _ _).mono ?_;rintro e w' ⟨rfl,rfl⟩);go_ret;exact ⟨rfl,rfl⟩
 | false =>
  rw [hl,Bool.false_or] at hg
  cases g with
  | true =>
   go_enter func98,ntmps98
   go_wp2_with (go_at_call 139;refine (HN.out _ _).mono ?_;rintro e w' ⟨rfl,rfl⟩);go_ret;exact ⟨rfl,rfl⟩
  | false =>
   go_enter func98,ntmps98
   go_wp2_with (go_at_call 139;refine (HN.out _ _).mono ?_;rintro e w' ⟨rfl,rfl⟩);go_ret;exact ⟨rfl,rfl⟩
end Go.Proofs.YtabhjdmmfdfpeaaGreatDoor
