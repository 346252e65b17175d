/- Lemmas. -/
import Derived.Test.YtabhjdmmfdfpeaaGreatDoorMUniH
import Derived.Test.YtabhjdmmfdfpeaaGreatDoorPPwB
namespace Go.Proofs.YtabhjdmmfdfpeaaGreatDoor
set_option maxHeartbeats 32000000
set_option maxRecDepth 100000
open _root_.Go.Proofs.Tryz

section
open Go.RowKit
def Am.val (a:Am):Value:=.agg #[.int .i64 a.ch,.int .i64 a.at_,.string a.lev]
def hitA (ch at_:Int) (a:Am):Bool:=decide (a.ch=ch) && decide (a.at_=at_)
theorem q03l {l:List Am} {ch at_ ho:Int}:(idxOf (hitA ch at_) l<0→toldT l ch at_ ho=sR (ho:Rat))∧∀ k:Nat,idxOf (hitA ch at_) l=k→∃ hk:k<l.length,toldT l ch at_ ho=l[k].lev:=by
 have none_:∀ {l:List Am},idxOf (hitA ch at_) l<0→∀ i (h:i<l.length),hitA ch at_ l[i]=false:=by
  intro l h i hi
  cases hp:hitA ch at_ l[i] with
  | false=>rfl
  | true=>exact absurd h (q012 (List.getElem_mem hi) hp)
 refine ⟨fun h=>qsk (fun i hi=>none_ h i hi),fun k hk=>?_⟩
 have hlt:=qbb (p:=hitA ch at_) l
 have hkl:k<l.length:=by omega
 refine ⟨hkl,qsn hkl (fun i hi hik=>?_) (qba hkl hk)⟩
 have h2:idxOf (hitA ch at_) (l.take k)<0:=by
  refine Classical.byContradiction fun hn=>?_
  have hge:=qb9 (p:=hitA ch at_) (l.take k)
  have hlt2:=qbb (p:=hitA ch at_) (l.take k)
  obtain ⟨q,hq⟩:∃ q:Nat,idxOf (hitA ch at_) (l.take k)=q:=⟨(idxOf (hitA ch at_) (l.take k)).toNat,by omega⟩
  have hql:q<(l.take k).length:=by omega
  have hit:=qba hql hq;have hqk:q<k:=by rw [List.length_take] at hql;omega
  rw [List.getElem_take] at hit;have key:∀ {l:List Am} {k:Nat},idxOf (hitA ch at_) l=k→∀ i (h:i<l.length),i<k→hitA ch at_ l[i]=false:=by
   intro l
   induction l with
   | nil=>intro k _ i h;exact absurd h (Nat.not_lt_zero _)
   | cons a l ih =>
    intro k h i hi hik;rw [idxOf] at h
    cases ha:hitA ch at_ a with
    | true=>rw [ha,if_pos rfl] at h;omega
    | false =>
     rw [ha,if_neg Bool.false_ne_true] at h
     match i,hi with
     | 0,_=>exact ha
     | i+1,hi =>
      by_cases h2:idxOf (hitA ch at_) l<0
      ·rw [if_pos h2] at h;omega
      ·rw [if_neg h2] at h
       obtain ⟨m,hm⟩:∃ m:Nat,idxOf (hitA ch at_) l=m:=⟨(idxOf (hitA ch at_) l).toNat,by omega⟩
       exact ih hm i (by simpa using hi) (by omega)
  rw [key hk q (by omega) hqk] at hit
  cases hit
 have:=none_ h2 i (by rw [List.length_take];omega)
 rwa [List.getElem_take] at this
theorem q03a (g:Nat) (cb:Array Value) (p:Am→Bool) (A:Option Addr) (n c:Nat) (l:List Am) (w:World) (eg:∀ args w,(callFunc g args).run prog w=.ok (.enter g args) w) (hl:shAm.In w A n l) (hn:n≤9223372036854775807)
  (hf:∀ i (h:i<l.length) (W:World),Below w.heap.size w W→Calls prog g (#[l[i].val] ++ cb) W fun e w'=>e=.returned (.bool (p l[i]))∧Below W.heap.size W w') :
  Calls prog 103 #[.slice A n c,.func (.func g) #[] cb] w fun e w'=>e=.returned (.int .i64 (idxOf p l))∧Below w.heap.size w w':=by
 obtain ⟨rfl,_⟩:=id hl;have HL:=hj_ hl;have HF:=hj_ hf;have hB:=Below.refl w.heap.size w;obtain ⟨E,hE⟩:∃ E,E=idxOf p l:=⟨_,rfl⟩;rw [← hE];have HE:=hj_ hE;clear hl hf hE
 go_enter func103,ntmps103
 go_wp2_with fail
 go_loopw [8] (fun iv wr=>∃ k:Nat,k≤l.length∧iv=.int .i64 k∧(∀ j (h:j<l.length),j<k→p l[j]=false)∧Below w.heap.size w wr) (fun iv _=>l.length-(intOf iv).toNat)
 case atStart=>exact ⟨0,Nat.zero_le _,rfl,fun j _ h=>absurd h (Nat.not_lt_zero _),br_⟩
 case round =>
  obtain ⟨k,hk,rfl,hall,hBr⟩:=hrel;have HAll:=hj_ hall;clear hall
  by_cases hlt:k<l.length
  ·obtain ⟨b,o,rfl,hbl,hcell⟩:=am_at HL.out (by omega)
   have hk2:=hcell k hlt;have kk:=fun (q:Nat)=>hBr.cell (p:=⟨b,q,none⟩) hbl
   have hbw:b<wr.heap.size:=Nat.lt_of_lt_of_le hbl hBr.size;have hc:=HF.out k hlt wr hBr;have HY:=hj_ (show p l[k]=true→E=k from fun h=>HE.out.trans (qbd hlt (fun i hi=>HAll.out i (by omega) hi) h))
   have HN:=hj_ (show p l[k]=false→∀ j (h:j<l.length),j<k+1→p l[j]=false from fun h j hj hjk=>by
    rcases Nat.lt_or_eq_of_le (Nat.le_of_lt_succ hjk) with h1 | h1
    ·exact HAll.out j hj h1
    ·subst h1;exact h)
   clear hcell;have i0:(0:Int)≤(k:Int):=by omega
   have i1:(k:Int)<(l.length:Int):=by omega
   have HBr:=hj_ hBr;clear hBr;generalize l[k]=f at *;generalize hpf:p f=pf at *;obtain ⟨ch,at_,lev⟩:=f
   obtain ⟨k0,k1,k2⟩:=hk2;have p0:=(kk _).trans k0;have p1:=(kk _).trans k1;have p2:=(kk _).trans k2;clear k0 k1 k2 kk hpf;dsimp only at p0 p1 p2
   cases pf with
   | true =>
    have hee:E=k:=HY.out rfl;subst hee;go_wp2_with (go_at_fn g;refine hc.mono ?_;rintro e w' ⟨rfl,hb⟩;have hB:=ht_ HBr.out hb);go_ret;exact ⟨rfl,hB⟩
   | false =>
    have HN1:=hj_ (HN.out rfl);go_wp2_with (go_at_fn g;refine hc.mono ?_;rintro e w' ⟨rfl,hb⟩;have hB:=ht_ HBr.out hb)
    go_roundw
    case rel=>exact ⟨k+1,by omega,by go_num,HN1.out,hB⟩
    case measure=>simp [intOf];omega
  ·obtain rfl:k=l.length:=by omega
   have hE0:E=-1:=HE.out.trans (qbc fun i h=>HAll.out i h h)
   subst hE0;go_wp2_with fail;go_ret;exact ⟨rfl,hBr⟩
end

section
open Go.RowKit
theorem q0hb (z:Int) (h0:-9223372036854775808≤z) (h1:z≤9223372036854775807) (w:World) (ht:Tab w) :
  Calls prog 44 #[.int .i64 z] w fun e w'=>e=.returned (.string (sR (z:Rat)))∧Below w.heap.size w w':=by
 have HT:=hj_ ht;have HO:=hj_ (fun w ht=>of_fit h0 h1 w ht)
 rw [sR_int];have hB:=Below.refl w.heap.size w;clear ht h0 h1
 go_enter func44,ntmps44
 go_wp2_with ((go_at_call 77;with_reducible refine up_ (HO.out _ (HT.out.below hB)) hB ?_;clear hB;intro wk hB));go_ret;exact ⟨rfl,hB⟩
theorem q0ha (z m:Int) (h0:-9223372036854775808≤z) (h1:z≤9223372036854775807) (g0:0<m) (g1:m≤9223372036854775807) (w:World) (ht:Tab w) :
  Calls prog 105 #[.int .i64 z,.int .i64 m] w fun e w'=>e=.returned (.tuple #[.string (sR ((z:Rat) / (m:Rat))),.int .i64 0])∧Below w.heap.size w w':=by
 have HT:=hj_ ht;have HA:=hj_ (fun w ht=>of_fit h0 h1 w ht)
 have HM:=hj_ (fun w ht=>of_fit (x:=m) (by omega) g1 w ht)
 have HQ0:=fun w ht=>qjy (q8g h0 h1) (q8g (x:=m) (by omega) g1) (by omega) w ht
 rw [Rat.divInt_eq_div] at HQ0;have HQ:=hj_ HQ0;have hB:=Below.refl w.heap.size w;clear ht HQ0 h0 h1 g0 g1
 go_enter func105,ntmps105
 go_wp2_with (first | (go_at_call 77;with_reducible refine up_ (HA.out _ (HT.out.below hB)) hB ?_;clear hB;intro wk hB) | (go_at_call 77;with_reducible refine up_ (HM.out _ (HT.out.below hB)) hB ?_;clear hB;intro wk hB) | (go_at_call 147;with_reducible refine up_ (HQ.out _ (HT.out.below hB)) hB ?_;clear hB;intro wk hB))
 go_ret2;exact ⟨rfl,hB⟩
theorem q0ey (f:FC) (w:World) :
  Calls prog 102 #[f.val] w fun e w'=>e=.returned (.bool (decide (f.at_=0)))∧Below w.heap.size w w':=by
 obtain ⟨at_,bits,co,fi,cu,ho,lo,hi,sn,A,n,c⟩:=f
 show Calls prog 102 #[.agg #[.int .i64 at_,.int .i64 bits,.int .i64 co,.int .i64 fi,.int .i64 cu,.int .i64 ho,.int .i64 lo,.int .i64 hi,.bool sn,.slice A n c]] w fun e w'=>e=.returned (.bool (decide (at_=0)))∧Below w.heap.size w w'
 have hbq:(at_ == 0)=decide (at_=0):=by by_cases h:at_=0 <;> simp [h]
 obtain ⟨W,hW⟩:∃ W,W=w.alloc (.cells #[.int .i64 at_,.int .i64 bits,.int .i64 co,.int .i64 fi,.int .i64 cu,.int .i64 ho,.int .i64 lo,.int .i64 hi,.bool sn,.slice A n c] 114):=⟨_,rfl⟩
 obtain ⟨hB0,hK⟩:=fbox at_ bits co fi cu ho lo hi sn A n c w W hW
 have HK:=hj_ hK;have HW:=hj_ hW;have HB0:=hj_ hB0;have hB:=Below.refl W.heap.size W;obtain ⟨c0,c1,c2,c3,c4,c5,c6,c7,c8,c9⟩:=hK W hB;clear hW hB0 hK;generalize decide (at_=0)=q at *
 go_enter func102,ntmps102
 go_wp2_with fail;rw [← HW.out];go_wp2_with fail;go_ret;exact ⟨rfl,HB0.out⟩
theorem q0ez (a:Am) (X:Nat) (ch:Int) (w:World) (hX:X<w.heap.size) (x0:w.cell? ⟨X,0,none⟩=some (.int .i64 ch)) (x1:w.cell? ⟨X,1,none⟩=some (.int .i64 0)) :
  Calls prog 104 #[a.val,.pointer (some ⟨X,0,none⟩)] w fun e w'=>e=.returned (.bool (hitA ch 0 a))∧Below w.heap.size w w':=by
 have hq:hitA ch 0 a=decide ((a.ch,a.at_)=(ch,(0:Int))):=by
  unfold hitA
  by_cases h1:a.ch=ch <;> by_cases h2:a.at_=0 <;> simp [h1,h2]
 rw [hq];obtain ⟨ac,aa,lev⟩:=a;show Calls prog 104 #[.agg #[.int .i64 ac,.int .i64 aa,.string lev],.pointer (some ⟨X,0,none⟩)] w fun e w'=>e=.returned (.bool (decide ((ac,aa)=(ch,(0:Int)))))∧Below w.heap.size w w'
 have heq:∀ w,(Op.equalIn 10000 64 (.agg #[.int .i64 ac,.int .i64 aa]) (.agg #[.int .i64 ch,.int .i64 0])).run prog w=.ok (decide ((ac,aa)=(ch,(0:Int)))) w:=fun w=>q6x (ac,aa) (ch,0) w
 clear hq;generalize decide ((ac,aa)=(ch,(0:Int)))=q at *;obtain ⟨W,hW⟩:∃ W,W=(w.alloc (.cells #[.int .i64 ac,.int .i64 aa,.string lev] 66)):=⟨_,rfl⟩;obtain ⟨hB0,hK0⟩:=box1 #[.int .i64 ac,.int .i64 aa,.string lev] 66 w W hW;have hK:∀ w',Below W.heap.size W w'→w'.cell? ⟨w.heap.size,0,none⟩=some (.int .i64 ac)∧w'.cell? ⟨w.heap.size,1,none⟩=some (.int .i64 aa)∧w'.cell? ⟨w.heap.size,2,none⟩=some (.string lev):=fun w' h=>⟨(hK0 w' h) 0 _ rfl,(hK0 w' h) 1 _ rfl,(hK0 w' h) 2 _ rfl⟩
 have HK:=hj_ hK;have HW:=hj_ hW;have HB0:=hj_ hB0;have hB:=Below.refl W.heap.size W;obtain ⟨c0,c1,c2⟩:=hK W hB;clear hW hB0 hK hK0;have y0:=(HB0.out.cell (p:=⟨X,0,none⟩) hX).trans x0;have y1:=(HB0.out.cell (p:=⟨X,1,none⟩) hX).trans x1;clear x0 x1;have eW:=HW.out;clear HW HK hB;subst eW
 go_enter func104,ntmps104
 go_wp2_with fail;go_ret;exact ⟨rfl,HB0.out⟩
end

section
open Go.RowKit
theorem q0f1 (A0:Option Addr) (n0 d0:Nat) (A1:Option Addr) (n1 d1:Nat) (A2:Option Addr) (n2 d2:Nat) (P:List PC) (x:Fx) (p:PC) (H:List FC) (A:Option Addr) (n c:Nat) (l:List Am) (w:World) (hp:shPr.In w A1 n1 P) (hn:n1≤9223372036854775806) (hx:pcF P x.pr=some p)
  (hH:shF.In w p.A p.n H) (hHn:p.n≤9223372036854775807) (hl:shAm.In w A n l) (hln:n≤9223372036854775807) (hwa:0≤p.wa∧p.wa≤1048576) (hlev:∀ f ∈ H,f.at_=0→(0≤f.ho∧f.ho≤65535)∧∃ r,toldT l x.ch 0 f.ho=sR r∧SzR 130 r) (ht:Tab w) :
  Calls prog 60 #[.agg #[.slice A0 n0 d0,.slice A1 n1 d1,.slice A2 n2 d2],.slice A n c,x.val] w fun e w'=>e=.returned (.tuple #[.string (sR (loadQ H l x.ch p.wa)),.int .i64 0])∧Below w.heap.size w w':=by
 obtain ⟨ch,pt,pr,un,ad,ph,cb⟩:=x;show Calls prog 60 #[.agg #[.slice A0 n0 d0,.slice A1 n1 d1,.slice A2 n2 d2],.slice A n c,.agg #[.int .i64 ch,.int .i64 pt,.string pr,.int .i64 un,.int .i64 ad,.int .i64 ph,.string cb]] w fun e w'=>e=.returned (.tuple #[.string (sR (loadQ H l ch p.wa)),.int .i64 0])∧Below w.heap.size w w'
 have HPf:=hj_ (fun w hp=>q0fd A0 n0 d0 A1 n1 d1 A2 n2 d2 P ⟨ch,pt,pr,un,ad,ph,cb⟩ p w hp hn hx)
 obtain rfl:n=l.length:=hl.1;obtain ⟨ps,pf,pw,pA,pn,pc⟩:=p;dsimp only at hH hHn hwa hlev hx;obtain rfl:pn=H.length:=hH.1;have HPf2:=hj_ (show ∀ w',shPr.In w' A1 n1 P→Calls prog 32 #[.agg #[.slice A0 n0 d0,.slice A1 n1 d1,.slice A2 n2 d2],.agg #[.int .i64 ch,.int .i64 pt,.string pr,.int .i64 un,.int .i64 ad,.int .i64 ph,.string cb]] w' fun e w''=>e=.returned (.agg #[.string ps,.int .i64 pf,.int .i64 pw,.slice pA H.length pc])∧Below w'.heap.size w' w'' from HPf.out)
 obtain ⟨R,hR⟩:∃ R,R=loadQ H l ch pw:=⟨_,rfl⟩;rw [show loadQ H l ch (PC.wa ⟨ps,pf,pw,pA,H.length,pc⟩)=R from hR.symm]
 have HR:=hj_ hR;obtain ⟨W,hW⟩:∃ W,W=((w.alloc (.cells #[.slice A0 n0 d0,.slice A1 n1 d1,.slice A2 n2 d2] 75)).alloc (.cells #[.int .i64 ch,.int .i64 pt,.string pr,.int .i64 un,.int .i64 ad,.int .i64 ph,.string cb] 45)):=⟨_,rfl⟩;obtain ⟨hB0,hK0⟩:=box2 #[.slice A0 n0 d0,.slice A1 n1 d1,.slice A2 n2 d2] 75 #[.int .i64 ch,.int .i64 pt,.string pr,.int .i64 un,.int .i64 ad,.int .i64 ph,.string cb] 45 w W hW;have hK:∀ w',Below W.heap.size W w'→w'.cell? ⟨w.heap.size,0,none⟩=some (.slice A0 n0 d0)∧w'.cell? ⟨w.heap.size,1,none⟩=some (.slice A1 n1 d1)∧w'.cell? ⟨w.heap.size,2,none⟩=some (.slice A2 n2 d2)∧w'.cell? ⟨w.heap.size+1,0,none⟩=some (.int .i64 ch)∧w'.cell? ⟨w.heap.size+1,1,none⟩=some (.int .i64 pt)∧w'.cell? ⟨w.heap.size+1,2,none⟩=some (.string pr)∧w'.cell? ⟨w.heap.size+1,3,none⟩=some (.int .i64 un)∧w'.cell? ⟨w.heap.size+1,4,none⟩=some (.int .i64 ad)∧w'.cell? ⟨w.heap.size+1,5,none⟩=some (.int .i64 ph)∧w'.cell? ⟨w.heap.size+1,6,none⟩=some (.string cb):=fun w' h=>⟨(hK0 w' h).1 0 _ rfl,(hK0 w' h).1 1 _ rfl,(hK0 w' h).1 2 _ rfl,(hK0 w' h).2 0 _ rfl,(hK0 w' h).2 1 _ rfl,(hK0 w' h).2 2 _ rfl,(hK0 w' h).2 3 _ rfl,(hK0 w' h).2 4 _ rfl,(hK0 w' h).2 5 _ rfl,(hK0 w' h).2 6 _ rfl⟩
 have HK:=hj_ hK;have HW:=hj_ hW;have HB0:=hj_ hB0;have hB:=Below.refl W.heap.size W;obtain ⟨c0,c1,c2,c3,c4,c5,c6,c7,c8,c9⟩:=hK W hB;clear hW hB0 hK hK0;have HP:=hj_ (hp.below HB0.out);have HH:=hj_ (hH.below HB0.out);have HL:=hj_ (hl.below HB0.out);have HT:=hj_ (ht.below HB0.out);have HFx:=hj_ (q0ep (fun f:FC=>decide (f.at_=0)) H)
 have HTd:=hj_ (fun ho=>q03l (l:=l) (ch:=ch) (at_:=0) (ho:=ho))
 have HLv:=hj_ hlev;have HWa:=hj_ hwa;have HLn:=hj_ hln;have HIf:=hj_ (fun wk (hh:shF.In wk pA H.length H)=>q0fg 102 #[] (fun f=>decide (f.at_=0)) pA H.length pc H wk (enters_of func102 (by kernel_rfl) rfl) hh hHn (fun i h W' _=>q0ey H[i] W'))
 have hmf:∀ (fn:Fn) (first cap:Array Value) (w:World),(Instr.makeFunc fn first cap).run prog w=.ok (.func fn first cap) w:=fun _ _ _ _=>rfl
 clear hp hH hl hlev hwa hHn hln hn hx HPf ht hR
 go_enter func60,ntmps60
 go_wp2_with fail;rw [← HW.out];refine up_ (HPf2.out _ (HP.out.below hB)) hB ?_;clear hB;intro wk hB;obtain ⟨c0,c1,c2,c3,c4,c5,c6,c7,c8,c9⟩:=HK.out _ hB;obtain ⟨W3,hW3⟩:∃ W3,W3=wk.alloc (.cells #[.string ps,.int .i64 pf,.int .i64 pw,.slice pA H.length pc] 87):=⟨_,rfl⟩;have hb3:Below wk.heap.size wk W3:=by rw [hW3];exact (br_).alloc (Nat.le_refl _) _
 have HX3:=hj_ (show Cells W3 wk.heap.size [.string ps,.int .i64 pf,.int .i64 pw,.slice pA H.length pc] by rw [hW3];exact Cells.fresh wk [.string ps,.int .i64 pf,.int .i64 pw,.slice pA H.length pc] _)
 have HW3:=hj_ hW3;have hB3:=ht_ hB hb3;have HB3:=hj_ hB3;have hIf:=HIf.out W3 (HH.out.below HB3.out);have x3:=HX3.out.at_ (j:=3) rfl
 have x2:=HX3.out.at_ (j:=2) rfl
 have hlx:=HX3.out.1;obtain ⟨c0,c1,c2,c3,c4,c5,c6,c7,c8,c9⟩:=HK.out _ hB3;clear hW3 hb3 hB HIf
 rcases HFx.out with ⟨hneg,hnone⟩ | ⟨k,hkk,hk,hsome⟩
 ·have hRv:R=(pw:Rat):=by
   rw [HR.out];unfold loadQ inten;rw [hnone]
  generalize idxOf (fun f:FC=>decide (f.at_=0)) H=z at *
  have hz:z<0:=hneg;have hQw:=fun w' (hb:Below W3.heap.size W3 w')=>q0hb pw (by have:=HWa.out;omega) (by have:=HWa.out;omega) w' (HT.out.below (ht_ HB3.out hb))
  rw [← hRv] at hQw;have HQw:=hj_ hQw;clear hRv hneg hnone hQw HR HTd HLv hB3;go_wp2_with fail;rw [← HW3.out];go_wp2_with fail;refine hIf.mono ?_;rintro e w4 ⟨rfl,hb⟩;have x2':=(hb.cell (p:=⟨wk.heap.size,2,none⟩) hlx).trans x2;have HB4:=hj_ hb;have hl4:=Nat.lt_of_lt_of_le hlx hb.size;clear hb x2 x3;go_wp2_with fail;refine (HQw.out _ HB4.out).mono ?_;rintro e w5 ⟨rfl,hb⟩;have HB5:=hj_ (HB0.out.trans ((HB3.out.trans ((ht_ HB4.out hb).mono HB3.out.size)).mono HB0.out.size));clear hb;go_wp2_with fail;go_ret2;exact ⟨rfl,HB5.out⟩
 ·have hmem:=List.getElem_mem hk
  have hat:H[k].at_=0:=by
   have:=List.find?_some hsome
   simpa using this
  obtain ⟨hho,r,hr,hrz⟩:=HLv.out H[k] hmem hat;have hRv:R=r*((pw:Rat) / ((65535:Int):Rat)):=by
   rw [HR.out];unfold loadQ inten;rw [hsome];show valR (toldT l ch 0 H[k].ho).data.toList*_=_
   rw [hr,qog,qz3]
  have hps:SzR 8 ((pw:Rat) / ((65535:Int):Rat)):=by
   rw [← Rat.divInt_eq_div];exact SzR.red (by decide) (by have:=HWa.out;have:(10:Nat) ^ 8=100000000:=rfl;omega) (by decide)
  have HMu:=hj_ (show ∀ w',Below W3.heap.size W3 w'→Calls prog 106 #[.string (sR r),.string (sR ((pw:Rat) / ((65535:Int):Rat)))] w' fun e w''=>e=.returned (.tuple #[.string (sR R),.int .i64 0])∧Below w'.heap.size w' w'' from fun w' hb=>by
   rw [hRv];exact qje hrz hps w' (HT.out.below (ht_ HB3.out hb)) (by omega))
  have HPt:=hj_ (fun w' (hb:Below W3.heap.size W3 w')=>q0ha pw 65535 (by have:=HWa.out;omega) (by have:=HWa.out;omega) (by omega) (by omega) w' (HT.out.below (ht_ HB3.out hb)))
  have HWh:=hj_ (fun w' (hb:Below W3.heap.size W3 w')=>q0hb H[k].ho (by omega) (by omega) w' (HT.out.below (ht_ HB3.out hb)))
  obtain ⟨b,o,rfl,hbl,hcell⟩:=ft_at HH.out (by omega)
  have h5:=(hcell k hk).2.2.2.2.2.1;have HIa:=hj_ (fun (Q:Nat) w' (hb:Below W3.heap.size W3 w') (hQ:Q<w'.heap.size) (q0:w'.cell? ⟨Q,0,none⟩=some (.int .i64 ch)) (q1:w'.cell? ⟨Q,1,none⟩=some (.int .i64 0))=>q03a 104 #[.pointer (some ⟨Q,0,none⟩)] (hitA ch 0) A l.length c l w' (enters_of func104 (by kernel_rfl) rfl) (HL.out.below (ht_ HB3.out hb)) HLn.out
   (fun i h W' hW'=>q0ez l[i] Q ch W' (Nat.lt_of_lt_of_le hQ hW'.size) ((hW'.cell (p:=⟨Q,0,none⟩) hQ).trans q0) ((hW'.cell (p:=⟨Q,1,none⟩) hQ).trans q1)))
  have HCb:=hj_ (fun w' (hb:Below W3.heap.size W3 w')=>And.intro ((hb.cell (p:=⟨b,o+k*10+5,none⟩) (Nat.lt_of_lt_of_le hbl HB3.out.size)).trans ((HB3.out.cell (p:=⟨b,o+k*10+5,none⟩) hbl).trans h5)) (Nat.lt_of_lt_of_le hbl (Nat.le_trans HB3.out.size hb.size)))
  have HTl:=hj_ (HTd.out H[k].ho);rw [hr] at HTl;have HAm:=hj_ (fun (h:0<l.length)=>am_at HL.out h)
  rw [hkk] at hIf;have i0:(0:Int)≤(k:Int):=by omega
  have i1:(k:Int)<(H.length:Int):=by omega
  have i2:¬ (k:Int)<0:=by omega
  have HX2:=hj_ (fun w' (hb:Below W3.heap.size W3 w')=>And.intro ((hb.cell (p:=⟨wk.heap.size,2,none⟩) hlx).trans x2) (And.intro ((hb.cell (p:=⟨wk.heap.size,3,none⟩) hlx).trans x3) (Nat.lt_of_lt_of_le hlx hb.size)))
  clear hmem hat hr hrz hRv hps hcell h5 hsome hkk hho HR HTd HLv hB3;generalize H[k].ho=ho at *;generalize sR ((pw:Rat) / ((65535:Int):Rat))=ps8 at *;generalize sR r=rs at *;go_wp2_with fail;rw [← HW3.out];go_wp2_with fail;refine hIf.mono ?_;rintro e w4 ⟨rfl,hb⟩;have HB4:=hj_ hb;clear hb x2 x3 hlx;obtain ⟨x2,x3,hlx⟩:=HX2.out w4 HB4.out;obtain ⟨z5,hbw⟩:=HCb.out w4 HB4.out;go_wp2_with fail;refine (HWh.out w4 HB4.out).mono ?_;rintro e w5 ⟨rfl,hb⟩;have hB5:=ht_ HB4.out hb;obtain ⟨W6,hW6⟩:∃ W6,W6=w5.alloc (.cells #[.int .i64 ch,.int .i64 0] 64):=⟨_,rfl⟩;have hb6:Below w5.heap.size w5 W6:=by rw [hW6];exact (br_).alloc (Nat.le_refl _) _
  have hX6:Cells W6 w5.heap.size [.int .i64 ch,.int .i64 0]:=by rw [hW6];exact Cells.fresh w5 [.int .i64 ch,.int .i64 0] _
  have HB6:=hj_ (ht_ hB5 hb6);have hIa:=HIa.out w5.heap.size W6 HB6.out hX6.1 (hX6.at_ (j:=0) rfl) (hX6.at_ (j:=1) rfl)
  have HW6:=hj_ hW6;obtain ⟨c0,c1,c2,c3,c4,c5,c6,c7,c8,c9⟩:=HK.out _ (ht_ HB3.out hB5);have hwl:w.heap.size+1<w5.heap.size:=by
   have h1:=(ht_ HB3.out hB5).size;rw [HW.out] at h1;simp at h1;omega
  clear hb hb6 hX6 hW6 hB5 x2 x3 hlx z5 hbw;obtain ⟨z,hz⟩:∃ z,z=idxOf (hitA ch 0) l:=⟨_,rfl⟩;rw [← hz] at hIa HTl
  by_cases hzn:z<0
  ·obtain ⟨hz1,_⟩:=HTl.out
   have hrs:=hz1 hzn;subst hrs;have g1:¬ 0≤z:=by omega
   clear hz1 HTl hz;go_wp2_with fail;rw [← HW6.out];refine hIa.mono ?_;rintro e w7 ⟨rfl,hb⟩;have HB7:=hj_ (ht_ HB6.out hb);obtain ⟨x2,x3,hlx⟩:=HX2.out w7 HB7.out;clear hb;go_wp2_with fail;refine (HPt.out w7 HB7.out).mono ?_;rintro e w8 ⟨rfl,hb⟩;have HB8:=hj_ (ht_ HB7.out hb);clear hb x2 x3 hlx;go_wp2_with fail;refine (HMu.out w8 HB8.out).mono ?_;rintro e w9 ⟨rfl,hb⟩;have HB9:=hj_ (HB0.out.trans ((HB3.out.trans ((ht_ HB8.out hb).mono HB3.out.size)).mono HB0.out.size));clear hb;go_wp2_with fail;go_ret2;refine ⟨?_,HB9.out⟩
   go_simp
  ·obtain ⟨q,rfl⟩:∃ q:Nat,z=q:=⟨z.toNat,by omega⟩
   obtain ⟨hq,hrs⟩:=HTl.out.2 q rfl;obtain ⟨b2,o2,rfl,hb2,hc2⟩:=HAm.out (by omega)
   have h2:=(hc2 q hq).2.2;rw [← hrs] at h2;have j0:(0:Int)≤(q:Int):=by omega
   have j1:(q:Int)<(l.length:Int):=by omega
   clear hc2 hrs HTl hz hzn HAm;go_wp2_with fail;rw [← HW6.out];refine hIa.mono ?_;rintro e w7 ⟨rfl,hb⟩;have HB7:=hj_ (ht_ HB6.out hb);obtain ⟨x2,x3,hlx⟩:=HX2.out w7 HB7.out;have y2:=((ht_ HB3.out HB7.out).cell (p:=⟨b2,o2+q*3+2,none⟩) hb2).trans h2;have hbl2:b2<w7.heap.size:=Nat.lt_of_lt_of_le hb2 (ht_ HB3.out HB7.out).size;clear hb;go_wp2_with fail;refine (HPt.out w7 HB7.out).mono ?_;rintro e w8 ⟨rfl,hb⟩;have HB8:=hj_ (ht_ HB7.out hb);clear hb x2 x3 hlx;go_wp2_with fail;refine (HMu.out w8 HB8.out).mono ?_;rintro e w9 ⟨rfl,hb⟩;have HB9:=hj_ (HB0.out.trans ((HB3.out.trans ((ht_ HB8.out hb).mono HB3.out.size)).mono HB0.out.size));clear hb;go_wp2_with fail;go_ret2;refine ⟨?_,HB9.out⟩
   go_simp
end

section
open Go.RowKit
theorem q0f0 (x:Fx) (Q R:Nat) (cc pp:Int) (w:World) (hQ:Q<w.heap.size) (hR:R<w.heap.size) (q0:w.cell? ⟨Q,0,none⟩=some (.int .i64 cc)) (r0:w.cell? ⟨R,0,none⟩=some (.int .i64 pp)) :
  Calls prog 59 #[x.val,.pointer (some ⟨Q,0,none⟩),.pointer (some ⟨R,0,none⟩)] w fun e w'=>e=.returned (.bool (decide (x.ch=cc) && decide (x.pt=pp)))∧Below w.heap.size w w':=by
 obtain ⟨ch,pt,pr,un,ad,ph,cb⟩:=x;show Calls prog 59 #[.agg #[.int .i64 ch,.int .i64 pt,.string pr,.int .i64 un,.int .i64 ad,.int .i64 ph,.string cb],.pointer (some ⟨Q,0,none⟩),.pointer (some ⟨R,0,none⟩)] w fun e w'=>e=.returned (.bool (decide (ch=cc) && decide (pt=pp)))∧Below w.heap.size w w'
 obtain ⟨W,hW⟩:∃ W,W=(w.alloc (.cells #[.int .i64 ch,.int .i64 pt,.string pr,.int .i64 un,.int .i64 ad,.int .i64 ph,.string cb] 45)):=⟨_,rfl⟩;obtain ⟨hB0,hK0⟩:=box1 #[.int .i64 ch,.int .i64 pt,.string pr,.int .i64 un,.int .i64 ad,.int .i64 ph,.string cb] 45 w W hW;have hK:∀ w',Below W.heap.size W w'→w'.cell? ⟨w.heap.size,0,none⟩=some (.int .i64 ch)∧w'.cell? ⟨w.heap.size,1,none⟩=some (.int .i64 pt)∧w'.cell? ⟨w.heap.size,2,none⟩=some (.string pr)∧w'.cell? ⟨w.heap.size,3,none⟩=some (.int .i64 un)∧w'.cell? ⟨w.heap.size,4,none⟩=some (.int .i64 ad)∧w'.cell? ⟨w.heap.size,5,none⟩=some (.int .i64 ph)∧w'.cell? ⟨w.heap.size,6,none⟩=some (.string cb):=fun w' h=>⟨(hK0 w' h) 0 _ rfl,(hK0 w' h) 1 _ rfl,(hK0 w' h) 2 _ rfl,(hK0 w' h) 3 _ rfl,(hK0 w' h) 4 _ rfl,(hK0 w' h) 5 _ rfl,(hK0 w' h) 6 _ rfl⟩
 have HK:=hj_ hK;have HW:=hj_ hW;have HB0:=hj_ hB0;have hB:=Below.refl W.heap.size W;obtain ⟨c0,c1,c2,c3,c4,c5,c6⟩:=hK W hB;clear hW hB0 hK hK0;have y0:=(HB0.out.cell (p:=⟨Q,0,none⟩) hQ).trans q0;have y1:=(HB0.out.cell (p:=⟨R,0,none⟩) hR).trans r0;have m1:¬ Q=w.heap.size:=by omega
 have m2:¬ R=w.heap.size:=by omega
 have eW:=HW.out;clear HW HK hB q0 r0 c0 c1 c2 c3 c4 c5 c6;subst eW
 by_cases h1:ch=cc
 ·have e1:(ch == cc)=true:=by simpa using h1
  rw [decide_eq_true h1]
  by_cases h2:pt=pp
  ·have e2:(pt == pp)=true:=by simpa using h2
   rw [decide_eq_true h2];clear h1 h2
   go_enter func59,ntmps59
   go_wp2_with fail;go_ret;exact ⟨rfl,HB0.out⟩
  ·have e2:(pt == pp)=false:=by simpa using h2
   rw [decide_eq_false h2];clear h1 h2
   go_enter func59,ntmps59
   go_wp2_with fail;go_ret;exact ⟨rfl,HB0.out⟩
 ·have e1:(ch == cc)=false:=by simpa using h1
  rw [decide_eq_false h1,Bool.false_and];clear h1
  go_enter func59,ntmps59
  go_wp2_with fail;go_ret;exact ⟨rfl,HB0.out⟩
theorem q0i6 (A0:Option Addr) (n0 d0:Nat) (A1:Option Addr) (n1 d1:Nat) (A2:Option Addr) (d2:Nat) (A3:Option Addr) (n3 d3:Nat) (X:List Fx) (cc pp:Int) (i:Nat) (R:ByteArray) (w:World) (hlit:∀ w',Below w.heap.size w w'→Calls prog 57 #[.agg #[.slice A0 n0 d0,.slice A1 n1 d1,.slice A2 X.length d2],.slice A3 n3 d3] w' fun e w''=>e=.returned (.tuple #[.agg #[.slice A0 n0 d0,.slice A1 n1 d1,.slice A2 X.length d2],.int .i64 0])∧Below w'.heap.size w' w'')
  (hx:shX.In w A2 X.length X) (hX:X.length≤1000) (hi:i<X.length) (hix:idxOf (fun x=>decide (x.ch=cc) && decide (x.pt=pp)) X=i) (hld:∀ w',Below w.heap.size w w'→Calls prog 60 #[.agg #[.slice A0 n0 d0,.slice A1 n1 d1,.slice A2 X.length d2],.slice A3 n3 d3,X[i].val] w' fun e w''=>e=.returned (.tuple #[.string R,.int .i64 0])∧Below w'.heap.size w' w'') :
  Calls prog 25 #[.agg #[.slice A0 n0 d0,.slice A1 n1 d1,.slice A2 X.length d2],.slice A3 n3 d3,.int .i64 cc,.int .i64 pp] w fun e w'=>e=.returned (.tuple #[.string R,.int .i64 0])∧Below w.heap.size w w':=by
 have HO:=hj_ hlit;have hIx:=fun (Q R':Nat) w' (hb:Below w.heap.size w w') (hQ:Q<w'.heap.size) (hR:R' < w'.heap.size) (q0:w'.cell? ⟨Q,0,none⟩=some (.int .i64 cc)) (r0:w'.cell? ⟨R',0,none⟩=some (.int .i64 pp))=>qbo 59 #[.pointer (some ⟨Q,0,none⟩),.pointer (some ⟨R',0,none⟩)] (fun x=>decide (x.ch=cc) && decide (x.pt=pp)) A2 X.length d2 X w' (enters_of func59 (by kernel_rfl) rfl) (hx.below hb) (by omega)
  (fun j h W' hW'=>q0f0 X[j] Q R' cc pp W' (Nat.lt_of_lt_of_le hQ hW'.size) (Nat.lt_of_lt_of_le hR hW'.size) ((hW'.cell (p:=⟨Q,0,none⟩) hQ).trans q0) ((hW'.cell (p:=⟨R',0,none⟩) hR).trans r0))
 rw [hix] at hIx;have HIx:=hj_ hIx;obtain ⟨b,o,rfl,hbl,hcell⟩:=fx_at hx (by omega)
 have hk7:=hcell i hi;have i0:(0:Int)≤(i:Int):=by omega
 have i1:(i:Int)<(X.length:Int):=by omega
 have HLd:=hj_ hld;clear hlit hx hX hix hcell hIx hld;generalize X[i]=x at *;obtain ⟨ch,pt,pr,un,ad,ph,cb⟩:=x;dsimp only at hk7;have HLd2:=hj_ (show ∀ w',Below w.heap.size w w'→Calls prog 60 #[.agg #[.slice A0 n0 d0,.slice A1 n1 d1,.slice (some ⟨b,o,none⟩) X.length d2],.slice A3 n3 d3,.agg #[.int .i64 ch,.int .i64 pt,.string pr,.int .i64 un,.int .i64 ad,.int .i64 ph,.string cb]] w' fun e w''=>e=.returned (.tuple #[.string R,.int .i64 0])∧Below w'.heap.size w' w'' from HLd.out)
 obtain ⟨W,hW⟩:∃ W,W=(((w.alloc (.cells #[.slice A0 n0 d0,.slice A1 n1 d1,.slice (some ⟨b,o,none⟩) X.length d2] 26)).alloc (.cells #[.int .i64 cc] 3)).alloc (.cells #[.int .i64 pp] 3)):=⟨_,rfl⟩;obtain ⟨hB0,hK0⟩:=box3 #[.slice A0 n0 d0,.slice A1 n1 d1,.slice (some ⟨b,o,none⟩) X.length d2] 26 #[.int .i64 cc] 3 #[.int .i64 pp] 3 w W hW;have hK:∀ w',Below W.heap.size W w'→w'.cell? ⟨w.heap.size,0,none⟩=some (.slice A0 n0 d0)∧w'.cell? ⟨w.heap.size,1,none⟩=some (.slice A1 n1 d1)∧w'.cell? ⟨w.heap.size,2,none⟩=some (.slice (some ⟨b,o,none⟩) X.length d2)∧w'.cell? ⟨w.heap.size+1,0,none⟩=some (.int .i64 cc)∧w'.cell? ⟨w.heap.size+1+1,0,none⟩=some (.int .i64 pp):=fun w' h=>⟨(hK0 w' h).1 0 _ rfl,(hK0 w' h).1 1 _ rfl,(hK0 w' h).1 2 _ rfl,(hK0 w' h).2.1 0 _ rfl,(hK0 w' h).2.2 0 _ rfl⟩
 have HK:=hj_ hK;have HW:=hj_ hW;have HB0:=hj_ hB0;have hB:=Below.refl W.heap.size W;obtain ⟨c0,c1,c2,c3,c4⟩:=hK W hB;clear hW hB0 hK hK0;have HXc:=hj_ (show ∀ w',Below W.heap.size W w'→w'.cell? ⟨b,o+i*7,none⟩=some (.int .i64 ch)∧w'.cell? ⟨b,o+i*7+1,none⟩=some (.int .i64 pt)∧w'.cell? ⟨b,o+i*7+2,none⟩=some (.string pr)∧w'.cell? ⟨b,o+i*7+3,none⟩=some (.int .i64 un)∧w'.cell? ⟨b,o+i*7+4,none⟩=some (.int .i64 ad)∧w'.cell? ⟨b,o+i*7+5,none⟩=some (.int .i64 ph)∧w'.cell? ⟨b,o+i*7+6,none⟩=some (.string cb) from fun w' hb=>by
  have hb2:=ht_ HB0.out hb;exact ⟨(hb2.cell (p:=⟨b,_,none⟩) hbl).trans hk7.1,(hb2.cell (p:=⟨b,_,none⟩) hbl).trans hk7.2.1,(hb2.cell (p:=⟨b,_,none⟩) hbl).trans hk7.2.2.1,(hb2.cell (p:=⟨b,_,none⟩) hbl).trans hk7.2.2.2.1,(hb2.cell (p:=⟨b,_,none⟩) hbl).trans hk7.2.2.2.2.1,(hb2.cell (p:=⟨b,_,none⟩) hbl).trans hk7.2.2.2.2.2.1,(hb2.cell (p:=⟨b,_,none⟩) hbl).trans hk7.2.2.2.2.2.2⟩)
 have hmf:∀ (fn:Fn) (first cap:Array Value) (w:World),(Instr.makeFunc fn first cap).run prog w=.ok (.func fn first cap) w:=fun _ _ _ _=>rfl
 have HWs:=hj_ (show w.heap.size+1+1<W.heap.size by rw [HW.out];simp)
 clear hk7 HLd
 go_enter func25,ntmps25
 go_wp2_with fail;rw [← HW.out];go_wp2_with fail;refine up_ (HO.out _ (ht_ HB0.out hB)) hB ?_;clear hB c0 c1 c2 c3 c4;intro wk hB;obtain ⟨W1,hW1⟩:∃ W1,W1=wk.alloc (.cells #[.slice A0 n0 d0,.slice A1 n1 d1,.slice (some ⟨b,o,none⟩) X.length d2] 75):=⟨_,rfl⟩;have hb1:Below wk.heap.size wk W1:=by rw [hW1];exact (br_).alloc (Nat.le_refl _) _
 have HX1:=hj_ (show Cells W1 wk.heap.size [.slice A0 n0 d0,.slice A1 n1 d1,.slice (some ⟨b,o,none⟩) X.length d2] by rw [hW1];exact Cells.fresh wk [.slice A0 n0 d0,.slice A1 n1 d1,.slice (some ⟨b,o,none⟩) X.length d2] _)
 have HB1:=hj_ (ht_ hB hb1);obtain ⟨c0,c1,c2,c3,c4⟩:=HK.out _ HB1.out;have hIa:=HIx.out (w.heap.size+1) (w.heap.size+1+1) W1 (ht_ HB0.out HB1.out) (by have:=HWs.out;have:=HB1.out.size;omega) (by have:=HWs.out;have:=HB1.out.size;omega) c3 c4
 have HW1:=hj_ hW1;rw [hW1] at c2;clear hB hb1 hW1 c0 c1 c3 c4;go_wp2_with fail;rw [← HW1.out];refine hIa.mono ?_;rintro e w4 ⟨rfl,hb⟩;have HB4:=hj_ (ht_ HB1.out hb);have HX4:=hj_ (HX1.out.below hb HX1.out.1);clear hb c2;replace hB:=q18 HB4.out 1;obtain ⟨c0,c1,c2,c3,c4⟩:=HK.out _ hB;have x0:=(HX4.out.below (q18 (br_) 1) HX4.out.1).at_ (j:=0) rfl
 have x1:=(HX4.out.below (q18 (br_) 1) HX4.out.1).at_ (j:=1) rfl
 have x2:=(HX4.out.below (q18 (br_) 1) HX4.out.1).at_ (j:=2) rfl
 obtain ⟨p0,p1,p2,p3,p4,p5,p6⟩:=HXc.out _ hB;have HBd:=hj_ hB;clear c0 c1 c3 c4;go_wp2_with fail;refine wp_region_held_drew (S:=fun w'=>w'.cell? ⟨w.heap.size,2,none⟩=some (.slice (some ⟨b,o,none⟩) X.length d2)∧w'.cell? ⟨wk.heap.size,0,none⟩=some (.slice A0 n0 d0)∧w'.cell? ⟨wk.heap.size,1,none⟩=some (.slice A1 n1 d1)∧w'.cell? ⟨wk.heap.size,2,none⟩=some (.slice (some ⟨b,o,none⟩) X.length d2)∧w'.cell? ⟨b,o+i*7,none⟩=some (.int .i64 ch)∧w'.cell? ⟨b,o+i*7+1,none⟩=some (.int .i64 pt)∧w'.cell? ⟨b,o+i*7+2,none⟩=some (.string pr)∧w'.cell? ⟨b,o+i*7+3,none⟩=some (.int .i64 un)∧w'.cell? ⟨b,o+i*7+4,none⟩=some (.int .i64 ad)∧w'.cell? ⟨b,o+i*7+5,none⟩=some (.int .i64 ph)∧w'.cell? ⟨b,o+i*7+6,none⟩=some (.string cb)) (by kernel_rfl) (by first | exact ⟨c2,x0,x1,x2,p0,p1,p2,p3,p4,p5,p6⟩) (fun hHeld=>?_)
 refine tq 0 ?_;refine tq 1 ?_;refine tq 2 ?_;refine tq 3 ?_;refine tq 4 ?_;refine tq 5 ?_;refine tq 6 ?_;refine wpAnyH_ready (rs:=[7]) (by kernel_rfl) (by simp) ?_
 refine AllReadyH.cons rfl (fun K hK=>?_) AllReadyH.nil
 go_simp
 go_at_call 60;refine (HLd2.out _ (ht_ HB0.out HBd.out)).mono ?_;rintro e w5 ⟨rfl,hb⟩;have HB5:=hj_ (ht_ HBd.out hb);have HX5:=hj_ ((HX4.out.below (q18 (br_) 1) HX4.out.1).below hb (HX4.out.below (q18 (br_) 1) HX4.out.1).1);clear hb;obtain ⟨-,-,c2,-,-⟩:=HK.out _ HB5.out;replace x0:=HX5.out.at_ (j:=0) rfl;replace x1:=HX5.out.at_ (j:=1) rfl;replace x2:=HX5.out.at_ (j:=2) rfl;obtain ⟨p0,p1,p2,p3,p4,p5,p6⟩:=HXc.out _ HB5.out
 go_wp2_with fail;refine hK.out _ _ (by first | exact ⟨c2,x0,x1,x2,p0,p1,p2,p3,p4,p5,p6⟩) (fun hHeld=>?_)
 clear hK K
 try simp only [Act.put,List.setIfInBounds_toArray,List.set_cons_zero,List.set_cons_succ]
 refine tq 8 ?_;refine tq 9 ?_;refine tq 10 ?_;refine tq 11 ?_;refine wpAnyH_done (by kernel_rfl) ?_ _
 have hz:=HB5.out;clear c2 x0 x1 x2 p0 p1 p2 p3 p4 p5 p6;go_wp2_with fail;go_ret2;refine ⟨?_,ht_ HB0.out hz⟩
 go_simp
end

section
open Go.RowKit
def phQ (ld:Fx→Rat) (X:List Fx) (k:Int):Rat:=(X.filter fun x=>decide (x.ph=k)).foldl (fun s x=>s+ld x) 0
theorem q0g7 (ld:Fx→Rat) (X:List Fx) (x:Fx) (k:Int):phQ ld (X ++ [x]) k=if x.ph=k then phQ ld X k+ld x else phQ ld X k:=by
 unfold phQ;rw [List.filter_append]
 by_cases h:x.ph=k
 ·have e:[x].filter (fun x=>decide (x.ph=k))=[x]:=by simp [h]
  rw [if_pos h,e,List.foldl_append]
  rfl
 ·have e:[x].filter (fun x=>decide (x.ph=k))=[]:=by simp [h]
  rw [if_neg h,e,List.append_nil]
def phL (ld:Fx→Rat) (X:List Fx):List Value:=[.string (sR (phQ ld X 1)),.string (sR (phQ ld X 2)),.string (sR (phQ ld X 3))]
theorem q0j1:sR 0=⟨#[48]⟩:=by kernel_rfl
theorem q0i7 (A0:Option Addr) (n0 d0:Nat) (A1:Option Addr) (n1 d1:Nat) (A2:Option Addr) (d2:Nat) (A3:Option Addr) (n3 d3:Nat) (X:List Fx) (ld:Fx→Rat) (w:World) (hlit:∀ w',Below w.heap.size w w'→Calls prog 57 #[.agg #[.slice A0 n0 d0,.slice A1 n1 d1,.slice A2 X.length d2],.slice A3 n3 d3] w' fun e w''=>e=.returned (.tuple #[.agg #[.slice A0 n0 d0,.slice A1 n1 d1,.slice A2 X.length d2],.int .i64 0])∧Below w'.heap.size w' w'')
  (hx:shX.In w A2 X.length X) (hX:X.length≤1000) (hph:∀ x ∈ X,1≤x.ph∧x.ph≤3) (hld:∀ x ∈ X,∀ w',Below w.heap.size w w'→Calls prog 60 #[.agg #[.slice A0 n0 d0,.slice A1 n1 d1,.slice A2 X.length d2],.slice A3 n3 d3,x.val] w' fun e w''=>e=.returned (.tuple #[.string (sR (ld x)),.int .i64 0])∧Below w'.heap.size w' w'')
  (hsz:∀ k j,SzR 1000 (phQ ld (X.take k) j)) (hsl:∀ x ∈ X,SzR 1000 (ld x)) (ht:Tab w) :
  Calls prog 26 #[.agg #[.slice A0 n0 d0,.slice A1 n1 d1,.slice A2 X.length d2],.slice A3 n3 d3] w fun e w'=>e=.returned (.tuple #[.agg #[.string (sR (phQ ld X 1)),.string (sR (phQ ld X 2)),.string (sR (phQ ld X 3))],.int .i64 0])∧Below w.heap.size w w':=by
 have HO:=hj_ hlit;have HX:=hj_ hx;have HPh:=hj_ hph;have HLn:=hj_ hX;have HSz:=hj_ hsz;have HSl:=hj_ hsl;have HLd:=hj_ hld;have HT:=hj_ ht;obtain ⟨W,hW⟩:∃ W,W=((w.alloc (.cells #[.slice A0 n0 d0,.slice A1 n1 d1,.slice A2 X.length d2] 26)).alloc (.cells #[.string ⟨#[]⟩,.string ⟨#[]⟩,.string ⟨#[]⟩] 71)):=⟨_,rfl⟩;obtain ⟨hB0,hK0⟩:=box2 #[.slice A0 n0 d0,.slice A1 n1 d1,.slice A2 X.length d2] 26 #[.string ⟨#[]⟩,.string ⟨#[]⟩,.string ⟨#[]⟩] 71 w W hW;have hK:∀ w',Below W.heap.size W w'→w'.cell? ⟨w.heap.size,0,none⟩=some (.slice A0 n0 d0)∧w'.cell? ⟨w.heap.size,1,none⟩=some (.slice A1 n1 d1)∧w'.cell? ⟨w.heap.size,2,none⟩=some (.slice A2 X.length d2)∧w'.cell? ⟨w.heap.size+1,0,none⟩=some (.string ⟨#[]⟩)∧w'.cell? ⟨w.heap.size+1,1,none⟩=some (.string ⟨#[]⟩)∧w'.cell? ⟨w.heap.size+1,2,none⟩=some (.string ⟨#[]⟩):=fun w' h=>⟨(hK0 w' h).1 0 _ rfl,(hK0 w' h).1 1 _ rfl,(hK0 w' h).1 2 _ rfl,(hK0 w' h).2 0 _ rfl,(hK0 w' h).2 1 _ rfl,(hK0 w' h).2 2 _ rfl⟩
 have HK:=hj_ hK;have HW:=hj_ hW;have HB0:=hj_ hB0;have hB:=Below.refl W.heap.size W;obtain ⟨c0,c1,c2,c3,c4,c5⟩:=hK W hB;clear hW hB0 hK hK0;have hsz2:w.heap.size+1<W.heap.size:=by rw [HW.out];simp
 have HFr:=hj_ (show ∀ w',Below W.heap.size W w'→∀ j,w'.frozen? ⟨w.heap.size+1,j,none⟩=false from fun w' h j=>by
  refine (h.frozen (p:=⟨w.heap.size+1,j,none⟩) hsz2).trans ?_;rw [HW.out];exact World.frozen?_alloc_at _ _ _ _ (by simp))
 have HWs:=hj_ hsz2;clear hlit hx hph hX hsz hsl hld ht hsz2
 go_enter func26,ntmps26
 go_wp2_with fail;rw [← HW.out];go_wp2_with fail;refine up_ (HO.out _ (ht_ HB0.out hB)) hB ?_;clear hB c0 c1 c2 c3 c4 c5;intro wk hB;obtain ⟨W1,hW1⟩:∃ W1,W1=wk.alloc (.cells #[.slice A0 n0 d0,.slice A1 n1 d1,.slice A2 X.length d2] 75):=⟨_,rfl⟩;obtain ⟨W2,hW2⟩:∃ W2,W2=W1.alloc (.cells #[.string ⟨#[48]⟩,.string ⟨#[48]⟩,.string ⟨#[48]⟩] 71):=⟨_,rfl⟩;have hs1:W1.heap.size=wk.heap.size+1:=by rw [hW1,World.size_alloc]
 have hb1:Below wk.heap.size wk W1:=by rw [hW1];exact (br_).alloc (Nat.le_refl _) _
 have hb2:Below W1.heap.size W1 W2:=by rw [hW2];exact (br_).alloc (Nat.le_refl _) _
 have hx1:Cells W1 wk.heap.size [.slice A0 n0 d0,.slice A1 n1 d1,.slice A2 X.length d2]:=by rw [hW1];exact Cells.fresh wk [.slice A0 n0 d0,.slice A1 n1 d1,.slice A2 X.length d2] _
 have HD1:=hj_ (hx1.below hb2 hx1.1);have hx2:Cells W2 (wk.heap.size+1) (phL ld (X.take 0)):=by
  show Cells W2 (wk.heap.size+1) [.string (sR 0),.string (sR 0),.string (sR 0)]
  rw [q0j1,← hs1,hW2];exact Cells.fresh W1 [.string ⟨#[48]⟩,.string ⟨#[48]⟩,.string ⟨#[48]⟩] _
 have HD2:=hj_ hx2;have HB2:=hj_ ((ht_ hB hb1).trans (hb2.mono (Nat.le_trans hB.size hb1.size)));obtain ⟨c0,c1,c2,c3,c4,c5⟩:=HK.out _ HB2.out;rw [hW2,hW1] at c2;have HW12:=hj_ (show W2=(wk.alloc (.cells #[.slice A0 n0 d0,.slice A1 n1 d1,.slice A2 X.length d2] 75)).alloc (.cells #[.string ⟨#[48]⟩,.string ⟨#[48]⟩,.string ⟨#[48]⟩] 71) by rw [hW2,hW1])
 have HKk:=hj_ (show W.heap.size≤wk.heap.size from hB.size)
 clear hB hb1 hb2 hW1 hW2 hx1 hx2 hs1 c0 c1 c3 c4 c5;go_wp2_with fail;rw [← HW12.out];clear c2
 go_loopw [27] (fun iv wr=>∃ k:Nat,k≤X.length∧iv=.int .i64 k∧Below W.heap.size W wr∧Cells wr wk.heap.size [.slice A0 n0 d0,.slice A1 n1 d1,.slice A2 X.length d2]∧Cells wr (wk.heap.size+1) (phL ld (X.take k))) (fun iv _=>X.length-(intOf iv).toNat)
 case atStart=>exact ⟨0,Nat.zero_le _,rfl,HB2.out,HD1.out,HD2.out⟩
 case round =>
  obtain ⟨k,hk,rfl,hB,hq1,hq2⟩:=hrel;have HBr:=hj_ hB;have HQ1:=hj_ hq1;have HQ2:=hj_ hq2
  by_cases hlt:k<X.length
  ·obtain ⟨b,o,rfl,hbl,hcell⟩:=fx_at HX.out (by omega)
   have hk7:=hcell k hlt;have kk:=fun (q:Nat)=>(ht_ HB0.out hB).cell (p:=⟨b,q,none⟩) hbl
   have hbw:b<wr.heap.size:=Nat.lt_of_lt_of_le hbl (Nat.le_trans HB0.out.size hB.size);have i0:(0:Int)≤(k:Int):=by omega
   have i1:(k:Int)<(X.length:Int):=by omega
   have w0:IntKind.i64.wrap ((k:Int)+1)=(k:Int)+1:=IntWalk.i64_in _ (by have:=HLn.out;omega)
   have hphk:=HPh.out X[k] (List.getElem_mem hlt);have hpush:=fun j=>q0g7 ld (X.take k) X[k] j
   rw [← List.take_succ_eq_append_getElem hlt] at hpush;have HPu:=hj_ hpush;have hLdx:=HLd.out X[k] (List.getElem_mem hlt);have hSlx:=HSl.out X[k] (List.getElem_mem hlt);have HLt:=hj_ hlt;clear hcell hpush hq1 hq2 hB;generalize hlx:ld X[k]=lx at *;generalize X[k]=x at *;obtain ⟨ch,pt,pr,un,ad,ph,cb⟩:=x;dsimp only at hk7 hphk HPu;obtain ⟨k0,k1,k2,k3,k4,k5,k6⟩:=hk7;have p0:=(kk _).trans k0;have p1:=(kk _).trans k1;have p2:=(kk _).trans k2;have p3:=(kk _).trans k3;have p4:=(kk _).trans k4;have p5:=(kk _).trans k5;have p6:=(kk _).trans k6;have HLd2:=hj_ (show ∀ w',Below w.heap.size w w'→Calls prog 60 #[.agg #[.slice A0 n0 d0,.slice A1 n1 d1,.slice (some ⟨b,o,none⟩) X.length d2],.slice A3 n3 d3,.agg #[.int .i64 ch,.int .i64 pt,.string pr,.int .i64 un,.int .i64 ad,.int .i64 ph,.string cb]] w' fun e w''=>e=.returned (.tuple #[.string (sR lx),.int .i64 0])∧Below w'.heap.size w' w'' from hLdx)
   have HAd:=hj_ (fun j w' (hb:Below w.heap.size w w')=>qjc (HSz.out k j) hSlx w' (HT.out.below hb) (by omega))
   obtain ⟨W3,hW3⟩:∃ W3,W3=wr.alloc (.cells #[.int .i64 ch,.int .i64 pt,.string pr,.int .i64 un,.int .i64 ad,.int .i64 ph,.string cb] 45):=⟨_,rfl⟩;have hb3:Below wr.heap.size wr W3:=by rw [hW3];exact (br_).alloc (Nat.le_refl _) _
   have hx3:Cells W3 wr.heap.size [.int .i64 ch,.int .i64 pt,.string pr,.int .i64 un,.int .i64 ad,.int .i64 ph,.string cb]:=by rw [hW3];exact Cells.fresh wr [.int .i64 ch,.int .i64 pt,.string pr,.int .i64 un,.int .i64 ad,.int .i64 ph,.string cb] _
   have HB3:=hj_ (ht_ HBr.out hb3);have HX3:=hj_ hx3;have hd1:=HQ1.out.below hb3 HQ1.out.1;have HD1':=hj_ hd1;have HD2':=hj_ (HQ2.out.below hb3 HQ2.out.1);have h0:=hd1.at_ (j:=0) rfl
   have h1:=hd1.at_ (j:=1) rfl
   have h2:=hd1.at_ (j:=2) rfl
   have x0:=hx3.at_ (j:=0) rfl
   have x1:=hx3.at_ (j:=1) rfl
   have x2:=hx3.at_ (j:=2) rfl
   have x3:=hx3.at_ (j:=3) rfl
   have x4:=hx3.at_ (j:=4) rfl
   have x5:=hx3.at_ (j:=5) rfl
   have x6:=hx3.at_ (j:=6) rfl
   have hll:=hd1.1;have hlr:=hx3.1;have e1:wk.heap.size+1≠wk.heap.size:=by omega
   have e3:wk.heap.size+1≠wr.heap.size:=by have:=HQ2.out.1;omega
   have HW3:=hj_ hW3;have hLd3:=HLd2.out W3 (ht_ HB0.out HB3.out);rw [hW3] at h0 h1 h2 x0 x1 x2 x3 x4 x5 x6;clear k0 k1 k2 k3 k4 k5 k6 kk hb3 hx3 hW3 hLdx HQ1 HQ2 HBr hd1 hSlx;go_wp2_with fail;rw [← HW3.out];refine hLd3.mono ?_;rintro e w4 ⟨rfl,hb⟩;have HB4:=hj_ (ht_ HB3.out hb);have HE1:=hj_ (HD1'.out.below hb HD1'.out.1);have HE2:=hj_ (HD2'.out.below hb HD2'.out.1);have HXE:=hj_ (HX3.out.below hb HX3.out.1);clear hb p0 p1 p2 p3 p4 p5 p6 h0 h1 h2 x0 x1 x2 x3 x4 x5 x6 hll hlr;unfold phL at HE2;generalize hs1:phQ ld (X.take k) 1=s1 at *;generalize hs2:phQ ld (X.take k) 2=s2 at *;generalize hs3:phQ ld (X.take k) 3=s3 at *;have x5:=HXE.out.at_ (j:=5) rfl
   go_wp2_with fail;obtain rfl | rfl | rfl:ph=1∨ph=2∨ph=3:=by omega
   ·have HAd2:=hj_ (HAd.out 1)
    rw [hs1] at HAd2;have HBw:=hj_ (ht_ HB0.out HB4.out);have y0:=HE2.out.at_ (j:=0) rfl
    have wj:IntKind.i64.wrap 0=0:=rfl;clear hphk HAd;refine wp_region_held_drew (S:=fun w'=>w'.cell? ⟨wr.heap.size,5,none⟩=some (.int .i64 1)) (by kernel_rfl) (by first | exact x5) (fun hHeld=>?_)
    refine tq 0 ?_;refine tq 1 ?_;refine tq 2 ?_;refine tq 3 ?_;refine tq 4 ?_;refine tq 5 ?_;refine tq 6 ?_;refine tq 8 ?_;refine wpAnyH_ready (rs:=[7]) (by kernel_rfl) (by simp) ?_
    refine AllReadyH.cons rfl (fun K hK=>?_) AllReadyH.nil
    go_simp
    refine hK.out _ _ (by first | exact x5) (fun hHeld=>?_)
    clear hK K
    try simp only [Act.put,List.setIfInBounds_toArray,List.set_cons_zero,List.set_cons_succ]
    refine wpAnyH_ready (rs:=[9]) (by kernel_rfl) (by simp) ?_
    refine AllReadyH.cons rfl (fun K hK=>?_) AllReadyH.nil
    go_simp
    go_at_call 61;refine (HAd2.out _ (q18 HBw.out 1)).mono ?_;rintro e w5 ⟨rfl,hb⟩;have hb5:=(q18 (Below.refl w4.heap.size w4) 1).trans (hb.mono (q18 (Below.refl w4.heap.size w4) 1).size);have HB5:=hj_ (ht_ HB4.out hb5);have HF1:=hj_ (HE1.out.below hb5 HE1.out.1);have HF2:=hj_ (HE2.out.below hb5 HE2.out.1);have HXF:=hj_ (HXE.out.below hb5 HXE.out.1);replace x5:=HXF.out.at_ (j:=5) rfl;have y0:=HF2.out.at_ (j:=0) rfl;have z0:=HF2.out.fr (j:=0) rfl;have lz:=HF2.out.1;clear hb hb5
    go_wp2_with fail;refine hK.out _ _ (by first | exact x5) (fun hHeld=>?_)
    clear hK K
    try simp only [Act.put,List.setIfInBounds_toArray,List.set_cons_zero,List.set_cons_succ]
    refine tq 10 ?_;refine tq 11 ?_;refine tq 12 ?_;refine tq 13 ?_;refine wpAnyH_ready (rs:=[14]) (by kernel_rfl) (by simp) ?_
    refine AllReadyH.cons rfl (fun K hK=>?_) AllReadyH.nil
    go_simp
    refine hK.out _ _ (by first | exact (World.cell?_setCell_far _ _ _ _ e3).trans x5 | exact (World.cell?_setCell_far _ _ _ _ e3.symm).trans x5) (fun hHeld=>?_)
    clear hK K
    try simp only [Act.put,List.setIfInBounds_toArray,List.set_cons_zero,List.set_cons_succ]
    refine tq 15 ?_;refine wpAnyH_done (by kernel_rfl) ?_ _
    have HG1:=hj_ (HF1.out.far 0 (.string (sR (s1+lx))) e1);have hf2:=HF2.out.set 0 (.string (sR (s1+lx))) (by show 0<3;decide)
    have HB6:=hj_ (HB5.out.setCell (p:=⟨wk.heap.size+1,0,none⟩) (by show W.heap.size≤wk.heap.size+1;have:=HKk.out;omega) (.string (sR (s1+lx))))
    have hf3:Cells (w5.setCell ⟨wk.heap.size+1,0,none⟩ (.string (sR (s1+lx)))) (wk.heap.size+1) [.string (sR (s1+lx)),.string (sR s2),.string (sR s3)]:=hf2;clear hf2 x5 y0 z0 lz;generalize w5.setCell ⟨wk.heap.size+1,0,none⟩ (.string (sR (s1+lx)))=w6 at *;have hrl:Cells w6 (wk.heap.size+1) (phL ld (X.take (k+1))):=by
     have h1:=HPu.out 1;have h2:=HPu.out 2;have h3:=HPu.out 3;rw [hs1] at h1;rw [hs2] at h2;rw [hs3] at h3;unfold phL;rw [h1,h2,h3];exact hf3
    have HRl:=hj_ hrl;clear hrl hf3;go_wp2_with fail
    go_roundw
    case rel=>exact ⟨k+1,HLt.out,by go_num,HB6.out,HG1.out,HRl.out⟩
    case measure=>have:=HLt.out;simp [intOf];omega
   ·have HAd2:=hj_ (HAd.out 2)
    rw [hs2] at HAd2;have HBw:=hj_ (ht_ HB0.out HB4.out);have y0:=HE2.out.at_ (j:=1) rfl
    have wj:IntKind.i64.wrap 1=1:=rfl;clear hphk HAd;refine wp_region_held_drew (S:=fun w'=>w'.cell? ⟨wr.heap.size,5,none⟩=some (.int .i64 2)) (by kernel_rfl) (by first | exact x5) (fun hHeld=>?_)
    refine tq 0 ?_;refine tq 1 ?_;refine tq 2 ?_;refine tq 3 ?_;refine tq 4 ?_;refine tq 5 ?_;refine tq 6 ?_;refine tq 8 ?_;refine wpAnyH_ready (rs:=[7]) (by kernel_rfl) (by simp) ?_
    refine AllReadyH.cons rfl (fun K hK=>?_) AllReadyH.nil
    go_simp
    refine hK.out _ _ (by first | exact x5) (fun hHeld=>?_)
    clear hK K
    try simp only [Act.put,List.setIfInBounds_toArray,List.set_cons_zero,List.set_cons_succ]
    refine wpAnyH_ready (rs:=[9]) (by kernel_rfl) (by simp) ?_
    refine AllReadyH.cons rfl (fun K hK=>?_) AllReadyH.nil
    go_simp
    go_at_call 61;refine (HAd2.out _ (q18 HBw.out 1)).mono ?_;rintro e w5 ⟨rfl,hb⟩;have hb5:=(q18 (Below.refl w4.heap.size w4) 1).trans (hb.mono (q18 (Below.refl w4.heap.size w4) 1).size);have HB5:=hj_ (ht_ HB4.out hb5);have HF1:=hj_ (HE1.out.below hb5 HE1.out.1);have HF2:=hj_ (HE2.out.below hb5 HE2.out.1);have HXF:=hj_ (HXE.out.below hb5 HXE.out.1);replace x5:=HXF.out.at_ (j:=5) rfl;have y0:=HF2.out.at_ (j:=1) rfl;have z0:=HF2.out.fr (j:=1) rfl;have lz:=HF2.out.1;clear hb hb5
    go_wp2_with fail;refine hK.out _ _ (by first | exact x5) (fun hHeld=>?_)
    clear hK K
    try simp only [Act.put,List.setIfInBounds_toArray,List.set_cons_zero,List.set_cons_succ]
    refine tq 10 ?_;refine tq 11 ?_;refine tq 12 ?_;refine tq 13 ?_;refine wpAnyH_ready (rs:=[14]) (by kernel_rfl) (by simp) ?_
    refine AllReadyH.cons rfl (fun K hK=>?_) AllReadyH.nil
    go_simp
    refine hK.out _ _ (by first | exact (World.cell?_setCell_far _ _ _ _ e3).trans x5 | exact (World.cell?_setCell_far _ _ _ _ e3.symm).trans x5) (fun hHeld=>?_)
    clear hK K
    try simp only [Act.put,List.setIfInBounds_toArray,List.set_cons_zero,List.set_cons_succ]
    refine tq 15 ?_;refine wpAnyH_done (by kernel_rfl) ?_ _
    have HG1:=hj_ (HF1.out.far 1 (.string (sR (s2+lx))) e1);have hf2:=HF2.out.set 1 (.string (sR (s2+lx))) (by show 1<3;decide)
    have HB6:=hj_ (HB5.out.setCell (p:=⟨wk.heap.size+1,1,none⟩) (by show W.heap.size≤wk.heap.size+1;have:=HKk.out;omega) (.string (sR (s2+lx))))
    have hf3:Cells (w5.setCell ⟨wk.heap.size+1,1,none⟩ (.string (sR (s2+lx)))) (wk.heap.size+1) [.string (sR s1),.string (sR (s2+lx)),.string (sR s3)]:=hf2;clear hf2 x5 y0 z0 lz;generalize w5.setCell ⟨wk.heap.size+1,1,none⟩ (.string (sR (s2+lx)))=w6 at *;have hrl:Cells w6 (wk.heap.size+1) (phL ld (X.take (k+1))):=by
     have h1:=HPu.out 1;have h2:=HPu.out 2;have h3:=HPu.out 3;rw [hs1] at h1;rw [hs2] at h2;rw [hs3] at h3;unfold phL;rw [h1,h2,h3];exact hf3
    have HRl:=hj_ hrl;clear hrl hf3;go_wp2_with fail
    go_roundw
    case rel=>exact ⟨k+1,HLt.out,by go_num,HB6.out,HG1.out,HRl.out⟩
    case measure=>have:=HLt.out;simp [intOf];omega
   ·have HAd2:=hj_ (HAd.out 3)
    rw [hs3] at HAd2;have HBw:=hj_ (ht_ HB0.out HB4.out);have y0:=HE2.out.at_ (j:=2) rfl
    have wj:IntKind.i64.wrap 2=2:=rfl;clear hphk HAd;refine wp_region_held_drew (S:=fun w'=>w'.cell? ⟨wr.heap.size,5,none⟩=some (.int .i64 3)) (by kernel_rfl) (by first | exact x5) (fun hHeld=>?_)
    refine tq 0 ?_;refine tq 1 ?_;refine tq 2 ?_;refine tq 3 ?_;refine tq 4 ?_;refine tq 5 ?_;refine tq 6 ?_;refine tq 8 ?_;refine wpAnyH_ready (rs:=[7]) (by kernel_rfl) (by simp) ?_
    refine AllReadyH.cons rfl (fun K hK=>?_) AllReadyH.nil
    go_simp
    refine hK.out _ _ (by first | exact x5) (fun hHeld=>?_)
    clear hK K
    try simp only [Act.put,List.setIfInBounds_toArray,List.set_cons_zero,List.set_cons_succ]
    refine wpAnyH_ready (rs:=[9]) (by kernel_rfl) (by simp) ?_
    refine AllReadyH.cons rfl (fun K hK=>?_) AllReadyH.nil
    go_simp
    go_at_call 61;refine (HAd2.out _ (q18 HBw.out 1)).mono ?_;rintro e w5 ⟨rfl,hb⟩;have hb5:=(q18 (Below.refl w4.heap.size w4) 1).trans (hb.mono (q18 (Below.refl w4.heap.size w4) 1).size);have HB5:=hj_ (ht_ HB4.out hb5);have HF1:=hj_ (HE1.out.below hb5 HE1.out.1);have HF2:=hj_ (HE2.out.below hb5 HE2.out.1);have HXF:=hj_ (HXE.out.below hb5 HXE.out.1);replace x5:=HXF.out.at_ (j:=5) rfl;have y0:=HF2.out.at_ (j:=2) rfl;have z0:=HF2.out.fr (j:=2) rfl;have lz:=HF2.out.1;clear hb hb5
    go_wp2_with fail;refine hK.out _ _ (by first | exact x5) (fun hHeld=>?_)
    clear hK K
    try simp only [Act.put,List.setIfInBounds_toArray,List.set_cons_zero,List.set_cons_succ]
    refine tq 10 ?_;refine tq 11 ?_;refine tq 12 ?_;refine tq 13 ?_;refine wpAnyH_ready (rs:=[14]) (by kernel_rfl) (by simp) ?_
    refine AllReadyH.cons rfl (fun K hK=>?_) AllReadyH.nil
    go_simp
    refine hK.out _ _ (by first | exact (World.cell?_setCell_far _ _ _ _ e3).trans x5 | exact (World.cell?_setCell_far _ _ _ _ e3.symm).trans x5) (fun hHeld=>?_)
    clear hK K
    try simp only [Act.put,List.setIfInBounds_toArray,List.set_cons_zero,List.set_cons_succ]
    refine tq 15 ?_;refine wpAnyH_done (by kernel_rfl) ?_ _
    have HG1:=hj_ (HF1.out.far 2 (.string (sR (s3+lx))) e1);have hf2:=HF2.out.set 2 (.string (sR (s3+lx))) (by show 2<3;decide)
    have HB6:=hj_ (HB5.out.setCell (p:=⟨wk.heap.size+1,2,none⟩) (by show W.heap.size≤wk.heap.size+1;have:=HKk.out;omega) (.string (sR (s3+lx))))
    have hf3:Cells (w5.setCell ⟨wk.heap.size+1,2,none⟩ (.string (sR (s3+lx)))) (wk.heap.size+1) [.string (sR s1),.string (sR s2),.string (sR (s3+lx))]:=hf2;clear hf2 x5 y0 z0 lz;generalize w5.setCell ⟨wk.heap.size+1,2,none⟩ (.string (sR (s3+lx)))=w6 at *;have hrl:Cells w6 (wk.heap.size+1) (phL ld (X.take (k+1))):=by
     have h1:=HPu.out 1;have h2:=HPu.out 2;have h3:=HPu.out 3;rw [hs1] at h1;rw [hs2] at h2;rw [hs3] at h3;unfold phL;rw [h1,h2,h3];exact hf3
    have HRl:=hj_ hrl;clear hrl hf3;go_wp2_with fail
    go_roundw
    case rel=>exact ⟨k+1,HLt.out,by go_num,HB6.out,HG1.out,HRl.out⟩
    case measure=>have:=HLt.out;simp [intOf];omega
  ·obtain rfl:k=X.length:=by omega
   rw [List.take_length] at hq2;unfold phL at hq2;have s0:=hq2.at_ (j:=0) rfl
   have s1:=hq2.at_ (j:=1) rfl
   have s2:=hq2.at_ (j:=2) rfl
   have l2:=hq2.1;obtain ⟨c0,c1,c2,c3,c4,c5⟩:=HK.out _ hB;have f0:=HFr.out _ hB 0;have f1:=HFr.out _ hB 1;have f2:=HFr.out _ hB 2;have hs2':=Nat.lt_of_lt_of_le HWs.out hB.size;have hz:=ht_ HB0.out hB;clear hq1 hq2;go_wp2_with fail
   (try simp only [Exit.inBlock,Exit.then])
   refine bodyPost_ret (v:=.tuple #[.agg #[.string (sR (phQ ld X 1)),.string (sR (phQ ld X 2)),.string (sR (phQ ld X 3))],.int .i64 0]) ?_ rfl ⟨rfl,?_⟩
   ·rw [results_cell_tmp rfl]
    go_simp
   ·(repeat' first | exact br_ | assumption | apply Below.drew | apply q18 | refine Below.alloc ?_ ?_ _ | refine Below.setCell ?_ ?_ _ | refine Below.trans ?_ (Below.mono ‹_› ?_) | omega | (simp;omega) | simp)
end

section
open Go.RowKit
def ampE (s:ByteArray) (v:Int):Int:=if chkR s.data.toList≠0 then chkR s.data.toList else if valR s.data.toList<0∨v<1∨1000<v then 2 else 0
def ampV (s:ByteArray) (v:Int):ByteArray:=if ampE s v≠0 then ⟨#[]⟩ else sR (valR s.data.toList / (v:Rat))
theorem q0eq (r:Rat):∃ c l,rT r=c :: l∧(c == 45)=decide (r<0):=by
 have hn:r<0↔r.num<0:=by
  have:=Rat.num_nonneg (q:=r)
  rw [← Rat.not_le,← this];omega
 have hi:∃ c l,Lib.itoa r.num=c :: l∧(c == 45)=decide (r<0):=by
  by_cases h:r.num<0
  ·rw [qc7 h]
   exact ⟨45,_,rfl,by rw [decide_eq_true (hn.2 h)];rfl⟩
  ·rw [qca (by omega),decide_eq_false (fun e=>h (hn.1 e))]
   cases hd:Lib.decDigits r.num.natAbs with
   | nil=>exact absurd hd (dec_ne _)
   | cons c l =>
    refine ⟨c,l,rfl,?_⟩
    have:=q4k r.num.natAbs c (by rw [hd];simp)
    rw [beq_eq_false_iff_ne];intro e;subst e
    revert this
    decide
 obtain ⟨c,l,e,h⟩:=hi;unfold rT
 split
 ·exact ⟨c,l,e,h⟩
 ·rw [e];exact ⟨c,_,rfl,h⟩
theorem amp_ok {s:ByteArray} (hs:s.size≤300) (h:chkR s.data.toList=0):s=sR (valR s.data.toList)∧SzR 300 (valR s.data.toList):=by
 have h1:=(q34 h).1;have h2:s=sR (valR s.data.toList):=ByteArray.ext (Array.ext' h1);exact ⟨h2,qpr h2 hs (by decide)⟩
theorem v_sz {v:Int} (h0:1≤v) (h1:v≤1000):SzR 4 ((v:Int):Rat):=by
 unfold SzR;rw [Rat.num_intCast,Rat.den_intCast]
 have:(10:Nat) ^ 4=10000:=rfl
 omega
theorem q0id (s:ByteArray) (v:Int) (hs:s.size≤300) (v0:-9223372036854775808≤v) (v1:v≤9223372036854775807) (w:World) (ht:Tab w) :
  Calls prog 13 #[.string s,.int .i64 v] w fun e w'=>e=.returned (.tuple #[.string (ampV s v),.int .i64 (ampE s v)])∧Below w.heap.size w w':=by
 have HC:=hj_ (qji s w (by omega) ht)
 by_cases hc:chkR s.data.toList=0
 ·rw [hc] at HC
  obtain ⟨hsr,hz⟩:=amp_ok hs hc;obtain ⟨c,l,hl,hcn⟩:=q0eq (valR s.data.toList);have hE:ampE s v=if valR s.data.toList<0∨v<1∨1000<v then 2 else 0:=by unfold ampE;rw [if_neg (fun h=>h hc)]
  have hV:ampV s v=if ampE s v≠0 then ⟨#[]⟩ else sR (valR s.data.toList / (v:Rat)):=rfl
  have hsl:s=⟨(c :: l).toArray⟩:=hsr.trans (by unfold sR;rw [hl])
  have hix:∀ w,(Instr.index 38 (.string s) (.int .i64 0)).run prog w=.ok (.int .u8 (c.toNat:Int)) w:=fun w=>by
   rw [hsl]
   kernel_rfl
  have hb:((c.toNat:Int) == 45)=decide (valR s.data.toList<0):=by
   rw [← hcn,Bool.eq_iff_iff,beq_iff_eq,beq_iff_eq]
   constructor
   ·intro e
    have:c.toNat=(45:UInt8).toNat:=by have h45:(45:UInt8).toNat=45:=rfl;omega
    exact UInt8.toNat_inj.1 this
   ·intro e;rw [e];rfl
  generalize hr:valR s.data.toList=r at *;have HQ:=hj_ (fun (h0:1≤v) (h1:v≤1000) w' (hb:Below w.heap.size w w')=>And.intro (q0hb v v0 v1 w' (ht.below hb)) (qjd hz (v_sz h0 h1) (by
   intro e
   have:(v:Rat)=((0:Int):Rat):=e
   rw [Rat.intCast_inj] at this
   omega) w' (ht.below hb) (by omega)))
  rw [← hsr] at HQ;have hV2:ampE s v=0→ampV s v=sR (r / (v:Rat)):=fun h=>by rw [hV,if_neg (fun h2=>h2 h)]
  have hV3:ampE s v≠0→ampV s v=⟨#[]⟩:=fun h=>by rw [hV,if_pos h]
  generalize ampV s v=AV at *;generalize ampE s v=AE at *;clear hc hcn hl hz hV hsr hsl
  by_cases h1:r<0
  ·rw [if_pos (Or.inl h1)] at hE
   subst hE;obtain rfl:=hV3 (by decide)
   rw [decide_eq_true h1] at hb;clear hV2 hV3 HQ
   go_enter func13,ntmps13
   go_wp2_with fail;refine HC.out.mono ?_;rintro e wk ⟨rfl,hb1⟩;go_wp2_with fail;go_ret2;refine ⟨?_,hb1⟩
   go_simp
  ·rw [decide_eq_false h1] at hb
   by_cases h2:v<1
   ·rw [if_pos (Or.inr (Or.inl h2))] at hE
    subst hE;obtain rfl:=hV3 (by decide)
    clear hV2 hV3 HQ
    go_enter func13,ntmps13
    go_wp2_with fail;refine HC.out.mono ?_;rintro e wk ⟨rfl,hb1⟩;go_wp2_with fail;go_ret2;refine ⟨?_,hb1⟩
    go_simp
   ·by_cases h3:1000<v
    ·rw [if_pos (Or.inr (Or.inr h3))] at hE
     subst hE;obtain rfl:=hV3 (by decide)
     clear hV2 hV3 HQ
     go_enter func13,ntmps13
     go_wp2_with fail;refine HC.out.mono ?_;rintro e wk ⟨rfl,hb1⟩;go_wp2_with fail;go_ret2;refine ⟨?_,hb1⟩
     go_simp
    ·rw [if_neg (by rintro (h | h | h);exact h1 h;exact h2 h;exact h3 h)] at hE
     subst hE;obtain rfl:=hV2 rfl;have HQ2:=hj_ (HQ.out (by omega) (by omega))
     clear hV2 hV3 HQ
     go_enter func13,ntmps13
     go_wp2_with fail;refine HC.out.mono ?_;rintro e wk ⟨rfl,hb1⟩;go_wp2_with fail;refine (HQ2.out _ hb1).1.mono ?_;rintro e w2 ⟨rfl,hb2⟩;have hB2:=ht_ hb1 hb2;go_wp2_with fail;refine (HQ2.out _ hB2).2.mono ?_;rintro e w3 ⟨rfl,hb3⟩;have hB3:=ht_ hB2 hb3;clear hb1 hb2 hb3 hB2;go_wp2_with fail;go_ret2;refine ⟨?_,hB3⟩
     go_simp
 ·have hE:ampE s v=chkR s.data.toList:=by unfold ampE;rw [if_pos hc]
  have hV:ampV s v=⟨#[]⟩:=by unfold ampV;rw [if_pos (by rw [hE];exact hc)]
  rw [hE,hV];generalize chkR s.data.toList=E at *;have g1:(E == 0)=false:=by simpa using hc
  have g2:(E != 0)=true:=by simpa using hc
  clear hE hV
  go_enter func13,ntmps13
  go_wp2_with fail;refine HC.out.mono ?_;rintro e wk ⟨rfl,hb1⟩;go_wp2_with fail;go_ret2;refine ⟨?_,hb1⟩
  go_simp
end

end Go.Proofs.YtabhjdmmfdfpeaaGreatDoor
