/- Lemmas. -/
import Derived.Test.YtabhjdmmfdfpeaaGreatDoorKUniH
import Derived.Test.YtabhjdmmfdfpeaaGreatDoorQPwE
import Derived.Test.YtabhjdmmfdfpeaaGreatDoorZTopA
namespace Go.Proofs.YtabhjdmmfdfpeaaGreatDoor
set_option maxHeartbeats 32000000
set_option maxRecDepth 100000
open _root_.Go.Proofs.Tryz
open Go.RowKit
variable {X:List Fx} {B S:Nat} {A2:Option Addr} {f:Value} {V w w1:World}
def Am.val (a:Am):Value:=.agg #[.int .i64 a.ch,.int .i64 a.at_,.string a.lev]
def hitA (ch at_:Int) (a:Am):Bool:=decide (a.ch=ch) && decide (a.at_=at_)
theorem q03l {l:List Am} {ch at_ ho:Int}:(idxOf (hitA ch at_) l<0→toldT l ch at_ ho=sR (ho:Rat))∧∀ k:Nat,idxOf (hitA ch at_) l=k→∃ hk:k<l.length,toldT l ch at_ ho=l[k].lev:=by
 have none_:∀ {l:List Am},idxOf (hitA ch at_) l<0→∀ i (h:i<l.length),hitA ch at_ l[i]=false:=by
  intro l h i hi
  cases hp:hitA ch at_ l[i] with
  | false=>rfl
  | true=>exact absurd h (q012 (List.getElem_mem hi) hp)
 refine ⟨fun h=>qsk (fun i hi=>none_ h i hi),fun k hk=>?_⟩
 have hlt:=qbb (p:=hitA ch at_) l
 have hkl:k<l.length:=o_
 refine ⟨hkl,qsn hkl (fun i hi hik=>?_) (qba hkl hk)⟩
 have h2:idxOf (hitA ch at_) (l.take k)<0:=by
  refine Classical.byContradiction fun hn=>?_
  have hge:=qb9 (p:=hitA ch at_) (l.take k)
  have hlt2:=qbb (p:=hitA ch at_) (l.take k)
  obtain ⟨q,hq⟩:∃ q:Nat,idxOf (hitA ch at_) (l.take k)=q:=⟨(idxOf (hitA ch at_) (l.take k)).toNat,o_⟩
  have hql:q<(l.take k).length:=o_
  have hit:=qba hql hq;have hqk:q<k:=by rw [List.length_take] at hql;omega
  rw [List.getElem_take] at hit;have key:∀ {l:List Am} {k:Nat},idxOf (hitA ch at_) l=k→∀ i (h:i<l.length),i<k→hitA ch at_ l[i]=false:=by
   intro l
   induction l with
   | nil=>intro k _ i h;exact absurd h (Nat.not_lt_zero _)
   | cons a l ih =>
    intro k h i hi hik;rw [idxOf] at h
    cases ha:hitA ch at_ a with
    | true=>rw [ha,if_pos rfl] at h;omega
    | false =>
     rw [ha,if_neg Bool.false_ne_true] at h
     match i,hi with
     | 0,_=>exact ha
     | i+1,hi =>
      by_cases h2:idxOf (hitA ch at_) l<0
      ·rw [if_pos h2] at h;omega
      ·rw [if_neg h2] at h
       obtain ⟨m,hm⟩:∃ m:Nat,idxOf (hitA ch at_) l=m:=⟨(idxOf (hitA ch at_) l).toNat,o_⟩
       exact ih hm i (by simpa using hi) o_
  rw [key hk q o_ hqk] at hit
  cases hit
 have:=none_ h2 i (by rw [List.length_take];omega)
 rwa [List.getElem_take] at this
theorem q03a (g:Nat) (cb:Array Value) (p:Am→Bool) (A:Option Addr) (n c:Nat) (l:List Am) (w:World) (eg:∀ args w,(callFunc g args).run prog w=.ok (.enter g args) w) (hl:shAm.In w A n l) (hn:n≤9223372036854775807)
  (hf:∀ i (h:i<l.length) (W:World),Below w.heap.size w W→Calls prog g (#[l[i].val] ++ cb) W fun e w'=>e=.returned (.bool (p l[i]))∧Below W.heap.size W w') :
  Rt 103 #[.slice A n c,.func (.func g) #[] cb] w (.int .i64 (idxOf p l)):=by
 obtain ⟨rfl,_⟩:=id hl;have HL:=hj_ hl;have HF:=hj_ hf;have hB:=Below.refl w.heap.size w;obtain ⟨E,hE⟩:=ex_ (idxOf p l);rw [← hE];have HE:=hj_ hE;clear hl hf hE
 go_enter func103,ntmps103
 go_wp2_with fail
 go_loopw [8] (fun iv wr=>∃ k:Nat,k≤l.length∧iv=.int .i64 k∧(∀ j (h:j<l.length),j<k→p l[j]=false)∧Below w.heap.size w wr) (fun iv _=>l.length-(intOf iv).toNat)
 case atStart=>exact ⟨0,Nat.zero_le _,rfl,fun j _ h=>absurd h (Nat.not_lt_zero _),br_⟩
 case round =>
  obtain ⟨k,hk,rfl,hall,hBr⟩:=hrel;have HAll:=hj_ hall;clear hall
  by_cases hlt:k<l.length
  ·obtain ⟨b,o,rfl,hbl,hcell⟩:=am_at HL.out o_
   have hk2:=hcell k hlt;have kk:=fun (q:Nat)=>hBr.cell (p:=⟨b,q,none⟩) hbl
   have hbw:b<wr.heap.size:=Nat.lt_of_lt_of_le hbl hBr.size;have hc:=HF.out k hlt wr hBr;have HY:=hj_ (show p l[k]=true→E=k from fun h=>HE.out.trans (qbd hlt (fun i hi=>HAll.out i o_ hi) h))
   have HN:=hj_ (show p l[k]=false→∀ j (h:j<l.length),j<k+1→p l[j]=false from fun h j hj hjk=>by
    rcases Nat.lt_or_eq_of_le (Nat.le_of_lt_succ hjk) with h1 | h1
    ·exact HAll.out j hj h1
    ·subst h1;exact h)
   clear hcell;have i0:(0:Int)≤(k:Int):=o_
   have i1:(k:Int)<(l.length:Int):=o_
   have HBr:=hj_ hBr;clear hBr;generalize l[k]=f at *;generalize hpf:p f=pf at *;obtain ⟨ch,at_,lev⟩:=f
   obtain ⟨k0,k1,k2⟩:=hk2;have p0:=(kk _).trans k0;have p1:=(kk _).trans k1;have p2:=(kk _).trans k2;clear k0 k1 k2 kk hpf;dsimp only at p0 p1 p2
   cases pf with
   | true =>
    have hee:E=k:=HY.out rfl;subst hee;go_wp2_with (go_at_fn g;refine hc.mono ?_;rintro e w' ⟨rfl,hb⟩;have hB:=ht_ HBr.out hb);go_ret;exact ⟨rfl,hB⟩
   | false =>
    have HN1:=hj_ (HN.out rfl);go_wp2_with (go_at_fn g;refine hc.mono ?_;rintro e w' ⟨rfl,hb⟩;have hB:=ht_ HBr.out hb)
    go_roundw
    case rel=>exact ⟨k+1,o_,by go_num,HN1.out,hB⟩
    case measure=>simp [intOf];omega
  ·obtain rfl:k=l.length:=by omega
   have hE0:E=-1:=HE.out.trans (qbc fun i h=>HAll.out i h h)
   subst hE0;go_wp2_with fail;go_ret;exact ⟨rfl,hBr⟩
theorem q0hb (z:Int) (h0:-9223372036854775808≤z) (h1:z≤9223372036854775807) (w:World) (ht:Tab w) :
  Rt 44 #[.int .i64 z] w (.string (sR (z:Rat))):=by
 have HT:=hj_ ht;have HO:=hj_ (fun w ht=>of_fit h0 h1 w ht)
 rw [sR_int];have hB:=Below.refl w.heap.size w;clear ht h0 h1
 go_enter func44,ntmps44
 go_wp2_with ((go_at_call 77;with_reducible refine up_ (HO.out _ (HT.out.below hB)) hB fun wk hB=>?_));go_ret;exact ⟨rfl,hB⟩
theorem q0ha (z m:Int) (h0:-9223372036854775808≤z) (h1:z≤9223372036854775807) (g0:0<m) (g1:m≤9223372036854775807) (w:World) (ht:Tab w) :
  Rt 105 #[.int .i64 z,.int .i64 m] w (.tuple #[.string (sR ((z:Rat) / (m:Rat))),.int .i64 0]):=by
 have HT:=hj_ ht;have HA:=hj_ (fun w ht=>of_fit h0 h1 w ht)
 have HM:=hj_ (fun w ht=>of_fit (x:=m) o_ g1 w ht)
 have HQ0:=fun w ht=>qjy (q8g h0 h1) (q8g (x:=m) o_ g1) o_ w ht
 rw [Rat.divInt_eq_div] at HQ0;have HQ:=hj_ HQ0;have hB:=Below.refl w.heap.size w;clear ht HQ0 h0 h1 g0 g1
 go_enter func105,ntmps105
 go_wp2_with (first | (go_at_call 77;with_reducible refine up_ (HA.out _ (HT.out.below hB)) hB fun wk hB=>?_) | (go_at_call 77;with_reducible refine up_ (HM.out _ (HT.out.below hB)) hB fun wk hB=>?_) | (go_at_call 147;with_reducible refine up_ (HQ.out _ (HT.out.below hB)) hB fun wk hB=>?_))
 go_ret2;exact ⟨rfl,hB⟩
theorem q0ey (f:FC) (w:World) :
  Rt 102 #[f.val] w (.bool (decide (f.at_=0))):=by
 obtain ⟨at_,bits,co,fi,cu,ho,lo,hi,sn,A,n,c⟩:=f
 show Rt 102 #[.agg #[.int .i64 at_,.int .i64 bits,.int .i64 co,.int .i64 fi,.int .i64 cu,.int .i64 ho,.int .i64 lo,.int .i64 hi,.bool sn,.slice A n c]] w (.bool (decide (at_=0)))
 have hbq:(at_ == 0)=decide (at_=0):=by by_cases h:at_=0 <;> simp [h]
 obtain ⟨W,hW⟩:=ex_ (w.alloc (.cells #[.int .i64 at_,.int .i64 bits,.int .i64 co,.int .i64 fi,.int .i64 cu,.int .i64 ho,.int .i64 lo,.int .i64 hi,.bool sn,.slice A n c] 114))
 obtain ⟨hB0,hK⟩:=fbox at_ bits co fi cu ho lo hi sn A n c w W hW
 have HK:=hj_ hK;have HW:=hj_ hW;have HB0:=hj_ hB0;have hB:=Below.refl W.heap.size W;obtain ⟨c0,c1,c2,c3,c4,c5,c6,c7,c8,c9⟩:=hK W hB;clear hW hB0 hK;generalize decide (at_=0)=q at *
 go_enter func102,ntmps102
 go_wp2_with fail;rw [← HW.out];go_wp2_with fail;go_ret;exact ⟨rfl,HB0.out⟩
theorem q0ez (a:Am) (X:Nat) (ch:Int) (w:World) (hX:X<w.heap.size) (x0:w.cell? ⟨X,0,none⟩=some (.int .i64 ch)) (x1:w.cell? ⟨X,1,none⟩=some (.int .i64 0)) :
  Rt 104 #[a.val,.pointer (some ⟨X,0,none⟩)] w (.bool (hitA ch 0 a)):=by
 have hq:hitA ch 0 a=decide ((a.ch,a.at_)=(ch,(0:Int))):=by
  unfold hitA
  by_cases h1:a.ch=ch <;> by_cases h2:a.at_=0 <;> simp [h1,h2]
 rw [hq];obtain ⟨ac,aa,lev⟩:=a;show Rt 104 #[.agg #[.int .i64 ac,.int .i64 aa,.string lev],.pointer (some ⟨X,0,none⟩)] w (.bool (decide ((ac,aa)=(ch,(0:Int)))))
 have heq:∀ w,(Op.equalIn 10000 64 (.agg #[.int .i64 ac,.int .i64 aa]) (.agg #[.int .i64 ch,.int .i64 0])).run prog w=.ok (decide ((ac,aa)=(ch,(0:Int)))) w:=fun w=>q6x (ac,aa) (ch,0) w
 clear hq;generalize decide ((ac,aa)=(ch,(0:Int)))=q at *;obtain ⟨W,HW,HB0,HK⟩:=bx3 w (.int .i64 ac) (.int .i64 aa) (.string lev) 66;have hB:=Below.refl W.heap.size W;obtain ⟨c0,c1,c2⟩:=HK.out W hB;have y0:=(HB0.out.cell (p:=⟨X,0,none⟩) hX).trans x0;have y1:=(HB0.out.cell (p:=⟨X,1,none⟩) hX).trans x1;clear x0 x1;have eW:=HW.out;clear HW HK hB;subst eW
 go_enter func104,ntmps104
 go_wp2_with fail;go_ret;exact ⟨rfl,HB0.out⟩
theorem q0f1 (A0:Option Addr) (n0 d0:Nat) (A1:Option Addr) (n1 d1:Nat) (A2:Option Addr) (n2 d2:Nat) (P:List PC) (x:Fx) (p:PC) (H:List FC) (A:Option Addr) (n c:Nat) (l:List Am) (w:World) (hp:shPr.In w A1 n1 P) (hn:n1≤9223372036854775806) (hx:pcF P x.pr=some p)
  (hH:shF.In w p.A p.n H) (hHn:p.n≤9223372036854775807) (hl:shAm.In w A n l) (hln:n≤9223372036854775807) (hwa:0≤p.wa∧p.wa≤1048576) (hlev:∀ f ∈ H,f.at_=0→(0≤f.ho∧f.ho≤65535)∧∃ r,toldT l x.ch 0 f.ho=sR r∧SzR 130 r) (ht:Tab w) :
  Rt 60 #[.agg #[.slice A0 n0 d0,.slice A1 n1 d1,.slice A2 n2 d2],.slice A n c,x.val] w (.tuple #[.string (sR (loadQ H l x.ch p.wa)),.int .i64 0]):=by
 obtain ⟨ch,pt,pr,un,ad,ph,cb⟩:=x;show Rt 60 #[.agg #[.slice A0 n0 d0,.slice A1 n1 d1,.slice A2 n2 d2],.slice A n c,.agg #[.int .i64 ch,.int .i64 pt,.string pr,.int .i64 un,.int .i64 ad,.int .i64 ph,.string cb]] w (.tuple #[.string (sR (loadQ H l ch p.wa)),.int .i64 0])
 have HPf:=hj_ (fun w hp=>q0fd A0 n0 d0 A1 n1 d1 A2 n2 d2 P ⟨ch,pt,pr,un,ad,ph,cb⟩ p w hp hn hx)
 obtain rfl:n=l.length:=hl.1;obtain ⟨ps,pf,pw,pA,pn,pc⟩:=p;dsimp only at hH hHn hwa hlev hx;obtain rfl:pn=H.length:=hH.1;have HPf2:=hj_ (show ∀ w',shPr.In w' A1 n1 P→Calls prog 32 #[.agg #[.slice A0 n0 d0,.slice A1 n1 d1,.slice A2 n2 d2],.agg #[.int .i64 ch,.int .i64 pt,.string pr,.int .i64 un,.int .i64 ad,.int .i64 ph,.string cb]] w' fun e w''=>e=.returned (.agg #[.string ps,.int .i64 pf,.int .i64 pw,.slice pA H.length pc])∧Below w'.heap.size w' w'' from HPf.out)
 obtain ⟨R,hR⟩:=ex_ (loadQ H l ch pw);rw [show loadQ H l ch (PC.wa ⟨ps,pf,pw,pA,H.length,pc⟩)=R from hR.symm]
 have HR:=hj_ hR;obtain ⟨W,HW,HB0,HK⟩:=bx3_7 w (.slice A0 n0 d0) (.slice A1 n1 d1) (.slice A2 n2 d2) 75 (.int .i64 ch) (.int .i64 pt) (.string pr) (.int .i64 un) (.int .i64 ad) (.int .i64 ph) (.string cb) 45;have hB:=Below.refl W.heap.size W;obtain ⟨c0,c1,c2,c3,c4,c5,c6,c7,c8,c9⟩:=HK.out W hB;have HP:=hj_ (hp.below HB0.out);have HH:=hj_ (hH.below HB0.out);have HL:=hj_ (hl.below HB0.out);have HT:=hj_ (ht.below HB0.out);have HFx:=hj_ (q0ep (fun f:FC=>decide (f.at_=0)) H)
 have HTd:=hj_ (fun ho=>q03l (l:=l) (ch:=ch) (at_:=0) (ho:=ho))
 have HLv:=hj_ hlev;have HWa:=hj_ hwa;have HLn:=hj_ hln;have HIf:=hj_ (fun wk (hh:shF.In wk pA H.length H)=>q0fg 102 #[] (fun f=>decide (f.at_=0)) pA H.length pc H wk (enters_of func102 k_ rfl) hh hHn (fun i h W' _=>q0ey H[i] W'))
 have hmf:∀ (fn:Fn) (first cap:Array Value) (w:World),(Instr.makeFunc fn first cap).run prog w=.ok (.func fn first cap) w:=fun _ _ _ _=>rfl
 clear hp hH hl hlev hwa hHn hln hn hx HPf ht hR
 go_enter func60,ntmps60
 go_wp2_with fail;rw [← HW.out];refine up_ (HPf2.out _ (HP.out.below hB)) hB fun wk hB=>?_;obtain ⟨c0,c1,c2,c3,c4,c5,c6,c7,c8,c9⟩:=HK.out _ hB;obtain ⟨W3,hW3⟩:=ex_ (wk.alloc (.cells #[.string ps,.int .i64 pf,.int .i64 pw,.slice pA H.length pc] 87));have hb3:Below wk.heap.size wk W3:=by rw [hW3];exact (br_).alloc lr_ _
 have HX3:=hj_ (show Cells W3 wk.heap.size [.string ps,.int .i64 pf,.int .i64 pw,.slice pA H.length pc] by rw [hW3];exact Cells.fresh wk [.string ps,.int .i64 pf,.int .i64 pw,.slice pA H.length pc] _)
 have HW3:=hj_ hW3;have hB3:=ht_ hB hb3;have HB3:=hj_ hB3;have hIf:=HIf.out W3 (HH.out.below HB3.out);have x3:=HX3.out.at_ (j:=3) rfl
 have x2:=HX3.out.at_ (j:=2) rfl
 have hlx:=HX3.out.1;obtain ⟨c0,c1,c2,c3,c4,c5,c6,c7,c8,c9⟩:=HK.out _ hB3;clear hW3 hb3 hB HIf
 rcases HFx.out with ⟨hneg,hnone⟩ | ⟨k,hkk,hk,hsome⟩
 ·have hRv:R=(pw:Rat):=by
   rw [HR.out];unfold loadQ inten;rw [hnone]
  generalize idxOf (fun f:FC=>decide (f.at_=0)) H=z at *
  have hz:z<0:=hneg;have hQw:=fun w' (hb:Below W3.heap.size W3 w')=>q0hb pw (oh_ HWa.out) (oh_ HWa.out) w' (HT.out.below (ht_ HB3.out hb))
  rw [← hRv] at hQw;have HQw:=hj_ hQw;clear hRv hneg hnone hQw HR HTd HLv hB3;go_wp2_with fail;rw [← HW3.out];go_wp2_with fail;refine hIf.mono ?_;rintro e w4 ⟨rfl,hb⟩;have x2':=(hb.cell (p:=⟨wk.heap.size,2,none⟩) hlx).trans x2;have HB4:=hj_ hb;have hl4:=Nat.lt_of_lt_of_le hlx hb.size;clear hb x2 x3;go_wp2_with fail;refine (HQw.out _ HB4.out).mono ?_;rintro e w5 ⟨rfl,hb⟩;have HB5:=hj_ (HB0.out.trans ((HB3.out.trans ((ht_ HB4.out hb).mono HB3.out.size)).mono HB0.out.size));clear hb;go_wp2_with fail;go_ret2;exact ⟨rfl,HB5.out⟩
 ·have hmem:=List.getElem_mem hk
  have hat:H[k].at_=0:=by
   have:=List.find?_some hsome
   simpa using this
  obtain ⟨hho,r,hr,hrz⟩:=HLv.out H[k] hmem hat;have hRv:R=r*((pw:Rat) / ((65535:Int):Rat)):=by
   rw [HR.out];unfold loadQ inten;rw [hsome];show valR (toldT l ch 0 H[k].ho).data.toList*_=_
   rw [hr,qog,qz3]
  have hps:SzR 8 ((pw:Rat) / ((65535:Int):Rat)):=by
   rw [← Rat.divInt_eq_div];exact SzR.red d_ (by have:=HWa.out;have:(10:Nat) ^ 8=100000000:=rfl;omega) d_
  have HMu:=hj_ (show ∀ w',Below W3.heap.size W3 w'→Calls prog 106 #[.string (sR r),.string (sR ((pw:Rat) / ((65535:Int):Rat)))] w' fun e w''=>e=.returned (.tuple #[.string (sR R),.int .i64 0])∧Below w'.heap.size w' w'' from fun w' hb=>by
   rw [hRv];exact qje hrz hps w' (HT.out.below (ht_ HB3.out hb)) o_)
  have HPt:=hj_ (fun w' (hb:Below W3.heap.size W3 w')=>q0ha pw 65535 (oh_ HWa.out) (oh_ HWa.out) o_ o_ w' (HT.out.below (ht_ HB3.out hb)))
  have HWh:=hj_ (fun w' (hb:Below W3.heap.size W3 w')=>q0hb H[k].ho o_ o_ w' (HT.out.below (ht_ HB3.out hb)))
  obtain ⟨b,o,rfl,hbl,hcell⟩:=ft_at HH.out o_
  have h5:=(hcell k hk).2.2.2.2.2.1;have HIa:=hj_ (fun (Q:Nat) w' (hb:Below W3.heap.size W3 w') (hQ:Q<w'.heap.size) (q0:w'.cell? ⟨Q,0,none⟩=some (.int .i64 ch)) (q1:w'.cell? ⟨Q,1,none⟩=some (.int .i64 0))=>q03a 104 #[.pointer (some ⟨Q,0,none⟩)] (hitA ch 0) A l.length c l w' (enters_of func104 k_ rfl) (HL.out.below (ht_ HB3.out hb)) HLn.out
   (fun i h W' hW'=>q0ez l[i] Q ch W' (Nat.lt_of_lt_of_le hQ hW'.size) ((hW'.cell (p:=⟨Q,0,none⟩) hQ).trans q0) ((hW'.cell (p:=⟨Q,1,none⟩) hQ).trans q1)))
  have HCb:=hj_ (fun w' (hb:Below W3.heap.size W3 w')=>And.intro ((hb.cell (p:=⟨b,o+k*10+5,none⟩) (Nat.lt_of_lt_of_le hbl HB3.out.size)).trans ((HB3.out.cell (p:=⟨b,o+k*10+5,none⟩) hbl).trans h5)) (Nat.lt_of_lt_of_le hbl (Nat.le_trans HB3.out.size hb.size)))
  have HTl:=hj_ (HTd.out H[k].ho);rw [hr] at HTl;have HAm:=hj_ (fun (h:0<l.length)=>am_at HL.out h)
  rw [hkk] at hIf;have i0:(0:Int)≤(k:Int):=o_
  have i1:(k:Int)<(H.length:Int):=o_
  have i2:¬ (k:Int)<0:=o_
  have HX2:=hj_ (fun w' (hb:Below W3.heap.size W3 w')=>And.intro ((hb.cell (p:=⟨wk.heap.size,2,none⟩) hlx).trans x2) (And.intro ((hb.cell (p:=⟨wk.heap.size,3,none⟩) hlx).trans x3) (Nat.lt_of_lt_of_le hlx hb.size)))
  clear hmem hat hr hrz hRv hps hcell h5 hsome hkk hho HR HTd HLv hB3;generalize H[k].ho=ho at *;generalize sR ((pw:Rat) / ((65535:Int):Rat))=ps8 at *;generalize sR r=rs at *;go_wp2_with fail;rw [← HW3.out];go_wp2_with fail;refine hIf.mono ?_;rintro e w4 ⟨rfl,hb⟩;have HB4:=hj_ hb;clear hb x2 x3 hlx;obtain ⟨x2,x3,hlx⟩:=HX2.out w4 HB4.out;obtain ⟨z5,hbw⟩:=HCb.out w4 HB4.out;go_wp2_with fail;refine (HWh.out w4 HB4.out).mono ?_;rintro e w5 ⟨rfl,hb⟩;have hB5:=ht_ HB4.out hb;obtain ⟨W6,hW6⟩:=ex_ (w5.alloc (.cells #[.int .i64 ch,.int .i64 0] 64));have hb6:Below w5.heap.size w5 W6:=by rw [hW6];exact (br_).alloc lr_ _
  have hX6:Cells W6 w5.heap.size [.int .i64 ch,.int .i64 0]:=by rw [hW6];exact Cells.fresh w5 [.int .i64 ch,.int .i64 0] _
  have HB6:=hj_ (ht_ hB5 hb6);have hIa:=HIa.out w5.heap.size W6 HB6.out hX6.1 (hX6.at_ (j:=0) rfl) (hX6.at_ (j:=1) rfl)
  have HW6:=hj_ hW6;obtain ⟨c0,c1,c2,c3,c4,c5,c6,c7,c8,c9⟩:=HK.out _ (ht_ HB3.out hB5);have hwl:w.heap.size+1<w5.heap.size:=by
   have h1:=(ht_ HB3.out hB5).size;rw [HW.out] at h1;simp at h1;omega
  clear hb hb6 hX6 hW6 hB5 x2 x3 hlx z5 hbw;obtain ⟨z,hz⟩:=ex_ (idxOf (hitA ch 0) l);rw [← hz] at hIa HTl
  by_cases hzn:z<0
  ·obtain ⟨hz1,_⟩:=HTl.out
   have hrs:=hz1 hzn;subst hrs;have g1:¬ 0≤z:=o_
   clear hz1 HTl hz;go_wp2_with fail;rw [← HW6.out];refine hIa.mono ?_;rintro e w7 ⟨rfl,hb⟩;have HB7:=hj_ (ht_ HB6.out hb);obtain ⟨x2,x3,hlx⟩:=HX2.out w7 HB7.out;clear hb;go_wp2_with fail;refine (HPt.out w7 HB7.out).mono ?_;rintro e w8 ⟨rfl,hb⟩;have HB8:=hj_ (ht_ HB7.out hb);clear hb x2 x3 hlx;go_wp2_with fail;refine (HMu.out w8 HB8.out).mono ?_;rintro e w9 ⟨rfl,hb⟩;have HB9:=hj_ (HB0.out.trans ((HB3.out.trans ((ht_ HB8.out hb).mono HB3.out.size)).mono HB0.out.size));clear hb;go_wp2_with fail;go_ret2;refine ⟨?_,HB9.out⟩
   go_simp
  ·obtain ⟨q,rfl⟩:∃ q:Nat,z=q:=⟨z.toNat,o_⟩
   obtain ⟨hq,hrs⟩:=HTl.out.2 q rfl;obtain ⟨b2,o2,rfl,hb2,hc2⟩:=HAm.out o_
   have h2:=(hc2 q hq).2.2;rw [← hrs] at h2;have j0:(0:Int)≤(q:Int):=o_
   have j1:(q:Int)<(l.length:Int):=o_
   clear hc2 hrs HTl hz hzn HAm;go_wp2_with fail;rw [← HW6.out];refine hIa.mono ?_;rintro e w7 ⟨rfl,hb⟩;have HB7:=hj_ (ht_ HB6.out hb);obtain ⟨x2,x3,hlx⟩:=HX2.out w7 HB7.out;have y2:=((ht_ HB3.out HB7.out).cell (p:=⟨b2,o2+q*3+2,none⟩) hb2).trans h2;have hbl2:b2<w7.heap.size:=Nat.lt_of_lt_of_le hb2 (ht_ HB3.out HB7.out).size;clear hb;go_wp2_with fail;refine (HPt.out w7 HB7.out).mono ?_;rintro e w8 ⟨rfl,hb⟩;have HB8:=hj_ (ht_ HB7.out hb);clear hb x2 x3 hlx;go_wp2_with fail;refine (HMu.out w8 HB8.out).mono ?_;rintro e w9 ⟨rfl,hb⟩;have HB9:=hj_ (HB0.out.trans ((HB3.out.trans ((ht_ HB8.out hb).mono HB3.out.size)).mono HB0.out.size));clear hb;go_wp2_with fail;go_ret2;refine ⟨?_,HB9.out⟩
   go_simp
theorem q0f0 (x:Fx) (Q R:Nat) (cc pp:Int) (w:World) (hQ:Q<w.heap.size) (hR:R<w.heap.size) (q0:w.cell? ⟨Q,0,none⟩=some (.int .i64 cc)) (r0:w.cell? ⟨R,0,none⟩=some (.int .i64 pp)) :
  Rt 59 #[x.val,.pointer (some ⟨Q,0,none⟩),.pointer (some ⟨R,0,none⟩)] w (.bool (decide (x.ch=cc) && decide (x.pt=pp))):=by
 obtain ⟨ch,pt,pr,un,ad,ph,cb⟩:=x;show Rt 59 #[.agg #[.int .i64 ch,.int .i64 pt,.string pr,.int .i64 un,.int .i64 ad,.int .i64 ph,.string cb],.pointer (some ⟨Q,0,none⟩),.pointer (some ⟨R,0,none⟩)] w (.bool (decide (ch=cc) && decide (pt=pp)))
 obtain ⟨W,HW,HB0,HK⟩:=bx7 w (.int .i64 ch) (.int .i64 pt) (.string pr) (.int .i64 un) (.int .i64 ad) (.int .i64 ph) (.string cb) 45;have hB:=Below.refl W.heap.size W;obtain ⟨c0,c1,c2,c3,c4,c5,c6⟩:=HK.out W hB;have y0:=(HB0.out.cell (p:=⟨Q,0,none⟩) hQ).trans q0;have y1:=(HB0.out.cell (p:=⟨R,0,none⟩) hR).trans r0;have m1:¬ Q=w.heap.size:=o_
 have m2:¬ R=w.heap.size:=o_
 have eW:=HW.out;clear HW HK hB q0 r0 c0 c1 c2 c3 c4 c5 c6;subst eW
 by_cases h1:ch=cc
 ·have e1:(ch == cc)=true:=by simpa using h1
  rw [decide_eq_true h1]
  by_cases h2:pt=pp
  ·have e2:(pt == pp)=true:=by simpa using h2
   rw [decide_eq_true h2];clear h1 h2
   go_enter func59,ntmps59
   go_wp2_with fail;go_ret;exact ⟨rfl,HB0.out⟩
  ·have e2:(pt == pp)=false:=by simpa using h2
   rw [decide_eq_false h2];clear h1 h2
   go_enter func59,ntmps59
   go_wp2_with fail;go_ret;exact ⟨rfl,HB0.out⟩
 ·have e1:(ch == cc)=false:=by simpa using h1
  rw [decide_eq_false h1,Bool.false_and];clear h1
  go_enter func59,ntmps59
  go_wp2_with fail;go_ret;exact ⟨rfl,HB0.out⟩
theorem q0i6 (A0:Option Addr) (n0 d0:Nat) (A1:Option Addr) (n1 d1:Nat) (A2:Option Addr) (d2:Nat) (A3:Option Addr) (n3 d3:Nat) (X:List Fx) (cc pp:Int) (i:Nat) (R:ByteArray) (w:World) (hlit:∀ w',Below w.heap.size w w'→Calls prog 57 #[.agg #[.slice A0 n0 d0,.slice A1 n1 d1,.slice A2 X.length d2],.slice A3 n3 d3] w' fun e w''=>e=.returned (.tuple #[.agg #[.slice A0 n0 d0,.slice A1 n1 d1,.slice A2 X.length d2],.int .i64 0])∧Below w'.heap.size w' w'')
  (hx:shX.In w A2 X.length X) (hX:X.length≤1000) (hi:i<X.length) (hix:idxOf (fun x=>decide (x.ch=cc) && decide (x.pt=pp)) X=i) (hld:∀ w',Below w.heap.size w w'→Calls prog 60 #[.agg #[.slice A0 n0 d0,.slice A1 n1 d1,.slice A2 X.length d2],.slice A3 n3 d3,X[i].val] w' fun e w''=>e=.returned (.tuple #[.string R,.int .i64 0])∧Below w'.heap.size w' w'') :
  Rt 25 #[.agg #[.slice A0 n0 d0,.slice A1 n1 d1,.slice A2 X.length d2],.slice A3 n3 d3,.int .i64 cc,.int .i64 pp] w (.tuple #[.string R,.int .i64 0]):=by
 have HO:=hj_ hlit;have hIx:=fun (Q R':Nat) w' (hb:Below w.heap.size w w') (hQ:Q<w'.heap.size) (hR:R' < w'.heap.size) (q0:w'.cell? ⟨Q,0,none⟩=some (.int .i64 cc)) (r0:w'.cell? ⟨R',0,none⟩=some (.int .i64 pp))=>qbo 59 #[.pointer (some ⟨Q,0,none⟩),.pointer (some ⟨R',0,none⟩)] (fun x=>decide (x.ch=cc) && decide (x.pt=pp)) A2 X.length d2 X w' (enters_of func59 k_ rfl) (hx.below hb) o_
  (fun j h W' hW'=>q0f0 X[j] Q R' cc pp W' (Nat.lt_of_lt_of_le hQ hW'.size) (Nat.lt_of_lt_of_le hR hW'.size) ((hW'.cell (p:=⟨Q,0,none⟩) hQ).trans q0) ((hW'.cell (p:=⟨R',0,none⟩) hR).trans r0))
 rw [hix] at hIx;have HIx:=hj_ hIx;obtain ⟨b,o,rfl,hbl,hcell⟩:=fx_at hx o_
 have hk7:=hcell i hi;have i0:(0:Int)≤(i:Int):=o_
 have i1:(i:Int)<(X.length:Int):=o_
 have HLd:=hj_ hld;clear hlit hx hX hix hcell hIx hld;generalize X[i]=x at *;obtain ⟨ch,pt,pr,un,ad,ph,cb⟩:=x;dsimp only at hk7;have HLd2:=hj_ (show ∀ w',Below w.heap.size w w'→Calls prog 60 #[.agg #[.slice A0 n0 d0,.slice A1 n1 d1,.slice (some ⟨b,o,none⟩) X.length d2],.slice A3 n3 d3,.agg #[.int .i64 ch,.int .i64 pt,.string pr,.int .i64 un,.int .i64 ad,.int .i64 ph,.string cb]] w' fun e w''=>e=.returned (.tuple #[.string R,.int .i64 0])∧Below w'.heap.size w' w'' from HLd.out)
 obtain ⟨W,HW,HB0,HK⟩:=bx3_1_1 w (.slice A0 n0 d0) (.slice A1 n1 d1) (.slice (some ⟨b,o,none⟩) X.length d2) 26 (.int .i64 cc) 3 (.int .i64 pp) 3;have hB:=Below.refl W.heap.size W;obtain ⟨c0,c1,c2,c3,c4⟩:=HK.out W hB;have HXc:=hj_ (show ∀ w',Below W.heap.size W w'→w'.cell? ⟨b,o+i*7,none⟩=some (.int .i64 ch)∧w'.cell? ⟨b,o+i*7+1,none⟩=some (.int .i64 pt)∧w'.cell? ⟨b,o+i*7+2,none⟩=some (.string pr)∧w'.cell? ⟨b,o+i*7+3,none⟩=some (.int .i64 un)∧w'.cell? ⟨b,o+i*7+4,none⟩=some (.int .i64 ad)∧w'.cell? ⟨b,o+i*7+5,none⟩=some (.int .i64 ph)∧w'.cell? ⟨b,o+i*7+6,none⟩=some (.string cb) from fun w' hb=>by
  have hb2:=ht_ HB0.out hb;exact ⟨(hb2.cell (p:=⟨b,_,none⟩) hbl).trans hk7.1,(hb2.cell (p:=⟨b,_,none⟩) hbl).trans hk7.2.1,(hb2.cell (p:=⟨b,_,none⟩) hbl).trans hk7.2.2.1,(hb2.cell (p:=⟨b,_,none⟩) hbl).trans hk7.2.2.2.1,(hb2.cell (p:=⟨b,_,none⟩) hbl).trans hk7.2.2.2.2.1,(hb2.cell (p:=⟨b,_,none⟩) hbl).trans hk7.2.2.2.2.2.1,(hb2.cell (p:=⟨b,_,none⟩) hbl).trans hk7.2.2.2.2.2.2⟩)
 have hmf:∀ (fn:Fn) (first cap:Array Value) (w:World),(Instr.makeFunc fn first cap).run prog w=.ok (.func fn first cap) w:=fun _ _ _ _=>rfl
 have HWs:=hj_ (show w.heap.size+1+1<W.heap.size by rw [HW.out];simp)
 clear hk7 HLd
 go_enter func25,ntmps25
 go_wp2_with fail;rw [← HW.out];go_wp2_with fail;refine up_ (HO.out _ (ht_ HB0.out hB)) hB ?_;clear hB c0 c1 c2 c3 c4;intro wk hB;obtain ⟨W1,hW1⟩:=ex_ (wk.alloc (.cells #[.slice A0 n0 d0,.slice A1 n1 d1,.slice (some ⟨b,o,none⟩) X.length d2] 75));have hb1:Below wk.heap.size wk W1:=by rw [hW1];exact (br_).alloc lr_ _
 have HX1:=hj_ (show Cells W1 wk.heap.size [.slice A0 n0 d0,.slice A1 n1 d1,.slice (some ⟨b,o,none⟩) X.length d2] by rw [hW1];exact Cells.fresh wk [.slice A0 n0 d0,.slice A1 n1 d1,.slice (some ⟨b,o,none⟩) X.length d2] _)
 have HB1:=hj_ (ht_ hB hb1);obtain ⟨c0,c1,c2,c3,c4⟩:=HK.out _ HB1.out;have hIa:=HIx.out (w.heap.size+1) (w.heap.size+1+1) W1 (ht_ HB0.out HB1.out) (by have:=HWs.out;have:=HB1.out.size;omega) (by have:=HWs.out;have:=HB1.out.size;omega) c3 c4
 have HW1:=hj_ hW1;rw [hW1] at c2;clear hB hb1 hW1 c0 c1 c3 c4;go_wp2_with fail;rw [← HW1.out];refine hIa.mono ?_;rintro e w4 ⟨rfl,hb⟩;have HB4:=hj_ (ht_ HB1.out hb);have HX4:=hj_ (HX1.out.below hb HX1.out.1);clear hb c2;replace hB:=q18 HB4.out 1;obtain ⟨c0,c1,c2,c3,c4⟩:=HK.out _ hB;have x0:=(HX4.out.below (q18 (br_) 1) HX4.out.1).at_ (j:=0) rfl
 have x1:=(HX4.out.below (q18 (br_) 1) HX4.out.1).at_ (j:=1) rfl
 have x2:=(HX4.out.below (q18 (br_) 1) HX4.out.1).at_ (j:=2) rfl
 obtain ⟨p0,p1,p2,p3,p4,p5,p6⟩:=HXc.out _ hB;have HBd:=hj_ hB;clear c0 c1 c3 c4;go_wp2_with fail;refine wp_region_held_drew (S:=fun w'=>w'.cell? ⟨w.heap.size,2,none⟩=some (.slice (some ⟨b,o,none⟩) X.length d2)∧w'.cell? ⟨wk.heap.size,0,none⟩=some (.slice A0 n0 d0)∧w'.cell? ⟨wk.heap.size,1,none⟩=some (.slice A1 n1 d1)∧w'.cell? ⟨wk.heap.size,2,none⟩=some (.slice (some ⟨b,o,none⟩) X.length d2)∧w'.cell? ⟨b,o+i*7,none⟩=some (.int .i64 ch)∧w'.cell? ⟨b,o+i*7+1,none⟩=some (.int .i64 pt)∧w'.cell? ⟨b,o+i*7+2,none⟩=some (.string pr)∧w'.cell? ⟨b,o+i*7+3,none⟩=some (.int .i64 un)∧w'.cell? ⟨b,o+i*7+4,none⟩=some (.int .i64 ad)∧w'.cell? ⟨b,o+i*7+5,none⟩=some (.int .i64 ph)∧w'.cell? ⟨b,o+i*7+6,none⟩=some (.string cb)) k_ ⟨c2,x0,x1,x2,p0,p1,p2,p3,p4,p5,p6⟩ (fun hHeld=>?_)
 refine tq 0 ?_;refine tq 1 ?_;refine tq 2 ?_;refine tq 3 ?_;refine tq 4 ?_;refine tq 5 ?_;refine tq 6 ?_;refine tr 7 fun K hK=>?_
 go_simp
 go_at_call 60;refine (HLd2.out _ (ht_ HB0.out HBd.out)).mono ?_;rintro e w5 ⟨rfl,hb⟩;have HB5:=hj_ (ht_ HBd.out hb);have HX5:=hj_ ((HX4.out.below (q18 (br_) 1) HX4.out.1).below hb (HX4.out.below (q18 (br_) 1) HX4.out.1).1);clear hb;obtain ⟨-,-,c2,-,-⟩:=HK.out _ HB5.out;replace x0:=HX5.out.at_ (j:=0) rfl;replace x1:=HX5.out.at_ (j:=1) rfl;replace x2:=HX5.out.at_ (j:=2) rfl;obtain ⟨p0,p1,p2,p3,p4,p5,p6⟩:=HXc.out _ HB5.out
 go_wp2_with fail;refine hK.out _ _ ⟨c2,x0,x1,x2,p0,p1,p2,p3,p4,p5,p6⟩ (fun hHeld=>?_)
 clear hK K;refine tq 8 ?_;refine tq 9 ?_;refine tq 10 ?_;refine tq 11 ?_;refine wpAnyH_done k_ ?_ _
 have hz:=HB5.out;clear c2 x0 x1 x2 p0 p1 p2 p3 p4 p5 p6;go_wp2_with fail;go_ret2;refine ⟨?_,ht_ HB0.out hz⟩
 go_simp
def phQ (ld:Fx→Rat) (X:List Fx) (k:Int):Rat:=(X.filter fun x=>decide (x.ph=k)).foldl (fun s x=>s+ld x) 0
theorem q0g7 (ld:Fx→Rat) (X:List Fx) (x:Fx) (k:Int):phQ ld (X ++ [x]) k=if x.ph=k then phQ ld X k+ld x else phQ ld X k:=by
 unfold phQ;rw [List.filter_append]
 by_cases h:x.ph=k
 ·have e:[x].filter (fun x=>decide (x.ph=k))=[x]:=by simp [h]
  rw [if_pos h,e,List.foldl_append]
  rfl
 ·have e:[x].filter (fun x=>decide (x.ph=k))=[]:=by simp [h]
  rw [if_neg h,e,List.append_nil]
def phL (ld:Fx→Rat) (X:List Fx):List Value:=[.string (sR (phQ ld X 1)),.string (sR (phQ ld X 2)),.string (sR (phQ ld X 3))]
theorem q0j1:sR 0=⟨#[48]⟩:=k_
theorem q0i7 (A0:Option Addr) (n0 d0:Nat) (A1:Option Addr) (n1 d1:Nat) (A2:Option Addr) (d2:Nat) (A3:Option Addr) (n3 d3:Nat) (X:List Fx) (ld:Fx→Rat) (w:World) (hlit:∀ w',Below w.heap.size w w'→Calls prog 57 #[.agg #[.slice A0 n0 d0,.slice A1 n1 d1,.slice A2 X.length d2],.slice A3 n3 d3] w' fun e w''=>e=.returned (.tuple #[.agg #[.slice A0 n0 d0,.slice A1 n1 d1,.slice A2 X.length d2],.int .i64 0])∧Below w'.heap.size w' w'')
  (hx:shX.In w A2 X.length X) (hX:X.length≤1000) (hph:∀ x ∈ X,1≤x.ph∧x.ph≤3) (hld:∀ x ∈ X,∀ w',Below w.heap.size w w'→Calls prog 60 #[.agg #[.slice A0 n0 d0,.slice A1 n1 d1,.slice A2 X.length d2],.slice A3 n3 d3,x.val] w' fun e w''=>e=.returned (.tuple #[.string (sR (ld x)),.int .i64 0])∧Below w'.heap.size w' w'')
  (hsz:∀ k j,SzR 1000 (phQ ld (X.take k) j)) (hsl:∀ x ∈ X,SzR 1000 (ld x)) (ht:Tab w) :
  Rt 26 #[.agg #[.slice A0 n0 d0,.slice A1 n1 d1,.slice A2 X.length d2],.slice A3 n3 d3] w (.tuple #[.agg #[.string (sR (phQ ld X 1)),.string (sR (phQ ld X 2)),.string (sR (phQ ld X 3))],.int .i64 0]):=by
 have HO:=hj_ hlit;have HX:=hj_ hx;have HPh:=hj_ hph;have HLn:=hj_ hX;have HSz:=hj_ hsz;have HSl:=hj_ hsl;have HLd:=hj_ hld;have HT:=hj_ ht;obtain ⟨W,HW,HB0,HK⟩:=bx3_3 w (.slice A0 n0 d0) (.slice A1 n1 d1) (.slice A2 X.length d2) 26 (.string ⟨#[]⟩) (.string ⟨#[]⟩) (.string ⟨#[]⟩) 71;have hB:=Below.refl W.heap.size W;obtain ⟨c0,c1,c2,c3,c4,c5⟩:=HK.out W hB;have hsz2:w.heap.size+1<W.heap.size:=by rw [HW.out];simp
 have HFr:=hj_ (show ∀ w',Below W.heap.size W w'→∀ j,w'.frozen? ⟨w.heap.size+1,j,none⟩=false from fun w' h j=>by
  refine (h.frozen (p:=⟨w.heap.size+1,j,none⟩) hsz2).trans ?_;rw [HW.out];exact World.frozen?_alloc_at _ _ _ _ s_)
 have HWs:=hj_ hsz2;clear hlit hx hph hX hsz hsl hld ht hsz2
 go_enter func26,ntmps26
 go_wp2_with fail;rw [← HW.out];go_wp2_with fail;refine up_ (HO.out _ (ht_ HB0.out hB)) hB ?_;clear hB c0 c1 c2 c3 c4 c5;intro wk hB;obtain ⟨W1,hW1⟩:=ex_ (wk.alloc (.cells #[.slice A0 n0 d0,.slice A1 n1 d1,.slice A2 X.length d2] 75));obtain ⟨W2,hW2⟩:=ex_ (W1.alloc (.cells #[.string ⟨#[48]⟩,.string ⟨#[48]⟩,.string ⟨#[48]⟩] 71));have hs1:W1.heap.size=wk.heap.size+1:=by rw [hW1,World.size_alloc]
 have hb1:Below wk.heap.size wk W1:=by rw [hW1];exact (br_).alloc lr_ _
 have hb2:Below W1.heap.size W1 W2:=by rw [hW2];exact (br_).alloc lr_ _
 have hx1:Cells W1 wk.heap.size [.slice A0 n0 d0,.slice A1 n1 d1,.slice A2 X.length d2]:=by rw [hW1];exact Cells.fresh wk [.slice A0 n0 d0,.slice A1 n1 d1,.slice A2 X.length d2] _
 have HD1:=hj_ (hx1.below hb2 hx1.1);have hx2:Cells W2 (wk.heap.size+1) (phL ld (X.take 0)):=by
  show Cells W2 (wk.heap.size+1) [.string (sR 0),.string (sR 0),.string (sR 0)]
  rw [q0j1,← hs1,hW2];exact Cells.fresh W1 [.string ⟨#[48]⟩,.string ⟨#[48]⟩,.string ⟨#[48]⟩] _
 have HD2:=hj_ hx2;have HB2:=hj_ ((ht_ hB hb1).trans (hb2.mono (Nat.le_trans hB.size hb1.size)));obtain ⟨c0,c1,c2,c3,c4,c5⟩:=HK.out _ HB2.out;rw [hW2,hW1] at c2;have HW12:=hj_ (show W2=(wk.alloc (.cells #[.slice A0 n0 d0,.slice A1 n1 d1,.slice A2 X.length d2] 75)).alloc (.cells #[.string ⟨#[48]⟩,.string ⟨#[48]⟩,.string ⟨#[48]⟩] 71) by rw [hW2,hW1])
 have HKk:=hj_ (show W.heap.size≤wk.heap.size from hB.size)
 clear hB hb1 hb2 hW1 hW2 hx1 hx2 hs1 c0 c1 c3 c4 c5;go_wp2_with fail;rw [← HW12.out];clear c2
 go_loopw [27] (fun iv wr=>∃ k:Nat,k≤X.length∧iv=.int .i64 k∧Below W.heap.size W wr∧Cells wr wk.heap.size [.slice A0 n0 d0,.slice A1 n1 d1,.slice A2 X.length d2]∧Cells wr (wk.heap.size+1) (phL ld (X.take k))) (fun iv _=>X.length-(intOf iv).toNat)
 case atStart=>exact ⟨0,Nat.zero_le _,rfl,HB2.out,HD1.out,HD2.out⟩
 case round =>
  obtain ⟨k,hk,rfl,hB,hq1,hq2⟩:=hrel;have HBr:=hj_ hB;have HQ1:=hj_ hq1;have HQ2:=hj_ hq2
  by_cases hlt:k<X.length
  ·obtain ⟨b,o,rfl,hbl,hcell⟩:=fx_at HX.out o_
   have hk7:=hcell k hlt;have kk:=fun (q:Nat)=>(ht_ HB0.out hB).cell (p:=⟨b,q,none⟩) hbl
   have hbw:b<wr.heap.size:=Nat.lt_of_lt_of_le hbl (Nat.le_trans HB0.out.size hB.size);have i0:(0:Int)≤(k:Int):=o_
   have i1:(k:Int)<(X.length:Int):=o_
   have w0:IntKind.i64.wrap ((k:Int)+1)=(k:Int)+1:=IntWalk.i64_in _ (oh_ HLn.out)
   have hphk:=HPh.out X[k] (List.getElem_mem hlt);have hpush:=fun j=>q0g7 ld (X.take k) X[k] j
   rw [← List.take_succ_eq_append_getElem hlt] at hpush;have HPu:=hj_ hpush;have hLdx:=HLd.out X[k] (List.getElem_mem hlt);have hSlx:=HSl.out X[k] (List.getElem_mem hlt);have HLt:=hj_ hlt;clear hcell hpush hq1 hq2 hB;generalize hlx:ld X[k]=lx at *;generalize X[k]=x at *;obtain ⟨ch,pt,pr,un,ad,ph,cb⟩:=x;dsimp only at hk7 hphk HPu;obtain ⟨k0,k1,k2,k3,k4,k5,k6⟩:=hk7;have p0:=(kk _).trans k0;have p1:=(kk _).trans k1;have p2:=(kk _).trans k2;have p3:=(kk _).trans k3;have p4:=(kk _).trans k4;have p5:=(kk _).trans k5;have p6:=(kk _).trans k6;have HLd2:=hj_ (show ∀ w',Below w.heap.size w w'→Calls prog 60 #[.agg #[.slice A0 n0 d0,.slice A1 n1 d1,.slice (some ⟨b,o,none⟩) X.length d2],.slice A3 n3 d3,.agg #[.int .i64 ch,.int .i64 pt,.string pr,.int .i64 un,.int .i64 ad,.int .i64 ph,.string cb]] w' fun e w''=>e=.returned (.tuple #[.string (sR lx),.int .i64 0])∧Below w'.heap.size w' w'' from hLdx)
   have HAd:=hj_ (fun j w' (hb:Below w.heap.size w w')=>qjc (HSz.out k j) hSlx w' (HT.out.below hb) o_)
   obtain ⟨W3,hW3⟩:=ex_ (wr.alloc (.cells #[.int .i64 ch,.int .i64 pt,.string pr,.int .i64 un,.int .i64 ad,.int .i64 ph,.string cb] 45));have hb3:Below wr.heap.size wr W3:=by rw [hW3];exact (br_).alloc lr_ _
   have hx3:Cells W3 wr.heap.size [.int .i64 ch,.int .i64 pt,.string pr,.int .i64 un,.int .i64 ad,.int .i64 ph,.string cb]:=by rw [hW3];exact Cells.fresh wr [.int .i64 ch,.int .i64 pt,.string pr,.int .i64 un,.int .i64 ad,.int .i64 ph,.string cb] _
   have HB3:=hj_ (ht_ HBr.out hb3);have HX3:=hj_ hx3;have hd1:=HQ1.out.below hb3 HQ1.out.1;have HD1':=hj_ hd1;have HD2':=hj_ (HQ2.out.below hb3 HQ2.out.1);have h0:=hd1.at_ (j:=0) rfl
   have h1:=hd1.at_ (j:=1) rfl
   have h2:=hd1.at_ (j:=2) rfl
   have x0:=hx3.at_ (j:=0) rfl
   have x1:=hx3.at_ (j:=1) rfl
   have x2:=hx3.at_ (j:=2) rfl
   have x3:=hx3.at_ (j:=3) rfl
   have x4:=hx3.at_ (j:=4) rfl
   have x5:=hx3.at_ (j:=5) rfl
   have x6:=hx3.at_ (j:=6) rfl
   have hll:=hd1.1;have hlr:=hx3.1;have e1:wk.heap.size+1≠wk.heap.size:=o_
   have e3:wk.heap.size+1≠wr.heap.size:=by have:=HQ2.out.1;omega
   have HW3:=hj_ hW3;have hLd3:=HLd2.out W3 (ht_ HB0.out HB3.out);rw [hW3] at h0 h1 h2 x0 x1 x2 x3 x4 x5 x6;clear k0 k1 k2 k3 k4 k5 k6 kk hb3 hx3 hW3 hLdx HQ1 HQ2 HBr hd1 hSlx;go_wp2_with fail;rw [← HW3.out];refine hLd3.mono ?_;rintro e w4 ⟨rfl,hb⟩;have HB4:=hj_ (ht_ HB3.out hb);have HE1:=hj_ (HD1'.out.below hb HD1'.out.1);have HE2:=hj_ (HD2'.out.below hb HD2'.out.1);have HXE:=hj_ (HX3.out.below hb HX3.out.1);clear hb p0 p1 p2 p3 p4 p5 p6 h0 h1 h2 x0 x1 x2 x3 x4 x5 x6 hll hlr;unfold phL at HE2;generalize hs1:phQ ld (X.take k) 1=s1 at *;generalize hs2:phQ ld (X.take k) 2=s2 at *;generalize hs3:phQ ld (X.take k) 3=s3 at *;have x5:=HXE.out.at_ (j:=5) rfl
   go_wp2_with fail;obtain rfl | rfl | rfl:ph=1∨ph=2∨ph=3:=o_
   ·have HAd2:=hj_ (HAd.out 1)
    rw [hs1] at HAd2;have HBw:=hj_ (ht_ HB0.out HB4.out);have y0:=HE2.out.at_ (j:=0) rfl
    have wj:IntKind.i64.wrap 0=0:=rfl;clear hphk HAd;refine wp_region_held_drew (S:=fun w'=>w'.cell? ⟨wr.heap.size,5,none⟩=some (.int .i64 1)) k_ (by first | exact x5) (fun hHeld=>?_)
    refine tq 0 ?_;refine tq 1 ?_;refine tq 2 ?_;refine tq 3 ?_;refine tq 4 ?_;refine tq 5 ?_;refine tq 6 ?_;refine tq 8 ?_;refine tr 7 fun K hK=>?_
    go_simp
    refine hK.out _ _ (by first | exact x5) (fun hHeld=>?_)
    clear hK K;refine tr 9 fun K hK=>?_
    go_simp
    go_at_call 61;refine (HAd2.out _ (q18 HBw.out 1)).mono ?_;rintro e w5 ⟨rfl,hb⟩;have hb5:=(q18 (Below.refl w4.heap.size w4) 1).trans (hb.mono (q18 (Below.refl w4.heap.size w4) 1).size);have HB5:=hj_ (ht_ HB4.out hb5);have HF1:=hj_ (HE1.out.below hb5 HE1.out.1);have HF2:=hj_ (HE2.out.below hb5 HE2.out.1);have HXF:=hj_ (HXE.out.below hb5 HXE.out.1);replace x5:=HXF.out.at_ (j:=5) rfl;have y0:=HF2.out.at_ (j:=0) rfl;have z0:=HF2.out.fr (j:=0) rfl;have lz:=HF2.out.1;clear hb hb5
    go_wp2_with fail;refine hK.out _ _ (by first | exact x5) (fun hHeld=>?_)
    clear hK K;refine tq 10 ?_;refine tq 11 ?_;refine tq 12 ?_;refine tq 13 ?_;refine tr 14 fun K hK=>?_
    go_simp
    refine hK.out _ _ (by first | exact (sf_ e3).trans x5 | exact (sf_ e3.symm).trans x5) (fun hHeld=>?_)
    clear hK K;refine tq 15 ?_;refine wpAnyH_done k_ ?_ _
    have HG1:=hj_ (HF1.out.far 0 (.string (sR (s1+lx))) e1);have hf2:=HF2.out.set 0 (.string (sR (s1+lx))) (by show 0<3;decide)
    have HB6:=hj_ (HB5.out.setCell (p:=⟨wk.heap.size+1,0,none⟩) (by show W.heap.size≤wk.heap.size+1;have:=HKk.out;omega) (.string (sR (s1+lx))))
    have hf3:Cells (w5.setCell ⟨wk.heap.size+1,0,none⟩ (.string (sR (s1+lx)))) (wk.heap.size+1) [.string (sR (s1+lx)),.string (sR s2),.string (sR s3)]:=hf2;clear hf2 x5 y0 z0 lz;generalize w5.setCell ⟨wk.heap.size+1,0,none⟩ (.string (sR (s1+lx)))=w6 at *;have hrl:Cells w6 (wk.heap.size+1) (phL ld (X.take (k+1))):=by
     have h1:=HPu.out 1;have h2:=HPu.out 2;have h3:=HPu.out 3;rw [hs1] at h1;rw [hs2] at h2;rw [hs3] at h3;unfold phL;rw [h1,h2,h3];exact hf3
    have HRl:=hj_ hrl;clear hrl hf3;go_wp2_with fail
    go_roundw
    case rel=>exact ⟨k+1,HLt.out,by go_num,HB6.out,HG1.out,HRl.out⟩
    case measure=>have:=HLt.out;simp [intOf];omega
   ·have HAd2:=hj_ (HAd.out 2)
    rw [hs2] at HAd2;have HBw:=hj_ (ht_ HB0.out HB4.out);have y0:=HE2.out.at_ (j:=1) rfl
    have wj:IntKind.i64.wrap 1=1:=rfl;clear hphk HAd;refine wp_region_held_drew (S:=fun w'=>w'.cell? ⟨wr.heap.size,5,none⟩=some (.int .i64 2)) k_ (by first | exact x5) (fun hHeld=>?_)
    refine tq 0 ?_;refine tq 1 ?_;refine tq 2 ?_;refine tq 3 ?_;refine tq 4 ?_;refine tq 5 ?_;refine tq 6 ?_;refine tq 8 ?_;refine tr 7 fun K hK=>?_
    go_simp
    refine hK.out _ _ (by first | exact x5) (fun hHeld=>?_)
    clear hK K;refine tr 9 fun K hK=>?_
    go_simp
    go_at_call 61;refine (HAd2.out _ (q18 HBw.out 1)).mono ?_;rintro e w5 ⟨rfl,hb⟩;have hb5:=(q18 (Below.refl w4.heap.size w4) 1).trans (hb.mono (q18 (Below.refl w4.heap.size w4) 1).size);have HB5:=hj_ (ht_ HB4.out hb5);have HF1:=hj_ (HE1.out.below hb5 HE1.out.1);have HF2:=hj_ (HE2.out.below hb5 HE2.out.1);have HXF:=hj_ (HXE.out.below hb5 HXE.out.1);replace x5:=HXF.out.at_ (j:=5) rfl;have y0:=HF2.out.at_ (j:=1) rfl;have z0:=HF2.out.fr (j:=1) rfl;have lz:=HF2.out.1;clear hb hb5
    go_wp2_with fail;refine hK.out _ _ (by first | exact x5) (fun hHeld=>?_)
    clear hK K;refine tq 10 ?_;refine tq 11 ?_;refine tq 12 ?_;refine tq 13 ?_;refine tr 14 fun K hK=>?_
    go_simp
    refine hK.out _ _ (by first | exact (sf_ e3).trans x5 | exact (sf_ e3.symm).trans x5) (fun hHeld=>?_)
    clear hK K;refine tq 15 ?_;refine wpAnyH_done k_ ?_ _
    have HG1:=hj_ (HF1.out.far 1 (.string (sR (s2+lx))) e1);have hf2:=HF2.out.set 1 (.string (sR (s2+lx))) (by show 1<3;decide)
    have HB6:=hj_ (HB5.out.setCell (p:=⟨wk.heap.size+1,1,none⟩) (by show W.heap.size≤wk.heap.size+1;have:=HKk.out;omega) (.string (sR (s2+lx))))
    have hf3:Cells (w5.setCell ⟨wk.heap.size+1,1,none⟩ (.string (sR (s2+lx)))) (wk.heap.size+1) [.string (sR s1),.string (sR (s2+lx)),.string (sR s3)]:=hf2;clear hf2 x5 y0 z0 lz;generalize w5.setCell ⟨wk.heap.size+1,1,none⟩ (.string (sR (s2+lx)))=w6 at *;have hrl:Cells w6 (wk.heap.size+1) (phL ld (X.take (k+1))):=by
     have h1:=HPu.out 1;have h2:=HPu.out 2;have h3:=HPu.out 3;rw [hs1] at h1;rw [hs2] at h2;rw [hs3] at h3;unfold phL;rw [h1,h2,h3];exact hf3
    have HRl:=hj_ hrl;clear hrl hf3;go_wp2_with fail
    go_roundw
    case rel=>exact ⟨k+1,HLt.out,by go_num,HB6.out,HG1.out,HRl.out⟩
    case measure=>have:=HLt.out;simp [intOf];omega
   ·have HAd2:=hj_ (HAd.out 3)
    rw [hs3] at HAd2;have HBw:=hj_ (ht_ HB0.out HB4.out);have y0:=HE2.out.at_ (j:=2) rfl
    have wj:IntKind.i64.wrap 2=2:=rfl;clear hphk HAd;refine wp_region_held_drew (S:=fun w'=>w'.cell? ⟨wr.heap.size,5,none⟩=some (.int .i64 3)) k_ (by first | exact x5) (fun hHeld=>?_)
    refine tq 0 ?_;refine tq 1 ?_;refine tq 2 ?_;refine tq 3 ?_;refine tq 4 ?_;refine tq 5 ?_;refine tq 6 ?_;refine tq 8 ?_;refine tr 7 fun K hK=>?_
    go_simp
    refine hK.out _ _ (by first | exact x5) (fun hHeld=>?_)
    clear hK K;refine tr 9 fun K hK=>?_
    go_simp
    go_at_call 61;refine (HAd2.out _ (q18 HBw.out 1)).mono ?_;rintro e w5 ⟨rfl,hb⟩;have hb5:=(q18 (Below.refl w4.heap.size w4) 1).trans (hb.mono (q18 (Below.refl w4.heap.size w4) 1).size);have HB5:=hj_ (ht_ HB4.out hb5);have HF1:=hj_ (HE1.out.below hb5 HE1.out.1);have HF2:=hj_ (HE2.out.below hb5 HE2.out.1);have HXF:=hj_ (HXE.out.below hb5 HXE.out.1);replace x5:=HXF.out.at_ (j:=5) rfl;have y0:=HF2.out.at_ (j:=2) rfl;have z0:=HF2.out.fr (j:=2) rfl;have lz:=HF2.out.1;clear hb hb5
    go_wp2_with fail;refine hK.out _ _ (by first | exact x5) (fun hHeld=>?_)
    clear hK K;refine tq 10 ?_;refine tq 11 ?_;refine tq 12 ?_;refine tq 13 ?_;refine tr 14 fun K hK=>?_
    go_simp
    refine hK.out _ _ (by first | exact (sf_ e3).trans x5 | exact (sf_ e3.symm).trans x5) (fun hHeld=>?_)
    clear hK K;refine tq 15 ?_;refine wpAnyH_done k_ ?_ _
    have HG1:=hj_ (HF1.out.far 2 (.string (sR (s3+lx))) e1);have hf2:=HF2.out.set 2 (.string (sR (s3+lx))) (by show 2<3;decide)
    have HB6:=hj_ (HB5.out.setCell (p:=⟨wk.heap.size+1,2,none⟩) (by show W.heap.size≤wk.heap.size+1;have:=HKk.out;omega) (.string (sR (s3+lx))))
    have hf3:Cells (w5.setCell ⟨wk.heap.size+1,2,none⟩ (.string (sR (s3+lx)))) (wk.heap.size+1) [.string (sR s1),.string (sR s2),.string (sR (s3+lx))]:=hf2;clear hf2 x5 y0 z0 lz;generalize w5.setCell ⟨wk.heap.size+1,2,none⟩ (.string (sR (s3+lx)))=w6 at *;have hrl:Cells w6 (wk.heap.size+1) (phL ld (X.take (k+1))):=by
     have h1:=HPu.out 1;have h2:=HPu.out 2;have h3:=HPu.out 3;rw [hs1] at h1;rw [hs2] at h2;rw [hs3] at h3;unfold phL;rw [h1,h2,h3];exact hf3
    have HRl:=hj_ hrl;clear hrl hf3;go_wp2_with fail
    go_roundw
    case rel=>exact ⟨k+1,HLt.out,by go_num,HB6.out,HG1.out,HRl.out⟩
    case measure=>have:=HLt.out;simp [intOf];omega
  ·obtain rfl:k=X.length:=by omega
   rw [List.take_length] at hq2;unfold phL at hq2;have s0:=hq2.at_ (j:=0) rfl
   have s1:=hq2.at_ (j:=1) rfl
   have s2:=hq2.at_ (j:=2) rfl
   have l2:=hq2.1;obtain ⟨c0,c1,c2,c3,c4,c5⟩:=HK.out _ hB;have f0:=HFr.out _ hB 0;have f1:=HFr.out _ hB 1;have f2:=HFr.out _ hB 2;have hs2':=Nat.lt_of_lt_of_le HWs.out hB.size;have hz:=ht_ HB0.out hB;clear hq1 hq2;go_wp2_with fail
   (try simp only [Exit.inBlock,Exit.then])
   refine bodyPost_ret (v:=.tuple #[.agg #[.string (sR (phQ ld X 1)),.string (sR (phQ ld X 2)),.string (sR (phQ ld X 3))],.int .i64 0]) ?_ rfl ⟨rfl,?_⟩
   ·rw [results_cell_tmp rfl]
    go_simp
   ·(repeat' first | exact br_ | assumption | apply Below.drew | apply q18 | refine Below.alloc ?_ ?_ _ | refine Below.setCell ?_ ?_ _ | refine Below.trans ?_ (Below.mono ‹_› ?_) | omega | (simp;omega) | simp)
def ampE (s:ByteArray) (v:Int):Int:=if chkR s.data.toList≠0 then chkR s.data.toList else if valR s.data.toList<0∨v<1∨1000<v then 2 else 0
def ampV (s:ByteArray) (v:Int):ByteArray:=if ampE s v≠0 then ⟨#[]⟩ else sR (valR s.data.toList / (v:Rat))
theorem q0eq (r:Rat):∃ c l,rT r=c :: l∧(c == 45)=decide (r<0):=by
 have hn:r<0↔r.num<0:=by
  have:=Rat.num_nonneg (q:=r)
  rw [← Rat.not_le,← this];omega
 have hi:∃ c l,Lib.itoa r.num=c :: l∧(c == 45)=decide (r<0):=by
  by_cases h:r.num<0
  ·rw [qc7 h]
   exact ⟨45,_,rfl,by rw [decide_eq_true (hn.2 h)];rfl⟩
  ·rw [qca o_,decide_eq_false (fun e=>h (hn.1 e))]
   cases hd:Lib.decDigits r.num.natAbs with
   | nil=>exact absurd hd (dec_ne _)
   | cons c l =>
    refine ⟨c,l,rfl,?_⟩
    have:=q4k r.num.natAbs c (by rw [hd];simp)
    rw [beq_eq_false_iff_ne];intro e;subst e
    revert this
    decide
 obtain ⟨c,l,e,h⟩:=hi;unfold rT
 split
 ·exact ⟨c,l,e,h⟩
 ·rw [e];exact ⟨c,_,rfl,h⟩
theorem amp_ok {s:ByteArray} (hs:s.size≤300) (h:chkR s.data.toList=0):s=sR (valR s.data.toList)∧SzR 300 (valR s.data.toList):=by
 have h1:=(q34 h).1;have h2:s=sR (valR s.data.toList):=ByteArray.ext (Array.ext' h1);exact ⟨h2,qpr h2 hs d_⟩
theorem v_sz {v:Int} (h0:1≤v) (h1:v≤1000):SzR 4 ((v:Int):Rat):=by
 unfold SzR;rw [Rat.num_intCast,Rat.den_intCast]
 have:(10:Nat) ^ 4=10000:=rfl
 omega
theorem q0id (s:ByteArray) (v:Int) (hs:s.size≤300) (v0:-9223372036854775808≤v) (v1:v≤9223372036854775807) (w:World) (ht:Tab w) :
  Rt 13 #[.string s,.int .i64 v] w (.tuple #[.string (ampV s v),.int .i64 (ampE s v)]):=by
 have HC:=hj_ (qji s w o_ ht)
 by_cases hc:chkR s.data.toList=0
 ·rw [hc] at HC
  obtain ⟨hsr,hz⟩:=amp_ok hs hc;obtain ⟨c,l,hl,hcn⟩:=q0eq (valR s.data.toList);have hE:ampE s v=if valR s.data.toList<0∨v<1∨1000<v then 2 else 0:=by unfold ampE;rw [if_neg (fun h=>h hc)]
  have hV:ampV s v=if ampE s v≠0 then ⟨#[]⟩ else sR (valR s.data.toList / (v:Rat)):=rfl
  have hsl:s=⟨(c :: l).toArray⟩:=hsr.trans (by unfold sR;rw [hl])
  have hix:∀ w,(Instr.index 38 (.string s) (.int .i64 0)).run prog w=.ok (.int .u8 (c.toNat:Int)) w:=fun w=>by
   rw [hsl]
   kernel_rfl
  have hb:((c.toNat:Int) == 45)=decide (valR s.data.toList<0):=by
   rw [← hcn,Bool.eq_iff_iff,beq_iff_eq,beq_iff_eq]
   constructor
   ·intro e
    have:c.toNat=(45:UInt8).toNat:=by have h45:(45:UInt8).toNat=45:=rfl;omega
    exact UInt8.toNat_inj.1 this
   ·intro e;rw [e];rfl
  generalize hr:valR s.data.toList=r at *;have HQ:=hj_ (fun (h0:1≤v) (h1:v≤1000) w' (hb:Below w.heap.size w w')=>And.intro (q0hb v v0 v1 w' (ht.below hb)) (qjd hz (v_sz h0 h1) (by
   intro e
   have:(v:Rat)=((0:Int):Rat):=e
   rw [Rat.intCast_inj] at this
   omega) w' (ht.below hb) o_))
  rw [← hsr] at HQ;have hV2:ampE s v=0→ampV s v=sR (r / (v:Rat)):=fun h=>by rw [hV,if_neg (fun h2=>h2 h)]
  have hV3:ampE s v≠0→ampV s v=⟨#[]⟩:=fun h=>by rw [hV,if_pos h]
  generalize ampV s v=AV at *;generalize ampE s v=AE at *;clear hc hcn hl hz hV hsr hsl
  by_cases h1:r<0
  ·rw [if_pos (Or.inl h1)] at hE
   subst hE;obtain rfl:=hV3 d_
   rw [decide_eq_true h1] at hb;clear hV2 hV3 HQ
   go_enter func13,ntmps13
   go_wp2_with fail;refine HC.out.mono ?_;rintro e wk ⟨rfl,hb1⟩;go_wp2_with fail;go_ret2;refine ⟨?_,hb1⟩
   go_simp
  ·rw [decide_eq_false h1] at hb
   by_cases h2:v<1
   ·rw [if_pos (Or.inr (Or.inl h2))] at hE
    subst hE;obtain rfl:=hV3 d_
    clear hV2 hV3 HQ
    go_enter func13,ntmps13
    go_wp2_with fail;refine HC.out.mono ?_;rintro e wk ⟨rfl,hb1⟩;go_wp2_with fail;go_ret2;refine ⟨?_,hb1⟩
    go_simp
   ·by_cases h3:1000<v
    ·rw [if_pos (Or.inr (Or.inr h3))] at hE
     subst hE;obtain rfl:=hV3 d_
     clear hV2 hV3 HQ
     go_enter func13,ntmps13
     go_wp2_with fail;refine HC.out.mono ?_;rintro e wk ⟨rfl,hb1⟩;go_wp2_with fail;go_ret2;refine ⟨?_,hb1⟩
     go_simp
    ·rw [if_neg (by rintro (h | h | h);exact h1 h;exact h2 h;exact h3 h)] at hE
     subst hE;obtain rfl:=hV2 rfl;have HQ2:=hj_ (HQ.out o_ o_)
     clear hV2 hV3 HQ
     go_enter func13,ntmps13
     go_wp2_with fail;refine HC.out.mono ?_;rintro e wk ⟨rfl,hb1⟩;go_wp2_with fail;refine (HQ2.out _ hb1).1.mono ?_;rintro e w2 ⟨rfl,hb2⟩;have hB2:=ht_ hb1 hb2;go_wp2_with fail;refine (HQ2.out _ hB2).2.mono ?_;rintro e w3 ⟨rfl,hb3⟩;have hB3:=ht_ hB2 hb3;clear hb1 hb2 hb3 hB2;go_wp2_with fail;go_ret2;refine ⟨?_,hB3⟩
     go_simp
 ·have hE:ampE s v=chkR s.data.toList:=by unfold ampE;rw [if_pos hc]
  have hV:ampV s v=⟨#[]⟩:=by unfold ampV;rw [if_pos (by rw [hE];exact hc)]
  rw [hE,hV];generalize chkR s.data.toList=E at *;have g1:(E == 0)=false:=by simpa using hc
  have g2:(E != 0)=true:=by simpa using hc
  clear hE hV
  go_enter func13,ntmps13
  go_wp2_with fail;refine HC.out.mono ?_;rintro e wk ⟨rfl,hb1⟩;go_wp2_with fail;go_ret2;refine ⟨?_,hb1⟩
  go_simp
def nPar:ByteArray:=⟨#[112,97,114]⟩
def nFan:ByteArray:=⟨#[102,97,110]⟩
def nCa:ByteArray:=⟨#[97]⟩
def hoF:FC:=⟨0,8,0,0,0,0,0,255,false,none,0,0⟩
def hoPL (S:Nat):List (PC × List Fea):=[(⟨nPar,1,1000,some ⟨S+1,0,none⟩,1,1⟩,[hoF.fea []]),(⟨nFan,1,200,none,0,0⟩,[])]
def hoX:List Fx:=[⟨1,1,nPar,1,1,1,nCa⟩,⟨2,1,nPar,1,2,1,nCa⟩,⟨3,1,nPar,1,3,1,⟨#[]⟩⟩,⟨4,1,nFan,1,4,1,⟨#[]⟩⟩]
theorem RowAt.cells {c:Array Value} {t:TypeId} (h:RowAt w B c t):Cells w B c.toList:=⟨h.lt,fun j u hu=>⟨h.cell (by simpa using hu),h.fr j⟩⟩
theorem q0g0 {base:Nat} {e:TypeId} {z:Nat} {v:Value} {n:Nat} {xs:List Value} (h:w.ownsRow base e z v n xs) (P j:Nat) (u:Value) (hP:P<base):(w.setCell ⟨P,j,none⟩ u).ownsRow base e z v n xs :=
 ⟨h.1,h.2.imp id fun ⟨g,cap,cur,hv,hg,hc,r⟩=>⟨g,cap,cur,hv,hg,RowAt.far (B:=g) hc j u o_,r⟩⟩
theorem q0fb (w W:World) (hW:W=(((((((w.alloc (.cells #[.slice none 0 0,.slice none 0 0,.slice none 0 0] 26)).alloc (.cells #[.int .i64 0,.int .i64 8,.int .i64 0,.int .i64 0,.int .i64 0,.int .i64 0,.int .i64 0,.int .i64 255,.bool false,.slice none 0 0] 114)).alloc (.cells #[.string ⟨#[112,97,114]⟩,.int .i64 1,.int .i64 1000,.slice (some ⟨w.heap.size+1,0,none⟩) 1 1] 87)).alloc (.cells #[.string ⟨#[102,97,110]⟩,.int .i64 1,.int .i64 200,.slice none 0 0] 87)).alloc (.cells #[.string ⟨#[112,97,114]⟩,.int .i64 1,.int .i64 1000,.slice (some ⟨w.heap.size+1,0,none⟩) 1 1,.string ⟨#[102,97,110]⟩,.int .i64 1,.int .i64 200,.slice none 0 0] 87)).alloc (.cells #[.slice none 0 0,.slice (some ⟨w.heap.size+1+1+1+1,0,none⟩) 2 2,.slice none 0 0] 26)).alloc (.cells #[.string ⟨#[112,97,114]⟩,.string ⟨#[112,97,114]⟩,.string ⟨#[112,97,114]⟩,.string ⟨#[102,97,110]⟩] 9))):Below w.heap.size w W∧W.heap.size=w.heap.size+1+1+1+1+1+1+1∧RowAt W (w.heap.size) #[.slice none 0 0,.slice none 0 0,.slice none 0 0] 26∧RowAt W (w.heap.size+1) #[.int .i64 0,.int .i64 8,.int .i64 0,.int .i64 0,.int .i64 0,.int .i64 0,.int .i64 0,.int .i64 255,.bool false,.slice none 0 0] 114∧RowAt W (w.heap.size+1+1+1+1) #[.string ⟨#[112,97,114]⟩,.int .i64 1,.int .i64 1000,.slice (some ⟨w.heap.size+1,0,none⟩) 1 1,.string ⟨#[102,97,110]⟩,.int .i64 1,.int .i64 200,.slice none 0 0] 87∧RowAt W (w.heap.size+1+1+1+1+1+1) #[.string ⟨#[112,97,114]⟩,.string ⟨#[112,97,114]⟩,.string ⟨#[112,97,114]⟩,.string ⟨#[102,97,110]⟩] 9∧RowAt W (w.heap.size+1+1+1+1+1) #[.slice none 0 0,.slice (some ⟨w.heap.size+1+1+1+1,0,none⟩) 2 2,.slice none 0 0] 26:=by
 obtain ⟨W0,h0⟩:=ex_ (w.alloc (.cells #[.slice none 0 0,.slice none 0 0,.slice none 0 0] 26));obtain ⟨W1,h1⟩:=ex_ (W0.alloc (.cells #[.int .i64 0,.int .i64 8,.int .i64 0,.int .i64 0,.int .i64 0,.int .i64 0,.int .i64 0,.int .i64 255,.bool false,.slice none 0 0] 114));obtain ⟨W2,h2⟩:=ex_ (W1.alloc (.cells #[.string ⟨#[112,97,114]⟩,.int .i64 1,.int .i64 1000,.slice (some ⟨w.heap.size+1,0,none⟩) 1 1] 87));obtain ⟨W3,h3⟩:=ex_ (W2.alloc (.cells #[.string ⟨#[102,97,110]⟩,.int .i64 1,.int .i64 200,.slice none 0 0] 87));obtain ⟨W4,h4⟩:=ex_ (W3.alloc (.cells #[.string ⟨#[112,97,114]⟩,.int .i64 1,.int .i64 1000,.slice (some ⟨w.heap.size+1,0,none⟩) 1 1,.string ⟨#[102,97,110]⟩,.int .i64 1,.int .i64 200,.slice none 0 0] 87));obtain ⟨W5,h5⟩:=ex_ (W4.alloc (.cells #[.slice none 0 0,.slice (some ⟨w.heap.size+1+1+1+1,0,none⟩) 2 2,.slice none 0 0] 26));obtain ⟨W6,h6⟩:=ex_ (W5.alloc (.cells #[.string ⟨#[112,97,114]⟩,.string ⟨#[112,97,114]⟩,.string ⟨#[112,97,114]⟩,.string ⟨#[102,97,110]⟩] 9));rw [← h0,← h1,← h2,← h3,← h4,← h5,← h6] at hW;rw [hW];have s0:W0.heap.size=w.heap.size+1:=by rw [h0];simp
 have b0:Below w.heap.size w W0:=by rw [h0];exact (br_).alloc lr_ _
 have s1:W1.heap.size=w.heap.size+1+1:=by rw [h1];simp [s0]
 have b1:Below W0.heap.size W0 W1:=by rw [h1];exact (br_).alloc lr_ _
 have s2:W2.heap.size=w.heap.size+1+1+1:=by rw [h2];simp [s1]
 have b2:Below W1.heap.size W1 W2:=by rw [h2];exact (br_).alloc lr_ _
 have s3:W3.heap.size=w.heap.size+1+1+1+1:=by rw [h3];simp [s2]
 have b3:Below W2.heap.size W2 W3:=by rw [h3];exact (br_).alloc lr_ _
 have s4:W4.heap.size=w.heap.size+1+1+1+1+1:=by rw [h4];simp [s3]
 have b4:Below W3.heap.size W3 W4:=by rw [h4];exact (br_).alloc lr_ _
 have s5:W5.heap.size=w.heap.size+1+1+1+1+1+1:=by rw [h5];simp [s4]
 have b5:Below W4.heap.size W4 W5:=by rw [h5];exact (br_).alloc lr_ _
 have s6:W6.heap.size=w.heap.size+1+1+1+1+1+1+1:=by rw [h6];simp [s5]
 have b6:Below W5.heap.size W5 W6:=by rw [h6];exact (br_).alloc lr_ _
 have d6:=b6;have d5:=ht_ b5 d6;have d4:=ht_ b4 d5;have d3:=ht_ b3 d4;have d2:=ht_ b2 d3;have d1:=ht_ b1 d2;have d0:=ht_ b0 d1;have c0:RowAt W0 (w.heap.size) #[.slice none 0 0,.slice none 0 0,.slice none 0 0] 26:=by rw [h0];exact RowAt.fresh _ _ _
 replace c0:=c0.below d1 c0.lt;have c1:RowAt W1 (w.heap.size+1) #[.int .i64 0,.int .i64 8,.int .i64 0,.int .i64 0,.int .i64 0,.int .i64 0,.int .i64 0,.int .i64 255,.bool false,.slice none 0 0] 114:=by rw [h1,← s0];exact RowAt.fresh _ _ _
 replace c1:=c1.below d2 c1.lt;have c4:RowAt W4 (w.heap.size+1+1+1+1) #[.string ⟨#[112,97,114]⟩,.int .i64 1,.int .i64 1000,.slice (some ⟨w.heap.size+1,0,none⟩) 1 1,.string ⟨#[102,97,110]⟩,.int .i64 1,.int .i64 200,.slice none 0 0] 87:=by rw [h4,← s3];exact RowAt.fresh _ _ _
 replace c4:=c4.below d5 c4.lt;have c6:RowAt W6 (w.heap.size+1+1+1+1+1+1) #[.string ⟨#[112,97,114]⟩,.string ⟨#[112,97,114]⟩,.string ⟨#[112,97,114]⟩,.string ⟨#[102,97,110]⟩] 9:=by rw [h6,← s5];exact RowAt.fresh _ _ _
 have c5:RowAt W5 (w.heap.size+1+1+1+1+1) #[.slice none 0 0,.slice (some ⟨w.heap.size+1+1+1+1,0,none⟩) 2 2,.slice none 0 0] 26:=by rw [h5,← s4];exact RowAt.fresh _ _ _
 replace c5:=c5.below d6 c5.lt;exact ⟨d0,s6,c0,c1,c4,c6,c5⟩
theorem ho_any (w:World) :
  Calls prog 24 #[] w fun e w'=>∃ A c,e=.returned (.agg #[.slice none 0 0,.slice (some ⟨w.heap.size+1+1+1+1,0,none⟩) 2 2,.slice A 4 c])∧InPs w' (some ⟨w.heap.size+1+1+1+1,0,none⟩) 2 (hoPL w.heap.size)∧shX.In w' A 4 hoX∧shF.In w' (some ⟨w.heap.size+1,0,none⟩) 1 [hoF]∧(4≤c∧c≤9223372036854775807)∧Below w.heap.size w w':=by
 obtain ⟨W,hW⟩:=ex_ (((((((w.alloc (.cells #[.slice none 0 0,.slice none 0 0,.slice none 0 0] 26)).alloc (.cells #[.int .i64 0,.int .i64 8,.int .i64 0,.int .i64 0,.int .i64 0,.int .i64 0,.int .i64 0,.int .i64 255,.bool false,.slice none 0 0] 114)).alloc (.cells #[.string ⟨#[112,97,114]⟩,.int .i64 1,.int .i64 1000,.slice (some ⟨w.heap.size+1,0,none⟩) 1 1] 87)).alloc (.cells #[.string ⟨#[102,97,110]⟩,.int .i64 1,.int .i64 200,.slice none 0 0] 87)).alloc (.cells #[.string ⟨#[112,97,114]⟩,.int .i64 1,.int .i64 1000,.slice (some ⟨w.heap.size+1,0,none⟩) 1 1,.string ⟨#[102,97,110]⟩,.int .i64 1,.int .i64 200,.slice none 0 0] 87)).alloc (.cells #[.slice none 0 0,.slice (some ⟨w.heap.size+1+1+1+1,0,none⟩) 2 2,.slice none 0 0] 26)).alloc (.cells #[.string ⟨#[112,97,114]⟩,.string ⟨#[112,97,114]⟩,.string ⟨#[112,97,114]⟩,.string ⟨#[102,97,110]⟩] 9));obtain ⟨hb,hs,hk⟩:=q0fb w W hW;have HB0:=hj_ hb;have HS:=hj_ hs;have HK0:=hj_ hk;have HW:=hj_ hW;clear hb hs hk hW
 go_enter func24,ntmps24
 go_wp2_with fail;rw [← HW.out]
 go_loopw [17] (fun iv wr=>∃ (k:Nat) (A:Option Addr) (c:Nat),k≤4∧iv=.int .i64 k∧wr.ownsRow W.heap.size 45 7 (.slice A k c) k (shX.vs (hoX.take k))∧(RowAt wr (w.heap.size) #[.slice none 0 0,.slice none 0 0,.slice none 0 0] 26∧RowAt wr (w.heap.size+1) #[.int .i64 0,.int .i64 8,.int .i64 0,.int .i64 0,.int .i64 0,.int .i64 0,.int .i64 0,.int .i64 255,.bool false,.slice none 0 0] 114∧RowAt wr (w.heap.size+1+1+1+1) #[.string ⟨#[112,97,114]⟩,.int .i64 1,.int .i64 1000,.slice (some ⟨w.heap.size+1,0,none⟩) 1 1,.string ⟨#[102,97,110]⟩,.int .i64 1,.int .i64 200,.slice none 0 0] 87∧RowAt wr (w.heap.size+1+1+1+1+1+1) #[.string ⟨#[112,97,114]⟩,.string ⟨#[112,97,114]⟩,.string ⟨#[112,97,114]⟩,.string ⟨#[102,97,110]⟩] 9)∧RowAt wr (w.heap.size+1+1+1+1+1) #[.slice none 0 0,.slice (some ⟨w.heap.size+1+1+1+1,0,none⟩) 2 2,.slice A k c] 26∧Below w.heap.size w wr∧W.heap.size≤wr.heap.size) (fun iv _=>4-(intOf iv).toNat)
 case atStart=>exact ⟨0,none,0,o_,rfl,World.ownsRow_nil _ _ _ _,⟨HK0.out.1,HK0.out.2.1,HK0.out.2.2.1,HK0.out.2.2.2.1⟩,HK0.out.2.2.2.2,HB0.out,Nat.le_refl _⟩
 case round =>
  obtain ⟨k,A,c,hk,rfl,hown,⟨hR0,hR1,hR4,hR6⟩,hR5,hB,hsz⟩:=hrel;have hs:=HS.out;have HR:=hj_ (And.intro hR0 (And.intro hR1 (And.intro hR4 (And.intro hR6 hR5))));have HB:=hj_ hB;have HO:=hj_ hown;have HZ:=hj_ hsz;have hne0:w.heap.size<wr.heap.size:=o_
  have hne1:w.heap.size+1+1+1+1+1<wr.heap.size:=o_
  have hne2:w.heap.size+1+1+1+1+1+1<wr.heap.size:=o_
  have p0:=hR5.cell (j:=0) rfl;have p1:=hR5.cell (j:=1) rfl;have p2:=hR5.cell (j:=2) rfl;obtain rfl | rfl | rfl | rfl | rfl:k=0∨k=1∨k=2∨k=3∨k=4:=o_
  ·have t0:=hR6.cell (j:=0) rfl
   have hvs:shX.vs (hoX.take 1)=shX.vs (hoX.take 0) ++ [.int .i64 1,.int .i64 1,.string ⟨#[112,97,114]⟩,.int .i64 1,.int .i64 1,.int .i64 1,.string ⟨#[97]⟩]:=k_
   have HVs:=hj_ hvs;have hb1:Below wr.heap.size wr (wr.alloc (.cells #[.int .i64 1,.int .i64 1,.string ⟨#[112,97,114]⟩,.int .i64 1,.int .i64 1,.int .i64 1,.string ⟨#[97]⟩] 45)):=(br_).alloc lr_ _;have HR1:=hj_ (And.intro (hR0.below hb1 hR0.lt) (And.intro (hR1.below hb1 hR1.lt) (And.intro (hR4.below hb1 hR4.lt) (And.intro (hR6.below hb1 hR6.lt) (hR5.below hb1 hR5.lt)))));have HB1:=hj_ (ht_ hB hb1);have hown1:=hown.alloc (.cells #[.int .i64 1,.int .i64 1,.string ⟨#[112,97,114]⟩,.int .i64 1,.int .i64 1,.int .i64 1,.string ⟨#[97]⟩] 45);have HO1:=hj_ hown1;have hz:W.heap.size≤(wr.alloc (.cells #[.int .i64 1,.int .i64 1,.string ⟨#[112,97,114]⟩,.int .i64 1,.int .i64 1,.int .i64 1,.string ⟨#[97]⟩] 45)).heap.size:=by rw [World.size_alloc];omega
   clear hR0 hR1 hR4 hR6 hR5 hB hsz hs hvs hb1 hown;go_wp2_with (at_builtin;refine q003 rfl _ _ _ rfl W.heap.size _ _ 7 72 underlying24 q056 rfl o_ _ 0 (shX.vs (hoX.take 0)) rfl hown1 [.int .i64 1,.int .i64 1,.string ⟨#[112,97,114]⟩,.int .i64 1,.int .i64 1,.int .i64 1,.string ⟨#[97]⟩] _ _ _ rfl (by first | rfl | simp) rfl (fx_one _ _ _ _ _ _ _) (by unfold maxLen;omega) o_ hz ?_;intro g cap w1 hown2 hg1;have HR2:=hj_ (And.intro (qn6 HR1.out.1 HO1.out d_ hg1) (And.intro (qn6 HR1.out.2.1 HO1.out d_ hg1) (And.intro (qn6 HR1.out.2.2.1 HO1.out d_ hg1) (And.intro (qn6 HR1.out.2.2.2.1 HO1.out d_ hg1) (qn6 HR1.out.2.2.2.2 HO1.out d_ hg1)))));have q2:=HR2.out.2.2.2.2.cell (j:=2) rfl;have q4:=HR2.out.2.2.2.2.fr 2;have HG1:=hj_ hg1;have HO2:=hj_ hown2;clear p0 p1 p2 t0 hown2 hg1)
   go_roundw
   case rel=>exact ⟨1,some ⟨g,0,none⟩,cap,o_,by go_num,by rw [HVs.out];exact q0g0 HO2.out _ _ _ (oh_ HS.out),⟨HR2.out.1.far _ _ o_,HR2.out.2.1.far _ _ o_,HR2.out.2.2.1.far _ _ o_,HR2.out.2.2.2.1.far _ _ o_⟩,HR2.out.2.2.2.2.set 2 _,(q1a HB1.out lr_ (qfy HO1.out (oh_ HS.out)) HG1.out).setCell (show w.heap.size≤w.heap.size+1+1+1+1+1 from o_) _,by
    have h1:=HG1.out.size;have h2:=HZ.out;simp at h1 ⊢
    omega⟩
   case measure=>simp [intOf]
  ·have t0:=hR6.cell (j:=1) rfl
   have hvs:shX.vs (hoX.take 2)=shX.vs (hoX.take 1) ++ [.int .i64 2,.int .i64 1,.string ⟨#[112,97,114]⟩,.int .i64 1,.int .i64 2,.int .i64 1,.string ⟨#[97]⟩]:=k_
   have HVs:=hj_ hvs;have hb1:Below wr.heap.size wr (wr.alloc (.cells #[.int .i64 2,.int .i64 1,.string ⟨#[112,97,114]⟩,.int .i64 1,.int .i64 2,.int .i64 1,.string ⟨#[97]⟩] 45)):=(br_).alloc lr_ _;have HR1:=hj_ (And.intro (hR0.below hb1 hR0.lt) (And.intro (hR1.below hb1 hR1.lt) (And.intro (hR4.below hb1 hR4.lt) (And.intro (hR6.below hb1 hR6.lt) (hR5.below hb1 hR5.lt)))));have HB1:=hj_ (ht_ hB hb1);have hown1:=hown.alloc (.cells #[.int .i64 2,.int .i64 1,.string ⟨#[112,97,114]⟩,.int .i64 1,.int .i64 2,.int .i64 1,.string ⟨#[97]⟩] 45);have HO1:=hj_ hown1;have hz:W.heap.size≤(wr.alloc (.cells #[.int .i64 2,.int .i64 1,.string ⟨#[112,97,114]⟩,.int .i64 1,.int .i64 2,.int .i64 1,.string ⟨#[97]⟩] 45)).heap.size:=by rw [World.size_alloc];omega
   clear hR0 hR1 hR4 hR6 hR5 hB hsz hs hvs hb1 hown;go_wp2_with (at_builtin;refine q003 rfl _ _ _ rfl W.heap.size _ _ 7 72 underlying24 q056 rfl o_ _ 1 (shX.vs (hoX.take 1)) rfl hown1 [.int .i64 2,.int .i64 1,.string ⟨#[112,97,114]⟩,.int .i64 1,.int .i64 2,.int .i64 1,.string ⟨#[97]⟩] _ _ _ rfl (by first | rfl | simp) rfl (fx_one _ _ _ _ _ _ _) (by unfold maxLen;omega) o_ hz ?_;intro g cap w1 hown2 hg1;have HR2:=hj_ (And.intro (qn6 HR1.out.1 HO1.out d_ hg1) (And.intro (qn6 HR1.out.2.1 HO1.out d_ hg1) (And.intro (qn6 HR1.out.2.2.1 HO1.out d_ hg1) (And.intro (qn6 HR1.out.2.2.2.1 HO1.out d_ hg1) (qn6 HR1.out.2.2.2.2 HO1.out d_ hg1)))));have q2:=HR2.out.2.2.2.2.cell (j:=2) rfl;have q4:=HR2.out.2.2.2.2.fr 2;have HG1:=hj_ hg1;have HO2:=hj_ hown2;clear p0 p1 p2 t0 hown2 hg1)
   go_roundw
   case rel=>exact ⟨2,some ⟨g,0,none⟩,cap,o_,by go_num,by rw [HVs.out];exact q0g0 HO2.out _ _ _ (oh_ HS.out),⟨HR2.out.1.far _ _ o_,HR2.out.2.1.far _ _ o_,HR2.out.2.2.1.far _ _ o_,HR2.out.2.2.2.1.far _ _ o_⟩,HR2.out.2.2.2.2.set 2 _,(q1a HB1.out lr_ (qfy HO1.out (oh_ HS.out)) HG1.out).setCell (show w.heap.size≤w.heap.size+1+1+1+1+1 from o_) _,by
    have h1:=HG1.out.size;have h2:=HZ.out;simp at h1 ⊢
    omega⟩
   case measure=>simp [intOf]
  ·have t0:=hR6.cell (j:=2) rfl
   have hvs:shX.vs (hoX.take 3)=shX.vs (hoX.take 2) ++ [.int .i64 3,.int .i64 1,.string ⟨#[112,97,114]⟩,.int .i64 1,.int .i64 3,.int .i64 1,.string ⟨#[]⟩]:=k_
   have HVs:=hj_ hvs;have hb1:Below wr.heap.size wr (wr.alloc (.cells #[.int .i64 3,.int .i64 1,.string ⟨#[112,97,114]⟩,.int .i64 1,.int .i64 3,.int .i64 1,.string ⟨#[]⟩] 45)):=(br_).alloc lr_ _;have HR1:=hj_ (And.intro (hR0.below hb1 hR0.lt) (And.intro (hR1.below hb1 hR1.lt) (And.intro (hR4.below hb1 hR4.lt) (And.intro (hR6.below hb1 hR6.lt) (hR5.below hb1 hR5.lt)))));have HB1:=hj_ (ht_ hB hb1);have hown1:=hown.alloc (.cells #[.int .i64 3,.int .i64 1,.string ⟨#[112,97,114]⟩,.int .i64 1,.int .i64 3,.int .i64 1,.string ⟨#[]⟩] 45);have HO1:=hj_ hown1;have hz:W.heap.size≤(wr.alloc (.cells #[.int .i64 3,.int .i64 1,.string ⟨#[112,97,114]⟩,.int .i64 1,.int .i64 3,.int .i64 1,.string ⟨#[]⟩] 45)).heap.size:=by rw [World.size_alloc];omega
   clear hR0 hR1 hR4 hR6 hR5 hB hsz hs hvs hb1 hown;go_wp2_with (at_builtin;refine q003 rfl _ _ _ rfl W.heap.size _ _ 7 72 underlying24 q056 rfl o_ _ 2 (shX.vs (hoX.take 2)) rfl hown1 [.int .i64 3,.int .i64 1,.string ⟨#[112,97,114]⟩,.int .i64 1,.int .i64 3,.int .i64 1,.string ⟨#[]⟩] _ _ _ rfl (by first | rfl | simp) rfl (fx_one _ _ _ _ _ _ _) (by unfold maxLen;omega) o_ hz ?_;intro g cap w1 hown2 hg1;have HR2:=hj_ (And.intro (qn6 HR1.out.1 HO1.out d_ hg1) (And.intro (qn6 HR1.out.2.1 HO1.out d_ hg1) (And.intro (qn6 HR1.out.2.2.1 HO1.out d_ hg1) (And.intro (qn6 HR1.out.2.2.2.1 HO1.out d_ hg1) (qn6 HR1.out.2.2.2.2 HO1.out d_ hg1)))));have q2:=HR2.out.2.2.2.2.cell (j:=2) rfl;have q4:=HR2.out.2.2.2.2.fr 2;have HG1:=hj_ hg1;have HO2:=hj_ hown2;clear p0 p1 p2 t0 hown2 hg1)
   go_roundw
   case rel=>exact ⟨3,some ⟨g,0,none⟩,cap,o_,by go_num,by rw [HVs.out];exact q0g0 HO2.out _ _ _ (oh_ HS.out),⟨HR2.out.1.far _ _ o_,HR2.out.2.1.far _ _ o_,HR2.out.2.2.1.far _ _ o_,HR2.out.2.2.2.1.far _ _ o_⟩,HR2.out.2.2.2.2.set 2 _,(q1a HB1.out lr_ (qfy HO1.out (oh_ HS.out)) HG1.out).setCell (show w.heap.size≤w.heap.size+1+1+1+1+1 from o_) _,by
    have h1:=HG1.out.size;have h2:=HZ.out;simp at h1 ⊢
    omega⟩
   case measure=>simp [intOf]
  ·have t0:=hR6.cell (j:=3) rfl
   have hvs:shX.vs (hoX.take 4)=shX.vs (hoX.take 3) ++ [.int .i64 4,.int .i64 1,.string ⟨#[102,97,110]⟩,.int .i64 1,.int .i64 4,.int .i64 1,.string ⟨#[]⟩]:=k_
   have HVs:=hj_ hvs;have hb1:Below wr.heap.size wr (wr.alloc (.cells #[.int .i64 4,.int .i64 1,.string ⟨#[102,97,110]⟩,.int .i64 1,.int .i64 4,.int .i64 1,.string ⟨#[]⟩] 45)):=(br_).alloc lr_ _;have HR1:=hj_ (And.intro (hR0.below hb1 hR0.lt) (And.intro (hR1.below hb1 hR1.lt) (And.intro (hR4.below hb1 hR4.lt) (And.intro (hR6.below hb1 hR6.lt) (hR5.below hb1 hR5.lt)))));have HB1:=hj_ (ht_ hB hb1);have hown1:=hown.alloc (.cells #[.int .i64 4,.int .i64 1,.string ⟨#[102,97,110]⟩,.int .i64 1,.int .i64 4,.int .i64 1,.string ⟨#[]⟩] 45);have HO1:=hj_ hown1;have hz:W.heap.size≤(wr.alloc (.cells #[.int .i64 4,.int .i64 1,.string ⟨#[102,97,110]⟩,.int .i64 1,.int .i64 4,.int .i64 1,.string ⟨#[]⟩] 45)).heap.size:=by rw [World.size_alloc];omega
   clear hR0 hR1 hR4 hR6 hR5 hB hsz hs hvs hb1 hown;go_wp2_with (at_builtin;refine q003 rfl _ _ _ rfl W.heap.size _ _ 7 72 underlying24 q056 rfl o_ _ 3 (shX.vs (hoX.take 3)) rfl hown1 [.int .i64 4,.int .i64 1,.string ⟨#[102,97,110]⟩,.int .i64 1,.int .i64 4,.int .i64 1,.string ⟨#[]⟩] _ _ _ rfl (by first | rfl | simp) rfl (fx_one _ _ _ _ _ _ _) (by unfold maxLen;omega) o_ hz ?_;intro g cap w1 hown2 hg1;have HR2:=hj_ (And.intro (qn6 HR1.out.1 HO1.out d_ hg1) (And.intro (qn6 HR1.out.2.1 HO1.out d_ hg1) (And.intro (qn6 HR1.out.2.2.1 HO1.out d_ hg1) (And.intro (qn6 HR1.out.2.2.2.1 HO1.out d_ hg1) (qn6 HR1.out.2.2.2.2 HO1.out d_ hg1)))));have q2:=HR2.out.2.2.2.2.cell (j:=2) rfl;have q4:=HR2.out.2.2.2.2.fr 2;have HG1:=hj_ hg1;have HO2:=hj_ hown2;clear p0 p1 p2 t0 hown2 hg1)
   go_roundw
   case rel=>exact ⟨4,some ⟨g,0,none⟩,cap,o_,by go_num,by rw [HVs.out];exact q0g0 HO2.out _ _ _ (oh_ HS.out),⟨HR2.out.1.far _ _ o_,HR2.out.2.1.far _ _ o_,HR2.out.2.2.1.far _ _ o_,HR2.out.2.2.2.1.far _ _ o_⟩,HR2.out.2.2.2.2.set 2 _,(q1a HB1.out lr_ (qfy HO1.out (oh_ HS.out)) HG1.out).setCell (show w.heap.size≤w.heap.size+1+1+1+1+1 from o_) _,by
    have h1:=HG1.out.size;have h2:=HZ.out;simp at h1 ⊢
    omega⟩
   case measure=>simp [intOf]
  ·obtain ⟨W5,hW5⟩:=ex_ (((wr.setCell ⟨w.heap.size,0,none⟩ (.slice none 0 0)).setCell ⟨w.heap.size,1,none⟩ (.slice (some ⟨w.heap.size+1+1+1+1,0,none⟩) 2 2)).setCell ⟨w.heap.size,2,none⟩ (.slice A 4 c))
   have r0:=hR0.fr 0;have r1:=hR0.fr 1;have r2:=hR0.fr 2;have m0:=hR0.cell (j:=0) rfl;have m1:=hR0.cell (j:=1) rfl;have m2:=hR0.cell (j:=2) rfl;have Q0:RowAt W5 w.heap.size #[.slice none 0 0,.slice (some ⟨w.heap.size+1+1+1+1,0,none⟩) 2 2,.slice A 4 c] 26:=by rw [hW5];exact ((hR0.set 0 _).set 1 _).set 2 _
   have Q1:RowAt W5 (w.heap.size+1) #[.int .i64 0,.int .i64 8,.int .i64 0,.int .i64 0,.int .i64 0,.int .i64 0,.int .i64 0,.int .i64 255,.bool false,.slice none 0 0] 114:=by rw [hW5];exact ((hR1.far _ _ o_).far _ _ o_).far _ _ o_
   have Q4:RowAt W5 (w.heap.size+1+1+1+1) #[.string ⟨#[112,97,114]⟩,.int .i64 1,.int .i64 1000,.slice (some ⟨w.heap.size+1,0,none⟩) 1 1,.string ⟨#[102,97,110]⟩,.int .i64 1,.int .i64 200,.slice none 0 0] 87:=by rw [hW5];exact ((hR4.far _ _ o_).far _ _ o_).far _ _ o_
   have C5:W5.ownsRow W.heap.size 45 7 (.slice A 4 c) 4 (shX.vs hoX):=by rw [hW5];exact q0g0 (q0g0 (q0g0 hown _ _ _ o_) _ _ _ o_) _ _ _ o_
   have b5:Below w.heap.size w W5:=by rw [hW5];exact ((hB.setCell lr_ _).setCell lr_ _).setCell lr_ _
   have HW5:=hj_ hW5;have HD:=hj_ (And.intro Q0 (And.intro Q1 (And.intro Q4 (And.intro C5 b5))));clear hR0 hR1 hR4 hR6 hR5 hB hsz hs hown hW5 Q0 Q1 Q4 C5 b5;go_wp2_with fail;rw [← HW5.out];obtain ⟨Q0,Q1,Q4,C5,hb⟩:=HD.out;have z0:=Q0.cell (j:=0) rfl;have z1:=Q0.cell (j:=1) rfl;have z2:=Q0.cell (j:=2) rfl
   (try simp only [Exit.inBlock,Exit.then])
   refine bodyPost_ret (v:=.agg #[.slice none 0 0,.slice (some ⟨w.heap.size+1+1+1+1,0,none⟩) 2 2,.slice A 4 c]) ?_ rfl ⟨A,c,rfl,⟨In_of_cells (S:=shPr) (l:=(hoPL w.heap.size).map Prod.fst) Q4.cells,fun x hx=>?_⟩,Sh.In.of_own C5 rfl,In_of_cells (S:=shF) (l:=[hoF]) Q1.cells,qft C5,hb⟩
   ·rw [qlt rfl]
    clear Q0 Q1 Q4 C5 hb HD
    go_simp
   ·unfold hoPL at hx
    rcases List.mem_cons.1 hx with rfl | hx
    ·exact ⟨[hoF],⟨⟨In_of_cells (S:=shF) (l:=[hoF]) Q1.cells,rfl,fun i h h'=>by
      obtain rfl:i=0:=by simp at h;omega
      exact ⟨rfl,Sh.In.nil _ _⟩⟩,(by show (1:Nat)≤9223372036854775806;decide),fun i h h'=>by
      obtain rfl:i=0:=by simp at h;omega
      exact ⟨Sh.In.nil _ _,⟨Nat.le_refl _,(by show (0:Nat)≤9223372036854775807;decide)⟩,fun x h=>by cases h⟩⟩⟩
    ·rcases List.mem_cons.1 hx with rfl | hx
     ·exact ⟨[],⟨⟨Sh.In.nil _ _,rfl,fun i h=>absurd h (Nat.not_lt_zero _)⟩,d_,fun i h=>absurd h (Nat.not_lt_zero _)⟩⟩
     ·cases hx
theorem q0fp {W:Nat→Int} {a b:List Nat} (h1:ltU W a b) (h2:ltU W b a):False:=by
 unfold ltU at h1 h2;omega
theorem q0g6 {W:Nat→Int}:∀ {U V:List (List Nat)},U.Perm V→U.Pairwise (ltU W)→V.Pairwise (ltU W)→U=V
 | [],V,h,_,_=>by rw [List.nil_perm.1 h]
 | a :: U,[],h,_,_=>by have:=h.length_eq;simp at this
 | a :: U,b :: V,h,hu,hv=>by
  obtain ⟨hu1,hu2⟩:=List.pairwise_cons.1 hu;obtain ⟨hv1,hv2⟩:=List.pairwise_cons.1 hv
  by_cases e:a=b
  ·subst e
   rw [q0g6 h.cons_inv hu2 hv2]
  ·have m1:a ∈ V:=by
    rcases List.mem_cons.1 (h.mem_iff.1 (List.mem_cons_self ..)) with h | h
    ·exact absurd h e
    ·exact h
   have m2:b ∈ U:=by
    rcases List.mem_cons.1 (h.mem_iff.2 (List.mem_cons_self ..)) with h | h
    ·exact absurd h.symm e
    ·exact h
   exact absurd (q0fp (hu1 b m2) (hv1 a m1)) id
def dimA:List Am:=[⟨3,0,⟨#[51,50,55,54,56]⟩⟩]
def hoX1:List Fx:=[⟨1,1,nPar,1,1,1,nCa⟩,⟨2,1,nPar,1,2,1,nCa⟩,⟨3,1,nPar,1,3,2,⟨#[]⟩⟩,⟨4,1,nFan,1,4,3,⟨#[]⟩⟩]
def hoX2:List Fx:=[⟨3,1,nPar,1,3,1,⟨#[]⟩⟩,⟨4,1,nFan,1,4,1,⟨#[]⟩⟩]
def hoP (S:Nat):List PC:=(hoPL S).map Prod.fst
theorem ho_uni (S:Nat):uniE [] (hoPL S) hoX=0∧uniE [] (hoPL S) hoX1=0∧uniE [] (hoPL S) hoX2=0:=⟨k_,k_,k_⟩
theorem q0ek:givE dimA=0:=k_
def hoU:List (List Nat):=[[0,1],[2],[3]]
theorem q0fa:unitsV hoX=hoU:=k_
def hoW (i:Nat):Int:=if i<3 then 1000 else if i=3 then 200 else 0
theorem ho_w (S:Nat):∀ i,wN (hoP S) hoX i=hoW i
 | 0=>k_
 | 1=>k_
 | 2=>k_
 | 3=>k_
 | n+4=>by
  have e:hoX.getD (n+4) fx0=fx0:=by rw [List.getD_eq_getElem?_getD,List.getElem?_eq_none (by show 4≤n+4;omega)];rfl
  have h:hoW (n+4)=0:=by unfold hoW;rw [if_neg o_,if_neg o_]
  rw [h];unfold wN;rw [e];exact (show ∀ S:Nat,wattV (hoP S) fx0=0 from fun S=>k_) S
theorem q0f7:hoU.Pairwise (ltU hoW):=by
 refine List.pairwise_cons.2 ⟨fun b hb=>?_,List.pairwise_cons.2 ⟨fun b hb=>?_,List.pairwise_cons.2 ⟨fun b hb=>(by cases hb),List.Pairwise.nil⟩⟩⟩
 ·rcases List.mem_cons.1 hb with rfl | hb
  ·exact Or.inl d_
  ·rcases List.mem_cons.1 hb with rfl | hb
   ·exact Or.inl d_
   ·cases hb
 ·rcases List.mem_cons.1 hb with rfl | hb
  ·exact Or.inl d_
  ·cases hb
theorem q0f8 (S:Nat) {U:List (List Nat)} (h1:U.Perm (unitsV hoX)) (h2:U.Pairwise (ltU (wN (hoP S) hoX))):setPh hoX (runU (wN (hoP S) hoX) (phX hoX) U).2=hoX1:=by
 rw [show wN (hoP S) hoX=hoW from funext (ho_w S)] at h2 ⊢
 rw [q0fa] at h1;rw [q0g6 h1 h2 q0f7]
 kernel_rfl
theorem ho_pc (S:Nat) (s:ByteArray):(s=nPar→pcF (hoP S) s=some ⟨nPar,1,1000,some ⟨S+1,0,none⟩,1,1⟩)∧(s=nFan→pcF (hoP S) s=some ⟨nFan,1,200,none,0,0⟩) :=
 ⟨fun h=>by subst h;kernel_rfl,fun h=>by subst h;kernel_rfl⟩
theorem ho_in (h:X=hoX∨X=hoX1∨X=hoX2):∀ x ∈ X,(x.pr=nPar∨x.pr=nFan)∧(1≤x.ph∧x.ph≤3)∧x.cb.size≤9223372036854775807:=by
 intro x hx
 rcases h with rfl | rfl | rfl
 ·rcases List.mem_cons.1 hx with rfl | hx
  ·decide
  ·rcases List.mem_cons.1 hx with rfl | hx
   ·decide
   ·rcases List.mem_cons.1 hx with rfl | hx
    ·decide
    ·rcases List.mem_cons.1 hx with rfl | hx
     ·decide
     ·cases hx
 ·rcases List.mem_cons.1 hx with rfl | hx
  ·decide
  ·rcases List.mem_cons.1 hx with rfl | hx
   ·decide
   ·rcases List.mem_cons.1 hx with rfl | hx
    ·decide
    ·rcases List.mem_cons.1 hx with rfl | hx
     ·decide
     ·cases hx
 ·rcases List.mem_cons.1 hx with rfl | hx
  ·decide
  ·rcases List.mem_cons.1 hx with rfl | hx
   ·decide
   ·cases hx
theorem ho_wok (S:Nat) (h:X=hoX∨X=hoX1∨X=hoX2):WOk (hoP S) X:=by
 intro x hx
 rcases (ho_in h x hx).1 with e | e
 ·exact ⟨_,(ho_pc S x.pr).1 e,(by show (0:Int)≤1000;decide),(by show (1000:Int)≤1048576;decide)⟩
 ·exact ⟨_,(ho_pc S x.pr).2 e,(by show (0:Int)≤200;decide),(by show (200:Int)≤1048576;decide)⟩
def q3:Rat:=loadQ [hoF] dimA 3 1000
def q4:Rat:=loadQ [] dimA 4 200
def hoLd (x:Fx):Rat:=if x.ch=3 then q3 else q4
theorem ho_q:sR q3=⟨#[54,53,53,51,54,48,48,47,49,51,49,48,55]⟩∧sR q4=⟨#[50,48,48]⟩:=⟨k_,k_⟩
theorem q3_sz:SzR 100 q3:=by
 have e:q3.num=6553600∧q3.den=13107:=⟨k_,k_⟩
 refine ⟨?_,?_⟩
 ·rw [e.1];decide
 ·rw [e.2];decide
theorem q4_sz:SzR 100 q4:=by
 have e:q4.num=200∧q4.den=1:=⟨k_,k_⟩
 refine ⟨?_,?_⟩
 ·rw [e.1];decide
 ·rw [e.2];decide
theorem q0f2 (x:Fx):SzR 100 (hoLd x):=by
 unfold hoLd
 split
 ·exact q3_sz
 ·exact q4_sz
theorem ho_ph:sR (phQ hoLd hoX2 1)=⟨#[57,49,55,53,48,48,48,47,49,51,49,48,55]⟩∧sR (phQ hoLd hoX2 2)=⟨#[48]⟩∧sR (phQ hoLd hoX2 3)=⟨#[48]⟩:=⟨k_,k_,k_⟩
theorem ho_sz (k:Nat) (j:Int):SzR 1000 (phQ hoLd (hoX2.take k) j):=by
 have h0:SzR 1000 (0:Rat):=(show SzR 1 (0:Rat) from ⟨d_,d_⟩).up d_
 have hf:∀ (l:List Fx),l.length≤2→SzR 1000 (l.foldl (fun s x=>s+hoLd x) 0):=by
  intro l hl
  match l,hl with
  | [],_=>exact h0
  | [a],_=>exact (SzR.add (k:=1) (m:=100) ⟨d_,d_⟩ (q0f2 a)).up d_
  | [a,b],_=>exact (SzR.add (SzR.add (k:=1) (m:=100) ⟨d_,d_⟩ (q0f2 a)) (q0f2 b)).up d_
 unfold phQ;refine hf _ (Nat.le_trans (List.length_filter_le _ _) ?_);rw [List.length_take];exact Nat.min_le_right _ _
theorem ho_ups (S:Nat):phaseV (hoP S) hoX1 1=2000∧phaseV (hoP S) hoX1 2=1000∧phaseV (hoP S) hoX1 3=200∧phaseV (hoP S) hoX2 1=1200∧phaseV (hoP S) hoX2 2=0∧phaseV (hoP S) hoX2 3=0:=⟨k_,k_,k_,k_,k_,k_⟩
theorem ho_amp:ampV ⟨#[49,49,53,48]⟩ 230=⟨#[53]⟩∧ampE ⟨#[49,49,53,48]⟩ 230=0:=⟨k_,k_⟩
theorem q0el:toldT dimA 3 0 0=sR ((32768:Int):Rat)∧SzR 130 ((32768:Int):Rat):=⟨k_,SzR.int d_ d_⟩
def HoR (w:World) (S:Nat) (A2:Option Addr) (X:List Fx) (B:Nat):Prop:=InPs w (some ⟨S+1+1+1+1,0,none⟩) 2 (hoPL S)∧shF.In w (some ⟨S+1,0,none⟩) 1 [hoF]∧shX.In w A2 X.length X∧shAm.In w (some ⟨B,0,none⟩) 1 dimA
theorem HoR.below {w':World} (h:HoR w S A2 X B) (hb:Below w.heap.size w w'):HoR w' S A2 X B :=
 ⟨h.1.below hb,h.2.1.below hb,h.2.2.1.below hb,h.2.2.2.below hb⟩
theorem ho_ck (S:Nat) (A2:Option Addr) (X:List Fx) (B d2:Nat) (w:World) (h:HoR w S A2 X B) (hX:X=hoX∨X=hoX1∨X=hoX2) (hd:X.length≤d2∧d2≤9223372036854775807) :
  ∀ w',Below w.heap.size w w'→Calls prog 62 #[.agg #[.slice none 0 0,.slice (some ⟨S+1+1+1+1,0,none⟩) 2 2,.slice A2 X.length d2]] w' fun e w''=>e=.returned (.int .i64 0)∧Below w'.heap.size w' w'':=by
 intro w' hb;have hu:uniE [] (hoPL S) X=0:=by
  rcases hX with rfl | rfl | rfl
  ·exact (ho_uni S).1
  ·exact (ho_uni S).2.1
  ·exact (ho_uni S).2.2
 have:=qtm none 0 0 [] [] (some ⟨S+1+1+1+1,0,none⟩) 2 2 (hoPL S) A2 X.length d2 X w' ⟨Sh.In.nil _ _,rfl,fun i h=>absurd h (Nat.not_lt_zero _)⟩ (fun h hh=>by cases hh) (h.below hb).1 d_ (h.below hb).2.2.1 hd.1 hd.2 (fun x hx=>(ho_in hX x hx).2.2)
 rw [hu] at this;exact this
theorem ho_lit (S:Nat) (A2:Option Addr) (X:List Fx) (B d2 c:Nat) (w:World) (h:HoR w S A2 X B) (hX:X=hoX∨X=hoX1∨X=hoX2) (hd:X.length≤d2∧d2≤9223372036854775807) (ht:Tab w) (hr:Rng w) :
  ∀ w',Below w.heap.size w w'→Calls prog 57 #[.agg #[.slice none 0 0,.slice (some ⟨S+1+1+1+1,0,none⟩) 2 2,.slice A2 X.length d2],.slice (some ⟨B,0,none⟩) 1 c] w' fun e w''=>e=.returned (.tuple #[.agg #[.slice none 0 0,.slice (some ⟨S+1+1+1+1,0,none⟩) 2 2,.slice A2 X.length d2],.int .i64 0])∧Below w'.heap.size w' w'':=by
 intro w' hb;have hu:uniE [] (hoPL S) X=0:=by
  rcases hX with rfl | rfl | rfl
  ·exact (ho_uni S).1
  ·exact (ho_uni S).2.1
  ·exact (ho_uni S).2.2
 have hfE:frE [] (hoPL S) X dimA=0:=by unfold frE;rw [hu,if_neg (fun h=>h rfl),q0ek]
 refine q0if none 0 0 (some ⟨S+1+1+1+1,0,none⟩) 2 2 A2 X.length d2 (some ⟨B,0,none⟩) 1 c w' fun w2 hb2=>?_
 have h2:=(h.below hb).below hb2
 have:=qtn none 0 0 [] [] (some ⟨S+1+1+1+1,0,none⟩) 2 2 (hoPL S) A2 X.length d2 X (some ⟨B,0,none⟩) 1 c dimA w2 ⟨Sh.In.nil _ _,rfl,fun i h=>absurd h (Nat.not_lt_zero _)⟩ (fun h hh=>by cases hh) d_ h2.1 d_ h2.2.2.1 hd.1 hd.2 (fun x hx=>(ho_in hX x hx).2.2) h2.2.2.2 d_ (fun a ha=>by
  unfold dimA at ha
  rcases List.mem_cons.1 ha with rfl | ha
  ·decide
  ·cases ha) ((ht.below hb).below hb2) ((hr.below hb).below hb2)
 rw [hfE] at this;refine this.mono ?_;rintro e w3 ⟨r,rfl,A',c',rfl,ho,hb3⟩;exact ⟨_,rfl,hb3⟩
theorem ho_ld (S:Nat) (A2:Option Addr) (X:List Fx) (B d2 c:Nat) (w:World) (h:HoR w S A2 X B) (ht:Tab w) (x:Fx) (hx:(x.ch=3∧x.pr=nPar)∨(x.ch=4∧x.pr=nFan)) :
  ∀ w',Below w.heap.size w w'→Calls prog 60 #[.agg #[.slice none 0 0,.slice (some ⟨S+1+1+1+1,0,none⟩) 2 2,.slice A2 X.length d2],.slice (some ⟨B,0,none⟩) 1 c,x.val] w' fun e w''=>e=.returned (.tuple #[.string (sR (hoLd x)),.int .i64 0])∧Below w'.heap.size w' w'':=by
 intro w' hb;have h1:=h.below hb
 rcases hx with ⟨e1,e2⟩ | ⟨e1,e2⟩
 ·have:=q0f1 none 0 0 (some ⟨S+1+1+1+1,0,none⟩) 2 2 A2 X.length d2 (hoP S) x _ [hoF] (some ⟨B,0,none⟩) 1 c dimA w' h1.1.1 d_ ((ho_pc S x.pr).1 e2) h1.2.1 (by show (1:Nat)≤9223372036854775807;decide) h1.2.2.2 d_ ⟨(by show (0:Int)≤1000;decide),(by show (1000:Int)≤1048576;decide)⟩ (fun f hf _=>by
   rcases List.mem_cons.1 hf with rfl | hf
   ·rw [e1]
    exact ⟨⟨d_,d_⟩,_,q0el⟩
   ·cases hf) (ht.below hb)
  rw [e1] at this;rw [show hoLd x=q3 by unfold hoLd;rw [if_pos e1]]
  exact this
 ·have:=q0f1 none 0 0 (some ⟨S+1+1+1+1,0,none⟩) 2 2 A2 X.length d2 (hoP S) x _ [] (some ⟨B,0,none⟩) 1 c dimA w' h1.1.1 d_ ((ho_pc S x.pr).2 e2) (Sh.In.nil _ _) d_ h1.2.2.2 d_ ⟨d_,d_⟩ (fun f hf _=>by cases hf) (ht.below hb)
  rw [e1] at this;rw [show hoLd x=q4 by unfold hoLd;rw [if_neg o_]]
  exact this
theorem In_at {α:Type} {S:Sh α} {o:Nat} {vs pre:List Value} {l:List α} (h:Cells w B vs) (he:vs=pre ++ S.vs l) (ho:pre.length=o):S.In w (some ⟨B,o,none⟩) l.length l :=
 ⟨rfl,S.vs_length l,fun _=>⟨B,o,rfl,h.1,fun j u hu=>h.at_ (by rw [he,List.getElem?_append_right o_,ho];simpa using hu)⟩⟩
theorem q0f5 (S:Nat) (A2:Option Addr) (B d2 c:Nat) (w:World) (h:HoR w S A2 hoX B) (hd:4≤d2∧d2≤9223372036854775807) (ht:Tab w) (hr:Rng w) :
  Rt 25 #[.agg #[.slice none 0 0,.slice (some ⟨S+1+1+1+1,0,none⟩) 2 2,.slice A2 4 d2],.slice (some ⟨B,0,none⟩) 1 c,.int .i64 3,.int .i64 1] w (.tuple #[.string ⟨#[54,53,53,51,54,48,48,47,49,51,49,48,55]⟩,.int .i64 0]):=by
 have:=q0i6 none 0 0 (some ⟨S+1+1+1+1,0,none⟩) 2 2 A2 d2 (some ⟨B,0,none⟩) 1 c hoX 3 1 2 _ w (ho_lit S A2 hoX B d2 c w h (Or.inl rfl) hd ht hr) h.2.2.1 d_ d_ k_ (ho_ld S A2 hoX B d2 c w h ht hoX[2] (Or.inl ⟨rfl,rfl⟩))
 rw [show sR (hoLd hoX[2])=⟨#[54,53,53,51,54,48,48,47,49,51,49,48,55]⟩ from ho_q.1] at this
 exact this
theorem q0f6 (S:Nat) (A2:Option Addr) (B d2 c:Nat) (w:World) (h:HoR w S A2 hoX B) (hd:4≤d2∧d2≤9223372036854775807) (ht:Tab w) (hr:Rng w) :
  Rt 25 #[.agg #[.slice none 0 0,.slice (some ⟨S+1+1+1+1,0,none⟩) 2 2,.slice A2 4 d2],.slice (some ⟨B,0,none⟩) 1 c,.int .i64 4,.int .i64 1] w (.tuple #[.string ⟨#[50,48,48]⟩,.int .i64 0]):=by
 have:=q0i6 none 0 0 (some ⟨S+1+1+1+1,0,none⟩) 2 2 A2 d2 (some ⟨B,0,none⟩) 1 c hoX 4 1 3 _ w (ho_lit S A2 hoX B d2 c w h (Or.inl rfl) hd ht hr) h.2.2.1 d_ d_ k_ (ho_ld S A2 hoX B d2 c w h ht hoX[3] (Or.inr ⟨rfl,rfl⟩))
 rw [show sR (hoLd hoX[3])=⟨#[50,48,48]⟩ from ho_q.2] at this
 exact this
theorem ho_spr (S:Nat) (A2:Option Addr) (B d2:Nat) (w:World) (h:HoR w S A2 hoX B) (hd:4≤d2∧d2≤9223372036854775807) :
  Calls prog 9 #[.agg #[.slice none 0 0,.slice (some ⟨S+1+1+1+1,0,none⟩) 2 2,.slice A2 4 d2]] w fun e w'=>∃ g c',e=.returned (.tuple #[.slice (some ⟨g,0,none⟩) 4 c',.int .i64 0])∧w.heap.size≤g∧Cells w' g (shX.vs hoX1)∧(4≤c'∧c'≤9223372036854775807)∧Below w.heap.size w w':=by
 refine (q0i9 none 0 0 (some ⟨S+1+1+1+1,0,none⟩) 2 2 A2 d2 (hoP S) hoX w (ho_ck S A2 hoX B d2 w h (Or.inl rfl) hd) h.1.1 d_ h.2.2.1 d_ (ho_wok S (Or.inl rfl))).mono ?_
 rintro e w' ⟨U,r,rfl,h1,h2,A',c',rfl,ho,hb⟩;rw [q0f8 S h1 h2] at ho;obtain ⟨g,cap,hv,hg⟩:=ho.form d_
 injection hv with q1 q2 q3
 subst q1;exact ⟨g,c',rfl,(ho.lt g rfl).1,q023 ho,qft ho,hb⟩
theorem q0f9 (S:Nat) (A2:Option Addr) (B d2:Nat) (w:World) (h:HoR w S A2 hoX1 B) (hd:4≤d2∧d2≤9223372036854775807) :
  Rt 19 #[.agg #[.slice none 0 0,.slice (some ⟨S+1+1+1+1,0,none⟩) 2 2,.slice A2 4 d2]] w (.tuple #[.int .i64 1800,.int .i64 0]):=by
 have:=q0ia none 0 0 (some ⟨S+1+1+1+1,0,none⟩) 2 2 A2 4 d2 (hoP S) hoX1 w (ho_ck S A2 hoX1 B d2 w h (Or.inr (Or.inl rfl)) hd) h.1.1 d_ h.2.2.1 d_ (ho_wok S (Or.inr (Or.inl rfl))) (fun x hx=>(ho_in (Or.inr (Or.inl rfl)) x hx).2.1)
 obtain ⟨a1,a2,a3,_⟩:=ho_ups S;rw [a1,a2,a3] at this;exact this
theorem ho_phs (S:Nat) (A2:Option Addr) (B d2 c:Nat) (w:World) (h:HoR w S A2 hoX2 B) (hd:2≤d2∧d2≤9223372036854775807) (ht:Tab w) (hr:Rng w) :
  Rt 26 #[.agg #[.slice none 0 0,.slice (some ⟨S+1+1+1+1,0,none⟩) 2 2,.slice A2 2 d2],.slice (some ⟨B,0,none⟩) 1 c] w (.tuple #[.agg #[.string ⟨#[57,49,55,53,48,48,48,47,49,51,49,48,55]⟩,.string ⟨#[48]⟩,.string ⟨#[48]⟩],.int .i64 0]):=by
 have:=q0i7 none 0 0 (some ⟨S+1+1+1+1,0,none⟩) 2 2 A2 d2 (some ⟨B,0,none⟩) 1 c hoX2 hoLd w (ho_lit S A2 hoX2 B d2 c w h (Or.inr (Or.inr rfl)) hd ht hr) h.2.2.1 d_ (fun x hx=>(ho_in (Or.inr (Or.inr rfl)) x hx).2.1) (fun x hx=>ho_ld S A2 hoX2 B d2 c w h ht x (by
  unfold hoX2 at hx
  rcases List.mem_cons.1 hx with rfl | hx
  ·exact Or.inl ⟨rfl,rfl⟩
  ·rcases List.mem_cons.1 hx with rfl | hx
   ·exact Or.inr ⟨rfl,rfl⟩
   ·cases hx)) ho_sz (fun x _=>(q0f2 x).up d_) ht
 obtain ⟨a1,a2,a3⟩:=ho_ph;rw [a1,a2,a3] at this;exact this
theorem q0f4 (S:Nat) (A2:Option Addr) (B d2:Nat) (w:World) (h:HoR w S A2 hoX2 B) (hd:2≤d2∧d2≤9223372036854775807) :
  Rt 17 #[.agg #[.slice none 0 0,.slice (some ⟨S+1+1+1+1,0,none⟩) 2 2,.slice A2 2 d2]] w (.tuple #[.agg #[.int .i64 1200,.int .i64 0,.int .i64 0],.int .i64 0]):=by
 have:=q0i4 none 0 0 (some ⟨S+1+1+1+1,0,none⟩) 2 2 A2 2 d2 (hoP S) hoX2 w (ho_ck S A2 hoX2 B d2 w h (Or.inr (Or.inr rfl)) hd) h.1.1 d_ h.2.2.1 d_ (ho_wok S (Or.inr (Or.inr rfl))) (fun x hx=>(ho_in (Or.inr (Or.inr rfl)) x hx).2.1)
 obtain ⟨_,_,_,a1,a2,a3⟩:=ho_ups S;rw [a1,a2,a3] at this;exact this
theorem q0f3 (w:World) (ht:Tab w):Rt 13 #[.string ⟨#[49,49,53,48]⟩,.int .i64 230] w (.tuple #[.string ⟨#[53]⟩,.int .i64 0]):=by
 have:=q0id ⟨#[49,49,53,48]⟩ 230 d_ d_ d_ w ht
 rw [ho_amp.1,ho_amp.2] at this;exact this
def AwK (w1 V:World) (S:Nat) (f:Value):Prop:=Below w1.heap.size w1 V∧RowAt V w1.heap.size #[.slice none 0 0,.slice (some ⟨S+1+1+1+1,0,none⟩) 2 2,f] 26∧Cells V (w1.heap.size+1) (shAm.vs dimA)
theorem AwK.below {V':World} (h:AwK w1 V S f) (hb:Below V.heap.size V V'):AwK w1 V' S f :=
 ⟨ht_ h.1 hb,h.2.1.below hb h.2.1.lt,h.2.2.below hb h.2.2.1⟩
theorem AwK.store (h:AwK w1 V S f) (f':Value):AwK w1 (V.setCell ⟨w1.heap.size,2,none⟩ f') S f' :=
 ⟨h.1.setCell lr_ _,h.2.1.set 2 _,h.2.2.far _ _ o_⟩
theorem AwK.far (h:AwK w1 V S f) (g j:Nat) (hg:w1.heap.size+1<g) (v:Value):AwK w1 (V.setCell ⟨g,j,none⟩ v) S f :=
 ⟨h.1.setCell (show w1.heap.size≤g by omega) _,h.2.1.far _ _ o_,h.2.2.far _ _ o_⟩
theorem AwK.house (h:AwK w1 V S f) (hp:InPs w1 (some ⟨S+1+1+1+1,0,none⟩) 2 (hoPL S)) (hf:shF.In w1 (some ⟨S+1,0,none⟩) 1 [hoF]) (hx:shX.In V A2 X.length X):HoR V S A2 X (w1.heap.size+1) :=
 ⟨hp.below h.1,hf.below h.1,hx,In_of_cells (S:=shAm) (l:=dimA) h.2.2⟩
theorem q0eb (w:World) (ht:Tab w) (hr:Rng w):Rt 8 #[] w (.bool true):=by
 have e1:∀ w,(binOp .eql 71 (.agg #[.string ⟨#[57,49,55,53,48,48,48,47,49,51,49,48,55]⟩,.string ⟨#[48]⟩,.string ⟨#[48]⟩]) (.agg #[.string ⟨#[57,49,55,53,48,48,48,47,49,51,49,48,55]⟩,.string ⟨#[48]⟩,.string ⟨#[48]⟩])).run prog w=.ok (.bool true) w:=fun w=>k_
 have e2:∀ w,(binOp .eql 47 (.agg #[.int .i64 1200,.int .i64 0,.int .i64 0]) (.agg #[.int .i64 1200,.int .i64 0,.int .i64 0])).run prog w=.ok (.bool true) w:=fun w=>k_
 have HT0:=hj_ ht;have HR0:=hj_ hr;clear ht hr
 go_enter func8,ntmps8
 go_wp2_with fail;refine (ho_any w).mono ?_;rintro e w1 ⟨A,c,rfl,hp,hx,hf,hc,hb⟩;obtain ⟨W2,hW2⟩:=ex_ ((w1.alloc (.cells #[.slice none 0 0,.slice (some ⟨w.heap.size+1+1+1+1,0,none⟩) 2 2,.slice A 4 c] 26)).alloc (.cells #[.int .i64 3,.int .i64 0,.string ⟨#[51,50,55,54,56]⟩] 66));have hb1:Below w1.heap.size w1 W2:=by rw [hW2];exact ((br_).alloc lr_ _).alloc s_ _
 have hs2:W2.heap.size=w1.heap.size+1+1:=by rw [hW2];simp
 have hk:AwK w1 W2 w.heap.size (.slice A 4 c):=by
  obtain ⟨W1,hW1⟩:=ex_ (w1.alloc (.cells #[.slice none 0 0,.slice (some ⟨w.heap.size+1+1+1+1,0,none⟩) 2 2,.slice A 4 c] 26));have s1:W1.heap.size=w1.heap.size+1:=by rw [hW1];simp
  rw [← hW1] at hW2;have b2:Below W1.heap.size W1 W2:=by rw [hW2];exact (br_).alloc lr_ _
  refine ⟨hb1,?_,?_⟩
  ·refine RowAt.below (w:=W1) ?_ b2 (by rw [s1];exact Nat.lt_succ_self _)
   rw [hW1];exact RowAt.fresh _ _ _
  ·rw [hW2,← s1]
   exact Cells.fresh W1 [.int .i64 3,.int .i64 0,.string ⟨#[51,50,55,54,56]⟩] _
 have HT:=hj_ (fun V f (k:AwK w1 V w.heap.size f)=>HT0.out.below (ht_ hb k.1))
 have HR:=hj_ (fun V f (k:AwK w1 V w.heap.size f)=>HR0.out.below (ht_ hb k.1))
 have HH:=hj_ (fun V f A2 X (k:AwK w1 V w.heap.size f) hx=>k.house (A2:=A2) (X:=X) hp hf hx)
 have HB:=hj_ hb;have HX:=hj_ (hx.below hb1);have HC:=hj_ hc;have HK:=hj_ hk;have HW2:=hj_ hW2;have HS2:=hj_ hs2;have z0:=hk.2.1.cell (j:=0) rfl;have z1:=hk.2.1.cell (j:=1) rfl;have z2:=hk.2.1.cell (j:=2) rfl;rw [hW2] at z0 z1 z2;clear hp hx hf hc hb hW2 hb1 hs2 hk;go_wp2_with fail;rw [← HW2.out];refine (q0f5 w.heap.size A (w1.heap.size+1) c 1 W2 (HH.out _ _ _ _ HK.out HX.out) HC.out (HT.out _ _ HK.out) (HR.out _ _ HK.out)).mono ?_;rintro e w3 ⟨rfl,hb⟩;replace HK:=hj_ (HK.out.below hb);replace HX:=hj_ (HX.out.below hb);have HZ:=hj_ hb.size;clear z0 z1 z2 hb;have z0:=HK.out.2.1.cell (j:=0) rfl;have z1:=HK.out.2.1.cell (j:=1) rfl;have z2:=HK.out.2.1.cell (j:=2) rfl;go_wp2_with fail;refine (q0f6 w.heap.size A (w1.heap.size+1) c 1 w3 (HH.out _ _ _ _ HK.out HX.out) HC.out (HT.out _ _ HK.out) (HR.out _ _ HK.out)).mono ?_;rintro e w4 ⟨rfl,hb⟩;replace HK:=hj_ (HK.out.below hb);replace HX:=hj_ (HX.out.below hb);replace HZ:=hj_ (Nat.le_trans HZ.out hb.size);clear z0 z1 z2 hb;have z0:=HK.out.2.1.cell (j:=0) rfl;have z1:=HK.out.2.1.cell (j:=1) rfl;have z2:=HK.out.2.1.cell (j:=2) rfl;go_wp2_with fail;refine (ho_spr w.heap.size A (w1.heap.size+1) c w4 (HH.out _ _ _ _ HK.out HX.out) HC.out).mono ?_;rintro e w5 ⟨g,c',rfl,hg,hcl,hc',hb⟩;replace HK:=hj_ (HK.out.below hb);have HG:=hj_ (show w1.heap.size+1<g by have:=HZ.out;have:=HS2.out;omega)
 have HCl:=hj_ hcl;have HC':=hj_ hc';clear z0 z1 z2 hb hg hcl hc';go_wp2_with fail;refine (q0f3 w5 (HT.out _ _ HK.out)).mono ?_;rintro e w6 ⟨rfl,hb⟩;replace HK:=hj_ (HK.out.below hb);replace HCl:=hj_ (HCl.out.below hb HCl.out.1);clear hb;have z0:=HK.out.2.1.cell (j:=0) rfl;have z1:=HK.out.2.1.cell (j:=1) rfl;have z2:=HK.out.2.1.cell (j:=2) rfl;have f2:=HK.out.2.1.fr 2;have t0:=HCl.out.at_ (j:=5) rfl
 have t1:=HCl.out.at_ (j:=12) rfl
 have t2:=HCl.out.at_ (j:=19) rfl
 have t3:=HCl.out.at_ (j:=26) rfl
 obtain ⟨W7,hW7⟩:=ex_ (w6.setCell ⟨w1.heap.size,2,none⟩ (.slice (some ⟨g,0,none⟩) 4 c'));have hk7:=HK.out.store (.slice (some ⟨g,0,none⟩) 4 c');rw [← hW7] at hk7;have hcl7:Cells W7 g (shX.vs hoX1):=by rw [hW7];exact HCl.out.far _ _ (oh_ HG.out)
 have HK7:=hj_ hk7;have HCl7:=hj_ hcl7;have HW7:=hj_ hW7;clear hk7 hcl7 hW7;go_wp2_with fail;rw [← HW7.out];clear z0 z1 z2 f2 t0 t1 t2 t3;refine (q0f9 w.heap.size (some ⟨g,0,none⟩) (w1.heap.size+1) c' W7 (HH.out _ _ _ _ HK7.out (In_of_cells (S:=shX) (l:=hoX1) HCl7.out)) HC'.out).mono ?_;rintro e w8 ⟨rfl,hb⟩;have HK8:=hj_ (HK7.out.below hb);have HCl8:=hj_ (HCl7.out.below hb HCl7.out.1);clear hb;have z2:=HK8.out.2.1.cell (j:=2) rfl;have f2:=HK8.out.2.1.fr 2;have hcc:=HC'.out;obtain ⟨hcc1,hcc2⟩:=hcc;obtain ⟨W9,hW9⟩:=ex_ (w8.setCell ⟨w1.heap.size,2,none⟩ (.slice (some ⟨g,14,none⟩) 2 (c' - 2)));have hk9:=HK8.out.store (.slice (some ⟨g,14,none⟩) 2 (c' - 2));rw [← hW9] at hk9;have hcl9:Cells W9 g (shX.vs hoX1):=by rw [hW9];exact HCl8.out.far _ _ (oh_ HG.out)
 have HK9:=hj_ hk9;have HCl9:=hj_ hcl9;have HW9:=hj_ hW9;clear hk9 hcl9 hW9
 go_upto_region 14 with fail
 rw [← HW9.out];clear z2 f2;have b0:=(Below.refl W9.heap.size W9).drew;have z2:=(HK9.out.below b0).2.1.cell (j:=2) rfl;have hcl0:=HCl9.out;have g0:=hcl0.fr (j:=19) rfl;have g1:=hcl0.fr (j:=26) rfl;have t0:=hcl0.at_ (j:=19) rfl
 have t1:=hcl0.at_ (j:=26) rfl
 have hne:g≠w1.heap.size:=by have:=HG.out;omega
 have hne2:w1.heap.size≠g:=fun h=>hne h.symm
 refine wp_region_held_drew (S:=fun w'=>w'.cell? ⟨w1.heap.size,2,none⟩=some (.slice (some ⟨g,14,none⟩) 2 (c' - 2))) k_ (by first | exact z2) (fun hHeld=>?_)
 refine tq 0 ?_;refine tq 1 ?_;refine tq 2 ?_;refine tq 3 ?_;refine tq 4 ?_;refine tq 5 ?_;refine tr 6 fun K hK=>?_
 go_simp
 refine hK.out _ _ (by first | exact z2 | exact (sf_ hne).trans z2 | exact (sf_ hne).trans ((sf_ hne).trans z2)) (fun hHeld=>?_)
 clear hK K;refine tq 7 ?_;refine tq 8 ?_;refine tr 9 fun K hK=>?_
 go_simp
 refine hK.out _ _ (by first | exact z2 | exact (sf_ hne).trans z2 | exact (sf_ hne).trans ((sf_ hne).trans z2)) (fun hHeld=>?_)
 clear hK K;refine wpAnyH_done k_ ?_ _
 have hs:=(HCl9.out.set 19 (.int .i64 1) d_).set 26 (.int .i64 1) (by rw [List.length_set];decide)
 have hvs:((shX.vs hoX1).set 19 (.int .i64 1)).set 26 (.int .i64 1)=shX.vs (hoX1.take 2) ++ shX.vs hoX2:=k_
 have hk10:=(HK9.out.far g 19 HG.out (.int .i64 1)).far g 26 HG.out (.int .i64 1);generalize (W9.setCell ⟨g,19,none⟩ (.int .i64 1)).setCell ⟨g,26,none⟩ (.int .i64 1)=V5 at *;have b5:=(Below.refl V5.heap.size V5).drew;have HK10:=hj_ (hk10.below b5);have HX10:=hj_ (In_at (S:=shX) (hs.below b5 hs.1) hvs (o:=14) rfl);clear hs hvs hk10 b5 b0 z2 hcl0 g0 g1 t0 t1 hHeld;have z0:=HK10.out.2.1.cell (j:=0) rfl;have z1:=HK10.out.2.1.cell (j:=1) rfl;have z2:=HK10.out.2.1.cell (j:=2) rfl;go_wp2_with fail;refine (ho_phs w.heap.size (some ⟨g,14,none⟩) (w1.heap.size+1) (c' - 2) 1 V5.drew (HH.out _ _ _ _ HK10.out HX10.out) ⟨o_,o_⟩ (HT.out _ _ HK10.out) (HR.out _ _ HK10.out)).mono ?_
 rintro e w11 ⟨rfl,hb⟩;have hk:=HK10.out.below hb;have hx:=HX10.out.below hb;clear z0 z1 z2 hb;obtain ⟨W12,hW12⟩:=ex_ (w11.alloc (.cells #[.string ⟨#[57,49,55,53,48,48,48,47,49,51,49,48,55]⟩,.string ⟨#[48]⟩,.string ⟨#[48]⟩] 71));have hb12:Below w11.heap.size w11 W12:=by rw [hW12];exact (br_).alloc lr_ _
 have HK12:=hj_ (hk.below hb12);have HX12:=hj_ (hx.below hb12);have HP12:=hj_ (show Cells W12 w11.heap.size [.string ⟨#[57,49,55,53,48,48,48,47,49,51,49,48,55]⟩,.string ⟨#[48]⟩,.string ⟨#[48]⟩] by rw [hW12];exact Cells.fresh w11 [.string ⟨#[57,49,55,53,48,48,48,47,49,51,49,48,55]⟩,.string ⟨#[48]⟩,.string ⟨#[48]⟩] _)
 have HW12:=hj_ hW12;have z0:=HK12.out.2.1.cell (j:=0) rfl;have z1:=HK12.out.2.1.cell (j:=1) rfl;have z2:=HK12.out.2.1.cell (j:=2) rfl;rw [hW12] at z0 z1 z2;clear hk hx hb12 hW12;go_wp2_with fail;rw [← HW12.out];refine (q0f4 w.heap.size (some ⟨g,14,none⟩) (w1.heap.size+1) (c' - 2) W12 (HH.out _ _ _ _ HK12.out HX12.out) ⟨o_,o_⟩).mono ?_
 rintro e w13 ⟨rfl,hb⟩;have HK13:=hj_ (HK12.out.below hb);have hp13:=HP12.out.below hb HP12.out.1;clear z0 z1 z2 hb;have hb14:Below w13.heap.size w13 (w13.alloc (.cells #[.int .i64 1200,.int .i64 0,.int .i64 0] 47)):=(br_).alloc lr_ _;have hp14:=hp13.below hb14 hp13.1;have p0:=hp14.at_ (j:=0) rfl
 have p1:=hp14.at_ (j:=1) rfl
 have p2:=hp14.at_ (j:=2) rfl
 have HB14:=hj_ (HB.out.trans ((ht_ HK13.out.1 hb14).mono HB.out.size));clear hp13 hb14 hp14;go_wp2_with fail;go_ret;exact ⟨rfl,HB14.out⟩
end Go.Proofs.YtabhjdmmfdfpeaaGreatDoor
