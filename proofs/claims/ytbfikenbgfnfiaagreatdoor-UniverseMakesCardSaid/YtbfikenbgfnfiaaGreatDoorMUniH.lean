/- Lemmas and contracts of functions, joined for the claim: URef13j, URef13m. -/
import Derived.Test.YtbfikenbgfnfiaaGreatDoorMUniF
import Derived.Test.YtbfikenbgfnfiaaGreatDoorMUniD
import Derived.Test.YtbfikenbgfnfiaaGreatDoorMUniA
import Derived.Deep.RegionHeld3
import Derived.StillTailTactics
import Derived.Test.YtbfikenbgfnfiaaGreatDoorMUniG
import Derived.Test.YtbfikenbgfnfiaaGreatDoorMUp
namespace Go.Proofs.YtbfikenbgfnfiaaGreatDoor
set_option maxHeartbeats 32000000
open _root_.Go.Proofs.Tryz

section
open Go.RowKit
theorem qsk {l:List Am} {ch at_ ho:Int} (h:∀ i (h:i<l.length),(decide (l[i].ch=ch) && decide (l[i].at_=at_))=false):toldT l ch at_ ho=sR (ho:Rat):=by
 unfold toldT;rw [List.find?_eq_none.2 fun x hx=>by
  obtain ⟨i,hi,rfl⟩:=List.getElem_of_mem hx;rw [h i hi];decide]
theorem qsn {l:List Am} {ch at_ ho:Int} {k:Nat} (hk:k<l.length) (h:∀ i (h:i<l.length),i<k→(decide (l[i].ch=ch) && decide (l[i].at_=at_))=false) (hy:(decide (l[k].ch=ch) && decide (l[k].at_=at_))=true):toldT l ch at_ ho=l[k].lev:=by
 unfold toldT;have e:l.find? (fun a=>decide (a.ch=ch) && decide (a.at_=at_))=some l[k]:=by
  rw [List.find?_eq_some_iff_append];refine ⟨hy,l.take k,l.drop (k+1),?_,fun a ha=>?_⟩
  ·rw [← List.drop_eq_getElem_cons hk,List.take_append_drop]
  ·obtain ⟨i,hi,rfl⟩:=List.getElem_of_mem ha
   rw [List.length_take] at hi;rw [List.getElem_take,h i (by omega) (by omega)]
   rfl
 rw [e]
set_option maxRecDepth 100000 in
theorem qnt (A:Option Addr) (n c:Nat) (l:List Am) (ch:Int) (f:FC) (w:World) (hl:shAm.In w A n l) (hn:n≤9223372036854775806) (hlev:isLev f.ho) :
  Calls prog 122 #[.slice A n c,.int .i64 ch,f.val] w fun e w'=>e=.returned (.string (toldT l ch f.at_ f.ho))∧Below w.heap.size w w':=by
 obtain ⟨rfl,_⟩:=id hl;have HWh:=Lib.hid (fun w=>qrj (x:=f.ho) (by unfold isLev at hlev;omega) (by unfold isLev at hlev;omega) w)
 obtain ⟨at_,bits,co,fi,cu,ho,lo,hi,sn,A',n',c'⟩:=f
 dsimp only at HWh;show Calls prog 122 #[.slice A l.length c,.int .i64 ch,.agg #[.int .i64 at_,.int .i64 bits,.int .i64 co,.int .i64 fi,.int .i64 cu,.int .i64 ho,.int .i64 lo,.int .i64 hi,.bool sn,.slice A' n' c']] w fun e w'=>e=.returned (.string (toldT l ch at_ ho))∧Below w.heap.size w w'
 have HSo:=Lib.hid (fun k (hk:k<l.length) h hy=>qsn (l:=l) (ch:=ch) (at_:=at_) (ho:=ho) hk h hy)
 have HNo:=Lib.hid (fun h=>qsk (l:=l) (ch:=ch) (at_:=at_) (ho:=ho) h)
 generalize sR (ho:Rat)=S at *;generalize toldT l ch at_ ho=E at *
 obtain ⟨W,hW⟩:∃ W,W=(w.alloc (.cells #[.int .i64 at_,.int .i64 bits,.int .i64 co,.int .i64 fi,.int .i64 cu,.int .i64 ho,.int .i64 lo,.int .i64 hi,.bool sn,.slice A' n' c'] 90)):=⟨_,rfl⟩
 obtain ⟨hB0,hK0⟩:=box1 #[.int .i64 at_,.int .i64 bits,.int .i64 co,.int .i64 fi,.int .i64 cu,.int .i64 ho,.int .i64 lo,.int .i64 hi,.bool sn,.slice A' n' c'] 90 w W hW
 have hK:∀ w',Below W.heap.size W w'→w'.cell? ⟨w.heap.size,0,none⟩=some (.int .i64 at_)∧w'.cell? ⟨w.heap.size,1,none⟩=some (.int .i64 bits)∧w'.cell? ⟨w.heap.size,2,none⟩=some (.int .i64 co)∧w'.cell? ⟨w.heap.size,3,none⟩=some (.int .i64 fi)∧w'.cell? ⟨w.heap.size,4,none⟩=some (.int .i64 cu)∧w'.cell? ⟨w.heap.size,5,none⟩=some (.int .i64 ho)∧w'.cell? ⟨w.heap.size,6,none⟩=some (.int .i64 lo)∧w'.cell? ⟨w.heap.size,7,none⟩=some (.int .i64 hi)∧w'.cell? ⟨w.heap.size,8,none⟩=some (.bool sn)∧w'.cell? ⟨w.heap.size,9,none⟩=some (.slice A' n' c'):=fun w' h=>⟨(hK0 w' h) 0 _ rfl,(hK0 w' h) 1 _ rfl,(hK0 w' h) 2 _ rfl,(hK0 w' h) 3 _ rfl,(hK0 w' h) 4 _ rfl,(hK0 w' h) 5 _ rfl,(hK0 w' h) 6 _ rfl,(hK0 w' h) 7 _ rfl,(hK0 w' h) 8 _ rfl,(hK0 w' h) 9 _ rfl⟩
 have HK:=Lib.hid hK;have HW:=Lib.hid hW;have HB0:=Lib.hid hB0;have hB:=Below.refl W.heap.size W;obtain ⟨c0,c1,c2,c3,c4,c5,c6,c7,c8,c9⟩:=hK W hB;clear hW hB0 hK hK0;have HL:=Lib.hid (hl.below HB0.out);have HFin:=Lib.hid (fun (w':World) (h:Below W.heap.size W w')=>HB0.out.trans (h.mono HB0.out.size))
 clear hl hlev
 go_enter func122,ntmps122
 go_wp2_with fail;rw [← HW.out]
 go_loopw [7] (fun iv wr=>∃ k:Nat,k≤l.length∧iv=.int .i64 k∧(∀ i (h:i<l.length),i<k→(decide (l[i].ch=ch) && decide (l[i].at_=at_))=false)∧Below W.heap.size W wr) (fun iv _=>l.length-(intOf iv).toNat)
 case atStart=>exact ⟨0,Nat.zero_le _,rfl,fun i _ h=>absurd h (Nat.not_lt_zero _),Below.refl _ _⟩
 case round =>
  obtain ⟨k,hk,rfl,hall,hB⟩:=hrel;have HAll:=Lib.hid hall;clear hall;obtain ⟨c0,c1,c2,c3,c4,c5,c6,c7,c8,c9⟩:=HK.out _ hB
  by_cases hlt:k<l.length
  case neg =>
   obtain rfl:k=l.length:=by omega
   have hE:=HNo.out (fun i hi=>HAll.out i hi hi)
   subst hE;go_wp2_with fail;refine uq_ (HWh.out _) hB ?_;clear hB;intro wk hB;go_wp2_with fail;go_ret;exact ⟨rfl,HFin.out _ hB⟩
  case pos =>
   obtain ⟨b,o,rfl,hbl,hcell⟩:=am_at HL.out (by omega)
   obtain ⟨k0,k1,k2⟩:=hcell k hlt;have p0:=(hB.cell (p:=⟨b,o+k*3,none⟩) hbl).trans k0;have p1:=(hB.cell (p:=⟨b,o+k*3+1,none⟩) hbl).trans k1;have p2:=(hB.cell (p:=⟨b,o+k*3+2,none⟩) hbl).trans k2;have hbw:b<wr.heap.size:=Nat.lt_of_lt_of_le hbl hB.size;have i0:(0:Int)≤(k:Int):=by omega
   have i1:(k:Int)<(l.length:Int):=by omega
   have w0:IntKind.i64.wrap ((k:Int)+1)=(k:Int)+1:=IntWalk.i64_in _ (by omega)
   have n1:w.heap.size<wr.heap.size:=Nat.lt_of_lt_of_le (by rw [HW.out];simp) hB.size
   have n2:¬ w.heap.size=wr.heap.size:=by omega
   have n3:¬ b=wr.heap.size:=by omega
   have HYe:=Lib.hid (fun hy=>HSo.out k hlt (fun i hi h=>HAll.out i hi h) hy)
   have HNx:=Lib.hid (fun hy=>qj3 (p:=fun a:Am=>decide (a.ch=ch) && decide (a.at_=at_)) hlt HAll.out hy)
   clear hcell k0 k1 k2;generalize l[k]=a at *;obtain ⟨ac,aa,al⟩:=a;dsimp only at p0 p1 p2 HYe HNx
   by_cases h1:ac=ch
   ·have e1:(ac == ch)=true:=by simpa using h1
    by_cases h2:aa=at_
    ·have e2:(aa == at_)=true:=by simpa using h2
     have hE:=HYe.out (by rw [decide_eq_true h1,decide_eq_true h2];rfl)
     subst hE;clear h1 h2 HYe HNx;go_wp2_with fail;go_quiet (fail);replace hB:=q18 hB nq;go_wp2_with fail;go_ret;exact ⟨rfl,HFin.out _ hB⟩
    ·have e2:(aa == at_)=false:=by simpa using h2
     have HN:=Lib.hid (HNx.out (by rw [decide_eq_false h2,Bool.and_false]))
     clear h1 h2 HYe HNx;go_wp2_with fail;go_quiet (fail);replace hB:=q18 hB nq;go_wp2_with fail
     go_roundw
     case rel=>exact ⟨k+1,by omega,by go_num,HN.out,hB⟩
     case measure=>simp [intOf];omega
   ·have e1:(ac == ch)=false:=by simpa using h1
    have HN:=Lib.hid (HNx.out (by rw [decide_eq_false h1,Bool.false_and]))
    clear h1 HYe HNx;go_wp2_with fail;go_quiet (fail);replace hB:=q18 hB nq;go_wp2_with fail
    go_roundw
    case rel=>exact ⟨k+1,by omega,by go_num,HN.out,hB⟩
    case measure=>simp [intOf];omega
set_option maxRecDepth 100000 in
theorem qm3 (A0:Option Addr) (n0 d0:Nat) (A1:Option Addr) (n1 d1:Nat) (A2:Option Addr) (n2 d2:Nat) (P:List PC) (x:Fx) (p:PC) (w:World) (hp:shPr.In w A1 n1 P) (hn:n1≤9223372036854775806) (hx:pcF P x.pr=some p) :
  Calls prog 119 #[.agg #[.slice A0 n0 d0,.slice A1 n1 d1,.slice A2 n2 d2],x.val] w fun e w'=>e=.returned (.slice p.A p.n p.c)∧Below w.heap.size w w':=by
 obtain ⟨rfl,_⟩:=id hp;have HPf:=Lib.hid (fun w' hl=>qna A1 P.length d1 P x.pr w' hl hn)
 have hnn:¬ pcI P x.pr<0:=fun h=>by rw [qgv.1 h] at hx;cases hx
 have hat:=pcI_at hnn;rw [hx] at hat;have hge:=pcI_ge P x.pr;have hlt:=pcI_lt P x.pr;obtain ⟨k,hk⟩:∃ k:Nat,pcI P x.pr=k:=⟨(pcI P x.pr).toNat,by omega⟩
 have hkl:k<P.length:=by omega
 rw [hk,show ((k:Int).toNat)=k by omega,qa1 hkl] at hat
 rw [hk] at HPf
 injection hat with hat
 obtain ⟨ch,pt,pr,un,ad,ph,cb⟩:=x;dsimp only at HPf;show Calls prog 119 #[.agg #[.slice A0 n0 d0,.slice A1 P.length d1,.slice A2 n2 d2],.agg #[.int .i64 ch,.int .i64 pt,.string pr,.int .i64 un,.int .i64 ad,.int .i64 ph,.string cb]] w fun e w'=>e=.returned (.slice p.A p.n p.c)∧Below w.heap.size w w'
 obtain ⟨W,hW⟩:∃ W,W=((w.alloc (.cells #[.slice A0 n0 d0,.slice A1 P.length d1,.slice A2 n2 d2] 29)).alloc (.cells #[.int .i64 ch,.int .i64 pt,.string pr,.int .i64 un,.int .i64 ad,.int .i64 ph,.string cb] 55)):=⟨_,rfl⟩;obtain ⟨hB0,hK0⟩:=box2 #[.slice A0 n0 d0,.slice A1 P.length d1,.slice A2 n2 d2] 29 #[.int .i64 ch,.int .i64 pt,.string pr,.int .i64 un,.int .i64 ad,.int .i64 ph,.string cb] 55 w W hW;have hK:∀ w',Below W.heap.size W w'→w'.cell? ⟨w.heap.size,0,none⟩=some (.slice A0 n0 d0)∧w'.cell? ⟨w.heap.size,1,none⟩=some (.slice A1 P.length d1)∧w'.cell? ⟨w.heap.size,2,none⟩=some (.slice A2 n2 d2)∧w'.cell? ⟨w.heap.size+1,0,none⟩=some (.int .i64 ch)∧w'.cell? ⟨w.heap.size+1,1,none⟩=some (.int .i64 pt)∧w'.cell? ⟨w.heap.size+1,2,none⟩=some (.string pr)∧w'.cell? ⟨w.heap.size+1,3,none⟩=some (.int .i64 un)∧w'.cell? ⟨w.heap.size+1,4,none⟩=some (.int .i64 ad)∧w'.cell? ⟨w.heap.size+1,5,none⟩=some (.int .i64 ph)∧w'.cell? ⟨w.heap.size+1,6,none⟩=some (.string cb):=fun w' h=>⟨(hK0 w' h).1 0 _ rfl,(hK0 w' h).1 1 _ rfl,(hK0 w' h).1 2 _ rfl,(hK0 w' h).2 0 _ rfl,(hK0 w' h).2 1 _ rfl,(hK0 w' h).2 2 _ rfl,(hK0 w' h).2 3 _ rfl,(hK0 w' h).2 4 _ rfl,(hK0 w' h).2 5 _ rfl,(hK0 w' h).2 6 _ rfl⟩
 have HK:=Lib.hid hK;have HW:=Lib.hid hW;have HB0:=Lib.hid hB0;have hB:=Below.refl W.heap.size W;obtain ⟨c0,c1,c2,c3,c4,c5,c6,c7,c8,c9⟩:=hK W hB;clear hW hB0 hK hK0;have HP:=Lib.hid (hp.below HB0.out);obtain ⟨b,o,rfl,hbl,hcell⟩:=pc_at HP.out (by omega)
 have HC:=Lib.hid (fun (w':World) (h:Below W.heap.size W w')=>(h.cell (p:=⟨b,o+k*4+3,none⟩) hbl).trans (hcell k hkl).2.2.2)
 have i0:(0:Int)≤(k:Int):=by omega
 have i1:(k:Int)<(P.length:Int):=by omega
 rw [← hat] at HC;clear hp hnn hge hlt hk hx hcell hat;obtain ⟨ps,pf,pw,pA,pn,pc⟩:=p;dsimp only at HC ⊢;have HBw:=Lib.hid (fun (w':World) (h:Below W.heap.size W w')=>Nat.lt_of_lt_of_le hbl h.size)
 clear hbl
 go_enter func119,ntmps119
 go_wp2_with fail;rw [← HW.out];replace hB:=q18 hB 1;obtain ⟨c0,c1,c2,c3,c4,c5,c6,c7,c8,c9⟩:=HK.out _ hB;have p0:=HC.out _ hB;have hbw:=HBw.out _ hB
 go_region_held3 (fun w'=>w'.cell? ⟨w.heap.size,1,none⟩=some (.slice (some ⟨b,o,none⟩) P.length d1)∧w'.cell? ⟨w.heap.size+1,2,none⟩=some (.string pr)∧w'.cell? ⟨b,o+k*4+3,none⟩=some (.slice pA pn pc)) (exact ⟨c1,c5,p0⟩) ((go_at_call 42;refine uq_ (HPf.out _ (HP.out.below hB)) hB ?_;clear hB;intro wk hB;obtain ⟨c0,c1,c2,c3,c4,c5,c6,c7,c8,c9⟩:=HK.out _ hB;have p0:=HC.out _ hB;have hbw:=HBw.out _ hB))
 go_wp2_with fail;go_ret;exact ⟨rfl,HB0.out.trans (hB.mono HB0.out.size)⟩
set_option maxRecDepth 100000 in
theorem qnk (f:FC) (x:Fx) (raw:Int) (B:Nat) (pg:List UInt8) (w:World) (hb:f.bits=8∨f.bits=16) (hr0:0≤raw) (hr1:raw≤if f.bits=8 then 255 else 65535)
  (hco:0≤x.ad-1+f.co∧x.ad-1+f.co<512) (hfi:f.bits=16→0≤x.ad-1+f.fi∧x.ad-1+f.fi<512) (had:1≤x.ad∧x.ad≤512) (hR:RowAt w B (pgRow pg) 5) (hlen:pg.length=512) :
  Calls prog 120 #[.slice (some ⟨B,0,none⟩) 512 512,x.val,f.val,.int .i64 raw] w fun e w'=>e=.returned (.tuple #[])∧RowAt w' B (pgRow (if f.bits=8 then pg.set (x.ad-1+f.co).toNat (u8v raw) else (pg.set (x.ad-1+f.co).toNat (u8v (raw / 256))).set (x.ad-1+f.fi).toNat (u8v (raw % 256)))) 5∧w.grownBy w' (some B):=by
 have HPu0:=Lib.hid (fun w'=>qnf f raw w' hr0 (by by_cases h:f.bits=8 <;> simp [h] at hr1 <;> omega))
 obtain ⟨at_,bits,co,fi,cu,ho,lo,hi,sn,A',n',c'⟩:=f
 obtain ⟨ch,pt,pr,un,ad,ph,cb⟩:=x;dsimp only at hb hr1 hco hfi had HPu0;have HPu:=Lib.hid (show ∀ w',Calls prog 185 #[.agg #[.int .i64 at_,.int .i64 bits,.int .i64 co,.int .i64 fi,.int .i64 cu,.int .i64 ho,.int .i64 lo,.int .i64 hi,.bool sn,.slice A' n' c'],.int .i64 raw] w' fun e w''=>∃ A2 n2 c2,e=.returned (.slice A2 n2 c2)∧Is w'' A2 n2 (if bits=8 then [raw] else [raw / 256,raw % 256])∧Below w'.heap.size w' w'' from HPu0.out)
 show Calls prog 120 #[.slice (some ⟨B,0,none⟩) 512 512,.agg #[.int .i64 ch,.int .i64 pt,.string pr,.int .i64 un,.int .i64 ad,.int .i64 ph,.string cb],.agg #[.int .i64 at_,.int .i64 bits,.int .i64 co,.int .i64 fi,.int .i64 cu,.int .i64 ho,.int .i64 lo,.int .i64 hi,.bool sn,.slice A' n' c'],.int .i64 raw] w fun e w'=>e=.returned (.tuple #[])∧RowAt w' B (pgRow (if bits=8 then pg.set (ad-1+co).toNat (u8v raw) else (pg.set (ad-1+co).toNat (u8v (raw / 256))).set (ad-1+fi).toNat (u8v (raw % 256)))) 5∧w.grownBy w' (some B)
 have hBl:=hR.lt;obtain ⟨W,hW⟩:∃ W,W=((w.alloc (.cells #[.int .i64 ch,.int .i64 pt,.string pr,.int .i64 un,.int .i64 ad,.int .i64 ph,.string cb] 55)).alloc (.cells #[.int .i64 at_,.int .i64 bits,.int .i64 co,.int .i64 fi,.int .i64 cu,.int .i64 ho,.int .i64 lo,.int .i64 hi,.bool sn,.slice A' n' c'] 90)):=⟨_,rfl⟩
 obtain ⟨hB0,hK0⟩:=box2 #[.int .i64 ch,.int .i64 pt,.string pr,.int .i64 un,.int .i64 ad,.int .i64 ph,.string cb] 55 #[.int .i64 at_,.int .i64 bits,.int .i64 co,.int .i64 fi,.int .i64 cu,.int .i64 ho,.int .i64 lo,.int .i64 hi,.bool sn,.slice A' n' c'] 90 w W hW
 have hK:∀ w',Below W.heap.size W w'→w'.cell? ⟨w.heap.size,0,none⟩=some (.int .i64 ch)∧w'.cell? ⟨w.heap.size,1,none⟩=some (.int .i64 pt)∧w'.cell? ⟨w.heap.size,2,none⟩=some (.string pr)∧w'.cell? ⟨w.heap.size,3,none⟩=some (.int .i64 un)∧w'.cell? ⟨w.heap.size,4,none⟩=some (.int .i64 ad)∧w'.cell? ⟨w.heap.size,5,none⟩=some (.int .i64 ph)∧w'.cell? ⟨w.heap.size,6,none⟩=some (.string cb)∧w'.cell? ⟨w.heap.size+1,0,none⟩=some (.int .i64 at_)∧w'.cell? ⟨w.heap.size+1,1,none⟩=some (.int .i64 bits)∧w'.cell? ⟨w.heap.size+1,2,none⟩=some (.int .i64 co)∧w'.cell? ⟨w.heap.size+1,3,none⟩=some (.int .i64 fi)∧w'.cell? ⟨w.heap.size+1,4,none⟩=some (.int .i64 cu)∧w'.cell? ⟨w.heap.size+1,5,none⟩=some (.int .i64 ho)∧w'.cell? ⟨w.heap.size+1,6,none⟩=some (.int .i64 lo)∧w'.cell? ⟨w.heap.size+1,7,none⟩=some (.int .i64 hi)∧w'.cell? ⟨w.heap.size+1,8,none⟩=some (.bool sn)∧w'.cell? ⟨w.heap.size+1,9,none⟩=some (.slice A' n' c'):=fun w' h=>⟨(hK0 w' h).1 0 _ rfl,(hK0 w' h).1 1 _ rfl,(hK0 w' h).1 2 _ rfl,(hK0 w' h).1 3 _ rfl,(hK0 w' h).1 4 _ rfl,(hK0 w' h).1 5 _ rfl,(hK0 w' h).1 6 _ rfl,(hK0 w' h).2 0 _ rfl,(hK0 w' h).2 1 _ rfl,(hK0 w' h).2 2 _ rfl,(hK0 w' h).2 3 _ rfl,(hK0 w' h).2 4 _ rfl,(hK0 w' h).2 5 _ rfl,(hK0 w' h).2 6 _ rfl,(hK0 w' h).2 7 _ rfl,(hK0 w' h).2 8 _ rfl,(hK0 w' h).2 9 _ rfl⟩
 have HK:=Lib.hid hK;have HW:=Lib.hid hW;have HB0:=Lib.hid hB0;have hB:=Below.refl W.heap.size W;obtain ⟨c0,c1,c2,c3,c4,c5,c6,c7,c8,c9,c10,c11,c12,c13,c14,c15,c16⟩:=hK W hB;clear hW hB0 hK hK0;have HRw:=Lib.hid (fun (w':World) (h:Below W.heap.size W w')=>(hR.below HB0.out hBl).below h (Nat.lt_of_lt_of_le hBl HB0.out.size))
 obtain ⟨a,ha⟩:∃ a:Nat,(a:Int)=ad-1+co:=⟨(ad-1+co).toNat,by omega⟩
 have hal:a<pg.length:=by omega
 rw [← ha,show ((a:Int)).toNat=a by omega]
 have w1:IntKind.i64.wrap (ad-1)=ad-1:=IntWalk.i64_in _ (by omega)
 have w2:IntKind.i64.wrap (ad-1+co)=(a:Int):=by rw [← ha];exact IntWalk.i64_in _ (by omega)
 have j0:(0:Int)≤(a:Int):=by omega
 have j1:(a:Int)<512:=by omega
 clear HPu0 hR
 rcases hb with rfl | rfl
 ·rw [if_pos rfl] at hr1 ⊢
  simp only [if_true] at HPu;have w3:IntKind.u8.wrap raw=raw:=IntWalk.u8_in _ (by omega)
  clear hco hfi ha
  go_enter func120,ntmps120
  go_wp2_with fail;rw [← HW.out];refine (HPu.out _).mono ?_;rintro e wk ⟨A2,n2,c2,rfl,hIs,hb⟩;replace hB:=hB.trans (hb.mono hB.size);clear hb;obtain ⟨b2,o2,rfl,hbl,h0⟩:=hIs.at1 (k:=0) (by simp)
  have hn2:=hIs.1;obtain rfl:n2=1:=by simpa using hn2
  have q0:wk.cell? ⟨b2,o2,none⟩=some (.int .i64 raw):=by simpa using h0
  obtain ⟨c0,c1,c2,c3,c4,c5,c6,c7,c8,c9,c10,c11,c12,c13,c14,c15,c16⟩:=HK.out _ hB;have hRk:=HRw.out _ hB;have z0:=hRk.cell (qhk hal);have z1:=hRk.fr a;clear h0 hIs hn2;go_wp2_with fail
  go_still_tail 12,(by kernel_rfl)
  change wpList _ _ _ _ _ wk.drew;have hg0:=(qae (row:=some B) (HB0.out.trans (hB.mono HB0.out.size))).trans (qae (row:=some B) (Below.refl wk.heap.size wk).drew);have hR5:=RowAt.below hRk (Below.refl wk.heap.size wk).drew hRk.lt;generalize wk.drew=w5 at *;have z0:=hR5.cell (qhk hal);have z1:=hR5.fr a;have HPost:=Lib.hid (show RowAt (w5.setCell ⟨B,a,none⟩ (.int .u8 raw)) B (pgRow (pg.set a (u8v raw))) 5∧w.grownBy (w5.setCell ⟨B,a,none⟩ (.int .u8 raw)) (some B) from ⟨by rw [← qhm pg a hr0 (by omega)];exact hR5.set a _,hg0.trans (qag _ _ _ _)⟩)
  generalize (pg[a].toNat:Int)=old at z0;clear hg0 hR5 hRk q0;go_wp2_with fail
  go_end0
  exact ⟨rfl,HPost.out⟩
 ·rw [if_neg (by decide)] at hr1 ⊢
  rw [if_neg (show ¬ (16:Int)=8 by decide)] at HPu
  have hfi:=hfi rfl;obtain ⟨f,hf⟩:∃ f:Nat,(f:Int)=ad-1+fi:=⟨(ad-1+fi).toNat,by omega⟩
  have hfl:f<(pg.set a (u8v (raw / 256))).length:=by rw [List.length_set];omega
  rw [← hf,show ((f:Int)).toNat=f by omega]
  have w3:IntKind.u8.wrap (raw / 256)=raw / 256:=IntWalk.u8_in _ (by omega)
  have w4:IntKind.u8.wrap (raw % 256)=raw % 256:=IntWalk.u8_in _ (by omega)
  have w5:IntKind.i64.wrap (ad-1+fi)=(f:Int):=by rw [← hf];exact IntWalk.i64_in _ (by omega)
  have k0:(0:Int)≤(f:Int):=by omega
  have k1:(f:Int)<512:=by omega
  have b0:0≤raw / 256:=by omega
  have b1:raw / 256≤255:=by omega
  have b2:0≤raw % 256:=by omega
  have b3:raw % 256≤255:=by omega
  generalize raw / 256=hi8 at *;generalize raw % 256=lo8 at *;clear hco hfi ha hf
  go_enter func120,ntmps120
  go_wp2_with fail;rw [← HW.out];refine (HPu.out _).mono ?_;rintro e wk ⟨A2,n2,c2,rfl,hIs,hb⟩;replace hB:=hB.trans (hb.mono hB.size);clear hb;obtain ⟨x2,o2,rfl,hbl,h0⟩:=hIs.at1 (k:=0) (by simp)
  obtain ⟨x3,o3,e3,-,h1⟩:=hIs.at1 (k:=1) (by simp)
  cases e3
  have hn2:=hIs.1;obtain rfl:n2=2:=by simpa using hn2
  have q0:wk.cell? ⟨x2,o2,none⟩=some (.int .i64 hi8):=by simpa using h0
  have q1:wk.cell? ⟨x2,o2+1,none⟩=some (.int .i64 lo8):=by simpa using h1
  obtain ⟨c0,c1,c2,c3,c4,c5,c6,c7,c8,c9,c10,c11,c12,c13,c14,c15,c16⟩:=HK.out _ hB;have hRk:=HRw.out _ hB;clear h0 h1 hIs hn2;go_wp2_with fail
  go_still_tail 12,(by kernel_rfl)
  change wpList _ _ _ _ _ wk.drew;have hg0:=(qae (row:=some B) (HB0.out.trans (hB.mono HB0.out.size))).trans (qae (row:=some B) (Below.refl wk.heap.size wk).drew);have hR5:=RowAt.below hRk (Below.refl wk.heap.size wk).drew hRk.lt;replace hB:=hB.drew;have q2:wk.drew.cell? ⟨x2,o2,none⟩=some (.int .i64 hi8):=q0;have q3:wk.drew.cell? ⟨x2,o2+1,none⟩=some (.int .i64 lo8):=q1;have hx2:x2<wk.drew.heap.size:=hbl;generalize wk.drew=v5 at *;obtain ⟨c0,c1,c2,c3,c4,c5,c6,c7,c8,c9,c10,c11,c12,c13,c14,c15,c16⟩:=HK.out _ hB;have z0:=hR5.cell (qhk hal);have z1:=hR5.fr a;have hnB:=row_ne hR5 q3;have hPB:w.heap.size≠B:=by omega
  have hPB2:w.heap.size+1≠B:=by omega
  have hPw:w.heap.size+1<v5.heap.size:=Nat.lt_of_lt_of_le (by rw [HW.out];simp) hB.size
  obtain ⟨V6,hV6⟩:∃ V6,V6=v5.setCell ⟨B,a,none⟩ (.int .u8 hi8):=⟨_,rfl⟩;have hgs:v5.grownBy V6 (some B):=by rw [hV6];exact qag _ _ _ _
  have hR6:RowAt V6 B (pgRow (pg.set a (u8v hi8))) 5:=by rw [hV6,← qhm pg a b0 b1];exact hR5.set a _
  have HV6:=Lib.hid hV6;have HG6:=Lib.hid (hg0.trans hgs);have HC6:=Lib.hid (And.intro ((qaf hgs (p:=⟨w.heap.size,4,none⟩) (by show w.heap.size<_;omega) hPB).trans c4) (And.intro ((qaf hgs (p:=⟨w.heap.size+1,3,none⟩) hPw hPB2).trans c10) ((qaf hgs (p:=⟨x2,o2+1,none⟩) hx2 hnB).trans q3)))
  have HR6:=Lib.hid hR6;generalize (pg[a].toNat:Int)=old at z0;clear hg0 hR5 hRk q0 q1 hgs hR6 hV6;go_wp2_with fail;rw [← HV6.out];obtain ⟨d4,d10,d3⟩:=HC6.out
  go_still_tail 12,(by kernel_rfl)
  change wpList _ _ _ _ _ V6.drew;have hR7:=RowAt.below HR6.out (Below.refl V6.heap.size V6).drew HR6.out.lt;have hg7:=HG6.out.trans (qae (row:=some B) (Below.refl V6.heap.size V6).drew);generalize V6.drew=v7 at *;have y0:=hR7.cell (qhk hfl);have y1:=hR7.fr f;have HPost:=Lib.hid (show RowAt (v7.setCell ⟨B,f,none⟩ (.int .u8 lo8)) B (pgRow ((pg.set a (u8v hi8)).set f (u8v lo8))) 5∧w.grownBy (v7.setCell ⟨B,f,none⟩ (.int .u8 lo8)) (some B) from ⟨by rw [← qhm _ f b2 b3];exact hR7.set f _,hg7.trans (qag _ _ _ _)⟩)
  generalize ((pg.set a (u8v hi8))[f].toNat:Int)=old2 at y0;clear hg7 hR7;go_wp2_with fail
  go_end0
  exact ⟨rfl,HPost.out⟩
end

section
open Go.RowKit
theorem qmn (f:FC) (wl:List Slt) (A':Option Addr) (n' c':Nat) (H:List Hd) (L:List (List PT)) (s:ByteArray) (w:World) (hl:InN w A' n' H L) (hn:n'≤9223372036854775807) (hs:s.size≤120) (hc:chkR s.data.toList=0) (ha:aloneE (f.fea wl) L=0) :
  Calls prog 121 #[f.val,.slice A' n' c',.string s] w fun e w'=>e=.returned (.int .i64 (rawV (f.fea wl) L s))∧Below w.heap.size w w':=by
 have hE:rawE (f.fea wl) L s=0:=q7i ha hc
 rcases qct s (by omega) with ⟨hc2,-⟩ | ⟨r,hr',-,hv,hc2,-⟩
 ·exact absurd hc hc2
 ·have hz:SzR 120 r:=qpr hr' hs (by decide)
  have hV:rawV (f.fea wl) L s=madeR f.lo f.hi (qi6 f.cu L) r:=by unfold rawV;rw [hE,if_neg (by decide),hv];rfl
  rw [hV];subst hr';exact qmo f wl A' n' c' H L hz w hl hn ha
set_option maxRecDepth 100000 in
theorem qkp (A0:Option Addr) (n0 d0:Nat) (H:List Hd) (L:List (List PT)) (A1:Option Addr) (n1 d1:Nat) (PL:List (PC × List Fea)) (A2:Option Addr) (n2 d2:Nat) (X:List Fx) (A3:Option Addr) (n3 d3:Nat) (l:List Am) (w:World)
  (hl:InN w A0 n0 H L) (hn0:n0≤9223372036854775807) (hp:InPs w A1 n1 PL) (hn1:n1≤9223372036854775806) (hx:shX.In w A2 n2 X)
  (ha:shAm.In w A3 n3 l) (hn3:n3≤9223372036854775806) (hs:∀ a ∈ l,a.lev.size≤120) (hu:uniE L PL X=0) (hg:givE l=0) :
  Calls prog 65 #[.agg #[.slice A0 n0 d0,.slice A1 n1 d1,.slice A2 n2 d2],.slice A3 n3 d3] w fun e w'=>∃ r,e=.returned r∧shFm.Out 66 (frmG (usedU X) (pageV L l PL X) 8) w r w':=by
 obtain ⟨hA0,hX64,hFx,hFe⟩:=qu8 hu;have HTold:=Lib.hid (fun (ch at_ ho:Int) (hho:isLev ho)=>qsl hg hs (ch:=ch) (at_:=at_) hho)
 have HFx:=Lib.hid hFx;have HFe:=Lib.hid hFe;have HFea:=Lib.hid (fun (x:Fx) (p:PC) w h1 h2=>qm3 A0 n0 d0 A1 n1 d1 A2 n2 d2 (PL.map Prod.fst) x p w h1 hn1 h2)
 have HTo:=Lib.hid (fun (ch:Int) (f:FC) w h1 h2=>qnt A3 n3 d3 l ch f w h1 hn3 h2)
 have HMa:=Lib.hid (fun (f:FC) (wl:List Slt) (s:ByteArray) w h1 h2 h3 h4=>qmn f wl A0 n0 d0 H L s w h1 hn0 h2 h3 h4)
 obtain ⟨W,hW⟩:∃ W,W=(w.alloc (.cells #[.slice A0 n0 d0,.slice A1 n1 d1,.slice A2 n2 d2] 29)):=⟨_,rfl⟩;obtain ⟨hB0,hK0⟩:=box1 #[.slice A0 n0 d0,.slice A1 n1 d1,.slice A2 n2 d2] 29 w W hW;have hK:∀ w',Below W.heap.size W w'→w'.cell? ⟨w.heap.size,0,none⟩=some (.slice A0 n0 d0)∧w'.cell? ⟨w.heap.size,1,none⟩=some (.slice A1 n1 d1)∧w'.cell? ⟨w.heap.size,2,none⟩=some (.slice A2 n2 d2):=fun w' h=>⟨(hK0 w' h) 0 _ rfl,(hK0 w' h) 1 _ rfl,(hK0 w' h) 2 _ rfl⟩
 have HK:=Lib.hid hK;have HW:=Lib.hid hW;have HB0:=Lib.hid hB0;have hB:=Below.refl W.heap.size W;obtain ⟨c0,c1,c2⟩:=hK W hB;clear hW hB0 hK hK0;have HL:=Lib.hid (hl.below HB0.out);have HP:=Lib.hid (hp.below HB0.out);have HX:=Lib.hid (hx.below HB0.out);have HA:=Lib.hid (ha.below HB0.out);have HFin:=Lib.hid (fun (w':World) (h:Below W.heap.size W w')=>HB0.out.trans (h.mono HB0.out.size))
 obtain rfl:n2=X.length:=hx.1;have hmk:∀ w,(Instr.makeSlice 120 (.int .i64 512) (.int .i64 512)).run prog w=.ok (.slice (some ⟨w.heap.size,0,none⟩) 512 512) (w.alloc (.cells (pgRow q00p) 5)):=fun w=>by kernel_rfl
 obtain ⟨Z,hZ⟩:∃ Z,Z=pgRow q00p:=⟨_,rfl⟩;rw [← hZ] at hmk;have HZ:=Lib.hid hZ;have HWs:=Lib.hid (show w.heap.size<W.heap.size by rw [HW.out];simp)
 clear hl hp hx ha hs hn0 hn1 hn3 hu hg hA0 hFx hFe hZ
 go_enter func65,ntmps65
 go_wp2_with fail;rw [← HW.out]
 go_loopw [5,6] (fun vo iv wr=>∃ k:Nat,k≤8∧iv=.int .i64 ((k:Int)+1)∧wr.ownsRow W.heap.size 66 2 vo (frmG (usedU X) (pageV L l PL X) k).length (shFm.vs (frmG (usedU X) (pageV L l PL X) k))∧Below W.heap.size W wr) (fun _ iv _=>9-(intOf iv).toNat)
 case atStart=>exact ⟨0,Nat.zero_le _,rfl,World.ownsRow_nil _ _ _ _,Below.refl _ _⟩
 case round =>
  obtain ⟨k,hk,rfl,hown,hb⟩:=hrel;have Hb:=Lib.hid hb;obtain ⟨Ao,co,rfl⟩:=qfu hown;have HOw:=Lib.hid hown
  by_cases hlt:k<8
  case neg =>
   obtain rfl:k=8:=by omega
   clear hown hb;go_wp2_with fail;go_ret;exact ⟨_,rfl,Sh.Out.up (⟨Ao,co,rfl,HOw.out,Hb.out⟩:shFm.Out 66 (frmG (usedU X) (pageV L l PL X) 8) W _ _) HB0.out⟩
  case pos =>
   have hk1:(k:Int)+1≤8:=by omega
   have w1:IntKind.i64.wrap ((k:Int)+1+1)=(k:Int)+1+1:=IntWalk.i64_in _ (by omega)
   have hst:frmG (usedU X) (pageV L l PL X) (k+1)=frmG (usedU X) (pageV L l PL X) k ++ (if usedU X ((k:Int)+1) then [⟨(k:Int)+1,⟨(pageV L l PL X ((k:Int)+1)).toArray⟩⟩] else []):=rfl
   have HSt:=Lib.hid hst;have HLn:=Lib.hid (q9k (usedU X) (pageV L l PL X) k);obtain ⟨V,hV⟩:∃ V,V=wr:=⟨_,rfl⟩;obtain ⟨V1,hV1⟩:∃ V1,V1=wr.alloc (.cells Z 5):=⟨_,rfl⟩;have hbv:Below V.heap.size V V1:=by rw [hV1,hV];exact (Below.refl _ _).alloc (Nat.le_refl _) _
   have HBV:=Lib.hid hbv;have HR1:=Lib.hid (show RowAt V1 V.heap.size (pgRow q00p) 5 by rw [hV1,hV,← HZ.out];exact RowAt.fresh _ _ _)
   have HV1:=Lib.hid hV1;rw [← hV] at Hb HOw;have HSV:=Lib.hid (show W.heap.size≤V.heap.size from Hb.out.size)
   have HVr:=Lib.hid hV;generalize hku:(k:Int)+1=u at *;have HKu:=Lib.hid hku;clear hst hV hV1 hbv hown hb hku;go_wp2_with fail;rw [← HV1.out,← HVr.out];have HBW:=Lib.hid (fun (w':World) (h:Below V.heap.size V w')=>Hb.out.trans (h.mono Hb.out.size))
   go_loopw [8,9] (fun uv iv w3=>∃ i:Nat,i≤X.length∧iv=.int .i64 i∧uv=.bool (usedU (X.take i) u)∧RowAt w3 V.heap.size (pgRow (pageV L l PL (X.take i) u)) 5∧Below V.heap.size V w3) (fun _ iv _=>X.length-(intOf iv).toNat)
   case atStart=>exact ⟨0,Nat.zero_le _,rfl,rfl,HR1.out,HBV.out⟩
   case round =>
    obtain ⟨i,hi,rfl,rfl,hR,hBv⟩:=hrel
    rename World=>V3
    have HR:=Lib.hid hR;have HBv:=Lib.hid hBv;obtain ⟨c0,c1,c2⟩:=HK.out _ (HBW.out _ hBv)
    by_cases hlt3:i<X.length
    case neg =>
     obtain rfl:i=X.length:=by omega
     rw [List.take_length] at HR ⊢;have hcv:=qhl V3 V.heap.size (pageV L l PL X u) HR.out (qg7 L l PL u X);have hown:=qfq HOw.out hBv;have hbb:=HBW.out _ hBv;have Hbb:=Lib.hid hbb;have hsz:=hbb.size;have hln:=HLn.out;generalize hus:usedU X u=q at *
     cases q with
     | false =>
      have hs2:=HSt.out;rw [if_neg Bool.false_ne_true,List.append_nil] at hs2;have HS2:=Lib.hid hs2;have HOw2:=Lib.hid hown;clear hs2 hcv hown hbb hln;go_wp2_with fail
      go_roundw
      case rel=>exact ⟨k+1,by omega,by have:=HKu.out;simp;omega,by rw [HS2.out];exact HOw2.out,Hbb.out⟩
      case measure=>have:=HKu.out;simp [intOf];omega
     | true =>
      have hs2:=HSt.out;rw [if_pos rfl] at hs2;have hvs:shFm.vs (frmG (usedU X) (pageV L l PL X) (k+1))=shFm.vs (frmG (usedU X) (pageV L l PL X) k) ++ [.int .i64 u,.string ⟨(pageV L l PL X u).toArray⟩]:=by rw [hs2,Sh.vs_append,Sh.vs_one1];rfl
      have hlnn:(frmG (usedU X) (pageV L l PL X) (k+1)).length=(frmG (usedU X) (pageV L l PL X) k).length+1:=by rw [hs2,List.length_append];rfl
      have HS2:=Lib.hid (And.intro hlnn hvs);generalize (⟨(pageV L l PL X u).toArray⟩:ByteArray)=str at *;clear hs2 hvs hlnn hbb hus;go_wp2_with (at_builtin;refine q003 rfl _ _ _ rfl W.heap.size _ _ 2 24 underlying33 infoFm rfl (by omega) _ (frmG (usedU X) (pageV L l PL X) k).length (shFm.vs (frmG (usedU X) (pageV L l PL X) k)) rfl hown [.int .i64 u,.string str] _ _ _ rfl (by first | rfl | simp) rfl (fm_one _ _) (by unfold maxLen;omega) (by omega) (by first | omega | (simp;omega) | simp) ?_;intro g cap w1 hown1 hg1)
      go_roundw
      case rel=>exact ⟨k+1,by omega,by have:=HKu.out;simp;omega,by rw [HS2.out.1,HS2.out.2];exact hown1,q1a Hbb.out (Nat.le_refl _) hown hg1⟩
      case measure=>have:=HKu.out;simp [intOf];omega
    case pos =>
     obtain ⟨b,o,rfl,hbl,hcell⟩:=fx_at HX.out (by omega)
     have hk4:=hcell i hlt3;have kk:=fun (q:Nat)=>(HBW.out _ hBv).cell (p:=⟨b,q,none⟩) hbl
     have hbw:b<V3.heap.size:=Nat.lt_of_lt_of_le hbl (HBW.out _ hBv).size;obtain ⟨hrn,hf1,hf2,p,hp⟩:=HFx.out i hlt3;have hpf:=q83 PL X[i].pr;rw [hp] at hpf;obtain ⟨y,hy,hyp⟩:∃ y,PL.find? (fun x=>decide (x.1.s=X[i].pr))=some y∧y.1=p:=by
      cases hq:PL.find? (fun x=>decide (x.1.s=X[i].pr)) with
      | none=>rw [hq] at hpf;cases hpf
      | some y=>rw [hq] at hpf;injection hpf with hpf;exact ⟨y,rfl,hpf.symm⟩
     have hym:=List.mem_of_find?_eq_some hy;have hfv:featV PL X[i].pr=y.2:=by unfold featV;rw [hy]
     obtain ⟨H',hH'⟩:=HP.out.2 y hym;have hFe:=HFe.out y hym;have hft:footV (PL.map Prod.fst) X[i].pr=y.1.ft:=by rw [q9g hp,hyp]
     rw [hft] at hf1 hf2;have hpv:=qg9 L l PL (X.take i) X[i] u;rw [← List.take_succ_eq_append_getElem hlt3] at hpv;have huv:=qyn (X.take i) X[i] u;rw [← List.take_succ_eq_append_getElem hlt3] at huv;have i0:(0:Int)≤(i:Int):=by omega
     have i1:(i:Int)<(X.length:Int):=by omega
     have w0:IntKind.i64.wrap ((i:Int)+1)=(i:Int)+1:=IntWalk.i64_in _ (by omega)
     have HFea2:=Lib.hid (fun w h1=>HFea.out X[i] p w h1 hp)
     have HSet0:=Lib.hid (fun (f:FC) (raw:Int) (B:Nat) (pg:List UInt8) (w:World)=>qnk f X[i] raw B pg w)
     clear hcell hp hpf hy hft;rw [hfv] at hpv;generalize X[i]=x at *;obtain ⟨ch,pt,pr,un,ad,ph,cb⟩:=x;obtain ⟨k0,k1,k2,k3,k4,k5,k6⟩:=hk4;have p0:=(kk _).trans k0;have p1:=(kk _).trans k1;have p2:=(kk _).trans k2;have p3:=(kk _).trans k3;have p4:=(kk _).trans k4;have p5:=(kk _).trans k5;have p6:=(kk _).trans k6;clear k0 k1 k2 k3 k4 k5 k6 kk;have had:1≤ad∧ad≤512:=by
      unfold qkt at hrn;simp only [Bool.and_eq_true,decide_eq_true_eq] at hrn;exact hrn.1.2
     dsimp only at p0 p1 p2 p3 p4 p5 p6 hf1 hf2 hpv huv HSet0;obtain ⟨⟨ys,yf,yw,yA,yn,yc⟩,yl⟩:=y;dsimp only at hyp hpv hf1 hf2 hH' hFe;subst hyp;have HPv:=Lib.hid hpv;have HUv:=Lib.hid huv;have HH':=Lib.hid hH';have HFe2:=Lib.hid hFe;have HAd:=Lib.hid (And.intro had hf2);replace HFea2:=Lib.hid (show ∀ w',shPr.In w' A1 n1 (PL.map Prod.fst)→Calls prog 119 #[.agg #[.slice A0 n0 d0,.slice A1 n1 d1,.slice (some ⟨b,o,none⟩) X.length d2],.agg #[.int .i64 ch,.int .i64 pt,.string pr,.int .i64 un,.int .i64 ad,.int .i64 ph,.string cb]] w' fun e w''=>e=.returned (.slice yA yn yc)∧Below w'.heap.size w' w'' from HFea2.out)
     obtain ⟨W1,hW1⟩:∃ W1,W1=V3.alloc (.cells #[.int .i64 ch,.int .i64 pt,.string pr,.int .i64 un,.int .i64 ad,.int .i64 ph,.string cb] 55):=⟨_,rfl⟩;have hb1:Below V3.heap.size V3 W1:=by rw [hW1];exact (Below.refl _ _).alloc (Nat.le_refl _) _
     have HX1:=Lib.hid (show Cells W1 V3.heap.size [.int .i64 ch,.int .i64 pt,.string pr,.int .i64 un,.int .i64 ad,.int .i64 ph,.string cb] by rw [hW1];exact Cells.fresh V3 [.int .i64 ch,.int .i64 pt,.string pr,.int .i64 un,.int .i64 ad,.int .i64 ph,.string cb] _)
     have HB1:=Lib.hid (hBv.trans (hb1.mono hBv.size));have HR1':=Lib.hid (HR.out.below hb1 HR.out.lt);have HW1:=Lib.hid hW1;have hQB:V3.heap.size≠V.heap.size:=by have:=HR.out.lt;omega
     have HQB:=Lib.hid hQB;clear hpv huv hH' hFe hW1 hb1 hrn hf1 hf2 had hfv hR
     by_cases hun:un=u
     case neg =>
      have e1:(un == u)=false:=by simpa using hun
      have e2:(un != u)=true:=by simpa using hun
      have hp2:=HPv.out;rw [if_neg hun] at hp2;have hu2:=HUv.out;rw [decide_eq_false hun,Bool.or_false] at hu2;have HP2:=Lib.hid (And.intro hp2 hu2);clear hun hp2 hu2;go_wp2_with fail;rw [← HW1.out]
      go_roundw
      case rel=>exact ⟨i+1,hlt3,by go_num,by rw [HP2.out.2],by rw [HP2.out.1];exact HR1'.out,HB1.out⟩
      case measure=>simp [intOf];omega
     case pos =>
      have e1:(un == u)=true:=by simpa using hun
      have e2:(un != u)=false:=by simpa using hun
      have hp2:=HPv.out;rw [if_pos hun] at hp2;have hu2:=HUv.out;rw [decide_eq_true hun,Bool.or_true] at hu2;have HP2:=Lib.hid (And.intro hp2 hu2);clear hun hp2 hu2;have n1:w.heap.size<V3.heap.size:=by have:=HWs.out;have:=HSV.out;have:=hBv.size;omega
      have n2:¬ w.heap.size=V3.heap.size:=by omega
      go_wp2_with fail;rw [← HW1.out];refine (HFea2.out _ (HP.out.below (HBW.out _ HB1.out)).1).mono ?_;rintro e w5 ⟨rfl,hb⟩;have HX5:=Lib.hid (HX1.out.below hb HX1.out.1);have HB5:=Lib.hid (HB1.out.trans (hb.mono HB1.out.size));have HR5:=Lib.hid (HR1'.out.below hb HR1'.out.lt);have hynl:yn=yl.length:=by have:=HH'.out.1.1.1;have:=HH'.out.1.2.1;omega
      have hyn2:=HH'.out.2.1;subst hynl;clear hb c0 c1 c2 p0 p1 p2 p3 p4 p5 p6 n1 n2;go_wp2_with fail
      go_loopw [12] (fun iv w6=>∃ j:Nat,j≤yl.length∧iv=.int .i64 j∧Below V.heap.size V w6∧RowAt w6 V.heap.size (pgRow (setX L l ⟨ch,pt,pr,un,ad,ph,cb⟩ (pageV L l PL (X.take i) u) (yl.take j))) 5∧Cells w6 V3.heap.size [.int .i64 ch,.int .i64 pt,.string pr,.int .i64 un,.int .i64 ad,.int .i64 ph,.string cb]) (fun iv _=>yl.length-(intOf iv).toNat)
      case atStart=>exact ⟨0,Nat.zero_le _,rfl,HB5.out,HR5.out,HX5.out⟩
      case round =>
       obtain ⟨j,hj,rfl,hB,hR,hX⟩:=hrel
       by_cases hlt2:j<yl.length
       case neg =>
        obtain rfl:j=yl.length:=by omega
        rw [List.take_length] at hR;have HB6:=Lib.hid hB;have HR6:=Lib.hid hR;clear hB hR hX;go_wp2_with fail
        go_roundw
        case rel=>exact ⟨i+1,hlt3,by go_num,by rw [HP2.out.2],by rw [HP2.out.1];exact HR6.out,HB6.out⟩
        case measure=>simp [intOf];omega
       case pos =>
        have hjH:j<H'.length:=by have:=HH'.out.1.2.1;omega
        obtain ⟨b2,o2,rfl,hbl2,hc2⟩:=ft_at HH'.out.1.1 (by omega)
        have hkf:=hc2 j hjH;have hfx:=(HH'.out.1.2.2 j hjH hlt2).1;have hgd:=HFe2.out yl[j] (List.getElem_mem hlt2);have hpush:=qpi L l ⟨ch,pt,pr,un,ad,ph,cb⟩ (pageV L l PL (X.take i) u) (yl.take j) yl[j];rw [← List.take_succ_eq_append_getElem hlt2] at hpush;have j0:(0:Int)≤(j:Int):=by omega
        have j1:(j:Int)<(yl.length:Int):=by omega
        have w2:IntKind.i64.wrap ((j:Int)+1)=(j:Int)+1:=IntWalk.i64_in _ (by omega)
        obtain ⟨had,hf2⟩:=HAd.out;rw [hfx] at hgd hpush;generalize yl[j].wh=wh at *;clear hfx hc2;generalize H'[j]=f at *;obtain ⟨at_,bits,co,fi,cu,ho,lo,hi,sn,fA,fn,fc⟩:=f
        obtain ⟨hal,hco1,hfi1⟩:=hgd;have hhome:isLev ho:=q0f hal;have htl:=HTold.out ch at_ ho hhome
        have hrawE:rawE (FC.fea ⟨at_,bits,co,fi,cu,ho,lo,hi,sn,fA,fn,fc⟩ wh) L (toldT l ch at_ ho)=0:=q7i hal htl.1
        obtain ⟨hb816,-,-,hr2,hr3,-⟩:=ql3 hrawE;have hco:0≤ad-1+co∧ad-1+co<512:=by
         have h:=hco1;change 0≤co∧co<yf at h;omega
        have hfi:bits=16→0≤ad-1+fi∧ad-1+fi<512:=fun h16=>by
         have h:=hfi1 h16;change 0≤fi∧fi<yf at h;omega
        have hpush2:setX L l ⟨ch,pt,pr,un,ad,ph,cb⟩ (pageV L l PL (X.take i) u) (yl.take (j+1))=setF (setX L l ⟨ch,pt,pr,un,ad,ph,cb⟩ (pageV L l PL (X.take i) u) (yl.take j)) ad (FC.fea ⟨at_,bits,co,fi,cu,ho,lo,hi,sn,fA,fn,fc⟩ wh) (rawV (FC.fea ⟨at_,bits,co,fi,cu,ho,lo,hi,sn,fA,fn,fc⟩ wh) L (toldT l ch at_ ho)):=hpush
        have HPush:=Lib.hid hpush2;have hpl:(setX L l ⟨ch,pt,pr,un,ad,ph,cb⟩ (pageV L l PL (X.take i) u) (yl.take j)).length=512:=by rw [qph];exact qg7 L l PL u (X.take i)
        have HToF:=Lib.hid (fun w h1=>HTo.out ch ⟨at_,bits,co,fi,cu,ho,lo,hi,sn,fA,fn,fc⟩ w h1 hhome)
        have HMaF:=Lib.hid (fun w h1=>HMa.out ⟨at_,bits,co,fi,cu,ho,lo,hi,sn,fA,fn,fc⟩ wh (toldT l ch at_ ho) w h1 htl.2 htl.1 hal)
        have HSeF:=Lib.hid (fun w h1=>HSet0.out ⟨at_,bits,co,fi,cu,ho,lo,hi,sn,fA,fn,fc⟩ (rawV (FC.fea ⟨at_,bits,co,fi,cu,ho,lo,hi,sn,fA,fn,fc⟩ wh) L (toldT l ch at_ ho)) V.heap.size _ w hb816 hr2 hr3 hco hfi had h1 hpl)
        replace HToF:=Lib.hid (show ∀ w',shAm.In w' A3 n3 l→Calls prog 122 #[.slice A3 n3 d3,.int .i64 ch,.agg #[.int .i64 at_,.int .i64 bits,.int .i64 co,.int .i64 fi,.int .i64 cu,.int .i64 ho,.int .i64 lo,.int .i64 hi,.bool sn,.slice fA fn fc]] w' fun e w''=>e=.returned (.string (toldT l ch at_ ho))∧Below w'.heap.size w' w'' from HToF.out)
        replace HMaF:=Lib.hid (show ∀ w',InN w' A0 n0 H L→Calls prog 121 #[.agg #[.int .i64 at_,.int .i64 bits,.int .i64 co,.int .i64 fi,.int .i64 cu,.int .i64 ho,.int .i64 lo,.int .i64 hi,.bool sn,.slice fA fn fc],.slice A0 n0 d0,.string (toldT l ch at_ ho)] w' fun e w''=>e=.returned (.int .i64 (rawV (FC.fea ⟨at_,bits,co,fi,cu,ho,lo,hi,sn,fA,fn,fc⟩ wh) L (toldT l ch at_ ho)))∧Below w'.heap.size w' w'' from HMaF.out)
        replace HSeF:=Lib.hid (show ∀ w',RowAt w' V.heap.size (pgRow (setX L l ⟨ch,pt,pr,un,ad,ph,cb⟩ (pageV L l PL (X.take i) u) (yl.take j))) 5→Calls prog 120 #[.slice (some ⟨V.heap.size,0,none⟩) 512 512,.agg #[.int .i64 ch,.int .i64 pt,.string pr,.int .i64 un,.int .i64 ad,.int .i64 ph,.string cb],.agg #[.int .i64 at_,.int .i64 bits,.int .i64 co,.int .i64 fi,.int .i64 cu,.int .i64 ho,.int .i64 lo,.int .i64 hi,.bool sn,.slice fA fn fc],.int .i64 (rawV (FC.fea ⟨at_,bits,co,fi,cu,ho,lo,hi,sn,fA,fn,fc⟩ wh) L (toldT l ch at_ ho))] w' fun e w''=>e=.returned (.tuple #[])∧RowAt w'' V.heap.size (pgRow (setF (setX L l ⟨ch,pt,pr,un,ad,ph,cb⟩ (pageV L l PL (X.take i) u) (yl.take j)) ad (FC.fea ⟨at_,bits,co,fi,cu,ho,lo,hi,sn,fA,fn,fc⟩ wh) (rawV (FC.fea ⟨at_,bits,co,fi,cu,ho,lo,hi,sn,fA,fn,fc⟩ wh) L (toldT l ch at_ ho)))) 5∧w'.grownBy w'' (some V.heap.size) from HSeF.out)
        have HSS:=Lib.hid (fun (w':World) (h:Below V.heap.size V w') (hx:Cells w' V3.heap.size [.int .i64 ch,.int .i64 pt,.string pr,.int .i64 un,.int .i64 ad,.int .i64 ph,.string cb])=>show w'.cell? ⟨w.heap.size,0,none⟩=some (.slice A0 n0 d0)∧w'.cell? ⟨V3.heap.size,0,none⟩=some (.int .i64 ch)∧w'.cell? ⟨V3.heap.size,1,none⟩=some (.int .i64 pt)∧w'.cell? ⟨V3.heap.size,2,none⟩=some (.string pr)∧w'.cell? ⟨V3.heap.size,3,none⟩=some (.int .i64 un)∧w'.cell? ⟨V3.heap.size,4,none⟩=some (.int .i64 ad)∧w'.cell? ⟨V3.heap.size,5,none⟩=some (.int .i64 ph)∧w'.cell? ⟨V3.heap.size,6,none⟩=some (.string cb)∧w'.cell? ⟨b2,o2+j*10,none⟩=some (.int .i64 at_)∧w'.cell? ⟨b2,o2+j*10+1,none⟩=some (.int .i64 bits)∧w'.cell? ⟨b2,o2+j*10+2,none⟩=some (.int .i64 co)∧w'.cell? ⟨b2,o2+j*10+3,none⟩=some (.int .i64 fi)∧w'.cell? ⟨b2,o2+j*10+4,none⟩=some (.int .i64 cu)∧w'.cell? ⟨b2,o2+j*10+5,none⟩=some (.int .i64 ho)∧w'.cell? ⟨b2,o2+j*10+6,none⟩=some (.int .i64 lo)∧w'.cell? ⟨b2,o2+j*10+7,none⟩=some (.int .i64 hi)∧w'.cell? ⟨b2,o2+j*10+8,none⟩=some (.bool sn)∧w'.cell? ⟨b2,o2+j*10+9,none⟩=some (.slice fA fn fc) from
         have h2:=HBW.out _ h
         ⟨(HK.out _ h2).1,hx.at_ (j:=0) rfl,hx.at_ (j:=1) rfl,hx.at_ (j:=2) rfl,hx.at_ (j:=3) rfl,hx.at_ (j:=4) rfl,hx.at_ (j:=5) rfl,hx.at_ (j:=6) rfl,(h2.cell (p:=⟨b2,o2+j*10,none⟩) hbl2).trans hkf.1,(h2.cell (p:=⟨b2,o2+j*10+1,none⟩) hbl2).trans hkf.2.1,(h2.cell (p:=⟨b2,o2+j*10+2,none⟩) hbl2).trans hkf.2.2.1,(h2.cell (p:=⟨b2,o2+j*10+3,none⟩) hbl2).trans hkf.2.2.2.1,(h2.cell (p:=⟨b2,o2+j*10+4,none⟩) hbl2).trans hkf.2.2.2.2.1,(h2.cell (p:=⟨b2,o2+j*10+5,none⟩) hbl2).trans hkf.2.2.2.2.2.1,(h2.cell (p:=⟨b2,o2+j*10+6,none⟩) hbl2).trans hkf.2.2.2.2.2.2.1,(h2.cell (p:=⟨b2,o2+j*10+7,none⟩) hbl2).trans hkf.2.2.2.2.2.2.2.1,(h2.cell (p:=⟨b2,o2+j*10+8,none⟩) hbl2).trans hkf.2.2.2.2.2.2.2.2.1,(h2.cell (p:=⟨b2,o2+j*10+9,none⟩) hbl2).trans hkf.2.2.2.2.2.2.2.2.2⟩)
        have HBl:=Lib.hid (fun (w':World) (h:Below V.heap.size V w')=>Nat.lt_of_lt_of_le hbl2 (HBW.out _ h).size)
        have HAw:=Lib.hid (fun (w':World) (h:Below V.heap.size V w')=>HA.out.below (HBW.out _ h))
        have HLw:=Lib.hid (fun (w':World) (h:Below V.heap.size V w')=>HL.out.below (HBW.out _ h))
        clear hkf hpush hpush2 hal hco1 hfi1 htl hb816 hr2 hr3 hco hfi hrawE hhome hpl had hf2;generalize setF (setX L l ⟨ch,pt,pr,un,ad,ph,cb⟩ (pageV L l PL (X.take i) u) (yl.take j)) ad (FC.fea ⟨at_,bits,co,fi,cu,ho,lo,hi,sn,fA,fn,fc⟩ wh) (rawV (FC.fea ⟨at_,bits,co,fi,cu,ho,lo,hi,sn,fA,fn,fc⟩ wh) L (toldT l ch at_ ho))=pg2 at *
        generalize setX L l ⟨ch,pt,pr,un,ad,ph,cb⟩ (pageV L l PL (X.take i) u) (yl.take j)=pg1 at *;generalize rawV (FC.fea ⟨at_,bits,co,fi,cu,ho,lo,hi,sn,fA,fn,fc⟩ wh) L (toldT l ch at_ ho)=R at *
        generalize toldT l ch at_ ho=TT at *
        go_wp2_with fail;replace hB:=q18 hB 1;replace hR:=RowAt.below hR (q18 (Below.refl wr.heap.size wr) 1) hR.lt;replace hX:=hX.below (q18 (Below.refl wr.heap.size wr) 1) hX.1;obtain ⟨r0,x0,x1,x2,x3,x4,x5,x6,q0,q1,q2,q3,q4,q5,q6,q7,q8,q9⟩:=HSS.out _ hB hX;have hbw2:=HBl.out _ hB
        go_region_held3 (fun w'=>w'.cell? ⟨w.heap.size,0,none⟩=some (.slice A0 n0 d0)∧w'.cell? ⟨V3.heap.size,0,none⟩=some (.int .i64 ch)∧w'.cell? ⟨V3.heap.size,1,none⟩=some (.int .i64 pt)∧w'.cell? ⟨V3.heap.size,2,none⟩=some (.string pr)∧w'.cell? ⟨V3.heap.size,3,none⟩=some (.int .i64 un)∧w'.cell? ⟨V3.heap.size,4,none⟩=some (.int .i64 ad)∧w'.cell? ⟨V3.heap.size,5,none⟩=some (.int .i64 ph)∧w'.cell? ⟨V3.heap.size,6,none⟩=some (.string cb)∧w'.cell? ⟨b2,o2+j*10,none⟩=some (.int .i64 at_)∧w'.cell? ⟨b2,o2+j*10+1,none⟩=some (.int .i64 bits)∧w'.cell? ⟨b2,o2+j*10+2,none⟩=some (.int .i64 co)∧w'.cell? ⟨b2,o2+j*10+3,none⟩=some (.int .i64 fi)∧w'.cell? ⟨b2,o2+j*10+4,none⟩=some (.int .i64 cu)∧w'.cell? ⟨b2,o2+j*10+5,none⟩=some (.int .i64 ho)∧w'.cell? ⟨b2,o2+j*10+6,none⟩=some (.int .i64 lo)∧w'.cell? ⟨b2,o2+j*10+7,none⟩=some (.int .i64 hi)∧w'.cell? ⟨b2,o2+j*10+8,none⟩=some (.bool sn)∧w'.cell? ⟨b2,o2+j*10+9,none⟩=some (.slice fA fn fc)) (exact ⟨r0,x0,x1,x2,x3,x4,x5,x6,q0,q1,q2,q3,q4,q5,q6,q7,q8,q9⟩) (first | (go_at_call 122;refine (HToF.out _ (HAw.out _ hB)).mono ?_;rintro e wk ⟨rfl,hb⟩;replace hR:=hR.below hb hR.lt;replace hX:=hX.below hb hX.1;replace hB:=hB.trans (hb.mono hB.size);clear hb;obtain ⟨r0,x0,x1,x2,x3,x4,x5,x6,q0,q1,q2,q3,q4,q5,q6,q7,q8,q9⟩:=HSS.out _ hB hX;have hbw2:=HBl.out _ hB) | (go_at_call 121;refine (HMaF.out _ (HLw.out _ hB)).mono ?_;rintro e wk ⟨rfl,hb⟩;replace hR:=hR.below hb hR.lt;replace hX:=hX.below hb hX.1;replace hB:=hB.trans (hb.mono hB.size);clear hb;obtain ⟨r0,x0,x1,x2,x3,x4,x5,x6,q0,q1,q2,q3,q4,q5,q6,q7,q8,q9⟩:=HSS.out _ hB hX;have hbw2:=HBl.out _ hB) | (go_at_call 120;refine (HSeF.out _ hR).mono ?_;rintro e wk ⟨rfl,hR2,hg⟩;replace hX:=hX.grown hg HQB.out;replace hB:=hB.grown hg hB.size (fun q e=>by cases e;exact Nat.le_refl _);clear hR hg;have hR:=hR2;clear hR2;obtain ⟨r0,x0,x1,x2,x3,x4,x5,x6,q0,q1,q2,q3,q4,q5,q6,q7,q8,q9⟩:=HSS.out _ hB hX;have hbw2:=HBl.out _ hB))
        go_wp2_with fail
        go_roundw
        case rel=>exact ⟨j+1,hlt2,by go_num,hB,by rw [HPush.out];exact hR,hX⟩
        case measure=>simp [intOf];omega
end

end Go.Proofs.YtbfikenbgfnfiaaGreatDoor
