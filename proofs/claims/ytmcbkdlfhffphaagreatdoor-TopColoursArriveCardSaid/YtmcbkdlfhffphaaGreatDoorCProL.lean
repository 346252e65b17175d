/- Lemmas. -/
import Derived.Test.YtmcbkdlfhffphaaGreatDoorMUniJ
namespace Go.Proofs.YtmcbkdlfhffphaaGreatDoor
set_option maxHeartbeats 32000000
set_option maxRecDepth 100000
open _root_.Go.Proofs.Tryz

section
open Go.RowKit
theorem mul_bd {x y X Y:Int} (hx:-X≤x∧x≤X) (hy:-Y≤y∧y≤Y):-(X*Y)≤x*y∧x*y≤X*Y:=by
 have h1:x.natAbs≤X.natAbs:=by omega
 have h2:y.natAbs≤Y.natAbs:=by omega
 have h3:=Nat.mul_le_mul h1 h2;rw [← Int.natAbs_mul,← Int.natAbs_mul] at h3;have h4:0≤X*Y:=Int.mul_nonneg (by omega) (by omega)
 omega
theorem q0cy (Pa Pw Pb Pf:Nat) (ay wd by_ lo hi k:Int) (w:World) (a0:isLev ay) (b0:isLev by_) (w0:0<wd∧wd≤65535) (k0:0≤k∧k≤wd) (l0:0≤lo∧lo≤hi∧hi≤65535)
  (ca:w.cell? ⟨Pa,1,none⟩=some (.int .i64 ay)) (cw:w.cell? ⟨Pw,0,none⟩=some (.int .i64 wd)) (cb:w.cell? ⟨Pb,1,none⟩=some (.int .i64 by_)) (cl:w.cell? ⟨Pf,6,none⟩=some (.int .i64 lo)) (ch:w.cell? ⟨Pf,7,none⟩=some (.int .i64 hi)) :
  Calls prog 52 #[.int .i64 k,.pointer (some ⟨Pa,0,none⟩),.pointer (some ⟨Pw,0,none⟩),.pointer (some ⟨Pb,0,none⟩),.pointer (some ⟨Pf,0,none⟩)] w fun e w'=>e=.returned (.int .i64 (rawQ lo hi (ay*wd+(by_-ay)*k) wd))∧∃ m,w' = w.drewN m:=by
 have hn:=q0d3 (a:=(0,ay)) (b:=(wd,by_)) (k:=k) (w:=wd) (by show wd=wd-0;omega) a0 b0 k0.1 k0.2
 have hn:0≤ay*wd+(by_-ay)*k∧ay*wd+(by_-ay)*k≤65535*wd:=by
  unfold segN at hn
  simpa using hn
 unfold isLev at a0 b0;obtain ⟨p1,p2⟩:=mul_bd (x:=ay) (y:=wd) (X:=65535) (Y:=65535) (by omega) (by omega)
 obtain ⟨p3,p4⟩:=mul_bd (x:=by_-ay) (y:=k) (X:=65535) (Y:=65535) (by omega) (by omega)
 have w1:IntKind.i64.wrap (ay*wd)=ay*wd:=IntWalk.i64_in _ (by omega)
 have w2:IntKind.i64.wrap (by_-ay)=by_-ay:=IntWalk.i64_in _ (by omega)
 have w3:IntKind.i64.wrap ((by_-ay)*k)=(by_-ay)*k:=IntWalk.i64_in _ (by omega)
 have w4:IntKind.i64.wrap (ay*wd+(by_-ay)*k)=ay*wd+(by_-ay)*k:=IntWalk.i64_in _ (by omega)
 generalize hN:ay*wd+(by_-ay)*k=N at *;obtain ⟨p5,p6⟩:=mul_bd (x:=2*(hi-lo)) (y:=N) (X:=131070) (Y:=4294836225) (by omega) (by omega)
 have w5:IntKind.i64.wrap (hi-lo)=hi-lo:=IntWalk.i64_in _ (by omega)
 have w6:IntKind.i64.wrap (2*(hi-lo))=2*(hi-lo):=IntWalk.i64_in _ (by omega)
 have w7:IntKind.i64.wrap (2*(hi-lo)*N)=2*(hi-lo)*N:=IntWalk.i64_in _ (by omega)
 have w8:IntKind.i64.wrap (wd*65535)=wd*65535:=IntWalk.i64_in _ (by omega)
 have w9:IntKind.i64.wrap (2*wd)=2*wd:=IntWalk.i64_in _ (by omega)
 have w10:IntKind.i64.wrap (2*wd*65535)=2*wd*65535:=IntWalk.i64_in _ (by omega)
 have hm:0≤2*(hi-lo)*N:=Int.mul_nonneg (by omega) hn.1
 have w11:IntKind.i64.wrap (2*(hi-lo)*N+wd*65535)=2*(hi-lo)*N+wd*65535:=IntWalk.i64_in _ (by omega)
 have hz:(2*wd*65535 == 0)=false:=by rw [beq_eq_false_iff_ne];omega
 generalize hM:2*(hi-lo)*N+wd*65535=M at *;have hM0:0≤M∧M≤1000000000000000:=by omega
 have q1:Int.tdiv M (2*wd*65535)=M / (2*wd*65535):=Int.tdiv_eq_ediv_of_nonneg hM0.1;have q2:0≤M / (2*wd*65535):=Int.ediv_nonneg hM0.1 (by omega)
 have q3:M / (2*wd*65535)≤M:=Int.ediv_le_self _ hM0.1;have w12:IntKind.i64.wrap (M / (2*wd*65535))=M / (2*wd*65535):=IntWalk.i64_in _ (by omega)
 have w13:IntKind.i64.wrap (lo+M / (2*wd*65535))=lo+M / (2*wd*65535):=IntWalk.i64_in _ (by omega)
 have hR:rawQ lo hi N wd=lo+M / (2*wd*65535):=by unfold rawQ;rw [hM]
 rw [hR];have hd1:¬ 2*wd*65535=0:=by omega
 clear p1 p2 p3 p4 p5 p6 hm hM0 q2 q3 hR hn a0 b0 w0 k0 l0
 go_enter func52,ntmps52
 go_wp2_with fail;go_quiet (fail);go_wp2;go_ret;exact ⟨rfl,_,rfl⟩
theorem q0cz (P1 P2 P3:Nat) (pa pw pb pf:Value) (r:Bool) (raw q k:Int) (w:World) (c1:w.cell? ⟨P1,0,none⟩=some (.bool r)) (c2:w.cell? ⟨P2,0,none⟩=some (.func (.func 52) #[] #[pa,pw,pb,pf])) (c3:w.cell? ⟨P3,0,none⟩=some (.int .i64 raw))
  (h:∀ n,Calls prog 52 #[.int .i64 k,pa,pw,pb,pf] (w.drewN n) fun e w'=>e=.returned (.int .i64 q)∧∃ m,w' = (w.drewN n).drewN m) :
  Calls prog 54 #[.int .i64 k,.pointer (some ⟨P1,0,none⟩),.pointer (some ⟨P2,0,none⟩),.pointer (some ⟨P3,0,none⟩)] w fun e w'=>e=.returned (.bool ((r && decide (raw≤q)) || (!r && decide (q≤raw))))∧Below w.heap.size w w':=by
 have hB:=Below.refl w.heap.size w;have H:=hj_ h;clear h
 cases r
 ·by_cases hq:q≤raw
  ·have hd:=decide_eq_true hq
   rw [hd]
   go_enter func54,ntmps54
   go_wp2_with fail;go_quiet ((exact Calls.quiet_of (H.out _)));go_wp2;go_ret;exact ⟨ret_b (by simp),by (repeat' first | exact br_ | assumption | apply Below.drew | apply q18 | refine Below.alloc ?_ ?_ _ | refine Below.setCell ?_ ?_ _ | refine Below.trans ?_ (Below.mono ‹_› ?_) | omega | (simp;omega) | simp)⟩
  ·have hd:=decide_eq_false hq
   rw [hd]
   go_enter func54,ntmps54
   go_wp2_with fail;go_quiet ((exact Calls.quiet_of (H.out _)));go_wp2;go_ret;exact ⟨ret_b (by simp),by (repeat' first | exact br_ | assumption | apply Below.drew | apply q18 | refine Below.alloc ?_ ?_ _ | refine Below.setCell ?_ ?_ _ | refine Below.trans ?_ (Below.mono ‹_› ?_) | omega | (simp;omega) | simp)⟩
 ·by_cases hq:raw≤q
  ·have hd:=decide_eq_true hq
   rw [hd]
   go_enter func54,ntmps54
   go_wp2_with fail;go_quiet ((exact Calls.quiet_of (H.out _)));go_wp2;go_ret;exact ⟨ret_b (by simp),by (repeat' first | exact br_ | assumption | apply Below.drew | apply q18 | refine Below.alloc ?_ ?_ _ | refine Below.setCell ?_ ?_ _ | refine Below.trans ?_ (Below.mono ‹_› ?_) | omega | (simp;omega) | simp)⟩
  ·have hd:=decide_eq_false hq
   rw [hd]
   go_enter func54,ntmps54
   go_wp2_with fail;go_quiet ((exact Calls.quiet_of (H.out _)));go_wp2;go_ret;exact ⟨ret_b (by simp),by (repeat' first | exact br_ | assumption | apply Below.drew | apply q18 | refine Below.alloc ?_ ?_ _ | refine Below.setCell ?_ ?_ _ | refine Below.trans ?_ (Below.mono ‹_› ?_) | omega | (simp;omega) | simp)⟩
end

section
open Go.RowKit
theorem box_at {w W':World} {vs:Array Value} {t:TypeId} {j:Nat} {u:Value} (hu:vs[j]? = some u) (h:Below (w.alloc (.cells vs t)).heap.size (w.alloc (.cells vs t)) W'):W'.cell? ⟨w.heap.size,j,none⟩=some u :=
 (h.cell (p:=⟨w.heap.size,j,none⟩) (by simp)).trans (by rw [World.cell?_alloc_new];exact hu)
theorem q0c8 (X Y X2 Y2 wd:Int) (F:Value) (r:Bool) (wr W:World) (tp ti tf tb:TypeId)
  (hW:W=((((wr.alloc (.cells #[.int .i64 X,.int .i64 Y] tp)).alloc (.cells #[.int .i64 X2,.int .i64 Y2] tp)).alloc (.cells #[.int .i64 wd] ti)).alloc (.cells #[F] tf)).alloc (.cells #[.bool r] tb)) :
  Below wr.heap.size wr W∧W.heap.size=wr.heap.size+5∧∀ w',Below W.heap.size W w'→w'.cell? ⟨wr.heap.size,0,none⟩=some (.int .i64 X)∧w'.cell? ⟨wr.heap.size,1,none⟩=some (.int .i64 Y)∧w'.cell? ⟨wr.heap.size+1,0,none⟩=some (.int .i64 X2)∧w'.cell? ⟨wr.heap.size+1,1,none⟩=some (.int .i64 Y2)∧w'.cell? ⟨wr.heap.size+1+1,0,none⟩=some (.int .i64 wd)∧w'.cell? ⟨wr.heap.size+1+1+1,0,none⟩=some F∧w'.cell? ⟨wr.heap.size+1+1+1+1,0,none⟩=some (.bool r):=by
 obtain ⟨W1,h1⟩:∃ W1,W1=wr.alloc (.cells #[.int .i64 X,.int .i64 Y] tp):=⟨_,rfl⟩;rw [← h1] at hW;obtain ⟨W2,h2⟩:∃ W2,W2=W1.alloc (.cells #[.int .i64 X2,.int .i64 Y2] tp):=⟨_,rfl⟩;rw [← h2] at hW;obtain ⟨W3,h3⟩:∃ W3,W3=W2.alloc (.cells #[.int .i64 wd] ti):=⟨_,rfl⟩;rw [← h3] at hW;obtain ⟨W4,h4⟩:∃ W4,W4=W3.alloc (.cells #[F] tf):=⟨_,rfl⟩;rw [← h4] at hW;have s1:W1.heap.size=wr.heap.size+1:=by rw [h1];simp
 have s2:W2.heap.size=wr.heap.size+2:=by rw [h2];simp [s1]
 have s3:W3.heap.size=wr.heap.size+3:=by rw [h3];simp [s2]
 have s4:W4.heap.size=wr.heap.size+4:=by rw [h4];simp [s3]
 have s5:W.heap.size=wr.heap.size+5:=by rw [hW];simp [s4]
 have b1:Below wr.heap.size wr W1:=by rw [h1];exact (br_).alloc (Nat.le_refl _) _
 have b2:Below W1.heap.size W1 W2:=by rw [h2];exact (br_).alloc (Nat.le_refl _) _
 have b3:Below W2.heap.size W2 W3:=by rw [h3];exact (br_).alloc (Nat.le_refl _) _
 have b4:Below W3.heap.size W3 W4:=by rw [h4];exact (br_).alloc (Nat.le_refl _) _
 have b5:Below W4.heap.size W4 W:=by rw [hW];exact (br_).alloc (Nat.le_refl _) _
 have d4:=b5;have d3:=ht_ b4 d4;have d2:=ht_ b3 d3;have d1:=ht_ b2 d2;have d0:=ht_ b1 d1;refine ⟨d0,s5,fun w' h=>?_⟩
 have k1:=ht_ d1 h;have k2:=ht_ d2 h;have k3:=ht_ d3 h;have k4:=ht_ d4 h;rw [h1] at k1;rw [h2] at k2;rw [h3] at k3;rw [h4] at k4;rw [hW] at h;have e2:=fun (j:Nat) (u:Value) (hu:(#[Value.int .i64 X2,.int .i64 Y2]:Array Value)[j]? = some u)=>box_at hu k2
 have e3:=fun (j:Nat) (u:Value) (hu:(#[Value.int .i64 wd]:Array Value)[j]? = some u)=>box_at hu k3
 have e4:=fun (j:Nat) (u:Value) (hu:(#[F]:Array Value)[j]? = some u)=>box_at hu k4
 have e5:=fun (j:Nat) (u:Value) (hu:(#[Value.bool r]:Array Value)[j]? = some u)=>box_at hu h
 rw [s1] at e2;rw [s2] at e3;rw [s3] at e4;rw [s4] at e5;exact ⟨box_at rfl k1,box_at rfl k1,e2 0 _ rfl,e2 1 _ rfl,e3 0 _ rfl,e4 0 _ rfl,e5 0 _ rfl⟩
theorem q0cv (f:FC) (wl:List Slt) (A':Option Addr) (n' c':Nat) (H:List Hd) (L:List (List PT)) (raw:Int) (w:World) (hw:FW w f wl) (hl:InN w A' n' H L) (hm:∀ h ∈ H,h.n≤9223372036854775807) (hn:n'≤9223372036854775807) (hcp:∀ h ∈ H,h.n≤h.c∧h.c≤9223372036854775807) :
  Calls prog 18 #[f.val,.slice A' n' c',.int .i64 raw] w fun e w'=>e=.returned (.tuple #[.int .i64 (levelV (f.fea wl) L raw),.int .i64 (levelE (f.fea wl) L raw)])∧Below w.heap.size w w':=by
 have HAl0:=hj_ (fun w hw hl=>qgi f wl A' n' c' H L w hw hl hm)
 by_cases ha:aloneE (f.fea wl) L=0
 ·rw [ha] at HAl0
  obtain ⟨hA,hb,hc0,hc1,-,hl0,hl1,hl2,-⟩:=q0g ha;have hL:=hl.2.1;have hLn:=hl.1.1;have HPt0:=hj_ (fun w hl=>qif f A' n' c' H L w hl hc0 (by have:f.cu≤L.length:=hc1;omega) hn hcp)
  have hC:=qi7 hA hc0 hc1;have HOut:=hj_ (fun h=>lv_out (raw:=raw) ha h)
  have HHit:=hj_ (fun k h hk k0=>lv_hit (raw:=raw) (k:=k) ha h hk k0)
  have HMiss:=hj_ (fun h hk=>q0cn (raw:=raw) ha h hk)
  obtain ⟨at_,bits,co,fi,cu,ho,lo,hi,sn,A,n,c⟩:=f
  replace hl0:0≤lo:=hl0;replace hl1:lo≤hi:=hl1;have hl3:hi≤65535:=Int.le_trans hl2 (qso _);replace hC:OkC (qi6 cu L):=hC;have HAl:=hj_ (show ∀ w',FW w' ⟨at_,bits,co,fi,cu,ho,lo,hi,sn,A,n,c⟩ wl→InN w' A' n' H L→Calls prog 50 #[.agg #[.int .i64 at_,.int .i64 bits,.int .i64 co,.int .i64 fi,.int .i64 cu,.int .i64 ho,.int .i64 lo,.int .i64 hi,.bool sn,.slice A n c],.slice A' n' c'] w' fun e w''=>e=.returned (.int .i64 0)∧Below w'.heap.size w' w'' from HAl0.out)
  have HPt:=hj_ (show ∀ w',InN w' A' n' H L→Calls prog 51 #[.agg #[.int .i64 at_,.int .i64 bits,.int .i64 co,.int .i64 fi,.int .i64 cu,.int .i64 ho,.int .i64 lo,.int .i64 hi,.bool sn,.slice A n c],.slice A' n' c'] w' fun e w''=>∃ A2 n2 c2,e=.returned (.slice A2 n2 c2)∧shP.In w'' A2 n2 (qi6 cu L)∧(n2≤c2∧c2≤9223372036854775807)∧Below w'.heap.size w' w'' from HPt0.out)
  obtain ⟨V,hV⟩:∃ V,levelV (FC.fea ⟨at_,bits,co,fi,cu,ho,lo,hi,sn,A,n,c⟩ wl) L raw=V:=⟨_,rfl⟩
  obtain ⟨E,hE⟩:∃ E,levelE (FC.fea ⟨at_,bits,co,fi,cu,ho,lo,hi,sn,A,n,c⟩ wl) L raw=E:=⟨_,rfl⟩
  show Calls prog 18 #[.agg #[.int .i64 at_,.int .i64 bits,.int .i64 co,.int .i64 fi,.int .i64 cu,.int .i64 ho,.int .i64 lo,.int .i64 hi,.bool sn,.slice A n c],.slice A' n' c',.int .i64 raw] w fun e w'=>e=.returned (.tuple #[.int .i64 (levelV (FC.fea ⟨at_,bits,co,fi,cu,ho,lo,hi,sn,A,n,c⟩ wl) L raw),.int .i64 (levelE (FC.fea ⟨at_,bits,co,fi,cu,ho,lo,hi,sn,A,n,c⟩ wl) L raw)])∧Below w.heap.size w w'
  rw [hV,hE];replace HOut:=hj_ (show raw<lo∨hi<raw→E=2∧V=0 from fun h=>by have:=HOut.out h;rw [hE,hV] at this;exact this)
  replace HHit:=hj_ (show ∀ k,¬ (raw<lo∨hi<raw)→lvlOf lo hi (qi6 cu L) raw=k→0≤k→E=0∧V=k from fun k h h1 h2=>by have:=HHit.out k h h1 h2;rw [hE,hV] at this;exact this)
  replace HMiss:=hj_ (show ¬ (raw<lo∨hi<raw)→lvlOf lo hi (qi6 cu L) raw=-1→E=12∧V=0 from fun h h1=>by have:=HMiss.out h h1;rw [hE,hV] at this;exact this)
  obtain ⟨W,hW⟩:∃ W,W=(w.alloc (.cells #[.int .i64 at_,.int .i64 bits,.int .i64 co,.int .i64 fi,.int .i64 cu,.int .i64 ho,.int .i64 lo,.int .i64 hi,.bool sn,.slice A n c] 52)).alloc (.cells #[.int .i64 raw] 3):=⟨_,rfl⟩
  obtain ⟨hB0,hK⟩:=fbox2 at_ bits co fi cu ho lo hi sn A n c (.int .i64 raw) 3 w W hW
  have HK:=hj_ hK;have HW:=hj_ hW;have HB0:=hj_ hB0;have hB:=Below.refl W.heap.size W;obtain ⟨c0,c1,c2,c3,c4,c5,c6,c7,c8,c9,cv⟩:=hK W hB;clear hW hB0 hK;have HL:=hj_ (hw.below HB0.out);have HL2:=hj_ (hl.below HB0.out);clear HAl0 HPt0 hV hE ha hA hb hc0 hc1 hl2 hL hLn hw hl hm hn hcp;generalize qi6 cu L=C at *
  by_cases hr1:raw<lo
  ·obtain ⟨rfl,rfl⟩:=HOut.out (.inl hr1)
   have d1:=decide_eq_true hr1;clear HOut HHit HMiss HPt hC hl0 hl1 hl3 hr1
   go_enter func18,ntmps18
   go_wp2_with fail;rw [← HW.out];refine uq_ (HAl.out _ (HL.out.below hB) (HL2.out.below hB)) hB ?_;clear hB;intro wk hB;obtain ⟨c0,c1,c2,c3,c4,c5,c6,c7,c8,c9,cv⟩:=HK.out _ hB;go_wp2_with fail;go_ret2;exact ⟨rfl,ht_ HB0.out hB⟩
  have d1:=decide_eq_false hr1
  by_cases hr2:hi<raw
  ·obtain ⟨rfl,rfl⟩:=HOut.out (.inr hr2)
   have d2:=decide_eq_true hr2;clear HOut HHit HMiss HPt hC hl0 hl1 hl3 hr1 hr2
   go_enter func18,ntmps18
   go_wp2_with fail;rw [← HW.out];refine uq_ (HAl.out _ (HL.out.below hB) (HL2.out.below hB)) hB ?_;clear hB;intro wk hB;obtain ⟨c0,c1,c2,c3,c4,c5,c6,c7,c8,c9,cv⟩:=HK.out _ hB;go_wp2_with fail;go_ret2;exact ⟨rfl,ht_ HB0.out hB⟩
  have d2:=decide_eq_false hr2;have hrr:¬ (raw<lo∨hi<raw):=by omega
  replace HHit:=hj_ (HHit.out · hrr)
  replace HMiss:=hj_ (HMiss.out hrr);have HC:=hj_ hC;have HLo:=hj_ (And.intro hl0 (And.intro hl1 hl3));have HF0:=hj_ (show w.heap.size+1<W.heap.size by rw [HW.out];simp)
  clear HOut hr1 hr2 hrr hC hl0 hl1 hl3
  go_enter func18,ntmps18
  go_wp2_with fail;rw [← HW.out];refine uq_ (HAl.out _ (HL.out.below hB) (HL2.out.below hB)) hB ?_;clear hB;intro wk hB;obtain ⟨c0,c1,c2,c3,c4,c5,c6,c7,c8,c9,cv⟩:=HK.out _ hB;go_wp2_with fail;refine (HPt.out _ (HL2.out.below hB)).mono ?_;rintro e wk ⟨A2,n2,d2',rfl,hi2,⟨hcap,hcap2⟩,hb⟩;replace hB:=ht_ hB hb;clear hb;obtain ⟨rfl,_⟩:=id hi2;have hC2:=HC.out.two;have hC16:=HC.out.few;obtain ⟨b,o,rfl,hbl,hcell⟩:=pt_at hi2 (by omega)
  have HCell:=hj_ hcell;have HBk:=hj_ hB;have HBl:=hj_ hbl;obtain ⟨c0,c1,c2,c3,c4,c5,c6,c7,c8,c9,cv⟩:=HK.out _ hB;clear hi2 hB HAl HPt HL HL2 hcell hbl;have s1:1≤C.length:=by omega
  have s2:1≤d2':=by omega
  have s3:¬ d2' = 1:=by omega
  have HCap:=hj_ hcap;clear hcap hcap2;go_wp2_with fail
  go_loopw [39] (fun iv wr=>∃ j:Nat,j<C.length∧iv=.int .i64 (j:Int)∧LvlInv lo hi raw C j∧Below wk.heap.size wk wr) (fun iv _=>C.length-(intOf iv).toNat)
  case atStart=>exact ⟨0,by omega,rfl,q0cq HC.out,br_⟩
  case round =>
   obtain ⟨j,hj,rfl,hlow,hBr⟩:=hrel;have HLw:=hj_ hlow;have HBr:=hj_ hBr;have hBW:=ht_ HBk.out hBr;obtain ⟨c0,c1,c2,c3,c4,c5,c6,c7,c8,c9,cv⟩:=HK.out _ hBW;have HBW:=hj_ hBW;clear hlow hBr hBW
   by_cases hj2:j+1=C.length
   ·obtain ⟨rfl,rfl⟩:=HMiss.out (q0co HC.out hj2 HLw.out)
    have i1:((j:Int)<((C.length-1:Nat):Int))=False:=by simp;omega
    go_wp2_with fail;go_ret2;exact ⟨rfl,ht_ HB0.out HBW.out⟩
   ·have hj3:j+1<C.length:=by omega
    obtain ⟨p0,p1⟩:=qiz HBl.out (HCell.out j hj) HBr.out;obtain ⟨q0,q1⟩:=qiz HBl.out (HCell.out (j+1) hj3) HBr.out;have hbw:b<wr.heap.size:=Nat.lt_of_lt_of_le HBl.out HBr.out.size;have hx:=HC.out.inX (i:=j) hj;have hy:=HC.out.inX (i:=j+1) hj3;have hst:=qyc (i:=j) hj3 HC.out.up;obtain ⟨l0,l1,l2⟩:=HLo.out;obtain ⟨N,hN⟩:∃ N:Nat,(N:Int)=C[j+1].1-C[j].1+1:=⟨(C[j+1].1-C[j].1+1).toNat,by omega⟩
    obtain ⟨m,hmN,hm1,hm2⟩:=q0c6 (segP lo hi raw C[j] C[j+1]) N (fun h1 h2=>q0d4 l1 (by omega) h1 h2)
    have HStep:=hj_ (fun hne=>q0cr HC.out hj3 l1 hN hm1 hm2 hne HLw.out)
    have HHit2:=hj_ (fun hm he=>HHit.out _ (q0cp HC.out hj3 hN hm hm1 he HLw.out) (by omega))
    have i2:(j:Int)<(C.length:Int):=by omega
    have w0:IntKind.i64.wrap ((j:Int)+1)=(j:Int)+1:=IntWalk.i64_in _ (by omega)
    have w2:IntKind.i64.wrap (j:Int)=(j:Int):=IntWalk.i64_in _ (by omega)
    generalize C[j]=PA at *;generalize C[j+1]=PB at *;obtain ⟨X2,Y2⟩:=PA;obtain ⟨X,Y⟩:=PB;dsimp only at p0 p1 q0 q1 hx hy hst hN;obtain ⟨hx0,hx1,hx2,hx3⟩:=hx;obtain ⟨hy0,hy1,hy2,hy3⟩:=hy;have lY2:isLev Y2:=⟨hx2,hx3⟩;have lY:isLev Y:=⟨hy2,hy3⟩;have i0:(0:Int)≤(j:Int):=by omega
    have i1:(j:Int)<((C.length-1:Nat):Int):=by omega
    have q0':wr.cell? ⟨b,o+2+j*2,none⟩=some (.int .i64 X):=by rw [show o+2+j*2=o+(j+1)*2 by omega];exact q0
    have q1':wr.cell? ⟨b,o+2+j*2+1,none⟩=some (.int .i64 Y):=by rw [show o+2+j*2+1=o+(j+1)*2+1 by omega];exact q1
    have w5:IntKind.i64.wrap (X-X2)=X-X2:=IntWalk.i64_in _ (by omega)
    have w6:IntKind.i64.wrap (X-X2+1)=X-X2+1:=IntWalk.i64_in _ (by omega)
    obtain ⟨W5,hW5⟩:∃ W5,W5=((((wr.alloc (.cells #[.int .i64 X,.int .i64 Y] 123)).alloc (.cells #[.int .i64 X2,.int .i64 Y2] 123)).alloc (.cells #[.int .i64 (X-X2)] 3)).alloc (.cells #[.func (.func 52) #[] #[.pointer (some ⟨wr.heap.size+1,0,none⟩),.pointer (some ⟨wr.heap.size+1+1,0,none⟩),.pointer (some ⟨wr.heap.size,0,none⟩),.pointer (some ⟨w.heap.size,0,none⟩)]] 124)).alloc (.cells #[.bool (decide (Y2≤Y))] 4):=⟨_,rfl⟩;obtain ⟨hB5,hs5,hk5⟩:=q0c8 X Y X2 Y2 (X-X2) _ _ wr W5 _ _ _ _ hW5;have HS:=qox 54 #[.pointer (some ⟨wr.heap.size+1+1+1+1,0,none⟩),.pointer (some ⟨wr.heap.size+1+1+1,0,none⟩),.pointer (some ⟨w.heap.size+1,0,none⟩)] N (segP lo hi raw (X2,Y2) (X,Y)) m W5 (enters_of func54 (by kernel_rfl) rfl) (by omega)
     (fun i W' hi' hW'=>by
      obtain ⟨e0,e1,e2,e3,e4,e5,e6⟩:=hk5 W' hW';obtain ⟨-,-,-,-,-,-,f6,f7,-,-,fv⟩:=HK.out W' (HBW.out.trans ((ht_ hB5 hW').mono HBW.out.size));exact q0cz (wr.heap.size+1+1+1+1) (wr.heap.size+1+1+1) (w.heap.size+1) _ _ _ _ (decide (Y2≤Y)) raw (rawQ lo hi (segN (X2,Y2) (X,Y) i) (X-X2)) i W' e6 e5 fv (fun nn=>q0cy (wr.heap.size+1) (wr.heap.size+1+1) wr.heap.size w.heap.size Y2 (X-X2) Y lo hi i (W'.drewN nn) lY2 lY (by omega) (by omega) ⟨l0,l1,l2⟩ e3 e4 e1 f6 f7))
     hmN hm1 hm2
    rw [hN] at HS;replace HS:=hj_ HS;have HW5:=hj_ hW5;have HB5:=hj_ hB5;have HK5:=hj_ hk5;have n1:¬ b=wr.heap.size:=by omega
    have n2:b<wr.heap.size+1:=by omega
    clear hW5 hB5 hk5 hs5;go_wp2_with fail;rw [← HW5.out];refine HS.out.mono ?_;rintro e w1 ⟨rfl,hb⟩;have hB:=hb;clear hb HS c0 c1 c2 c3 c4 c5 c6 c7 c8 c9 cv p0 p1 q0 q1 q0' q1' n1 n2 hbw;obtain ⟨e0,e1,e2,e3,e4,e5,e6⟩:=HK5.out _ hB;have HBr1:=hj_ (ht_ HB5.out hB);obtain ⟨c0,c1,c2,c3,c4,c5,c6,c7,c8,c9,cv⟩:=HK.out _ (ht_ HBW.out HBr1.out)
    by_cases hmN2:m<N
    ·have hd1:decide ((m:Int)≤X-X2)=true:=decide_eq_true (by omega)
     obtain ⟨QV,hQV⟩:∃ QV,rawQ lo hi (segN (X2,Y2) (X,Y) m) (X-X2)=QV:=⟨_,rfl⟩;have HQ1:=hj_ (show ∀ nn,Calls prog 52 #[.int .i64 (m:Int),.pointer (some ⟨wr.heap.size+1,0,none⟩),.pointer (some ⟨wr.heap.size+1+1,0,none⟩),.pointer (some ⟨wr.heap.size,0,none⟩),.pointer (some ⟨w.heap.size,0,none⟩)] (w1.drewN nn) fun e w'=>e=.returned (.int .i64 QV)∧∃ mm,w' = (w1.drewN nn).drewN mm by
      rw [← hQV];exact fun nn=>q0cy (wr.heap.size+1) (wr.heap.size+1+1) wr.heap.size w.heap.size Y2 (X-X2) Y lo hi m (w1.drewN nn) lY2 lY (by omega) (by omega) ⟨l0,l1,l2⟩ e3 e4 e1 c6 c7)
     by_cases he:QV=raw
     ·have g1:(QV == raw)=true:=by rw [he];exact beq_self_eq_true _
      obtain ⟨rfl,rfl⟩:=HHit2.out hmN2 (hQV.trans he);have w7:IntKind.i64.wrap (X2+(m:Int))=X2+(m:Int):=IntWalk.i64_in _ (by omega)
      clear HStep HHit2 hm1 hm2 hQV he HMiss HHit;go_wp2_with fail;go_quiet ((exact Calls.quiet_of (HQ1.out _)));go_wp2;go_ret2;exact ⟨rfl,HB0.out.trans ((HBW.out.trans ((HBr1.out.trans (by (repeat' first | exact br_ | assumption | apply Below.drew | apply q18 | refine Below.alloc ?_ ?_ _ | refine Below.setCell ?_ ?_ _ | refine Below.trans ?_ (Below.mono ‹_› ?_) | omega | (simp;omega) | simp))).mono HBW.out.size)).mono HB0.out.size)⟩
     ·have g1:(QV == raw)=false:=beq_eq_false_iff_ne.2 he
      have HN:=hj_ (HStep.out (fun _=>by rw [show rawQ lo hi (segN (X2,Y2) (X,Y) m) ((X,Y).1-(X2,Y2).1)=QV from hQV];exact he))
      clear HStep HHit2 hm1 hm2 hQV he HMiss HHit;go_wp2_with fail;go_quiet ((exact Calls.quiet_of (HQ1.out _)));go_wp2
      go_roundw
      case rel=>exact ⟨j+1,hj3,by go_num,HN.out,HBr.out.trans ((HBr1.out.trans (by (repeat' first | exact br_ | assumption | apply Below.drew | apply q18 | refine Below.alloc ?_ ?_ _ | refine Below.setCell ?_ ?_ _ | refine Below.trans ?_ (Below.mono ‹_› ?_) | omega | (simp;omega) | simp))).mono HBr.out.size)⟩
      case measure=>simp [intOf];omega
    ·have hd1:decide ((m:Int)≤X-X2)=false:=decide_eq_false (by omega)
     have HN:=hj_ (HStep.out (fun h=>absurd h hmN2))
     clear HStep HHit2 hm1 hm2 HMiss HHit;go_wp2_with fail;go_quiet (fail);go_wp2
     go_roundw
     case rel=>exact ⟨j+1,hj3,by go_num,HN.out,HBr.out.trans ((HBr1.out.trans (by (repeat' first | exact br_ | assumption | apply Below.drew | apply q18 | refine Below.alloc ?_ ?_ _ | refine Below.setCell ?_ ?_ _ | refine Below.trans ?_ (Below.mono ‹_› ?_) | omega | (simp;omega) | simp))).mono HBr.out.size)⟩
     case measure=>simp [intOf];omega
 ·have hE:levelE (f.fea wl) L raw=aloneE (f.fea wl) L:=by unfold levelE;rw [if_pos ha]
  have hV:levelV (f.fea wl) L raw=0:=by unfold levelV;rw [hE,if_pos ha]
  rw [hE,hV];generalize aloneE (f.fea wl) L=q at *;have g1:(q == 0)=false:=by simpa using ha
  have g2:(q != 0)=true:=by simpa using ha
  obtain ⟨at_,bits,co,fi,cu,ho,lo,hi,sn,A,n,c⟩:=f
  have HAl:=hj_ (show ∀ w',FW w' ⟨at_,bits,co,fi,cu,ho,lo,hi,sn,A,n,c⟩ wl→InN w' A' n' H L→Calls prog 50 #[.agg #[.int .i64 at_,.int .i64 bits,.int .i64 co,.int .i64 fi,.int .i64 cu,.int .i64 ho,.int .i64 lo,.int .i64 hi,.bool sn,.slice A n c],.slice A' n' c'] w' fun e w''=>e=.returned (.int .i64 q)∧Below w'.heap.size w' w'' from HAl0.out)
  show Calls prog 18 #[.agg #[.int .i64 at_,.int .i64 bits,.int .i64 co,.int .i64 fi,.int .i64 cu,.int .i64 ho,.int .i64 lo,.int .i64 hi,.bool sn,.slice A n c],.slice A' n' c',.int .i64 raw] w fun e w'=>e=.returned (.tuple #[.int .i64 0,.int .i64 q])∧Below w.heap.size w w'
  obtain ⟨W,hW⟩:∃ W,W=(w.alloc (.cells #[.int .i64 at_,.int .i64 bits,.int .i64 co,.int .i64 fi,.int .i64 cu,.int .i64 ho,.int .i64 lo,.int .i64 hi,.bool sn,.slice A n c] 52)).alloc (.cells #[.int .i64 raw] 3):=⟨_,rfl⟩
  obtain ⟨hB0,hK⟩:=fbox2 at_ bits co fi cu ho lo hi sn A n c (.int .i64 raw) 3 w W hW
  have HK:=hj_ hK;have HW:=hj_ hW;have HB0:=hj_ hB0;have hB:=Below.refl W.heap.size W;obtain ⟨c0,c1,c2,c3,c4,c5,c6,c7,c8,c9,cv⟩:=hK W hB;clear hW hB0 hK;have HL:=hj_ (hw.below HB0.out);have HL2:=hj_ (hl.below HB0.out);clear HAl0 hE hV ha hw hl hm hn hcp
  go_enter func18,ntmps18
  go_wp2_with fail;rw [← HW.out];refine uq_ (HAl.out _ (HL.out.below hB) (HL2.out.below hB)) hB ?_;clear hB;intro wk hB;obtain ⟨c0,c1,c2,c3,c4,c5,c6,c7,c8,c9,cv⟩:=HK.out _ hB;go_wp2_with fail;go_ret2;exact ⟨rfl,ht_ HB0.out hB⟩
end

end Go.Proofs.YtmcbkdlfhffphaaGreatDoor
