/- Lemmas. -/
import Derived.Test.YtabhjdmmfdfpeaaGreatDoorPPwG
import Derived.Test.YtabhjdmmfdfpeaaGreatDoorPPwE
import Derived.Test.YtabhjdmmfdfpeaaGreatDoorPPwF
import Derived.Test.YtabhjdmmfdfpeaaGreatDoorTTopA
namespace Go.Proofs.YtabhjdmmfdfpeaaGreatDoor
set_option maxHeartbeats 32000000
set_option maxRecDepth 100000
open _root_.Go.Proofs.Tryz

section
open Go.RowKit
theorem q0hc (s:ByteArray) (v:Int) (hs:s.size≤300) (v0:-9223372036854775808≤v) (v1:v≤9223372036854775807) (w:World) :
  Calls prog 14 #[.string s,.int .i64 v] w fun e w'=>e=.returned (.tuple #[.string (ampV s v),.int .i64 (ampE s v)])∧Below w.heap.size w w':=by
 have HC:=hj_ (qot s w (by omega))
 by_cases hc:chkR s.data.toList=0
 ·rw [hc] at HC
  obtain ⟨hsr,hz⟩:=amp_ok hs hc;have hE:ampE s v=if valR s.data.toList<0∨v<1∨1000<v then 2 else 0:=by unfold ampE;rw [if_neg (fun h=>h hc)]
  have hV:ampV s v=if ampE s v≠0 then ⟨#[]⟩ else sR (valR s.data.toList / (v:Rat)):=rfl
  have hor:=fun w'=>qqg hz (show SzR 1 (0:Rat) from ⟨by decide,by decide⟩) w' (by omega) (by omega)
  rw [← hsr,show sR 0=⟨#[48]⟩ by kernel_rfl] at hor
  have hb:decide (ordR (valR s.data.toList) 0<0)=decide (valR s.data.toList<0):=by rw [decide_eq_decide];exact qfd
  generalize hr:valR s.data.toList=r at *;have HQ:=hj_ (fun (h0:1≤v) (h1:v≤1000) w'=>And.intro (qrj v0 v1 w') (qoo hz (v_sz h0 h1) (by
   intro e
   have:(v:Rat)=((0:Int):Rat):=e
   rw [Rat.intCast_inj] at this
   omega) w' (by omega) (by omega)))
  rw [← hsr] at HQ;have hV2:ampE s v=0→ampV s v=sR (r / (v:Rat)):=fun h=>by rw [hV,if_neg (fun h2=>h2 h)]
  have hV3:ampE s v≠0→ampV s v=⟨#[]⟩:=fun h=>by rw [hV,if_pos h]
  have HOr:=hj_ hor;generalize ampV s v=AV at *;generalize ampE s v=AE at *;generalize ordR r 0=od at *;clear hc hz hV hsr hor
  by_cases h1:r<0
  ·rw [if_pos (Or.inl h1)] at hE
   subst hE;obtain rfl:=hV3 (by decide)
   rw [decide_eq_true h1] at hb;have hod:=of_decide_eq_true hb;clear hV2 hV3 HQ hb
   go_enter func14,ntmps14
   go_wp2_with fail;refine HC.out.mono ?_;rintro e wk ⟨rfl,hb1⟩;go_wp2_with fail;refine (HOr.out _).mono ?_;rintro e w2 ⟨rfl,hb2⟩;have hB2:=ht_ hb1 hb2;clear hb1 hb2;go_wp2_with fail;go_ret2;refine ⟨?_,hB2⟩
   go_simp
  ·rw [decide_eq_false h1] at hb
   have hod:=of_decide_eq_false hb
   by_cases h2:v<1
   ·rw [if_pos (Or.inr (Or.inl h2))] at hE
    subst hE;obtain rfl:=hV3 (by decide)
    clear hV2 hV3 HQ hb
    go_enter func14,ntmps14
    go_wp2_with fail;refine HC.out.mono ?_;rintro e wk ⟨rfl,hb1⟩;go_wp2_with fail;refine (HOr.out _).mono ?_;rintro e w2 ⟨rfl,hb2⟩;have hB2:=ht_ hb1 hb2;clear hb1 hb2;go_wp2_with fail;go_ret2;refine ⟨?_,hB2⟩
    go_simp
   ·by_cases h3:1000<v
    ·rw [if_pos (Or.inr (Or.inr h3))] at hE
     subst hE;obtain rfl:=hV3 (by decide)
     clear hV2 hV3 HQ hb
     go_enter func14,ntmps14
     go_wp2_with fail;refine HC.out.mono ?_;rintro e wk ⟨rfl,hb1⟩;go_wp2_with fail;refine (HOr.out _).mono ?_;rintro e w2 ⟨rfl,hb2⟩;have hB2:=ht_ hb1 hb2;clear hb1 hb2;go_wp2_with fail;go_ret2;refine ⟨?_,hB2⟩
     go_simp
    ·rw [if_neg (by rintro (h | h | h);exact h1 h;exact h2 h;exact h3 h)] at hE
     subst hE;obtain rfl:=hV2 rfl;have HQ2:=hj_ (HQ.out (by omega) (by omega))
     clear hV2 hV3 HQ hb
     go_enter func14,ntmps14
     go_wp2_with fail;refine HC.out.mono ?_;rintro e wk ⟨rfl,hb1⟩;go_wp2_with fail;refine (HOr.out _).mono ?_;rintro e w2 ⟨rfl,hb2⟩;have hB2:=ht_ hb1 hb2;clear hb1 hb2;go_wp2_with fail;refine (HQ2.out _).1.mono ?_;rintro e w3 ⟨rfl,hb3⟩;have hB3:=ht_ hB2 hb3;clear hb3;go_wp2_with fail;refine (HQ2.out _).2.mono ?_;rintro e w4 ⟨rfl,hb4⟩;have hB4:=ht_ hB3 hb4;clear hb4;go_wp2_with fail;go_ret2;refine ⟨?_,hB4⟩
     go_simp
 ·have hE:ampE s v=chkR s.data.toList:=by unfold ampE;rw [if_pos hc]
  have hV:ampV s v=⟨#[]⟩:=by unfold ampV;rw [if_pos (by rw [hE];exact hc)]
  rw [hE,hV];generalize chkR s.data.toList=E at *;have g1:(E == 0)=false:=by simpa using hc
  have g2:(E != 0)=true:=by simpa using hc
  clear hE hV
  go_enter func14,ntmps14
  go_wp2_with fail;refine HC.out.mono ?_;rintro e wk ⟨rfl,hb1⟩;go_wp2_with fail;go_ret2;refine ⟨?_,hb1⟩
  go_simp
end

section
open Go.RowKit
def nPar:ByteArray:=⟨#[112,97,114]⟩
def nFan:ByteArray:=⟨#[102,97,110]⟩
def nCa:ByteArray:=⟨#[97]⟩
def hoF:FC:=⟨0,8,0,0,0,0,0,255,false,none,0,0⟩
def hoPL (S:Nat):List (PC × List Fea):=[(⟨nPar,1,1000,some ⟨S+1,0,none⟩,1,1⟩,[hoF.fea []]),(⟨nFan,1,200,none,0,0⟩,[])]
def hoX:List Fx:=[⟨1,1,nPar,1,1,1,nCa⟩,⟨2,1,nPar,1,2,1,nCa⟩,⟨3,1,nPar,1,3,1,⟨#[]⟩⟩,⟨4,1,nFan,1,4,1,⟨#[]⟩⟩]
theorem RowAt.cells {w:World} {B:Nat} {c:Array Value} {t:TypeId} (h:RowAt w B c t):Cells w B c.toList:=⟨h.lt,fun j u hu=>⟨h.cell (by simpa using hu),h.fr j⟩⟩
theorem q0g0 {w:World} {base:Nat} {e:TypeId} {z:Nat} {v:Value} {n:Nat} {xs:List Value} (h:w.ownsRow base e z v n xs) (P j:Nat) (u:Value) (hP:P<base):(w.setCell ⟨P,j,none⟩ u).ownsRow base e z v n xs :=
 ⟨h.1,h.2.imp id fun ⟨g,cap,cur,hv,hg,hc,r⟩=>⟨g,cap,cur,hv,hg,RowAt.far (B:=g) hc j u (by omega),r⟩⟩
theorem q0fb (w W:World) (hW:W=(((((((w.alloc (.cells #[.slice none 0 0,.slice none 0 0,.slice none 0 0] 26)).alloc (.cells #[.int .i64 0,.int .i64 8,.int .i64 0,.int .i64 0,.int .i64 0,.int .i64 0,.int .i64 0,.int .i64 255,.bool false,.slice none 0 0] 114)).alloc (.cells #[.string ⟨#[112,97,114]⟩,.int .i64 1,.int .i64 1000,.slice (some ⟨w.heap.size+1,0,none⟩) 1 1] 87)).alloc (.cells #[.string ⟨#[102,97,110]⟩,.int .i64 1,.int .i64 200,.slice none 0 0] 87)).alloc (.cells #[.string ⟨#[112,97,114]⟩,.int .i64 1,.int .i64 1000,.slice (some ⟨w.heap.size+1,0,none⟩) 1 1,.string ⟨#[102,97,110]⟩,.int .i64 1,.int .i64 200,.slice none 0 0] 87)).alloc (.cells #[.slice none 0 0,.slice (some ⟨w.heap.size+1+1+1+1,0,none⟩) 2 2,.slice none 0 0] 26)).alloc (.cells #[.string ⟨#[112,97,114]⟩,.string ⟨#[112,97,114]⟩,.string ⟨#[112,97,114]⟩,.string ⟨#[102,97,110]⟩] 9))):Below w.heap.size w W∧W.heap.size=w.heap.size+1+1+1+1+1+1+1∧RowAt W (w.heap.size) #[.slice none 0 0,.slice none 0 0,.slice none 0 0] 26∧RowAt W (w.heap.size+1) #[.int .i64 0,.int .i64 8,.int .i64 0,.int .i64 0,.int .i64 0,.int .i64 0,.int .i64 0,.int .i64 255,.bool false,.slice none 0 0] 114∧RowAt W (w.heap.size+1+1+1+1) #[.string ⟨#[112,97,114]⟩,.int .i64 1,.int .i64 1000,.slice (some ⟨w.heap.size+1,0,none⟩) 1 1,.string ⟨#[102,97,110]⟩,.int .i64 1,.int .i64 200,.slice none 0 0] 87∧RowAt W (w.heap.size+1+1+1+1+1+1) #[.string ⟨#[112,97,114]⟩,.string ⟨#[112,97,114]⟩,.string ⟨#[112,97,114]⟩,.string ⟨#[102,97,110]⟩] 9∧RowAt W (w.heap.size+1+1+1+1+1) #[.slice none 0 0,.slice (some ⟨w.heap.size+1+1+1+1,0,none⟩) 2 2,.slice none 0 0] 26:=by
 obtain ⟨W0,h0⟩:∃ W0,W0=w.alloc (.cells #[.slice none 0 0,.slice none 0 0,.slice none 0 0] 26):=⟨_,rfl⟩;obtain ⟨W1,h1⟩:∃ W1,W1=W0.alloc (.cells #[.int .i64 0,.int .i64 8,.int .i64 0,.int .i64 0,.int .i64 0,.int .i64 0,.int .i64 0,.int .i64 255,.bool false,.slice none 0 0] 114):=⟨_,rfl⟩;obtain ⟨W2,h2⟩:∃ W2,W2=W1.alloc (.cells #[.string ⟨#[112,97,114]⟩,.int .i64 1,.int .i64 1000,.slice (some ⟨w.heap.size+1,0,none⟩) 1 1] 87):=⟨_,rfl⟩;obtain ⟨W3,h3⟩:∃ W3,W3=W2.alloc (.cells #[.string ⟨#[102,97,110]⟩,.int .i64 1,.int .i64 200,.slice none 0 0] 87):=⟨_,rfl⟩;obtain ⟨W4,h4⟩:∃ W4,W4=W3.alloc (.cells #[.string ⟨#[112,97,114]⟩,.int .i64 1,.int .i64 1000,.slice (some ⟨w.heap.size+1,0,none⟩) 1 1,.string ⟨#[102,97,110]⟩,.int .i64 1,.int .i64 200,.slice none 0 0] 87):=⟨_,rfl⟩;obtain ⟨W5,h5⟩:∃ W5,W5=W4.alloc (.cells #[.slice none 0 0,.slice (some ⟨w.heap.size+1+1+1+1,0,none⟩) 2 2,.slice none 0 0] 26):=⟨_,rfl⟩;obtain ⟨W6,h6⟩:∃ W6,W6=W5.alloc (.cells #[.string ⟨#[112,97,114]⟩,.string ⟨#[112,97,114]⟩,.string ⟨#[112,97,114]⟩,.string ⟨#[102,97,110]⟩] 9):=⟨_,rfl⟩;rw [← h0,← h1,← h2,← h3,← h4,← h5,← h6] at hW;rw [hW];have s0:W0.heap.size=w.heap.size+1:=by rw [h0];simp
 have b0:Below w.heap.size w W0:=by rw [h0];exact (br_).alloc (Nat.le_refl _) _
 have s1:W1.heap.size=w.heap.size+1+1:=by rw [h1];simp [s0]
 have b1:Below W0.heap.size W0 W1:=by rw [h1];exact (br_).alloc (Nat.le_refl _) _
 have s2:W2.heap.size=w.heap.size+1+1+1:=by rw [h2];simp [s1]
 have b2:Below W1.heap.size W1 W2:=by rw [h2];exact (br_).alloc (Nat.le_refl _) _
 have s3:W3.heap.size=w.heap.size+1+1+1+1:=by rw [h3];simp [s2]
 have b3:Below W2.heap.size W2 W3:=by rw [h3];exact (br_).alloc (Nat.le_refl _) _
 have s4:W4.heap.size=w.heap.size+1+1+1+1+1:=by rw [h4];simp [s3]
 have b4:Below W3.heap.size W3 W4:=by rw [h4];exact (br_).alloc (Nat.le_refl _) _
 have s5:W5.heap.size=w.heap.size+1+1+1+1+1+1:=by rw [h5];simp [s4]
 have b5:Below W4.heap.size W4 W5:=by rw [h5];exact (br_).alloc (Nat.le_refl _) _
 have s6:W6.heap.size=w.heap.size+1+1+1+1+1+1+1:=by rw [h6];simp [s5]
 have b6:Below W5.heap.size W5 W6:=by rw [h6];exact (br_).alloc (Nat.le_refl _) _
 have d6:=b6;have d5:=ht_ b5 d6;have d4:=ht_ b4 d5;have d3:=ht_ b3 d4;have d2:=ht_ b2 d3;have d1:=ht_ b1 d2;have d0:=ht_ b0 d1;have c0:RowAt W0 (w.heap.size) #[.slice none 0 0,.slice none 0 0,.slice none 0 0] 26:=by rw [h0];exact RowAt.fresh _ _ _
 replace c0:=c0.below d1 c0.lt;have c1:RowAt W1 (w.heap.size+1) #[.int .i64 0,.int .i64 8,.int .i64 0,.int .i64 0,.int .i64 0,.int .i64 0,.int .i64 0,.int .i64 255,.bool false,.slice none 0 0] 114:=by rw [h1,← s0];exact RowAt.fresh _ _ _
 replace c1:=c1.below d2 c1.lt;have c4:RowAt W4 (w.heap.size+1+1+1+1) #[.string ⟨#[112,97,114]⟩,.int .i64 1,.int .i64 1000,.slice (some ⟨w.heap.size+1,0,none⟩) 1 1,.string ⟨#[102,97,110]⟩,.int .i64 1,.int .i64 200,.slice none 0 0] 87:=by rw [h4,← s3];exact RowAt.fresh _ _ _
 replace c4:=c4.below d5 c4.lt;have c6:RowAt W6 (w.heap.size+1+1+1+1+1+1) #[.string ⟨#[112,97,114]⟩,.string ⟨#[112,97,114]⟩,.string ⟨#[112,97,114]⟩,.string ⟨#[102,97,110]⟩] 9:=by rw [h6,← s5];exact RowAt.fresh _ _ _
 have c5:RowAt W5 (w.heap.size+1+1+1+1+1) #[.slice none 0 0,.slice (some ⟨w.heap.size+1+1+1+1,0,none⟩) 2 2,.slice none 0 0] 26:=by rw [h5,← s4];exact RowAt.fresh _ _ _
 replace c5:=c5.below d6 c5.lt;exact ⟨d0,s6,c0,c1,c4,c6,c5⟩
theorem ho_any (w:World) :
  Calls prog 24 #[] w fun e w'=>∃ A c,e=.returned (.agg #[.slice none 0 0,.slice (some ⟨w.heap.size+1+1+1+1,0,none⟩) 2 2,.slice A 4 c])∧InPs w' (some ⟨w.heap.size+1+1+1+1,0,none⟩) 2 (hoPL w.heap.size)∧shX.In w' A 4 hoX∧shF.In w' (some ⟨w.heap.size+1,0,none⟩) 1 [hoF]∧(4≤c∧c≤9223372036854775807)∧Below w.heap.size w w':=by
 obtain ⟨W,hW⟩:∃ W,W=(((((((w.alloc (.cells #[.slice none 0 0,.slice none 0 0,.slice none 0 0] 26)).alloc (.cells #[.int .i64 0,.int .i64 8,.int .i64 0,.int .i64 0,.int .i64 0,.int .i64 0,.int .i64 0,.int .i64 255,.bool false,.slice none 0 0] 114)).alloc (.cells #[.string ⟨#[112,97,114]⟩,.int .i64 1,.int .i64 1000,.slice (some ⟨w.heap.size+1,0,none⟩) 1 1] 87)).alloc (.cells #[.string ⟨#[102,97,110]⟩,.int .i64 1,.int .i64 200,.slice none 0 0] 87)).alloc (.cells #[.string ⟨#[112,97,114]⟩,.int .i64 1,.int .i64 1000,.slice (some ⟨w.heap.size+1,0,none⟩) 1 1,.string ⟨#[102,97,110]⟩,.int .i64 1,.int .i64 200,.slice none 0 0] 87)).alloc (.cells #[.slice none 0 0,.slice (some ⟨w.heap.size+1+1+1+1,0,none⟩) 2 2,.slice none 0 0] 26)).alloc (.cells #[.string ⟨#[112,97,114]⟩,.string ⟨#[112,97,114]⟩,.string ⟨#[112,97,114]⟩,.string ⟨#[102,97,110]⟩] 9)):=⟨_,rfl⟩;obtain ⟨hb,hs,hk⟩:=q0fb w W hW;have HB0:=hj_ hb;have HS:=hj_ hs;have HK0:=hj_ hk;have HW:=hj_ hW;clear hb hs hk hW
 go_enter func24,ntmps24
 go_wp2_with fail;rw [← HW.out]
 go_loopw [17] (fun iv wr=>∃ (k:Nat) (A:Option Addr) (c:Nat),k≤4∧iv=.int .i64 k∧wr.ownsRow W.heap.size 45 7 (.slice A k c) k (shX.vs (hoX.take k))∧(RowAt wr (w.heap.size) #[.slice none 0 0,.slice none 0 0,.slice none 0 0] 26∧RowAt wr (w.heap.size+1) #[.int .i64 0,.int .i64 8,.int .i64 0,.int .i64 0,.int .i64 0,.int .i64 0,.int .i64 0,.int .i64 255,.bool false,.slice none 0 0] 114∧RowAt wr (w.heap.size+1+1+1+1) #[.string ⟨#[112,97,114]⟩,.int .i64 1,.int .i64 1000,.slice (some ⟨w.heap.size+1,0,none⟩) 1 1,.string ⟨#[102,97,110]⟩,.int .i64 1,.int .i64 200,.slice none 0 0] 87∧RowAt wr (w.heap.size+1+1+1+1+1+1) #[.string ⟨#[112,97,114]⟩,.string ⟨#[112,97,114]⟩,.string ⟨#[112,97,114]⟩,.string ⟨#[102,97,110]⟩] 9)∧RowAt wr (w.heap.size+1+1+1+1+1) #[.slice none 0 0,.slice (some ⟨w.heap.size+1+1+1+1,0,none⟩) 2 2,.slice A k c] 26∧Below w.heap.size w wr∧W.heap.size≤wr.heap.size) (fun iv _=>4-(intOf iv).toNat)
 case atStart=>exact ⟨0,none,0,by omega,rfl,World.ownsRow_nil _ _ _ _,⟨HK0.out.1,HK0.out.2.1,HK0.out.2.2.1,HK0.out.2.2.2.1⟩,HK0.out.2.2.2.2,HB0.out,Nat.le_refl _⟩
 case round =>
  obtain ⟨k,A,c,hk,rfl,hown,⟨hR0,hR1,hR4,hR6⟩,hR5,hB,hsz⟩:=hrel;have hs:=HS.out;have HR:=hj_ (And.intro hR0 (And.intro hR1 (And.intro hR4 (And.intro hR6 hR5))));have HB:=hj_ hB;have HO:=hj_ hown;have HZ:=hj_ hsz;have hne0:w.heap.size<wr.heap.size:=by omega
  have hne1:w.heap.size+1+1+1+1+1<wr.heap.size:=by omega
  have hne2:w.heap.size+1+1+1+1+1+1<wr.heap.size:=by omega
  have p0:=hR5.cell (j:=0) rfl;have p1:=hR5.cell (j:=1) rfl;have p2:=hR5.cell (j:=2) rfl;obtain rfl | rfl | rfl | rfl | rfl:k=0∨k=1∨k=2∨k=3∨k=4:=by omega
  ·have t0:=hR6.cell (j:=0) rfl
   have hvs:shX.vs (hoX.take 1)=shX.vs (hoX.take 0) ++ [.int .i64 1,.int .i64 1,.string ⟨#[112,97,114]⟩,.int .i64 1,.int .i64 1,.int .i64 1,.string ⟨#[97]⟩]:=by kernel_rfl
   have HVs:=hj_ hvs;have hb1:Below wr.heap.size wr (wr.alloc (.cells #[.int .i64 1,.int .i64 1,.string ⟨#[112,97,114]⟩,.int .i64 1,.int .i64 1,.int .i64 1,.string ⟨#[97]⟩] 45)):=(br_).alloc (Nat.le_refl _) _;have HR1:=hj_ (And.intro (hR0.below hb1 hR0.lt) (And.intro (hR1.below hb1 hR1.lt) (And.intro (hR4.below hb1 hR4.lt) (And.intro (hR6.below hb1 hR6.lt) (hR5.below hb1 hR5.lt)))));have HB1:=hj_ (ht_ hB hb1);have hown1:=hown.alloc (.cells #[.int .i64 1,.int .i64 1,.string ⟨#[112,97,114]⟩,.int .i64 1,.int .i64 1,.int .i64 1,.string ⟨#[97]⟩] 45);have HO1:=hj_ hown1;have hz:W.heap.size≤(wr.alloc (.cells #[.int .i64 1,.int .i64 1,.string ⟨#[112,97,114]⟩,.int .i64 1,.int .i64 1,.int .i64 1,.string ⟨#[97]⟩] 45)).heap.size:=by rw [World.size_alloc];omega
   clear hR0 hR1 hR4 hR6 hR5 hB hsz hs hvs hb1 hown;go_wp2_with (at_builtin;refine q003 rfl _ _ _ rfl W.heap.size _ _ 7 72 underlying24 q056 rfl (by omega) _ 0 (shX.vs (hoX.take 0)) rfl hown1 [.int .i64 1,.int .i64 1,.string ⟨#[112,97,114]⟩,.int .i64 1,.int .i64 1,.int .i64 1,.string ⟨#[97]⟩] _ _ _ rfl (by first | rfl | simp) rfl (fx_one _ _ _ _ _ _ _) (by unfold maxLen;omega) (by omega) hz ?_;intro g cap w1 hown2 hg1;have HR2:=hj_ (And.intro (qn6 HR1.out.1 HO1.out (by decide) hg1) (And.intro (qn6 HR1.out.2.1 HO1.out (by decide) hg1) (And.intro (qn6 HR1.out.2.2.1 HO1.out (by decide) hg1) (And.intro (qn6 HR1.out.2.2.2.1 HO1.out (by decide) hg1) (qn6 HR1.out.2.2.2.2 HO1.out (by decide) hg1)))));have q2:=HR2.out.2.2.2.2.cell (j:=2) rfl;have q4:=HR2.out.2.2.2.2.fr 2;have HG1:=hj_ hg1;have HO2:=hj_ hown2;clear p0 p1 p2 t0 hown2 hg1)
   go_roundw
   case rel=>exact ⟨1,some ⟨g,0,none⟩,cap,by omega,by go_num,by rw [HVs.out];exact q0g0 HO2.out _ _ _ (by have:=HS.out;omega),⟨HR2.out.1.far _ _ (by omega),HR2.out.2.1.far _ _ (by omega),HR2.out.2.2.1.far _ _ (by omega),HR2.out.2.2.2.1.far _ _ (by omega)⟩,HR2.out.2.2.2.2.set 2 _,(q1a HB1.out (Nat.le_refl _) (qfy HO1.out (by have:=HS.out;omega)) HG1.out).setCell (show w.heap.size≤w.heap.size+1+1+1+1+1 from by omega) _,by
    have h1:=HG1.out.size;have h2:=HZ.out;simp at h1 ⊢
    omega⟩
   case measure=>simp [intOf]
  ·have t0:=hR6.cell (j:=1) rfl
   have hvs:shX.vs (hoX.take 2)=shX.vs (hoX.take 1) ++ [.int .i64 2,.int .i64 1,.string ⟨#[112,97,114]⟩,.int .i64 1,.int .i64 2,.int .i64 1,.string ⟨#[97]⟩]:=by kernel_rfl
   have HVs:=hj_ hvs;have hb1:Below wr.heap.size wr (wr.alloc (.cells #[.int .i64 2,.int .i64 1,.string ⟨#[112,97,114]⟩,.int .i64 1,.int .i64 2,.int .i64 1,.string ⟨#[97]⟩] 45)):=(br_).alloc (Nat.le_refl _) _;have HR1:=hj_ (And.intro (hR0.below hb1 hR0.lt) (And.intro (hR1.below hb1 hR1.lt) (And.intro (hR4.below hb1 hR4.lt) (And.intro (hR6.below hb1 hR6.lt) (hR5.below hb1 hR5.lt)))));have HB1:=hj_ (ht_ hB hb1);have hown1:=hown.alloc (.cells #[.int .i64 2,.int .i64 1,.string ⟨#[112,97,114]⟩,.int .i64 1,.int .i64 2,.int .i64 1,.string ⟨#[97]⟩] 45);have HO1:=hj_ hown1;have hz:W.heap.size≤(wr.alloc (.cells #[.int .i64 2,.int .i64 1,.string ⟨#[112,97,114]⟩,.int .i64 1,.int .i64 2,.int .i64 1,.string ⟨#[97]⟩] 45)).heap.size:=by rw [World.size_alloc];omega
   clear hR0 hR1 hR4 hR6 hR5 hB hsz hs hvs hb1 hown;go_wp2_with (at_builtin;refine q003 rfl _ _ _ rfl W.heap.size _ _ 7 72 underlying24 q056 rfl (by omega) _ 1 (shX.vs (hoX.take 1)) rfl hown1 [.int .i64 2,.int .i64 1,.string ⟨#[112,97,114]⟩,.int .i64 1,.int .i64 2,.int .i64 1,.string ⟨#[97]⟩] _ _ _ rfl (by first | rfl | simp) rfl (fx_one _ _ _ _ _ _ _) (by unfold maxLen;omega) (by omega) hz ?_;intro g cap w1 hown2 hg1;have HR2:=hj_ (And.intro (qn6 HR1.out.1 HO1.out (by decide) hg1) (And.intro (qn6 HR1.out.2.1 HO1.out (by decide) hg1) (And.intro (qn6 HR1.out.2.2.1 HO1.out (by decide) hg1) (And.intro (qn6 HR1.out.2.2.2.1 HO1.out (by decide) hg1) (qn6 HR1.out.2.2.2.2 HO1.out (by decide) hg1)))));have q2:=HR2.out.2.2.2.2.cell (j:=2) rfl;have q4:=HR2.out.2.2.2.2.fr 2;have HG1:=hj_ hg1;have HO2:=hj_ hown2;clear p0 p1 p2 t0 hown2 hg1)
   go_roundw
   case rel=>exact ⟨2,some ⟨g,0,none⟩,cap,by omega,by go_num,by rw [HVs.out];exact q0g0 HO2.out _ _ _ (by have:=HS.out;omega),⟨HR2.out.1.far _ _ (by omega),HR2.out.2.1.far _ _ (by omega),HR2.out.2.2.1.far _ _ (by omega),HR2.out.2.2.2.1.far _ _ (by omega)⟩,HR2.out.2.2.2.2.set 2 _,(q1a HB1.out (Nat.le_refl _) (qfy HO1.out (by have:=HS.out;omega)) HG1.out).setCell (show w.heap.size≤w.heap.size+1+1+1+1+1 from by omega) _,by
    have h1:=HG1.out.size;have h2:=HZ.out;simp at h1 ⊢
    omega⟩
   case measure=>simp [intOf]
  ·have t0:=hR6.cell (j:=2) rfl
   have hvs:shX.vs (hoX.take 3)=shX.vs (hoX.take 2) ++ [.int .i64 3,.int .i64 1,.string ⟨#[112,97,114]⟩,.int .i64 1,.int .i64 3,.int .i64 1,.string ⟨#[]⟩]:=by kernel_rfl
   have HVs:=hj_ hvs;have hb1:Below wr.heap.size wr (wr.alloc (.cells #[.int .i64 3,.int .i64 1,.string ⟨#[112,97,114]⟩,.int .i64 1,.int .i64 3,.int .i64 1,.string ⟨#[]⟩] 45)):=(br_).alloc (Nat.le_refl _) _;have HR1:=hj_ (And.intro (hR0.below hb1 hR0.lt) (And.intro (hR1.below hb1 hR1.lt) (And.intro (hR4.below hb1 hR4.lt) (And.intro (hR6.below hb1 hR6.lt) (hR5.below hb1 hR5.lt)))));have HB1:=hj_ (ht_ hB hb1);have hown1:=hown.alloc (.cells #[.int .i64 3,.int .i64 1,.string ⟨#[112,97,114]⟩,.int .i64 1,.int .i64 3,.int .i64 1,.string ⟨#[]⟩] 45);have HO1:=hj_ hown1;have hz:W.heap.size≤(wr.alloc (.cells #[.int .i64 3,.int .i64 1,.string ⟨#[112,97,114]⟩,.int .i64 1,.int .i64 3,.int .i64 1,.string ⟨#[]⟩] 45)).heap.size:=by rw [World.size_alloc];omega
   clear hR0 hR1 hR4 hR6 hR5 hB hsz hs hvs hb1 hown;go_wp2_with (at_builtin;refine q003 rfl _ _ _ rfl W.heap.size _ _ 7 72 underlying24 q056 rfl (by omega) _ 2 (shX.vs (hoX.take 2)) rfl hown1 [.int .i64 3,.int .i64 1,.string ⟨#[112,97,114]⟩,.int .i64 1,.int .i64 3,.int .i64 1,.string ⟨#[]⟩] _ _ _ rfl (by first | rfl | simp) rfl (fx_one _ _ _ _ _ _ _) (by unfold maxLen;omega) (by omega) hz ?_;intro g cap w1 hown2 hg1;have HR2:=hj_ (And.intro (qn6 HR1.out.1 HO1.out (by decide) hg1) (And.intro (qn6 HR1.out.2.1 HO1.out (by decide) hg1) (And.intro (qn6 HR1.out.2.2.1 HO1.out (by decide) hg1) (And.intro (qn6 HR1.out.2.2.2.1 HO1.out (by decide) hg1) (qn6 HR1.out.2.2.2.2 HO1.out (by decide) hg1)))));have q2:=HR2.out.2.2.2.2.cell (j:=2) rfl;have q4:=HR2.out.2.2.2.2.fr 2;have HG1:=hj_ hg1;have HO2:=hj_ hown2;clear p0 p1 p2 t0 hown2 hg1)
   go_roundw
   case rel=>exact ⟨3,some ⟨g,0,none⟩,cap,by omega,by go_num,by rw [HVs.out];exact q0g0 HO2.out _ _ _ (by have:=HS.out;omega),⟨HR2.out.1.far _ _ (by omega),HR2.out.2.1.far _ _ (by omega),HR2.out.2.2.1.far _ _ (by omega),HR2.out.2.2.2.1.far _ _ (by omega)⟩,HR2.out.2.2.2.2.set 2 _,(q1a HB1.out (Nat.le_refl _) (qfy HO1.out (by have:=HS.out;omega)) HG1.out).setCell (show w.heap.size≤w.heap.size+1+1+1+1+1 from by omega) _,by
    have h1:=HG1.out.size;have h2:=HZ.out;simp at h1 ⊢
    omega⟩
   case measure=>simp [intOf]
  ·have t0:=hR6.cell (j:=3) rfl
   have hvs:shX.vs (hoX.take 4)=shX.vs (hoX.take 3) ++ [.int .i64 4,.int .i64 1,.string ⟨#[102,97,110]⟩,.int .i64 1,.int .i64 4,.int .i64 1,.string ⟨#[]⟩]:=by kernel_rfl
   have HVs:=hj_ hvs;have hb1:Below wr.heap.size wr (wr.alloc (.cells #[.int .i64 4,.int .i64 1,.string ⟨#[102,97,110]⟩,.int .i64 1,.int .i64 4,.int .i64 1,.string ⟨#[]⟩] 45)):=(br_).alloc (Nat.le_refl _) _;have HR1:=hj_ (And.intro (hR0.below hb1 hR0.lt) (And.intro (hR1.below hb1 hR1.lt) (And.intro (hR4.below hb1 hR4.lt) (And.intro (hR6.below hb1 hR6.lt) (hR5.below hb1 hR5.lt)))));have HB1:=hj_ (ht_ hB hb1);have hown1:=hown.alloc (.cells #[.int .i64 4,.int .i64 1,.string ⟨#[102,97,110]⟩,.int .i64 1,.int .i64 4,.int .i64 1,.string ⟨#[]⟩] 45);have HO1:=hj_ hown1;have hz:W.heap.size≤(wr.alloc (.cells #[.int .i64 4,.int .i64 1,.string ⟨#[102,97,110]⟩,.int .i64 1,.int .i64 4,.int .i64 1,.string ⟨#[]⟩] 45)).heap.size:=by rw [World.size_alloc];omega
   clear hR0 hR1 hR4 hR6 hR5 hB hsz hs hvs hb1 hown;go_wp2_with (at_builtin;refine q003 rfl _ _ _ rfl W.heap.size _ _ 7 72 underlying24 q056 rfl (by omega) _ 3 (shX.vs (hoX.take 3)) rfl hown1 [.int .i64 4,.int .i64 1,.string ⟨#[102,97,110]⟩,.int .i64 1,.int .i64 4,.int .i64 1,.string ⟨#[]⟩] _ _ _ rfl (by first | rfl | simp) rfl (fx_one _ _ _ _ _ _ _) (by unfold maxLen;omega) (by omega) hz ?_;intro g cap w1 hown2 hg1;have HR2:=hj_ (And.intro (qn6 HR1.out.1 HO1.out (by decide) hg1) (And.intro (qn6 HR1.out.2.1 HO1.out (by decide) hg1) (And.intro (qn6 HR1.out.2.2.1 HO1.out (by decide) hg1) (And.intro (qn6 HR1.out.2.2.2.1 HO1.out (by decide) hg1) (qn6 HR1.out.2.2.2.2 HO1.out (by decide) hg1)))));have q2:=HR2.out.2.2.2.2.cell (j:=2) rfl;have q4:=HR2.out.2.2.2.2.fr 2;have HG1:=hj_ hg1;have HO2:=hj_ hown2;clear p0 p1 p2 t0 hown2 hg1)
   go_roundw
   case rel=>exact ⟨4,some ⟨g,0,none⟩,cap,by omega,by go_num,by rw [HVs.out];exact q0g0 HO2.out _ _ _ (by have:=HS.out;omega),⟨HR2.out.1.far _ _ (by omega),HR2.out.2.1.far _ _ (by omega),HR2.out.2.2.1.far _ _ (by omega),HR2.out.2.2.2.1.far _ _ (by omega)⟩,HR2.out.2.2.2.2.set 2 _,(q1a HB1.out (Nat.le_refl _) (qfy HO1.out (by have:=HS.out;omega)) HG1.out).setCell (show w.heap.size≤w.heap.size+1+1+1+1+1 from by omega) _,by
    have h1:=HG1.out.size;have h2:=HZ.out;simp at h1 ⊢
    omega⟩
   case measure=>simp [intOf]
  ·obtain ⟨W5,hW5⟩:∃ W5,W5=((wr.setCell ⟨w.heap.size,0,none⟩ (.slice none 0 0)).setCell ⟨w.heap.size,1,none⟩ (.slice (some ⟨w.heap.size+1+1+1+1,0,none⟩) 2 2)).setCell ⟨w.heap.size,2,none⟩ (.slice A 4 c):=⟨_,rfl⟩
   have r0:=hR0.fr 0;have r1:=hR0.fr 1;have r2:=hR0.fr 2;have m0:=hR0.cell (j:=0) rfl;have m1:=hR0.cell (j:=1) rfl;have m2:=hR0.cell (j:=2) rfl;have Q0:RowAt W5 w.heap.size #[.slice none 0 0,.slice (some ⟨w.heap.size+1+1+1+1,0,none⟩) 2 2,.slice A 4 c] 26:=by rw [hW5];exact ((hR0.set 0 _).set 1 _).set 2 _
   have Q1:RowAt W5 (w.heap.size+1) #[.int .i64 0,.int .i64 8,.int .i64 0,.int .i64 0,.int .i64 0,.int .i64 0,.int .i64 0,.int .i64 255,.bool false,.slice none 0 0] 114:=by rw [hW5];exact ((hR1.far _ _ (by omega)).far _ _ (by omega)).far _ _ (by omega)
   have Q4:RowAt W5 (w.heap.size+1+1+1+1) #[.string ⟨#[112,97,114]⟩,.int .i64 1,.int .i64 1000,.slice (some ⟨w.heap.size+1,0,none⟩) 1 1,.string ⟨#[102,97,110]⟩,.int .i64 1,.int .i64 200,.slice none 0 0] 87:=by rw [hW5];exact ((hR4.far _ _ (by omega)).far _ _ (by omega)).far _ _ (by omega)
   have C5:W5.ownsRow W.heap.size 45 7 (.slice A 4 c) 4 (shX.vs hoX):=by rw [hW5];exact q0g0 (q0g0 (q0g0 hown _ _ _ (by omega)) _ _ _ (by omega)) _ _ _ (by omega)
   have b5:Below w.heap.size w W5:=by rw [hW5];exact ((hB.setCell (Nat.le_refl _) _).setCell (Nat.le_refl _) _).setCell (Nat.le_refl _) _
   have HW5:=hj_ hW5;have HD:=hj_ (And.intro Q0 (And.intro Q1 (And.intro Q4 (And.intro C5 b5))));clear hR0 hR1 hR4 hR6 hR5 hB hsz hs hown hW5 Q0 Q1 Q4 C5 b5;go_wp2_with fail;rw [← HW5.out];obtain ⟨Q0,Q1,Q4,C5,hb⟩:=HD.out;have z0:=Q0.cell (j:=0) rfl;have z1:=Q0.cell (j:=1) rfl;have z2:=Q0.cell (j:=2) rfl
   (try simp only [Exit.inBlock,Exit.then])
   refine bodyPost_ret (v:=.agg #[.slice none 0 0,.slice (some ⟨w.heap.size+1+1+1+1,0,none⟩) 2 2,.slice A 4 c]) ?_ rfl ⟨A,c,rfl,⟨In_of_cells (S:=shPr) (l:=(hoPL w.heap.size).map Prod.fst) Q4.cells,fun x hx=>?_⟩,Sh.In.of_own C5 rfl,In_of_cells (S:=shF) (l:=[hoF]) Q1.cells,qft C5,hb⟩
   ·rw [qlt rfl]
    clear Q0 Q1 Q4 C5 hb HD
    go_simp
   ·unfold hoPL at hx
    rcases List.mem_cons.1 hx with rfl | hx
    ·exact ⟨[hoF],⟨⟨In_of_cells (S:=shF) (l:=[hoF]) Q1.cells,rfl,fun i h h'=>by
      obtain rfl:i=0:=by simp at h;omega
      exact ⟨rfl,Sh.In.nil _ _⟩⟩,(by show (1:Nat)≤9223372036854775806;decide),fun i h h'=>by
      obtain rfl:i=0:=by simp at h;omega
      exact ⟨Sh.In.nil _ _,⟨Nat.le_refl _,(by show (0:Nat)≤9223372036854775807;decide)⟩,fun x h=>by cases h⟩⟩⟩
    ·rcases List.mem_cons.1 hx with rfl | hx
     ·exact ⟨[],⟨⟨Sh.In.nil _ _,rfl,fun i h=>absurd h (Nat.not_lt_zero _)⟩,by decide,fun i h=>absurd h (Nat.not_lt_zero _)⟩⟩
     ·cases hx
end

section
open Go.RowKit
theorem q0fp {W:Nat→Int} {a b:List Nat} (h1:ltU W a b) (h2:ltU W b a):False:=by
 unfold ltU at h1 h2;omega
theorem q0g6 {W:Nat→Int}:∀ {U V:List (List Nat)},U.Perm V→U.Pairwise (ltU W)→V.Pairwise (ltU W)→U=V
 | [],V,h,_,_=>by rw [List.nil_perm.1 h]
 | a :: U,[],h,_,_=>by have:=h.length_eq;simp at this
 | a :: U,b :: V,h,hu,hv=>by
  obtain ⟨hu1,hu2⟩:=List.pairwise_cons.1 hu;obtain ⟨hv1,hv2⟩:=List.pairwise_cons.1 hv
  by_cases e:a=b
  ·subst e
   rw [q0g6 h.cons_inv hu2 hv2]
  ·have m1:a ∈ V:=by
    rcases List.mem_cons.1 (h.mem_iff.1 (List.mem_cons_self ..)) with h | h
    ·exact absurd h e
    ·exact h
   have m2:b ∈ U:=by
    rcases List.mem_cons.1 (h.mem_iff.2 (List.mem_cons_self ..)) with h | h
    ·exact absurd h.symm e
    ·exact h
   exact absurd (q0fp (hu1 b m2) (hv1 a m1)) id
def dimA:List Am:=[⟨3,0,⟨#[51,50,55,54,56]⟩⟩]
def hoX1:List Fx:=[⟨1,1,nPar,1,1,1,nCa⟩,⟨2,1,nPar,1,2,1,nCa⟩,⟨3,1,nPar,1,3,2,⟨#[]⟩⟩,⟨4,1,nFan,1,4,3,⟨#[]⟩⟩]
def hoX2:List Fx:=[⟨3,1,nPar,1,3,1,⟨#[]⟩⟩,⟨4,1,nFan,1,4,1,⟨#[]⟩⟩]
def hoP (S:Nat):List PC:=(hoPL S).map Prod.fst
theorem ho_uni (S:Nat):uniE [] (hoPL S) hoX=0∧uniE [] (hoPL S) hoX1=0∧uniE [] (hoPL S) hoX2=0:=⟨by kernel_rfl,by kernel_rfl,by kernel_rfl⟩
theorem q0ek:givE dimA=0:=by kernel_rfl
def hoU:List (List Nat):=[[0,1],[2],[3]]
theorem q0fa:unitsV hoX=hoU:=by kernel_rfl
def hoW (i:Nat):Int:=if i<3 then 1000 else if i=3 then 200 else 0
theorem ho_w (S:Nat):∀ i,wN (hoP S) hoX i=hoW i
 | 0=>by kernel_rfl
 | 1=>by kernel_rfl
 | 2=>by kernel_rfl
 | 3=>by kernel_rfl
 | n+4=>by
  have e:hoX.getD (n+4) fx0=fx0:=by rw [List.getD_eq_getElem?_getD,List.getElem?_eq_none (by show 4≤n+4;omega)];rfl
  have h:hoW (n+4)=0:=by unfold hoW;rw [if_neg (by omega),if_neg (by omega)]
  rw [h];unfold wN;rw [e];exact (show ∀ S:Nat,wattV (hoP S) fx0=0 from fun S=>by kernel_rfl) S
theorem q0f7:hoU.Pairwise (ltU hoW):=by
 refine List.pairwise_cons.2 ⟨fun b hb=>?_,List.pairwise_cons.2 ⟨fun b hb=>?_,List.pairwise_cons.2 ⟨fun b hb=>(by cases hb),List.Pairwise.nil⟩⟩⟩
 ·rcases List.mem_cons.1 hb with rfl | hb
  ·exact Or.inl (by decide)
  ·rcases List.mem_cons.1 hb with rfl | hb
   ·exact Or.inl (by decide)
   ·cases hb
 ·rcases List.mem_cons.1 hb with rfl | hb
  ·exact Or.inl (by decide)
  ·cases hb
theorem q0f8 (S:Nat) {U:List (List Nat)} (h1:U.Perm (unitsV hoX)) (h2:U.Pairwise (ltU (wN (hoP S) hoX))):setPh hoX (runU (wN (hoP S) hoX) (phX hoX) U).2=hoX1:=by
 rw [show wN (hoP S) hoX=hoW from funext (ho_w S)] at h2 ⊢
 rw [q0fa] at h1;rw [q0g6 h1 h2 q0f7]
 kernel_rfl
theorem ho_pc (S:Nat) (s:ByteArray):(s=nPar→pcF (hoP S) s=some ⟨nPar,1,1000,some ⟨S+1,0,none⟩,1,1⟩)∧(s=nFan→pcF (hoP S) s=some ⟨nFan,1,200,none,0,0⟩) :=
 ⟨fun h=>by subst h;kernel_rfl,fun h=>by subst h;kernel_rfl⟩
theorem ho_in {X:List Fx} (h:X=hoX∨X=hoX1∨X=hoX2):∀ x ∈ X,(x.pr=nPar∨x.pr=nFan)∧(1≤x.ph∧x.ph≤3)∧x.cb.size≤9223372036854775807:=by
 intro x hx
 rcases h with rfl | rfl | rfl
 ·rcases List.mem_cons.1 hx with rfl | hx
  ·decide
  ·rcases List.mem_cons.1 hx with rfl | hx
   ·decide
   ·rcases List.mem_cons.1 hx with rfl | hx
    ·decide
    ·rcases List.mem_cons.1 hx with rfl | hx
     ·decide
     ·cases hx
 ·rcases List.mem_cons.1 hx with rfl | hx
  ·decide
  ·rcases List.mem_cons.1 hx with rfl | hx
   ·decide
   ·rcases List.mem_cons.1 hx with rfl | hx
    ·decide
    ·rcases List.mem_cons.1 hx with rfl | hx
     ·decide
     ·cases hx
 ·rcases List.mem_cons.1 hx with rfl | hx
  ·decide
  ·rcases List.mem_cons.1 hx with rfl | hx
   ·decide
   ·cases hx
theorem ho_wok (S:Nat) {X:List Fx} (h:X=hoX∨X=hoX1∨X=hoX2):WOk (hoP S) X:=by
 intro x hx
 rcases (ho_in h x hx).1 with e | e
 ·exact ⟨_,(ho_pc S x.pr).1 e,(by show (0:Int)≤1000;decide),(by show (1000:Int)≤1048576;decide)⟩
 ·exact ⟨_,(ho_pc S x.pr).2 e,(by show (0:Int)≤200;decide),(by show (200:Int)≤1048576;decide)⟩
def q3:Rat:=loadQ [hoF] dimA 3 1000
def q4:Rat:=loadQ [] dimA 4 200
def hoLd (x:Fx):Rat:=if x.ch=3 then q3 else q4
theorem ho_q:sR q3=⟨#[54,53,53,51,54,48,48,47,49,51,49,48,55]⟩∧sR q4=⟨#[50,48,48]⟩:=⟨by kernel_rfl,by kernel_rfl⟩
theorem q3_sz:SzR 100 q3:=by
 have e:q3.num=6553600∧q3.den=13107:=⟨by kernel_rfl,by kernel_rfl⟩
 refine ⟨?_,?_⟩
 ·rw [e.1];decide
 ·rw [e.2];decide
theorem q4_sz:SzR 100 q4:=by
 have e:q4.num=200∧q4.den=1:=⟨by kernel_rfl,by kernel_rfl⟩
 refine ⟨?_,?_⟩
 ·rw [e.1];decide
 ·rw [e.2];decide
theorem q0f2 (x:Fx):SzR 100 (hoLd x):=by
 unfold hoLd
 split
 ·exact q3_sz
 ·exact q4_sz
theorem ho_ph:sR (phQ hoLd hoX2 1)=⟨#[57,49,55,53,48,48,48,47,49,51,49,48,55]⟩∧sR (phQ hoLd hoX2 2)=⟨#[48]⟩∧sR (phQ hoLd hoX2 3)=⟨#[48]⟩:=⟨by kernel_rfl,by kernel_rfl,by kernel_rfl⟩
theorem ho_sz (k:Nat) (j:Int):SzR 1000 (phQ hoLd (hoX2.take k) j):=by
 have h0:SzR 1000 (0:Rat):=(show SzR 1 (0:Rat) from ⟨by decide,by decide⟩).up (by decide)
 have hf:∀ (l:List Fx),l.length≤2→SzR 1000 (l.foldl (fun s x=>s+hoLd x) 0):=by
  intro l hl
  match l,hl with
  | [],_=>exact h0
  | [a],_=>exact (SzR.add (k:=1) (m:=100) ⟨by decide,by decide⟩ (q0f2 a)).up (by decide)
  | [a,b],_=>exact (SzR.add (SzR.add (k:=1) (m:=100) ⟨by decide,by decide⟩ (q0f2 a)) (q0f2 b)).up (by decide)
 unfold phQ;refine hf _ (Nat.le_trans (List.length_filter_le _ _) ?_);rw [List.length_take];exact Nat.min_le_right _ _
theorem ho_ups (S:Nat):phaseV (hoP S) hoX1 1=2000∧phaseV (hoP S) hoX1 2=1000∧phaseV (hoP S) hoX1 3=200∧phaseV (hoP S) hoX2 1=1200∧phaseV (hoP S) hoX2 2=0∧phaseV (hoP S) hoX2 3=0:=⟨by kernel_rfl,by kernel_rfl,by kernel_rfl,by kernel_rfl,by kernel_rfl,by kernel_rfl⟩
theorem ho_amp:ampV ⟨#[49,49,53,48]⟩ 230=⟨#[53]⟩∧ampE ⟨#[49,49,53,48]⟩ 230=0:=⟨by kernel_rfl,by kernel_rfl⟩
theorem q0el:toldT dimA 3 0 0=sR ((32768:Int):Rat)∧SzR 130 ((32768:Int):Rat):=⟨by kernel_rfl,SzR.int (by decide) (by decide)⟩
def HoR (w:World) (S:Nat) (A2:Option Addr) (X:List Fx) (B:Nat):Prop:=InPs w (some ⟨S+1+1+1+1,0,none⟩) 2 (hoPL S)∧shF.In w (some ⟨S+1,0,none⟩) 1 [hoF]∧shX.In w A2 X.length X∧shAm.In w (some ⟨B,0,none⟩) 1 dimA
theorem HoR.below {w w':World} {S:Nat} {A2:Option Addr} {X:List Fx} {B:Nat} (h:HoR w S A2 X B) (hb:Below w.heap.size w w'):HoR w' S A2 X B :=
 ⟨h.1.below hb,h.2.1.below hb,h.2.2.1.below hb,h.2.2.2.below hb⟩
theorem ho_ck (S:Nat) (A2:Option Addr) (X:List Fx) (B d2:Nat) (w:World) (h:HoR w S A2 X B) (hX:X=hoX∨X=hoX1∨X=hoX2) (hd:X.length≤d2∧d2≤9223372036854775807) :
  ∀ w',Below w.heap.size w w'→Calls prog 62 #[.agg #[.slice none 0 0,.slice (some ⟨S+1+1+1+1,0,none⟩) 2 2,.slice A2 X.length d2]] w' fun e w''=>e=.returned (.int .i64 0)∧Below w'.heap.size w' w'':=by
 intro w' hb;have hu:uniE [] (hoPL S) X=0:=by
  rcases hX with rfl | rfl | rfl
  ·exact (ho_uni S).1
  ·exact (ho_uni S).2.1
  ·exact (ho_uni S).2.2
 have:=qtm none 0 0 [] [] (some ⟨S+1+1+1+1,0,none⟩) 2 2 (hoPL S) A2 X.length d2 X w' ⟨Sh.In.nil _ _,rfl,fun i h=>absurd h (Nat.not_lt_zero _)⟩ (fun h hh=>by cases hh) (h.below hb).1 (by decide) (h.below hb).2.2.1 hd.1 hd.2 (fun x hx=>(ho_in hX x hx).2.2)
 rw [hu] at this;exact this
theorem ho_lit (S:Nat) (A2:Option Addr) (X:List Fx) (B d2 c:Nat) (w:World) (h:HoR w S A2 X B) (hX:X=hoX∨X=hoX1∨X=hoX2) (hd:X.length≤d2∧d2≤9223372036854775807) (ht:Tab w) (hr:Rng w) :
  ∀ w',Below w.heap.size w w'→Calls prog 57 #[.agg #[.slice none 0 0,.slice (some ⟨S+1+1+1+1,0,none⟩) 2 2,.slice A2 X.length d2],.slice (some ⟨B,0,none⟩) 1 c] w' fun e w''=>e=.returned (.tuple #[.agg #[.slice none 0 0,.slice (some ⟨S+1+1+1+1,0,none⟩) 2 2,.slice A2 X.length d2],.int .i64 0])∧Below w'.heap.size w' w'':=by
 intro w' hb;have hu:uniE [] (hoPL S) X=0:=by
  rcases hX with rfl | rfl | rfl
  ·exact (ho_uni S).1
  ·exact (ho_uni S).2.1
  ·exact (ho_uni S).2.2
 have hfE:frE [] (hoPL S) X dimA=0:=by unfold frE;rw [hu,if_neg (fun h=>h rfl),q0ek]
 refine q0if none 0 0 (some ⟨S+1+1+1+1,0,none⟩) 2 2 A2 X.length d2 (some ⟨B,0,none⟩) 1 c w' fun w2 hb2=>?_
 have h2:=(h.below hb).below hb2
 have:=qtn none 0 0 [] [] (some ⟨S+1+1+1+1,0,none⟩) 2 2 (hoPL S) A2 X.length d2 X (some ⟨B,0,none⟩) 1 c dimA w2 ⟨Sh.In.nil _ _,rfl,fun i h=>absurd h (Nat.not_lt_zero _)⟩ (fun h hh=>by cases hh) (by decide) h2.1 (by decide) h2.2.2.1 hd.1 hd.2 (fun x hx=>(ho_in hX x hx).2.2) h2.2.2.2 (by decide) (fun a ha=>by
  unfold dimA at ha
  rcases List.mem_cons.1 ha with rfl | ha
  ·decide
  ·cases ha) ((ht.below hb).below hb2) ((hr.below hb).below hb2)
 rw [hfE] at this;refine this.mono ?_;rintro e w3 ⟨r,rfl,A',c',rfl,ho,hb3⟩;exact ⟨_,rfl,hb3⟩
theorem ho_ld (S:Nat) (A2:Option Addr) (X:List Fx) (B d2 c:Nat) (w:World) (h:HoR w S A2 X B) (ht:Tab w) (x:Fx) (hx:(x.ch=3∧x.pr=nPar)∨(x.ch=4∧x.pr=nFan)) :
  ∀ w',Below w.heap.size w w'→Calls prog 60 #[.agg #[.slice none 0 0,.slice (some ⟨S+1+1+1+1,0,none⟩) 2 2,.slice A2 X.length d2],.slice (some ⟨B,0,none⟩) 1 c,x.val] w' fun e w''=>e=.returned (.tuple #[.string (sR (hoLd x)),.int .i64 0])∧Below w'.heap.size w' w'':=by
 intro w' hb;have h1:=h.below hb
 rcases hx with ⟨e1,e2⟩ | ⟨e1,e2⟩
 ·have:=q0f1 none 0 0 (some ⟨S+1+1+1+1,0,none⟩) 2 2 A2 X.length d2 (hoP S) x _ [hoF] (some ⟨B,0,none⟩) 1 c dimA w' h1.1.1 (by decide) ((ho_pc S x.pr).1 e2) h1.2.1 (by show (1:Nat)≤9223372036854775807;decide) h1.2.2.2 (by decide) ⟨(by show (0:Int)≤1000;decide),(by show (1000:Int)≤1048576;decide)⟩ (fun f hf _=>by
   rcases List.mem_cons.1 hf with rfl | hf
   ·rw [e1]
    exact ⟨⟨by decide,by decide⟩,_,q0el⟩
   ·cases hf) (ht.below hb)
  rw [e1] at this;rw [show hoLd x=q3 by unfold hoLd;rw [if_pos e1]]
  exact this
 ·have:=q0f1 none 0 0 (some ⟨S+1+1+1+1,0,none⟩) 2 2 A2 X.length d2 (hoP S) x _ [] (some ⟨B,0,none⟩) 1 c dimA w' h1.1.1 (by decide) ((ho_pc S x.pr).2 e2) (Sh.In.nil _ _) (by decide) h1.2.2.2 (by decide) ⟨by decide,by decide⟩ (fun f hf _=>by cases hf) (ht.below hb)
  rw [e1] at this;rw [show hoLd x=q4 by unfold hoLd;rw [if_neg (by omega)]]
  exact this
end

section
open Go.RowKit
theorem In_at {α:Type} {S:Sh α} {w:World} {B o:Nat} {vs pre:List Value} {l:List α} (h:Cells w B vs) (he:vs=pre ++ S.vs l) (ho:pre.length=o):S.In w (some ⟨B,o,none⟩) l.length l :=
 ⟨rfl,S.vs_length l,fun _=>⟨B,o,rfl,h.1,fun j u hu=>h.at_ (by rw [he,List.getElem?_append_right (by omega),ho];simpa using hu)⟩⟩
theorem q0f5 (S:Nat) (A2:Option Addr) (B d2 c:Nat) (w:World) (h:HoR w S A2 hoX B) (hd:4≤d2∧d2≤9223372036854775807) (ht:Tab w) (hr:Rng w) :
  Calls prog 25 #[.agg #[.slice none 0 0,.slice (some ⟨S+1+1+1+1,0,none⟩) 2 2,.slice A2 4 d2],.slice (some ⟨B,0,none⟩) 1 c,.int .i64 3,.int .i64 1] w fun e w'=>e=.returned (.tuple #[.string ⟨#[54,53,53,51,54,48,48,47,49,51,49,48,55]⟩,.int .i64 0])∧Below w.heap.size w w':=by
 have:=q0i6 none 0 0 (some ⟨S+1+1+1+1,0,none⟩) 2 2 A2 d2 (some ⟨B,0,none⟩) 1 c hoX 3 1 2 _ w (ho_lit S A2 hoX B d2 c w h (Or.inl rfl) hd ht hr) h.2.2.1 (by decide) (by decide) (by kernel_rfl) (ho_ld S A2 hoX B d2 c w h ht hoX[2] (Or.inl ⟨rfl,rfl⟩))
 rw [show sR (hoLd hoX[2])=⟨#[54,53,53,51,54,48,48,47,49,51,49,48,55]⟩ from ho_q.1] at this
 exact this
theorem q0f6 (S:Nat) (A2:Option Addr) (B d2 c:Nat) (w:World) (h:HoR w S A2 hoX B) (hd:4≤d2∧d2≤9223372036854775807) (ht:Tab w) (hr:Rng w) :
  Calls prog 25 #[.agg #[.slice none 0 0,.slice (some ⟨S+1+1+1+1,0,none⟩) 2 2,.slice A2 4 d2],.slice (some ⟨B,0,none⟩) 1 c,.int .i64 4,.int .i64 1] w fun e w'=>e=.returned (.tuple #[.string ⟨#[50,48,48]⟩,.int .i64 0])∧Below w.heap.size w w':=by
 have:=q0i6 none 0 0 (some ⟨S+1+1+1+1,0,none⟩) 2 2 A2 d2 (some ⟨B,0,none⟩) 1 c hoX 4 1 3 _ w (ho_lit S A2 hoX B d2 c w h (Or.inl rfl) hd ht hr) h.2.2.1 (by decide) (by decide) (by kernel_rfl) (ho_ld S A2 hoX B d2 c w h ht hoX[3] (Or.inr ⟨rfl,rfl⟩))
 rw [show sR (hoLd hoX[3])=⟨#[50,48,48]⟩ from ho_q.2] at this
 exact this
theorem ho_spr (S:Nat) (A2:Option Addr) (B d2:Nat) (w:World) (h:HoR w S A2 hoX B) (hd:4≤d2∧d2≤9223372036854775807) :
  Calls prog 9 #[.agg #[.slice none 0 0,.slice (some ⟨S+1+1+1+1,0,none⟩) 2 2,.slice A2 4 d2]] w fun e w'=>∃ g c',e=.returned (.tuple #[.slice (some ⟨g,0,none⟩) 4 c',.int .i64 0])∧w.heap.size≤g∧Cells w' g (shX.vs hoX1)∧(4≤c'∧c'≤9223372036854775807)∧Below w.heap.size w w':=by
 refine (q0i9 none 0 0 (some ⟨S+1+1+1+1,0,none⟩) 2 2 A2 d2 (hoP S) hoX w (ho_ck S A2 hoX B d2 w h (Or.inl rfl) hd) h.1.1 (by decide) h.2.2.1 (by decide) (ho_wok S (Or.inl rfl))).mono ?_
 rintro e w' ⟨U,r,rfl,h1,h2,A',c',rfl,ho,hb⟩;rw [q0f8 S h1 h2] at ho;obtain ⟨g,cap,hv,hg⟩:=ho.form (by decide)
 injection hv with q1 q2 q3
 subst q1;exact ⟨g,c',rfl,(ho.lt g rfl).1,q023 ho,qft ho,hb⟩
theorem q0f9 (S:Nat) (A2:Option Addr) (B d2:Nat) (w:World) (h:HoR w S A2 hoX1 B) (hd:4≤d2∧d2≤9223372036854775807) :
  Calls prog 19 #[.agg #[.slice none 0 0,.slice (some ⟨S+1+1+1+1,0,none⟩) 2 2,.slice A2 4 d2]] w fun e w'=>e=.returned (.tuple #[.int .i64 1800,.int .i64 0])∧Below w.heap.size w w':=by
 have:=q0ia none 0 0 (some ⟨S+1+1+1+1,0,none⟩) 2 2 A2 4 d2 (hoP S) hoX1 w (ho_ck S A2 hoX1 B d2 w h (Or.inr (Or.inl rfl)) hd) h.1.1 (by decide) h.2.2.1 (by decide) (ho_wok S (Or.inr (Or.inl rfl))) (fun x hx=>(ho_in (Or.inr (Or.inl rfl)) x hx).2.1)
 obtain ⟨a1,a2,a3,_⟩:=ho_ups S;rw [a1,a2,a3] at this;exact this
theorem ho_phs (S:Nat) (A2:Option Addr) (B d2 c:Nat) (w:World) (h:HoR w S A2 hoX2 B) (hd:2≤d2∧d2≤9223372036854775807) (ht:Tab w) (hr:Rng w) :
  Calls prog 26 #[.agg #[.slice none 0 0,.slice (some ⟨S+1+1+1+1,0,none⟩) 2 2,.slice A2 2 d2],.slice (some ⟨B,0,none⟩) 1 c] w fun e w'=>e=.returned (.tuple #[.agg #[.string ⟨#[57,49,55,53,48,48,48,47,49,51,49,48,55]⟩,.string ⟨#[48]⟩,.string ⟨#[48]⟩],.int .i64 0])∧Below w.heap.size w w':=by
 have:=q0i7 none 0 0 (some ⟨S+1+1+1+1,0,none⟩) 2 2 A2 d2 (some ⟨B,0,none⟩) 1 c hoX2 hoLd w (ho_lit S A2 hoX2 B d2 c w h (Or.inr (Or.inr rfl)) hd ht hr) h.2.2.1 (by decide) (fun x hx=>(ho_in (Or.inr (Or.inr rfl)) x hx).2.1) (fun x hx=>ho_ld S A2 hoX2 B d2 c w h ht x (by
  unfold hoX2 at hx
  rcases List.mem_cons.1 hx with rfl | hx
  ·exact Or.inl ⟨rfl,rfl⟩
  ·rcases List.mem_cons.1 hx with rfl | hx
   ·exact Or.inr ⟨rfl,rfl⟩
   ·cases hx)) ho_sz (fun x _=>(q0f2 x).up (by decide)) ht
 obtain ⟨a1,a2,a3⟩:=ho_ph;rw [a1,a2,a3] at this;exact this
theorem q0f4 (S:Nat) (A2:Option Addr) (B d2:Nat) (w:World) (h:HoR w S A2 hoX2 B) (hd:2≤d2∧d2≤9223372036854775807) :
  Calls prog 17 #[.agg #[.slice none 0 0,.slice (some ⟨S+1+1+1+1,0,none⟩) 2 2,.slice A2 2 d2]] w fun e w'=>e=.returned (.tuple #[.agg #[.int .i64 1200,.int .i64 0,.int .i64 0],.int .i64 0])∧Below w.heap.size w w':=by
 have:=q0i4 none 0 0 (some ⟨S+1+1+1+1,0,none⟩) 2 2 A2 2 d2 (hoP S) hoX2 w (ho_ck S A2 hoX2 B d2 w h (Or.inr (Or.inr rfl)) hd) h.1.1 (by decide) h.2.2.1 (by decide) (ho_wok S (Or.inr (Or.inr rfl))) (fun x hx=>(ho_in (Or.inr (Or.inr rfl)) x hx).2.1)
 obtain ⟨_,_,_,a1,a2,a3⟩:=ho_ups S;rw [a1,a2,a3] at this;exact this
theorem q0f3 (w:World) (ht:Tab w):Calls prog 13 #[.string ⟨#[49,49,53,48]⟩,.int .i64 230] w fun e w'=>e=.returned (.tuple #[.string ⟨#[53]⟩,.int .i64 0])∧Below w.heap.size w w':=by
 have:=q0id ⟨#[49,49,53,48]⟩ 230 (by decide) (by decide) (by decide) w ht
 rw [ho_amp.1,ho_amp.2] at this;exact this
def AwK (w1 V:World) (S:Nat) (f:Value):Prop:=Below w1.heap.size w1 V∧RowAt V w1.heap.size #[.slice none 0 0,.slice (some ⟨S+1+1+1+1,0,none⟩) 2 2,f] 26∧Cells V (w1.heap.size+1) (shAm.vs dimA)
theorem AwK.below {w1 V V':World} {S:Nat} {f:Value} (h:AwK w1 V S f) (hb:Below V.heap.size V V'):AwK w1 V' S f :=
 ⟨ht_ h.1 hb,h.2.1.below hb h.2.1.lt,h.2.2.below hb h.2.2.1⟩
theorem AwK.store {w1 V:World} {S:Nat} {f:Value} (h:AwK w1 V S f) (f':Value):AwK w1 (V.setCell ⟨w1.heap.size,2,none⟩ f') S f' :=
 ⟨h.1.setCell (Nat.le_refl _) _,h.2.1.set 2 _,h.2.2.far _ _ (by omega)⟩
theorem AwK.far {w1 V:World} {S:Nat} {f:Value} (h:AwK w1 V S f) (g j:Nat) (hg:w1.heap.size+1<g) (v:Value):AwK w1 (V.setCell ⟨g,j,none⟩ v) S f :=
 ⟨h.1.setCell (show w1.heap.size≤g by omega) _,h.2.1.far _ _ (by omega),h.2.2.far _ _ (by omega)⟩
theorem AwK.house {w1 V:World} {S:Nat} {f:Value} {A2:Option Addr} {X:List Fx} (h:AwK w1 V S f) (hp:InPs w1 (some ⟨S+1+1+1+1,0,none⟩) 2 (hoPL S)) (hf:shF.In w1 (some ⟨S+1,0,none⟩) 1 [hoF]) (hx:shX.In V A2 X.length X):HoR V S A2 X (w1.heap.size+1) :=
 ⟨hp.below h.1,hf.below h.1,hx,In_of_cells (S:=shAm) (l:=dimA) h.2.2⟩
theorem q0eb (w:World) (ht:Tab w) (hr:Rng w):Calls prog 8 #[] w fun e w'=>e=.returned (.bool true)∧Below w.heap.size w w':=by
 have e1:∀ w,(binOp .eql 71 (.agg #[.string ⟨#[57,49,55,53,48,48,48,47,49,51,49,48,55]⟩,.string ⟨#[48]⟩,.string ⟨#[48]⟩]) (.agg #[.string ⟨#[57,49,55,53,48,48,48,47,49,51,49,48,55]⟩,.string ⟨#[48]⟩,.string ⟨#[48]⟩])).run prog w=.ok (.bool true) w:=fun w=>by kernel_rfl
 have e2:∀ w,(binOp .eql 47 (.agg #[.int .i64 1200,.int .i64 0,.int .i64 0]) (.agg #[.int .i64 1200,.int .i64 0,.int .i64 0])).run prog w=.ok (.bool true) w:=fun w=>by kernel_rfl
 have HT0:=hj_ ht;have HR0:=hj_ hr;clear ht hr
 go_enter func8,ntmps8
 go_wp2_with fail;refine (ho_any w).mono ?_;rintro e w1 ⟨A,c,rfl,hp,hx,hf,hc,hb⟩;obtain ⟨W2,hW2⟩:∃ W2,W2=(w1.alloc (.cells #[.slice none 0 0,.slice (some ⟨w.heap.size+1+1+1+1,0,none⟩) 2 2,.slice A 4 c] 26)).alloc (.cells #[.int .i64 3,.int .i64 0,.string ⟨#[51,50,55,54,56]⟩] 66):=⟨_,rfl⟩;have hb1:Below w1.heap.size w1 W2:=by rw [hW2];exact ((br_).alloc (Nat.le_refl _) _).alloc (by simp) _
 have hs2:W2.heap.size=w1.heap.size+1+1:=by rw [hW2];simp
 have hk:AwK w1 W2 w.heap.size (.slice A 4 c):=by
  obtain ⟨W1,hW1⟩:∃ W1,W1=w1.alloc (.cells #[.slice none 0 0,.slice (some ⟨w.heap.size+1+1+1+1,0,none⟩) 2 2,.slice A 4 c] 26):=⟨_,rfl⟩;have s1:W1.heap.size=w1.heap.size+1:=by rw [hW1];simp
  rw [← hW1] at hW2;have b2:Below W1.heap.size W1 W2:=by rw [hW2];exact (br_).alloc (Nat.le_refl _) _
  refine ⟨hb1,?_,?_⟩
  ·refine RowAt.below (w:=W1) ?_ b2 (by rw [s1];exact Nat.lt_succ_self _)
   rw [hW1];exact RowAt.fresh _ _ _
  ·rw [hW2,← s1]
   exact Cells.fresh W1 [.int .i64 3,.int .i64 0,.string ⟨#[51,50,55,54,56]⟩] _
 have HT:=hj_ (fun V f (k:AwK w1 V w.heap.size f)=>HT0.out.below (ht_ hb k.1))
 have HR:=hj_ (fun V f (k:AwK w1 V w.heap.size f)=>HR0.out.below (ht_ hb k.1))
 have HH:=hj_ (fun V f A2 X (k:AwK w1 V w.heap.size f) hx=>k.house (A2:=A2) (X:=X) hp hf hx)
 have HB:=hj_ hb;have HX:=hj_ (hx.below hb1);have HC:=hj_ hc;have HK:=hj_ hk;have HW2:=hj_ hW2;have HS2:=hj_ hs2;have z0:=hk.2.1.cell (j:=0) rfl;have z1:=hk.2.1.cell (j:=1) rfl;have z2:=hk.2.1.cell (j:=2) rfl;rw [hW2] at z0 z1 z2;clear hp hx hf hc hb hW2 hb1 hs2 hk;go_wp2_with fail;rw [← HW2.out];refine (q0f5 w.heap.size A (w1.heap.size+1) c 1 W2 (HH.out _ _ _ _ HK.out HX.out) HC.out (HT.out _ _ HK.out) (HR.out _ _ HK.out)).mono ?_;rintro e w3 ⟨rfl,hb⟩;replace HK:=hj_ (HK.out.below hb);replace HX:=hj_ (HX.out.below hb);have HZ:=hj_ hb.size;clear z0 z1 z2 hb;have z0:=HK.out.2.1.cell (j:=0) rfl;have z1:=HK.out.2.1.cell (j:=1) rfl;have z2:=HK.out.2.1.cell (j:=2) rfl;go_wp2_with fail;refine (q0f6 w.heap.size A (w1.heap.size+1) c 1 w3 (HH.out _ _ _ _ HK.out HX.out) HC.out (HT.out _ _ HK.out) (HR.out _ _ HK.out)).mono ?_;rintro e w4 ⟨rfl,hb⟩;replace HK:=hj_ (HK.out.below hb);replace HX:=hj_ (HX.out.below hb);replace HZ:=hj_ (Nat.le_trans HZ.out hb.size);clear z0 z1 z2 hb;have z0:=HK.out.2.1.cell (j:=0) rfl;have z1:=HK.out.2.1.cell (j:=1) rfl;have z2:=HK.out.2.1.cell (j:=2) rfl;go_wp2_with fail;refine (ho_spr w.heap.size A (w1.heap.size+1) c w4 (HH.out _ _ _ _ HK.out HX.out) HC.out).mono ?_;rintro e w5 ⟨g,c',rfl,hg,hcl,hc',hb⟩;replace HK:=hj_ (HK.out.below hb);have HG:=hj_ (show w1.heap.size+1<g by have:=HZ.out;have:=HS2.out;omega)
 have HCl:=hj_ hcl;have HC':=hj_ hc';clear z0 z1 z2 hb hg hcl hc';go_wp2_with fail;refine (q0f3 w5 (HT.out _ _ HK.out)).mono ?_;rintro e w6 ⟨rfl,hb⟩;replace HK:=hj_ (HK.out.below hb);replace HCl:=hj_ (HCl.out.below hb HCl.out.1);clear hb;have z0:=HK.out.2.1.cell (j:=0) rfl;have z1:=HK.out.2.1.cell (j:=1) rfl;have z2:=HK.out.2.1.cell (j:=2) rfl;have f2:=HK.out.2.1.fr 2;have t0:=HCl.out.at_ (j:=5) rfl
 have t1:=HCl.out.at_ (j:=12) rfl
 have t2:=HCl.out.at_ (j:=19) rfl
 have t3:=HCl.out.at_ (j:=26) rfl
 obtain ⟨W7,hW7⟩:∃ W7,W7=w6.setCell ⟨w1.heap.size,2,none⟩ (.slice (some ⟨g,0,none⟩) 4 c'):=⟨_,rfl⟩;have hk7:=HK.out.store (.slice (some ⟨g,0,none⟩) 4 c');rw [← hW7] at hk7;have hcl7:Cells W7 g (shX.vs hoX1):=by rw [hW7];exact HCl.out.far _ _ (by have:=HG.out;omega)
 have HK7:=hj_ hk7;have HCl7:=hj_ hcl7;have HW7:=hj_ hW7;clear hk7 hcl7 hW7;go_wp2_with fail;rw [← HW7.out];clear z0 z1 z2 f2 t0 t1 t2 t3;refine (q0f9 w.heap.size (some ⟨g,0,none⟩) (w1.heap.size+1) c' W7 (HH.out _ _ _ _ HK7.out (In_of_cells (S:=shX) (l:=hoX1) HCl7.out)) HC'.out).mono ?_;rintro e w8 ⟨rfl,hb⟩;have HK8:=hj_ (HK7.out.below hb);have HCl8:=hj_ (HCl7.out.below hb HCl7.out.1);clear hb;have z2:=HK8.out.2.1.cell (j:=2) rfl;have f2:=HK8.out.2.1.fr 2;have hcc:=HC'.out;obtain ⟨hcc1,hcc2⟩:=hcc;obtain ⟨W9,hW9⟩:∃ W9,W9=w8.setCell ⟨w1.heap.size,2,none⟩ (.slice (some ⟨g,14,none⟩) 2 (c' - 2)):=⟨_,rfl⟩;have hk9:=HK8.out.store (.slice (some ⟨g,14,none⟩) 2 (c' - 2));rw [← hW9] at hk9;have hcl9:Cells W9 g (shX.vs hoX1):=by rw [hW9];exact HCl8.out.far _ _ (by have:=HG.out;omega)
 have HK9:=hj_ hk9;have HCl9:=hj_ hcl9;have HW9:=hj_ hW9;clear hk9 hcl9 hW9
 go_upto_region 14 with fail
 rw [← HW9.out];clear z2 f2;have b0:=(Below.refl W9.heap.size W9).drew;have z2:=(HK9.out.below b0).2.1.cell (j:=2) rfl;have hcl0:=HCl9.out;have g0:=hcl0.fr (j:=19) rfl;have g1:=hcl0.fr (j:=26) rfl;have t0:=hcl0.at_ (j:=19) rfl
 have t1:=hcl0.at_ (j:=26) rfl
 have hne:g≠w1.heap.size:=by have:=HG.out;omega
 have hne2:w1.heap.size≠g:=fun h=>hne h.symm
 refine wp_region_held_drew (S:=fun w'=>w'.cell? ⟨w1.heap.size,2,none⟩=some (.slice (some ⟨g,14,none⟩) 2 (c' - 2))) (by kernel_rfl) (by first | exact z2) (fun hHeld=>?_)
 refine tq 0 ?_;refine tq 1 ?_;refine tq 2 ?_;refine tq 3 ?_;refine tq 4 ?_;refine tq 5 ?_;refine wpAnyH_ready (rs:=[6]) (by kernel_rfl) (by simp) ?_
 refine AllReadyH.cons rfl (fun K hK=>?_) AllReadyH.nil
 go_simp
 refine hK.out _ _ (by first | exact z2 | exact (World.cell?_setCell_far _ _ _ _ hne).trans z2 | exact (World.cell?_setCell_far _ _ _ _ hne).trans ((World.cell?_setCell_far _ _ _ _ hne).trans z2)) (fun hHeld=>?_)
 clear hK K
 try simp only [Act.put,List.setIfInBounds_toArray,List.set_cons_zero,List.set_cons_succ]
 refine tq 7 ?_;refine tq 8 ?_;refine wpAnyH_ready (rs:=[9]) (by kernel_rfl) (by simp) ?_
 refine AllReadyH.cons rfl (fun K hK=>?_) AllReadyH.nil
 go_simp
 refine hK.out _ _ (by first | exact z2 | exact (World.cell?_setCell_far _ _ _ _ hne).trans z2 | exact (World.cell?_setCell_far _ _ _ _ hne).trans ((World.cell?_setCell_far _ _ _ _ hne).trans z2)) (fun hHeld=>?_)
 clear hK K
 try simp only [Act.put,List.setIfInBounds_toArray,List.set_cons_zero,List.set_cons_succ]
 refine wpAnyH_done (by kernel_rfl) ?_ _
 have hs:=(HCl9.out.set 19 (.int .i64 1) (by decide)).set 26 (.int .i64 1) (by rw [List.length_set];decide)
 have hvs:((shX.vs hoX1).set 19 (.int .i64 1)).set 26 (.int .i64 1)=shX.vs (hoX1.take 2) ++ shX.vs hoX2:=by kernel_rfl
 have hk10:=(HK9.out.far g 19 HG.out (.int .i64 1)).far g 26 HG.out (.int .i64 1);generalize (W9.setCell ⟨g,19,none⟩ (.int .i64 1)).setCell ⟨g,26,none⟩ (.int .i64 1)=V5 at *;have b5:=(Below.refl V5.heap.size V5).drew;have HK10:=hj_ (hk10.below b5);have HX10:=hj_ (In_at (S:=shX) (hs.below b5 hs.1) hvs (o:=14) rfl);clear hs hvs hk10 b5 b0 z2 hcl0 g0 g1 t0 t1 hHeld;have z0:=HK10.out.2.1.cell (j:=0) rfl;have z1:=HK10.out.2.1.cell (j:=1) rfl;have z2:=HK10.out.2.1.cell (j:=2) rfl;go_wp2_with fail;refine (ho_phs w.heap.size (some ⟨g,14,none⟩) (w1.heap.size+1) (c' - 2) 1 V5.drew (HH.out _ _ _ _ HK10.out HX10.out) ⟨by omega,by omega⟩ (HT.out _ _ HK10.out) (HR.out _ _ HK10.out)).mono ?_
 rintro e w11 ⟨rfl,hb⟩;have hk:=HK10.out.below hb;have hx:=HX10.out.below hb;clear z0 z1 z2 hb;obtain ⟨W12,hW12⟩:∃ W12,W12=w11.alloc (.cells #[.string ⟨#[57,49,55,53,48,48,48,47,49,51,49,48,55]⟩,.string ⟨#[48]⟩,.string ⟨#[48]⟩] 71):=⟨_,rfl⟩;have hb12:Below w11.heap.size w11 W12:=by rw [hW12];exact (br_).alloc (Nat.le_refl _) _
 have HK12:=hj_ (hk.below hb12);have HX12:=hj_ (hx.below hb12);have HP12:=hj_ (show Cells W12 w11.heap.size [.string ⟨#[57,49,55,53,48,48,48,47,49,51,49,48,55]⟩,.string ⟨#[48]⟩,.string ⟨#[48]⟩] by rw [hW12];exact Cells.fresh w11 [.string ⟨#[57,49,55,53,48,48,48,47,49,51,49,48,55]⟩,.string ⟨#[48]⟩,.string ⟨#[48]⟩] _)
 have HW12:=hj_ hW12;have z0:=HK12.out.2.1.cell (j:=0) rfl;have z1:=HK12.out.2.1.cell (j:=1) rfl;have z2:=HK12.out.2.1.cell (j:=2) rfl;rw [hW12] at z0 z1 z2;clear hk hx hb12 hW12;go_wp2_with fail;rw [← HW12.out];refine (q0f4 w.heap.size (some ⟨g,14,none⟩) (w1.heap.size+1) (c' - 2) W12 (HH.out _ _ _ _ HK12.out HX12.out) ⟨by omega,by omega⟩).mono ?_
 rintro e w13 ⟨rfl,hb⟩;have HK13:=hj_ (HK12.out.below hb);have hp13:=HP12.out.below hb HP12.out.1;clear z0 z1 z2 hb;have hb14:Below w13.heap.size w13 (w13.alloc (.cells #[.int .i64 1200,.int .i64 0,.int .i64 0] 47)):=(br_).alloc (Nat.le_refl _) _;have hp14:=hp13.below hb14 hp13.1;have p0:=hp14.at_ (j:=0) rfl
 have p1:=hp14.at_ (j:=1) rfl
 have p2:=hp14.at_ (j:=2) rfl
 have HB14:=hj_ (HB.out.trans ((ht_ HK13.out.1 hb14).mono HB.out.size));clear hp13 hb14 hp14;go_wp2_with fail;go_ret;exact ⟨rfl,HB14.out⟩
end

end Go.Proofs.YtabhjdmmfdfpeaaGreatDoor
