/- Lemmas. -/
import Derived.Test.YtmcbkdlfhffphaaGreatDoorMUniJ
namespace Go.Proofs.YtmcbkdlfhffphaaGreatDoor
set_option maxHeartbeats 32000000
set_option maxRecDepth 100000
open _root_.Go.Proofs.Tryz

section
open Go.RowKit
theorem infoFe:(prog.info? 52).map (fun i=>(i.zero,i.size,i.bytes))=some (some (.agg #[.int .i64 0,.int .i64 0,.int .i64 0,.int .i64 0,.int .i64 0,.int .i64 0,.int .i64 0,.int .i64 0,.bool false,.slice none 0 0]),10,96):=by kernel_rfl
theorem fe_one (a b c d e f g h:Int) (s:Bool) (A:Option Addr) (n k:Nat):∀ u ∈ [Value.int .i64 a,.int .i64 b,.int .i64 c,.int .i64 d,.int .i64 e,.int .i64 f,.int .i64 g,.int .i64 h,.bool s,.slice A n k],u.oneCell' = true:=by simp;exact ⟨rfl,rfl,rfl,rfl,rfl,rfl,rfl,rfl,rfl,rfl⟩
def lampN:ByteArray:=⟨#[108,97,109,112]⟩
def lampF (k:Nat):FC:=⟨3+(k:Int),16,2*(k:Int),2*(k:Int)+1,0,0,0,65535,false,none,0,0⟩
def lampFs:Nat→List FC
 | 0=>[]
 | n+1=>lampFs n ++ [lampF n]
def lampX:List Fx:=[⟨1,1,lampN,1,10,1,⟨#[]⟩⟩]
def lampPL (G c:Nat):List (PC × List Fea):=[(⟨lampN,6,0,some ⟨G,0,none⟩,3,c⟩,(lampFs 3).map fun f=>f.fea [])]
theorem q01w {w:World} {G c B:Nat} (hG:Cells w G (shF.vs (lampFs 3))) (hB:Cells w B [.string lampN,.int .i64 6,.int .i64 0,.slice (some ⟨G,0,none⟩) 3 c]):InPs w (some ⟨B,0,none⟩) 1 (lampPL G c):=by
 refine ⟨In_of_cells (S:=shPr) (l:=(lampPL G c).map Prod.fst) hB,fun x hx=>?_⟩
 unfold lampPL at hx
 rcases List.mem_cons.1 hx with rfl | hx
 ·refine ⟨lampFs 3,⟨In_of_cells (S:=shF) (l:=lampFs 3) hG,rfl,fun i h h'=>?_⟩,(by show (3:Nat)≤9223372036854775806;decide),fun i h h'=>?_⟩
  ·have:i<3:=h
   match i,this with
   | 0,_=>exact ⟨rfl,Sh.In.nil _ _⟩
   | 1,_=>exact ⟨rfl,Sh.In.nil _ _⟩
   | 2,_=>exact ⟨rfl,Sh.In.nil _ _⟩
  ·have:i<3:=h
   match i,this with
   | 0,_=>exact ⟨Sh.In.nil _ _,⟨Nat.le_refl _,(by show (0:Nat)≤9223372036854775807;decide)⟩,fun x h=>by cases h⟩
   | 1,_=>exact ⟨Sh.In.nil _ _,⟨Nat.le_refl _,(by show (0:Nat)≤9223372036854775807;decide)⟩,fun x h=>by cases h⟩
   | 2,_=>exact ⟨Sh.In.nil _ _,⟨Nat.le_refl _,(by show (0:Nat)≤9223372036854775807;decide)⟩,fun x h=>by cases h⟩
 ·cases hx
theorem q023 {w:World} {base:Nat} {e:TypeId} {z:Nat} {g n c:Nat} {xs:List Value} (h:w.ownsRow base e z (.slice (some ⟨g,0,none⟩) n c) n xs):Cells w g xs:=by
 obtain ⟨cur,hc⟩:=qfr h;have hR:RowAt w g cur e:=hc;exact ⟨hR.lt,fun j u hu=>⟨by
  have q:=h.cells (g:=g) rfl j u hu;unfold Addr.add at q
  split at q <;> simp_all,hR.fr j⟩⟩
theorem q024 {w:World} {base:Nat} {e:TypeId} {z:Nat} {v:Value} {n:Nat} {xs:List Value} (h:w.ownsRow base e z v n xs) (P j:Nat) (u:Value) (hP:P<base):(w.setCell ⟨P,j,none⟩ u).ownsRow base e z v n xs :=
 ⟨h.1,h.2.imp id fun ⟨g,cap,cur,hv,hg,hc,r⟩=>⟨g,cap,cur,hv,hg,RowAt.far (B:=g) hc j u (by omega),r⟩⟩
theorem q0d2 (w:World) :
  Calls prog 13 #[] w fun e w'=>∃ G c B1 B2,e=.returned (.agg #[.slice none 0 0,.slice (some ⟨B1,0,none⟩) 1 1,.slice (some ⟨B2,0,none⟩) 1 1])∧w'.ownsRow w.heap.size 52 10 (.slice (some ⟨G,0,none⟩) 3 c) 3 (shF.vs (lampFs 3))∧Cells w' B1 [.string lampN,.int .i64 6,.int .i64 0,.slice (some ⟨G,0,none⟩) 3 c]∧Cells w' B2 (shX.vs lampX)∧(3≤c∧c≤9223372036854775807)∧(w.heap.size≤G∧w.heap.size≤B1∧w.heap.size≤B2)∧(G≠B1∧G≠B2∧B1≠B2)∧Below w.heap.size w w':=by
 obtain ⟨W,hW⟩:∃ W,W=((w.alloc (.cells #[.slice none 0 0,.slice none 0 0,.slice none 0 0] 26)).alloc (.cells #[.string lampN,.int .i64 6,.int .i64 0,.slice none 0 0] 39)).alloc (.cells #[.int .i64 3,.int .i64 4,.int .i64 5] 3):=⟨_,rfl⟩;have hs:W.heap.size=w.heap.size+1+1+1:=by rw [hW];simp
 obtain ⟨hb0,hk0⟩:=box3 #[.slice none 0 0,.slice none 0 0,.slice none 0 0] 26 #[.string lampN,.int .i64 6,.int .i64 0,.slice none 0 0] 39 #[.int .i64 3,.int .i64 4,.int .i64 5] 3 w W hW;have HQ0:=hj_ (show RowAt W w.heap.size #[.slice none 0 0,.slice none 0 0,.slice none 0 0] 26∧RowAt W (w.heap.size+1) #[.string lampN,.int .i64 6,.int .i64 0,.slice none 0 0] 39∧RowAt W (w.heap.size+1+1) #[.int .i64 3,.int .i64 4,.int .i64 5] 3 from by
  have r0:=RowAt.fresh w #[.slice none 0 0,.slice none 0 0,.slice none 0 0] 26;have r1:=RowAt.fresh (w.alloc (.cells #[.slice none 0 0,.slice none 0 0,.slice none 0 0] 26)) #[.string lampN,.int .i64 6,.int .i64 0,.slice none 0 0] 39;have r2:=RowAt.fresh ((w.alloc (.cells #[.slice none 0 0,.slice none 0 0,.slice none 0 0] 26)).alloc (.cells #[.string lampN,.int .i64 6,.int .i64 0,.slice none 0 0] 39)) #[.int .i64 3,.int .i64 4,.int .i64 5] 3;have b1:Below (w.heap.size+1) (w.alloc (.cells #[.slice none 0 0,.slice none 0 0,.slice none 0 0] 26)) W:=by rw [hW];exact ((br_).alloc (by simp) _).alloc (by simp) _
  have b2:Below (w.heap.size+1+1) ((w.alloc (.cells #[.slice none 0 0,.slice none 0 0,.slice none 0 0] 26)).alloc (.cells #[.string lampN,.int .i64 6,.int .i64 0,.slice none 0 0] 39)) W:=by rw [hW];exact (br_).alloc (by simp) _
  refine ⟨r0.below b1 (by omega),?_,?_⟩
  ·have:=r1.below b2 (by simp)
   simpa using this
  ·rw [hW]
   simpa using r2)
 have HW:=hj_ hW;have HB0:=hj_ hb0;have HS:=hj_ hs;clear hW hk0 hb0 hs
 go_enter func13,ntmps13
 go_wp2_with fail;unfold lampN at HW;rw [← HW.out]
 go_loopw [7] (fun iv wr=>∃ (k:Nat) (A:Option Addr) (c:Nat),k≤3∧iv=.int .i64 k∧wr.ownsRow W.heap.size 52 10 (.slice A k c) k (shF.vs (lampFs k))∧RowAt wr (w.heap.size+1) #[.string lampN,.int .i64 6,.int .i64 0,.slice A k c] 39∧RowAt wr w.heap.size #[.slice none 0 0,.slice none 0 0,.slice none 0 0] 26∧RowAt wr (w.heap.size+1+1) #[.int .i64 3,.int .i64 4,.int .i64 5] 3∧Below w.heap.size w wr∧W.heap.size≤wr.heap.size) (fun iv _=>3-(intOf iv).toNat)
 case atStart=>exact ⟨0,none,0,by omega,rfl,World.ownsRow_nil _ _ _ _,HQ0.out.2.1,HQ0.out.1,HQ0.out.2.2,HB0.out,Nat.le_refl _⟩
 case round =>
  obtain ⟨k,A,c,hk,rfl,hown,hP,hR,hI,hB,hsz⟩:=hrel;have HP:=hj_ hP;have HR:=hj_ hR;have HI:=hj_ hI;have HB:=hj_ hB;have HO:=hj_ hown;have HZ:=hj_ hsz;have hs:=HS.out;have n0:w.heap.size<wr.heap.size:=by omega
  have n1:w.heap.size+1<wr.heap.size:=by omega
  have n2:w.heap.size+1+1<wr.heap.size:=by omega
  have p0:=hP.cell (j:=0) rfl;have p1:=hP.cell (j:=1) rfl;have p2:=hP.cell (j:=2) rfl;have p3:=hP.cell (j:=3) rfl
  by_cases hlt:k<3
  case pos =>
   have t0:wr.cell? ⟨w.heap.size+1+1,k,none⟩=some (.int .i64 (3+(k:Int))):=by
    match k,hlt with
    | 0,_=>exact hI.cell (j:=0) rfl
    | 1,_=>exact hI.cell (j:=1) rfl
    | 2,_=>exact hI.cell (j:=2) rfl
   have i0:(0:Int)≤(k:Int):=by omega
   have i1:(k:Int)<3:=by omega
   have w0:IntKind.i64.wrap ((k:Int)+1)=(k:Int)+1:=IntWalk.i64_in _ (by omega)
   have w1:IntKind.i64.wrap (2*(k:Int))=2*(k:Int):=IntWalk.i64_in _ (by omega)
   have w2:IntKind.i64.wrap (2*(k:Int)+1)=2*(k:Int)+1:=IntWalk.i64_in _ (by omega)
   have hvs:shF.vs (lampFs (k+1))=shF.vs (lampFs k) ++ [.int .i64 (3+(k:Int)),.int .i64 16,.int .i64 (2*(k:Int)),.int .i64 (2*(k:Int)+1),.int .i64 0,.int .i64 0,.int .i64 0,.int .i64 65535,.bool false,.slice none 0 0]:=by rw [lampFs,Sh.vs_append,Sh.vs_one1];rfl
   have HVs:=hj_ hvs;clear hP hR hI hB hs hvs hsz;go_wp2_with (at_builtin;refine q003 rfl _ _ _ rfl W.heap.size _ _ 10 96 underlying37 infoFe rfl (by omega) _ k (shF.vs (lampFs k)) rfl hown [.int .i64 (3+(k:Int)),.int .i64 16,.int .i64 (2*(k:Int)),.int .i64 (2*(k:Int)+1),.int .i64 0,.int .i64 0,.int .i64 0,.int .i64 65535,.bool false,.slice none 0 0] _ _ _ rfl (by first | rfl | simp) rfl (fe_one _ _ _ _ _ _ _ _ _ _ _ _) (by unfold maxLen;omega) (by omega) HZ.out ?_;intro g cap w1 hown1 hg1;have HP1:=hj_ (qn6 HP.out HO.out (by decide) hg1);have q3:=HP1.out.cell (j:=3) rfl;have q4:=HP1.out.fr 3;have HG1:=hj_ hg1;have HO1:=hj_ hown1;clear p0 p1 p2 p3 hown1 hg1)
   go_roundw
   case rel=>exact ⟨k+1,some ⟨g,0,none⟩,cap,by omega,by go_num,by rw [HVs.out];exact q024 HO1.out _ _ _ (by have:=HS.out;omega),HP1.out.set 3 _,(qn6 HR.out HO.out (by decide) HG1.out).far _ _ (by omega),(qn6 HI.out HO.out (by decide) HG1.out).far _ _ (by omega),(q1a HB.out (Nat.le_refl _) (qfy HO.out (by have:=HS.out;omega)) HG1.out).setCell (Nat.le_succ _) _,by
    have h1:=HG1.out.size;have h2:=HZ.out;simp
    omega⟩
   case measure=>simp [intOf];omega
  case neg =>
   obtain rfl:k=3:=by omega
   have r0:=hR.cell (j:=0) rfl;have r1:=hR.cell (j:=1) rfl;have r2:=hR.cell (j:=2) rfl;have f0:=hR.fr 0;have f1:=hR.fr 1;have f2:=hR.fr 2;have m0:¬ w.heap.size=wr.heap.size:=by omega
   obtain ⟨hc1,hc2⟩:=qft hown;have hform:∃ g,A=some ⟨g,0,none⟩:=by
    rcases hown.2 with ⟨_,h⟩ | ⟨g,cap,cur,hv,_⟩
    ·cases h
    ·injection hv with e1
     exact ⟨g,e1⟩
   obtain ⟨g,rfl⟩:=hform;have hgl:=hown.lt g rfl;obtain ⟨W5,hW5⟩:∃ W5,W5=((wr.setCell ⟨w.heap.size,0,none⟩ (.slice none 0 0)).setCell ⟨w.heap.size,1,none⟩ (.slice (some ⟨wr.heap.size,0,none⟩) 1 1)).setCell ⟨w.heap.size,2,none⟩ (.slice (some ⟨wr.heap.size+1,0,none⟩) 1 1):=⟨_,rfl⟩;have s5:W5.heap.size=wr.heap.size:=by rw [hW5];simp
   have R5:RowAt W5 w.heap.size #[.slice none 0 0,.slice (some ⟨wr.heap.size,0,none⟩) 1 1,.slice (some ⟨wr.heap.size+1,0,none⟩) 1 1] 26:=by rw [hW5];exact ((hR.set 0 _).set 1 _).set 2 _
   have C5:W5.ownsRow W.heap.size 52 10 (.slice (some ⟨g,0,none⟩) 3 c) 3 (shF.vs (lampFs 3)):=by rw [hW5];exact q024 (q024 (q024 hown _ _ _ (by omega)) _ _ _ (by omega)) _ _ _ (by omega)
   have b5:Below w.heap.size w W5:=by rw [hW5];exact ((hB.setCell (Nat.le_refl _) _).setCell (Nat.le_refl _) _).setCell (Nat.le_refl _) _
   obtain ⟨W6,hW6⟩:∃ W6,W6=W5.alloc (.cells #[.string lampN,.int .i64 6,.int .i64 0,.slice (some ⟨g,0,none⟩) 3 c] 39):=⟨_,rfl⟩;obtain ⟨W7,hW7⟩:∃ W7,W7=W6.alloc (.cells #[.int .i64 1,.int .i64 1,.string ⟨#[108,97,109,112]⟩,.int .i64 1,.int .i64 10,.int .i64 1,.string ⟨#[]⟩] 36):=⟨_,rfl⟩;have s6:W6.heap.size=wr.heap.size+1:=by rw [hW6];simp [s5]
   have b6:Below W5.heap.size W5 W6:=by rw [hW6];exact (br_).alloc (Nat.le_refl _) _
   have b7:Below W6.heap.size W6 W7:=by rw [hW7];exact (br_).alloc (Nat.le_refl _) _
   have b57:=ht_ b6 b7;have D0:=qfy (qfq C5 b57) HB0.out.size;have D1:Cells W7 wr.heap.size [.string lampN,.int .i64 6,.int .i64 0,.slice (some ⟨g,0,none⟩) 3 c]:=(show Cells W6 wr.heap.size _ by rw [hW6,← s5];exact Cells.fresh W5 [.string lampN,.int .i64 6,.int .i64 0,.slice (some ⟨g,0,none⟩) 3 c] _).below b7 (by rw [s6];exact Nat.lt_succ_self _)
   have D2:Cells W7 (wr.heap.size+1) (shX.vs lampX):=by rw [hW7,← s6];exact Cells.fresh W6 [.int .i64 1,.int .i64 1,.string ⟨#[108,97,109,112]⟩,.int .i64 1,.int .i64 10,.int .i64 1,.string ⟨#[]⟩] _
   have Q:=R5.below b57 (by rw [s5];exact n0)
   have HW7:=hj_ (show W7=_ by rw [hW7,hW6,hW5])
   have HD:=hj_ (And.intro D0 (And.intro D1 (And.intro D2 (And.intro Q (ht_ b5 b57)))));have HN:=hj_ (show (3≤c∧c≤9223372036854775807)∧(w.heap.size≤g∧w.heap.size≤wr.heap.size∧w.heap.size≤wr.heap.size+1)∧(g≠wr.heap.size∧g≠wr.heap.size+1∧wr.heap.size≠wr.heap.size+1) from ⟨⟨hc1,hc2⟩,⟨by omega,by omega,by omega⟩,by omega,by omega,by omega⟩)
   clear hP hR hI hB hs hsz hown hW5 hW6 hW7 s5 s6 R5 C5 b5 b6 b7 b57 D0 D1 D2 Q hgl hc1 hc2;go_wp2_with fail;rw [← HW7.out];obtain ⟨D0,D1,D2,Q,hb⟩:=HD.out;have z0:=Q.cell (j:=0) rfl;have z1:=Q.cell (j:=1) rfl;have z2:=Q.cell (j:=2) rfl;refine bodyPost_ret (v:=.agg #[.slice none 0 0,.slice (some ⟨wr.heap.size,0,none⟩) 1 1,.slice (some ⟨wr.heap.size+1,0,none⟩) 1 1]) ?_ rfl ⟨g,c,wr.heap.size,wr.heap.size+1,rfl,D0,D1,D2,HN.out.1,HN.out.2.1,HN.out.2.2,hb⟩;rw [qlt rfl];clear D0 D1 D2 Q hb HD HN
   go_simp
theorem q026 (w:World) :
  Calls prog 13 #[] w fun e w'=>∃ G c B1 B2,e=.returned (.agg #[.slice none 0 0,.slice (some ⟨B1,0,none⟩) 1 1,.slice (some ⟨B2,0,none⟩) 1 1])∧Cells w' G (shF.vs (lampFs 3))∧Cells w' B1 [.string lampN,.int .i64 6,.int .i64 0,.slice (some ⟨G,0,none⟩) 3 c]∧Cells w' B2 (shX.vs lampX)∧(3≤c∧c≤9223372036854775807)∧(w.heap.size≤G∧w.heap.size≤B1∧w.heap.size≤B2)∧(G≠B1∧G≠B2∧B1≠B2)∧Below w.heap.size w w' :=
 (q0d2 w).mono fun _ _ ⟨G,c,B1,B2,h1,h2,h3⟩=>⟨G,c,B1,B2,h1,q023 h2,h3⟩
end

section
open Go.RowKit
theorem am_one (a b:Int) (s:ByteArray):∀ u ∈ [Value.int .i64 a,.int .i64 b,.string s],u.oneCell' = true:=by simp;exact ⟨rfl,rfl,rfl⟩
def lampT:Nat→ByteArray
 | 0=>⟨#[50,53,56]⟩
 | 1=>⟨#[51]⟩
 | _=>⟨#[54,53,53,51,53]⟩
def lampA:Nat→List Am
 | 0=>[]
 | n+1=>lampA n ++ [⟨1,3+(n:Int),lampT n⟩]
theorem q01x (G c:Nat):uniE [] (lampPL G c) lampX=0:=by kernel_rfl
theorem q01v:givE (lampA 3)=0:=by kernel_rfl
theorem q01t (G c:Nat):(⟨(pageV [] (lampA 3) (lampPL G c) lampX 1).toArray⟩:ByteArray).extract 9 15=⟨#[1,2,0,3,255,255]⟩:=by kernel_rfl
theorem q01u (G c:Nat):frV [] (lampPL G c) lampX (lampA 3)=[⟨1,⟨(pageV [] (lampA 3) (lampPL G c) lampX 1).toArray⟩⟩]:=by
 have hE:frE [] (lampPL G c) lampX (lampA 3)=0:=by unfold frE;rw [q01x,if_neg (fun h=>h rfl),q01v]
 unfold frV;rw [if_neg (fun h=>h hE)]
 rfl
theorem q029 (w:World) (ht:Tab w) (hr:Rng w):Calls prog 5 #[] w fun e w'=>e=.returned (.bool true)∧Below w.heap.size w w':=by
 have hFr:=fun (G c B1 B2:Nat) (A:Option Addr) (n c':Nat) (wk:World) (hp:InPs wk (some ⟨B1,0,none⟩) 1 (lampPL G c)) (hx:shX.In wk (some ⟨B2,0,none⟩) 1 lampX) (ha:shAm.In wk A n (lampA 3)) (hn:n≤100) (ht:Tab wk) (hr:Rng wk) =>
  qtn none 0 0 [] [] (some ⟨B1,0,none⟩) 1 1 (lampPL G c) (some ⟨B2,0,none⟩) 1 1 lampX A n c' (lampA 3) wk ⟨Sh.In.nil _ _,rfl,fun i h=>absurd h (Nat.not_lt_zero _)⟩ (fun h hh=>by cases hh) (by decide) hp (by decide) hx (by decide) (by decide) (fun x hx=>by
   unfold lampX at hx
   rcases List.mem_cons.1 hx with rfl | hx
   ·decide
   ·cases hx) ha (by omega) (fun a h=>by
   rcases List.mem_append.1 h with h | h
   ·rcases List.mem_append.1 h with h | h
    ·rcases List.mem_append.1 h with h | h
     ·cases h
     ·rcases List.mem_cons.1 h with rfl | h
      ·decide
      ·cases h
    ·rcases List.mem_cons.1 h with rfl | h
     ·decide
     ·cases h
   ·rcases List.mem_cons.1 h with rfl | h
    ·decide
    ·cases h) ht hr
 have hE:∀ G c,frE [] (lampPL G c) lampX (lampA 3)=0:=fun G c=>by unfold frE;rw [q01x,if_neg (fun h=>h rfl),q01v]
 have HFr:=hj_ (fun G c B1 B2 A n c' wk hp hx ha hn ht hr=>by have q:=hFr G c B1 B2 A n c' wk hp hx ha hn ht hr;rw [hE,q01u] at q;exact q)
 have HRig:=hj_ (fun w=>q026 w)
 have HT:=hj_ ht;have HR:=hj_ hr;obtain ⟨W,hW⟩:∃ W,W=w.alloc (.cells #[.string ⟨#[50,53,56]⟩,.string ⟨#[51]⟩,.string ⟨#[54,53,53,51,53]⟩] 59):=⟨_,rfl⟩;have hs:W.heap.size=w.heap.size+1:=by rw [hW];simp
 have hb0:Below w.heap.size w W:=by rw [hW];exact (br_).alloc (Nat.le_refl _) _
 have HC0:=hj_ (show Cells W w.heap.size [.string ⟨#[50,53,56]⟩,.string ⟨#[51]⟩,.string ⟨#[54,53,53,51,53]⟩] by rw [hW];exact Cells.fresh w [.string ⟨#[50,53,56]⟩,.string ⟨#[51]⟩,.string ⟨#[54,53,53,51,53]⟩] _)
 have HW:=hj_ hW;have HB0:=hj_ hb0;have HS:=hj_ hs;clear hW hs hb0 ht hr hFr hE
 go_enter func5,ntmps5
 go_wp2_with fail;rw [← HW.out]
 go_loopw [1,8] (fun vo iv wr=>∃ (k:Nat),k≤3∧iv=.int .i64 k∧wr.ownsRow W.heap.size 62 3 vo k (shAm.vs (lampA k))∧Below W.heap.size W wr) (fun _ iv _=>3-(intOf iv).toNat)
 case atStart=>exact ⟨0,by omega,rfl,World.ownsRow_nil _ _ _ _,br_⟩
 case round =>
  obtain ⟨k,hk,rfl,hown,hB⟩:=hrel;have HB:=hj_ hB;have HO:=hj_ hown;obtain ⟨Ao,co,rfl⟩:=qfu hown;have hz:=hB.size;have hC:=HC0.out.below hB HC0.out.1
  by_cases hlt:k<3
  case pos =>
   have t0:wr.cell? ⟨w.heap.size,k,none⟩=some (.string (lampT k)):=by
    match k,hlt with
    | 0,_=>exact hC.at_ (j:=0) rfl
    | 1,_=>exact hC.at_ (j:=1) rfl
    | 2,_=>exact hC.at_ (j:=2) rfl
   have n0:w.heap.size<wr.heap.size:=hC.1;have i0:(0:Int)≤(k:Int):=by omega
   have i1:(k:Int)<3:=by omega
   have w0:IntKind.i64.wrap ((k:Int)+1)=(k:Int)+1:=IntWalk.i64_in _ (by omega)
   have w1:IntKind.i64.wrap (3+(k:Int))=3+(k:Int):=IntWalk.i64_in _ (by omega)
   have hvs:shAm.vs (lampA (k+1))=shAm.vs (lampA k) ++ [.int .i64 1,.int .i64 (3+(k:Int)),.string (lampT k)]:=by rw [lampA,Sh.vs_append,Sh.vs_one1];rfl
   have HVs:=hj_ hvs;generalize lampT k=T at *;clear hvs hC hB;go_wp2_with (at_builtin;refine q003 rfl _ _ _ rfl W.heap.size _ _ 3 32 underlying56 infoAm rfl (by omega) _ k (shAm.vs (lampA k)) rfl hown [.int .i64 1,.int .i64 (3+(k:Int)),.string T] _ _ _ rfl (by first | rfl | simp) rfl (am_one _ _ _) (by unfold maxLen;omega) (by omega) hz ?_;intro g cap w1 hown1 hg1;have HO1:=hj_ hown1;have HG1:=hj_ hg1;clear hown1 hg1)
   go_roundw
   case rel=>exact ⟨k+1,by omega,by go_num,by rw [HVs.out];exact HO1.out,q1a HB.out (Nat.le_refl _) HO.out HG1.out⟩
   case measure=>simp [intOf];omega
  case neg =>
   obtain rfl:k=3:=by omega
   have HI:=hj_ (Sh.In.of_own (S:=shAm) (l:=lampA 3) HO.out rfl);have HTr:=hj_ ((HT.out.below HB0.out).below hB);have HRr:=hj_ ((HR.out.below HB0.out).below hB);clear hown hC hB hz;go_wp2_with fail;refine (HRig.out _).mono ?_;rintro e w5 ⟨G,c,B1,B2,rfl,hG,hB1,hB2,-,-,-,hb⟩;have HP:=hj_ (q01w hG hB1);have HX:=hj_ (In_of_cells (S:=shX) (l:=lampX) hB2);have HI5:=hj_ (HI.out.below hb);have HT5:=hj_ (HTr.out.below hb);have HR5:=hj_ (HRr.out.below hb);have HB5:=hj_ (ht_ HB.out hb);clear hG hB1 hB2 hb;go_wp2_with fail;refine (HFr.out G c B1 B2 Ao 3 co _ HP.out HX.out HI5.out (by decide) HT5.out HR5.out).mono ?_
   rintro e w6 ⟨r,rfl,A',c',rfl,ho,hb⟩;have hIf:=Sh.In.of_own ho rfl;obtain ⟨b,o,rfl,hbl,hcell⟩:=fm_at hIf (by show 0<1;exact Nat.zero_lt_one)
   have k1:=(hcell 0 (by show 0<1;exact Nat.zero_lt_one)).2
   have HBy:=hj_ (q01t G c);have hsz:(⟨(pageV [] (lampA 3) (lampPL G c) lampX 1).toArray⟩:ByteArray).size=512:=by
    show (pageV [] (lampA 3) (lampPL G c) lampX 1).toArray.size=512
    rw [List.size_toArray,qg7]
   have HBz:=hj_ (HB0.out.trans ((ht_ HB5.out hb).mono HB0.out.size));change w6.cell? ⟨b,o+0*2+1,none⟩=some (.string (⟨(pageV [] (lampA 3) (lampPL G c) lampX 1).toArray⟩:ByteArray)) at k1;generalize (⟨(pageV [] (lampA 3) (lampPL G c) lampX 1).toArray⟩:ByteArray)=S at *;clear ho hb hIf hcell hbl;have k2:w6.cell? ⟨b,o+1,none⟩=some (.string S):=by simpa using k1
   go_wp2_with fail;go_ret;exact ⟨congrArg (fun b=>Ending.returned (.bool b)) (show ((S.extract 9 15).toList == [1,2,0,3,255,255])=true by rw [HBy.out,ByteArray.toList_eq];rfl),HBz.out⟩
end

end Go.Proofs.YtmcbkdlfhffphaaGreatDoor
