/- Lemmas. -/
import Derived.Test.YtbfikenbgfnfiaaGreatDoorKUniF
import Derived.Test.YtbfikenbgfnfiaaGreatDoorKUniG
namespace Go.Proofs.YtbfikenbgfnfiaaGreatDoor
set_option maxHeartbeats 32000000
open _root_.Go.Proofs.Tryz

section
open Go.RowKit
set_option maxRecDepth 100000 in
theorem qm3 (A0:Option Addr) (n0 d0:Nat) (A1:Option Addr) (n1 d1:Nat) (A2:Option Addr) (n2 d2:Nat) (P:List PC) (x:Fx) (p:PC) (w:World) (hp:shPr.In w A1 n1 P) (hn:n1≤9223372036854775806) (hx:pcF P x.pr=some p) :
  Calls prog 119 #[.agg #[.slice A0 n0 d0,.slice A1 n1 d1,.slice A2 n2 d2],x.val] w fun e w'=>e=.returned (.slice p.A p.n p.c)∧Below w.heap.size w w':=by
 obtain ⟨rfl,_⟩:=id hp;have HPf:=hj_ (fun w' hl=>qna A1 P.length d1 P x.pr w' hl hn)
 have hnn:¬ pcI P x.pr<0:=fun h=>by rw [qgv.1 h] at hx;cases hx
 have hat:=pcI_at hnn;rw [hx] at hat;have hge:=pcI_ge P x.pr;have hlt:=pcI_lt P x.pr;obtain ⟨k,hk⟩:∃ k:Nat,pcI P x.pr=k:=⟨(pcI P x.pr).toNat,by omega⟩
 have hkl:k<P.length:=by omega
 rw [hk,show ((k:Int).toNat)=k by omega,qa1 hkl] at hat
 rw [hk] at HPf
 injection hat with hat
 obtain ⟨ch,pt,pr,un,ad,ph,cb⟩:=x;dsimp only at HPf;show Calls prog 119 #[.agg #[.slice A0 n0 d0,.slice A1 P.length d1,.slice A2 n2 d2],.agg #[.int .i64 ch,.int .i64 pt,.string pr,.int .i64 un,.int .i64 ad,.int .i64 ph,.string cb]] w fun e w'=>e=.returned (.slice p.A p.n p.c)∧Below w.heap.size w w'
 obtain ⟨W,hW⟩:∃ W,W=((w.alloc (.cells #[.slice A0 n0 d0,.slice A1 P.length d1,.slice A2 n2 d2] 29)).alloc (.cells #[.int .i64 ch,.int .i64 pt,.string pr,.int .i64 un,.int .i64 ad,.int .i64 ph,.string cb] 55)):=⟨_,rfl⟩;obtain ⟨hB0,hK0⟩:=box2 #[.slice A0 n0 d0,.slice A1 P.length d1,.slice A2 n2 d2] 29 #[.int .i64 ch,.int .i64 pt,.string pr,.int .i64 un,.int .i64 ad,.int .i64 ph,.string cb] 55 w W hW;have hK:∀ w',Below W.heap.size W w'→w'.cell? ⟨w.heap.size,0,none⟩=some (.slice A0 n0 d0)∧w'.cell? ⟨w.heap.size,1,none⟩=some (.slice A1 P.length d1)∧w'.cell? ⟨w.heap.size,2,none⟩=some (.slice A2 n2 d2)∧w'.cell? ⟨w.heap.size+1,0,none⟩=some (.int .i64 ch)∧w'.cell? ⟨w.heap.size+1,1,none⟩=some (.int .i64 pt)∧w'.cell? ⟨w.heap.size+1,2,none⟩=some (.string pr)∧w'.cell? ⟨w.heap.size+1,3,none⟩=some (.int .i64 un)∧w'.cell? ⟨w.heap.size+1,4,none⟩=some (.int .i64 ad)∧w'.cell? ⟨w.heap.size+1,5,none⟩=some (.int .i64 ph)∧w'.cell? ⟨w.heap.size+1,6,none⟩=some (.string cb):=fun w' h=>⟨(hK0 w' h).1 0 _ rfl,(hK0 w' h).1 1 _ rfl,(hK0 w' h).1 2 _ rfl,(hK0 w' h).2 0 _ rfl,(hK0 w' h).2 1 _ rfl,(hK0 w' h).2 2 _ rfl,(hK0 w' h).2 3 _ rfl,(hK0 w' h).2 4 _ rfl,(hK0 w' h).2 5 _ rfl,(hK0 w' h).2 6 _ rfl⟩
 have HK:=hj_ hK;have HW:=hj_ hW;have HB0:=hj_ hB0;have hB:=Below.refl W.heap.size W;obtain ⟨c0,c1,c2,c3,c4,c5,c6,c7,c8,c9⟩:=hK W hB;clear hW hB0 hK hK0;have HP:=hj_ (hp.below HB0.out);obtain ⟨b,o,rfl,hbl,hcell⟩:=pc_at HP.out (by omega)
 have HC:=hj_ (fun (w':World) (h:Below W.heap.size W w')=>(h.cell (p:=⟨b,o+k*4+3,none⟩) hbl).trans (hcell k hkl).2.2.2)
 have i0:(0:Int)≤(k:Int):=by omega
 have i1:(k:Int)<(P.length:Int):=by omega
 rw [← hat] at HC;clear hp hnn hge hlt hk hx hcell hat;obtain ⟨ps,pf,pw,pA,pn,pc⟩:=p;dsimp only at HC ⊢;have HBw:=hj_ (fun (w':World) (h:Below W.heap.size W w')=>Nat.lt_of_lt_of_le hbl h.size)
 clear hbl
 go_enter func119,ntmps119
 go_wp2_with fail;rw [← HW.out];replace hB:=q18 hB 1;obtain ⟨c0,c1,c2,c3,c4,c5,c6,c7,c8,c9⟩:=HK.out _ hB;have p0:=HC.out _ hB;have hbw:=HBw.out _ hB
 go_region_held3 (fun w'=>w'.cell? ⟨w.heap.size,1,none⟩=some (.slice (some ⟨b,o,none⟩) P.length d1)∧w'.cell? ⟨w.heap.size+1,2,none⟩=some (.string pr)∧w'.cell? ⟨b,o+k*4+3,none⟩=some (.slice pA pn pc)) (exact ⟨c1,c5,p0⟩) ((go_at_call 42;refine uq_ (HPf.out _ (HP.out.below hB)) hB ?_;clear hB;intro wk hB;obtain ⟨c0,c1,c2,c3,c4,c5,c6,c7,c8,c9⟩:=HK.out _ hB;have p0:=HC.out _ hB;have hbw:=HBw.out _ hB))
 go_wp2_with fail;go_ret;exact ⟨rfl,ht_ HB0.out hB⟩
end

section
open Go.RowKit
end

end Go.Proofs.YtbfikenbgfnfiaaGreatDoor
