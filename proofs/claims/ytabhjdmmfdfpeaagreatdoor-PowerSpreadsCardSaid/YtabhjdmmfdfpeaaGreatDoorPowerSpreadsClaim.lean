/- PowerSpreads: for every input the law returns true, and its arguments read behind the call as they read before. The package variables that the row lists hold what the program's text lays. -/
import Derived.Test.YtabhjdmmfdfpeaaGreatDoorPPwG
import Derived.Test.YtabhjdmmfdfpeaaGreatDoorPPwB
import Derived.Test.YtabhjdmmfdfpeaaGreatDoorPPwI
import Derived.Test.YtabhjdmmfdfpeaaGreatDoorMLaw
import Derived.Test.YtabhjdmmfdfpeaaGreatDoorHPowerSpreads
import Derived.Test.YtabhjdmmfdfpeaaGreatDoorCards
import Derived.Test.YtabhjdmmfdfpeaaGreatDoorTie
import Derived.SevenTiedAt
import Derived.SizedLaws
import Derived.Test.YtabhjdmmfdfpeaaGreatDoorMUp
namespace Go.Proofs.YtabhjdmmfdfpeaaGreatDoor
set_option maxHeartbeats 32000000
set_option maxRecDepth 100000
open _root_.Go.Proofs.Tryz
open Go.RowKit
theorem q0j2 (A0:Option Addr) (n0 d0:Nat) (A1:Option Addr) (n1 d1:Nat) (A2:Option Addr) (d2:Nat) (P:List PC) (X:List Fx) (E:Int) (w:World)
  (hck:∀ w',Below w.heap.size w w'→Calls Tryz.prog 62 #[.agg #[.slice A0 n0 d0,.slice A1 n1 d1,.slice A2 X.length d2]] w' fun e w''=>e=.returned (.int .i64 E)∧Below w'.heap.size w' w'')
  (hrk:∀ w',Below w.heap.size w w'→Calls Tryz.prog 38 #[.agg #[.slice A0 n0 d0,.slice A1 n1 d1,.slice A2 X.length d2]] w' fun e w''=>e=.returned (.int .i64 E)∧Below w'.heap.size w' w'')
  (hp:shPr.In w A1 n1 P) (hn1:n1≤9223372036854775806) (hx:shX.In w A2 X.length X) (hE:E=0→WOk P X∧X.length≤64) :
  Calls Tryz.prog 9 #[.agg #[.slice A0 n0 d0,.slice A1 n1 d1,.slice A2 X.length d2]] w fun e w'=>∃ Y r,Y.length≤1000∧e=.returned (.tuple #[r,.int .i64 E])∧shX.Out 45 Y w r w'∧∀ w2,Below w'.heap.size w' w2→Calls Tryz.prog 10 #[.agg #[.slice A0 n0 d0,.slice A1 n1 d1,.slice A2 X.length d2]] w2 fun e w3=>∃ r,e=.returned (.tuple #[r,.int .i64 E])∧shX.Out 45 Y w2 r w3:=by
 by_cases h0:E=0
 ·subst h0
  obtain ⟨hW,hX⟩:=hE rfl;refine (q0i9 A0 n0 d0 A1 n1 d1 A2 d2 P X w hck hp hn1 hx hX hW).mono ?_;rintro e w' ⟨U,r,rfl,h1,h2,ho⟩;have hb:Below w.heap.size w w':=by obtain ⟨_,_,_,_,hb⟩:=ho;exact hb
  refine ⟨_,r,?_,rfl,ho,fun w2 hb2=>?_⟩
  ·rw [q0ht];omega
  have hbb:=ht_ hb hb2
  cases A2 with
  | some ad=>exact q0kf A0 n0 d0 A1 n1 d1 ad d2 P X U w2 (fun w3 hb3=>hrk w3 (ht_ hbb hb3)) (hp.below hbb) hn1 (hx.below hbb) hX hW h1 h2
  | none =>
   have hnil:X=[]:=by
    by_cases hz:X.length=0
    ·exact List.length_eq_zero_iff.1 hz
    ·obtain ⟨b,o,e,_⟩:=fx_at hx o_
     cases e
   subst hnil;have hu:unitsV []=[]:=k_
   rw [hu] at h1;obtain rfl:=List.perm_nil.1 h1;exact q0ke A0 n0 d0 A1 n1 d1 d2 P w2 (fun w3 hb3=>hrk w3 (ht_ hbb hb3)) (hp.below hbb) hn1
 ·refine (q0i8 A0 n0 d0 A1 n1 d1 A2 X.length d2 E h0 w hck).mono ?_
  rintro e w' ⟨rfl,hb⟩;refine ⟨[],_,d_,rfl,Sh.Out.nil hb,fun w2 hb2=>?_⟩
  have hbb:=ht_ hb hb2;refine (q0kd A0 n0 d0 A1 n1 d1 A2 X.length d2 E h0 w2 (fun w3 hb3=>hrk w3 (ht_ hbb hb3))).mono ?_
  rintro e w3 ⟨rfl,hb3⟩;exact ⟨_,rfl,Sh.Out.nil hb3⟩
theorem q0kc (w:World) (g:RG) (H:List Hd) (L:List (List PT)) (PL:List (PC × List Fea)) (X:List Fx) (hg:g.Is w H L PL X) (ht:Tab w) (hr:Rng w) :
  Calls Tryz.prog 3 #[.agg g.cs.toArray] w fun e w'=>e=.returned (.bool true)∧Below w.heap.size w w':=by
 obtain ⟨A0,n0,d0,A1,n1,d1,A2,n2,d2⟩:=g;show Calls Tryz.prog 3 #[.agg #[.slice A0 n0 d0,.slice A1 n1 d1,.slice A2 n2 d2]] w fun e w'=>e=.returned (.bool true)∧Below w.heap.size w w'
 obtain ⟨⟨hl0,hm,hn0⟩,⟨hp,hpo,hnd1,hd1⟩,hx,⟨hnd2,hd2⟩,hcb⟩:=hg;dsimp only at hl0 hn0 hp hnd1 hd1 hx hnd2 hd2;obtain rfl:n2=X.length:=hx.1;have hn1l:n1=PL.length:=by have:=hp.1.1;simpa using this
 have HAw:=hj_ (fun w ht hr=>q0eb w ht hr)
 have HOw:=hj_ (fun w=>q0j6 A0 n0 d0 A1 n1 d1 A2 X.length d2 w)
 have HSm:=hj_ (fun w h1 h2=>q0j7 A0 n0 d0 A1 n1 d1 A2 X.length d2 H L PL w h1 hn0 h2 (Nat.le_trans hnd1 hd1))
 have HCk:=hj_ (fun w h1 h2 h3 (hn1:n1≤9223372036854775806)=>qtm A0 n0 d0 H L A1 n1 d1 PL A2 X.length d2 X w h1 hm h2 hn1 h3 hnd2 hd2 hcb)
 have HRc:=hj_ (fun w h1 h2 h3 (hn1:n1≤9223372036854775806) (hn2:X.length≤9223372036854775806)=>ql9 A0 n0 d0 H L A1 n1 d1 PL A2 X.length d2 X w h1 hm hn0 h2 hpo hn1 hnd1 hd1 h3 hn2 hcb)
 have HRL:=hj_ (And.intro hl0 (And.intro hp hx));have HT:=hj_ ht;have HRg:=hj_ hr;have HN1:=hj_ hn1l;clear hl0 hm hn0 hp hpo hnd1 hd1 hx hnd2 hd2 hcb hn1l ht hr;obtain ⟨W,HW,HB0,HK⟩:=bx3 w (.slice A0 n0 d0) (.slice A1 n1 d1) (.slice A2 X.length d2) 26;have hB:=Below.refl W.heap.size W;obtain ⟨c0,c1,c2⟩:=HK.out W hB;have HRLb:=hj_ (fun (w':World) (h:Below W.heap.size W w')=>show InN w' A0 n0 H L∧InR w' A1 n1 PL∧shX.In w' A2 X.length X from ⟨(HRL.out.1.below HB0.out).below h,(HRL.out.2.1.below HB0.out).below h,(HRL.out.2.2.below HB0.out).below h⟩)
 replace HT:=hj_ (HT.out.below HB0.out);replace HRg:=hj_ (HRg.out.below HB0.out);have HFin:=hj_ (fun (w':World) (h:Below W.heap.size W w')=>ht_ HB0.out h)
 clear HRL
 cases hfr:fewRg L PL X.length with
 | false =>
  rw [hfr] at HSm;clear hfr HCk HRc HOw
  go_enter Tryz.func3,Tryz.ntmps3
  go_wp2_with fail;rw [← HW.out];go_wp2_with fail;refine uq_ (HSm.out _ (HRLb.out _ hB).1 (HRLb.out _ hB).2.1) hB fun w1 hB=>?_;go_wp2_with fail;refine uq_ (HAw.out _ (HT.out.below hB) (HRg.out.below hB)) hB fun w2 hB=>?_;go_wp2_with fail;go_ret;exact ⟨rfl,HFin.out _ hB⟩
 | true =>
  have hfw:=q7x hfr;have hn1:n1≤40:=by rw [HN1.out];exact hfw.1
  have hn2:X.length≤70:=hfw.2.1;have HRLc:=hj_ (fun (w':World) (h:Below W.heap.size W w')=>show InN w' A0 n0 H L∧InPs w' A1 n1 PL∧shX.In w' A2 X.length X from ⟨(HRLb.out _ h).1,(HRLb.out _ h).2.1.few hfr,(HRLb.out _ h).2.2⟩)
  have HBo:=hj_ (fun (w':World) (h:Below W.heap.size W w')=>q0j2 A0 n0 d0 A1 n1 d1 A2 d2 (PL.map Prod.fst) X (uniE L PL X) w' (fun w2 h2=>HCk.out w2 (HRLc.out _ (ht_ h h2)).1 (HRLc.out _ (ht_ h h2)).2.1 (HRLc.out _ (ht_ h h2)).2.2 o_) (fun w2 h2=>HRc.out w2 (HRLc.out _ (ht_ h h2)).1 (HRLc.out _ (ht_ h h2)).2.1 (HRLc.out _ (ht_ h h2)).2.2 o_ o_) (HRLc.out _ h).2.1.1 o_ (HRLc.out _ h).2.2 (fun e=>⟨(q0kq e).1,(q0kq e).2.1⟩))
  rw [hfr] at HSm;clear hfr hfw hn1 hn2 HCk HRc;generalize uniE L PL X=E at *
  go_enter Tryz.func3,Tryz.ntmps3
  go_wp2_with fail;rw [← HW.out];go_wp2_with fail;refine uq_ (HSm.out _ (HRLb.out _ hB).1 (HRLb.out _ hB).2.1) hB ?_;clear hB c0 c1 c2;intro w1 hB;obtain ⟨c0,c1,c2⟩:=HK.out _ hB;go_wp2_with fail;refine (HBo.out _ hB).mono ?_;rintro e w2 ⟨Y,r,hY,rfl,hout,hnx⟩;obtain ⟨A3,c3,rfl,ho,hb⟩:=hout;replace hB:=ht_ hB hb;have HY:=hj_ hY;have HO2:=hj_ (Sh.In.of_own ho rfl);have HNx:=hj_ hnx;clear hb c0 c1 c2 hY ho hnx;obtain ⟨c0,c1,c2⟩:=HK.out _ hB;go_wp2_with fail;refine (HOw.out _).mono ?_;rintro e w3 ⟨rfl,hb⟩;have HO3:=hj_ (HO2.out.below hb);have hnx2:=HNx.out _ hb;replace hB:=ht_ hB hb;clear hb c0 c1 c2;go_wp2_with fail;refine hnx2.mono ?_;rintro e w4 ⟨r,rfl,A4,c4,rfl,ho,hb⟩;have HO4:=hj_ (HO3.out.below hb);have HI4:=hj_ (Sh.In.of_own ho rfl);replace hB:=ht_ hB hb;clear hb ho hnx2;go_wp2_with fail;refine (HAw.out _ (HT.out.below hB) (HRg.out.below hB)).mono ?_;rintro e w5 ⟨rfl,hb⟩;have HO5:=hj_ (HO4.out.below hb);have HI5:=hj_ (HI4.out.below hb);replace hB:=ht_ hB hb;clear hb;go_wp2_with fail;refine uq_ (q0kk A3 A4 c3 c4 Y _ HO5.out HI5.out HY.out) hB fun w6 hB=>?_;go_wp2_with fail;go_ret;exact ⟨rfl,HFin.out _ hB⟩
theorem q0ka (w:World) (g:RG) (hg:g.good w) (hL:Laid w) :
  Calls Tryz.prog 3 #[.agg g.cs.toArray] w fun e w'=>e=.returned (.bool true)∧Below w.heap.size w w':=by
 obtain ⟨H,L,PL,X,hg⟩:=hg;exact q0kc w g H L PL X hg hL.1 hL.2
end Go.Proofs.YtabhjdmmfdfpeaaGreatDoor

namespace Go.Proofs.YtabhjdmmfdfpeaaGreatDoor.powerSpreadsP
set_option maxHeartbeats 32000000
set_option maxRecDepth 100000
open _root_.Go.Proofs.Tryz
open Go.ChangeShapes Go.ChangeMaps Go.WideShapes Go.ChangeAt Go.RowKit
theorem lifted (os:Os) (started:os.Started) (H:Type) (enc:TypeId × Value→H) :
  ReturnsInHanded {} Tryz.checked os 3 .any (fun w args=>(Rows.powerSpreadsSpec.pre enc Tryz.prog Tryz.f3 [] false w args∧laidMetH Tryz.prog Rows.powerSpreadsRow.laid w)∧sizedMet enc Tryz.prog Tryz.f3 (OpenSpec.ofChange Rows.powerSpreadsSpec) false w args)
   (Rows.powerSpreadsSpec.post enc Tryz.prog Tryz.f3 false true false false):=by
 refine returnsInHanded_of_change_and (C:=Tryz.checked) (X:=fun w _=>laidMetH Tryz.prog Rows.powerSpreadsRow.laid w) (fun _ _ _ hh h=>h.of_heap hh) own_ started k_ Tryz.func3
  (ChangeSpec.witness_at (enc:=enc) (C:=Tryz.checked) (os:=os) (X:=fun w _=>laidMetH Tryz.prog Rows.powerSpreadsRow.laid w) false (qcj os) #[.agg #[.slice none 0 0,.slice none 0 0,.slice none 0 0]] 8 rfl k_ k_ k_ k_ k_ (qck os _)) ?_
 intro W base args ds gs before hval0 hW _ hWt hL _;have hval:∀ (j:Nat) t v,Tryz.f3.params[j]? = some t→args[j]? = some v→Value.okWide Tryz.prog W .any base t v:=hval0;have hW':=hW;obtain ⟨p,q,hA0,hV,rfl,hfz,hnd⟩:=hW;have hA:DataW.TrodAll enc Tryz.prog W 0 (fun _=>true) true Tryz.f3.params.toList args.toList ds p:=hA0
 rw [Tryz.params3] at hA hval hWt;obtain ⟨v0,vs0,d0,ds0,p0,q0,hargs,rfl,rfl,h0,r0⟩:=trodAll_cons hA;obtain ⟨rfl,rfl,rfl⟩:=trodAll_nil r0;obtain rfl:args=#[v0]:=by cases args;simp_all
 obtain ⟨rfl,rfl⟩:=trodVars_none hV;have lt0:∀ x ∈ p0,x.block<W.heap.size:=by obtain ⟨m,hm⟩:=h0;exact DataW.trod_lt m _ _ _ hm
 obtain ⟨cs0,fuel0,y0,rfl,hf0⟩:=q0a Tryz.underlying26 (hval 0 26 v0 rfl rfl) h0;obtain ⟨g0,rfl,hg0⟩:=qmc hf0;clear hA0 hval0 hWt;simp only [List.append_nil] at hW';refine (q0ka W g0 hg0 (qcl hL)).mono fun e W' ⟨he,bel⟩=>?_
 subst he;exact ⟨_,rfl,_,_,_,[],_,[],hW',trodAll_mk1 (shut_bool Tryz.underlying4 _),(trodAll_cons_mk (Below.trod qci k_ (of_decide_eq_true k_) h0 bel lt0) trodAll_mk0),rfl,bel.frame _,fun h=>by cases h⟩
theorem over:Rows.powerSpreadsRow.holds Tryz.pinned (OpenSpec.ofChange Rows.powerSpreadsSpec) :=
 OpenClaim.holds_of_wide 3 Tryz.f3 rfl rfl rfl rfl rfl rfl rfl ⟨rfl,rfl,rfl,rfl,rfl⟩ rfl rfl rfl rfl rfl k_ Tryz.func3 q0k9
  (of_decide_eq_true k_) (by unfold Func.isWrapper;rw [if_neg (of_decide_eq_false k_)];exact ⟨rfl,rfl⟩)
  (fun os started H enc _=>lifted os started H enc)
theorem qew:∀ t ∈ Tryz.f3.params.toList,Tryz.prog.wantsStandIn t=false:=by
 rw [Tryz.params3];intro t ht;simp only [List.mem_cons,List.not_mem_nil,or_false] at ht;subst ht
 kernel_rfl
theorem limb1:OpenClaim.wfByText (OpenSpec.ofChange Rows.powerSpreadsSpec) Rows.powerSpreadsRow=true:=k_
theorem limb2 : Tryz.pinned.checked.prog.mainIs = some ((true, "c8318d360e0c024054e6fcf728bc31ca31889c9b1c4374acf87c4bc26a77ea3a").1, (true, "c8318d360e0c024054e6fcf728bc31ca31889c9b1c4374acf87c4bc26a77ea3a").2.toList) := k_
theorem limb3:true=Tryz.pinned.checked.prog.looks []:=k_
theorem limb4:false=Rows.powerSpreadsRow.goesBy Tryz.pinned.checked.prog:=k_
theorem limb5 : Tryz.prog.funcNamed "luminaire/luminairelaw59.PowerSpreads" = some 3 := k_
theorem proved:Rows.PowerSpreadsCardSaid :=
 Claim7.holds_tied_plain_at .later [] [.data, .data, .data, .data, .sentinel, .sentinel, .pinned] true (true, "c8318d360e0c024054e6fcf728bc31ca31889c9b1c4374acf87c4bc26a77ea3a") true
  over (fun _ h=>by cases h) limb1 (fun _ h=>by cases h) powerSpreads_row_tie rfl ⟨rfl,rfl⟩ limb2 rfl
  (fun f fn hf hfn=>by
   obtain rfl:f=3:=Option.some.inj (limb5.symm.trans hf) |>.symm
   obtain rfl:fn=Tryz.f3:=(Option.some.inj (Tryz.func3.symm.trans hfn)).symm;exact ⟨limb3,fun j t ht=>qew t (Array.mem_toList_iff.2 (Array.mem_of_getElem? ht))⟩)
  limb4
#print axioms proved
end Go.Proofs.YtabhjdmmfdfpeaaGreatDoor.powerSpreadsP
