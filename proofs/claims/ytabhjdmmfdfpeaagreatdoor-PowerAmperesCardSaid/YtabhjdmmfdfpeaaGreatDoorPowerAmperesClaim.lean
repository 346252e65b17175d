/- PowerAmperes: for every input the law returns true, and its arguments read behind the call as they read before. The package variables that the row lists hold what the program's text lays. -/
import Derived.Test.YtabhjdmmfdfpeaaGreatDoorPPwH
import Derived.Test.YtabhjdmmfdfpeaaGreatDoorMLaw
import Derived.Test.YtabhjdmmfdfpeaaGreatDoorHPowerAmperes
import Derived.Test.YtabhjdmmfdfpeaaGreatDoorCards
import Derived.Test.YtabhjdmmfdfpeaaGreatDoorTie
import Derived.SevenTiedAt
import Derived.SizedLaws
namespace Go.Proofs.YtabhjdmmfdfpeaaGreatDoor
set_option maxHeartbeats 32000000
set_option maxRecDepth 100000
open _root_.Go.Proofs.Tryz
open Go.RowKit
theorem q0g5 (w:World) (s:ByteArray) (v:Int) (hsz:s.size≤9223372036854775807) (v0:-9223372036854775808≤v) (v1:v≤9223372036854775807) (ht:Tab w) (hr:Rng w) :
  Calls Tryz.prog 4 #[.string s,.int .i64 v] w fun e w'=>e=.returned (.bool true)∧Below w.heap.size w w':=by
 have HAw:=hj_ (fun w ht hr=>q0eb w ht hr)
 have HT:=hj_ ht;have HR:=hj_ hr;clear ht hr
 by_cases hs:s.size≤300
 ·have HU:=hj_ (fun w h=>q0id s v hs v0 v1 w h)
  have HV:=hj_ (fun w=>q0hc s v hs v0 v1 w)
  have g1:¬ (300:Int)<(s.size:Int):=by omega
  generalize ampV s v=Z at *;generalize ampE s v=E at *;clear v0 v1 hs
  go_enter Tryz.func4,Tryz.ntmps4
  go_wp2_with fail;refine (HU.out _ HT.out).mono ?_;rintro e w1 ⟨rfl,hb⟩;have HB1:=hj_ hb;clear hb;go_wp2_with fail;refine (HV.out _).mono ?_;rintro e w2 ⟨rfl,hb⟩;have HB2:=hj_ (ht_ HB1.out hb);clear hb;go_wp2_with fail;refine (HAw.out _ (HT.out.below HB2.out) (HR.out.below HB2.out)).mono ?_;rintro e w3 ⟨rfl,hb⟩;have HB3:=hj_ (ht_ HB2.out hb);clear hb;go_wp2_with fail;go_ret;exact ⟨rfl,HB3.out⟩
 ·have g1:(300:Int)<(s.size:Int):=by omega
  clear v0 v1 hs
  go_enter Tryz.func4,Tryz.ntmps4
  go_wp2_with fail;refine (HAw.out _ HT.out HR.out).mono ?_;rintro e w3 ⟨rfl,hb⟩;have HB3:=hj_ hb;clear hb;go_wp2_with fail;go_ret;exact ⟨rfl,HB3.out⟩
theorem q0h9 (w:World) (s:ByteArray) (hs:s.size≤maxLen) (v:Int) (hv:(Lit.int .i64 v).wf=true) (hL:Laid w) :
  Calls Tryz.prog 4 #[.string s,.int .i64 v] w fun e w'=>e=.returned (.bool true)∧Below w.heap.size w w':=by
 exact q0g5 w s v hs (int_bd hv).1 (int_bd hv).2 hL.1 hL.2
end Go.Proofs.YtabhjdmmfdfpeaaGreatDoor

namespace Go.Proofs.YtabhjdmmfdfpeaaGreatDoor.powerAmperesP
set_option maxHeartbeats 32000000
set_option maxRecDepth 100000
open _root_.Go.Proofs.Tryz
open Go.ChangeShapes Go.ChangeMaps Go.WideShapes Go.ChangeAt Go.RowKit
theorem lifted (os:Os) (started:os.Started) (H:Type) (enc:TypeId × Value→H) :
  ReturnsInHanded {} Tryz.checked os 4 .any (fun w args=>(Rows.powerAmperesSpec.pre enc Tryz.prog Tryz.f4 [] false w args∧laidMetH Tryz.prog Rows.powerAmperesRow.laid w)∧sizedMet enc Tryz.prog Tryz.f4 (OpenSpec.ofChange Rows.powerAmperesSpec) false w args)
   (Rows.powerAmperesSpec.post enc Tryz.prog Tryz.f4 false true false false):=by
 refine returnsInHanded_of_change_and (C:=Tryz.checked) (X:=fun w _=>laidMetH Tryz.prog Rows.powerAmperesRow.laid w) (fun _ _ _ hh h=>h.of_heap hh) own_ started (by kernel_rfl) Tryz.func4
  (ChangeSpec.witness_at (enc:=enc) (C:=Tryz.checked) (os:=os) (X:=fun w _=>laidMetH Tryz.prog Rows.powerAmperesRow.laid w) false (qcj os) #[.string ⟨#[]⟩,.int .i64 0] 8 rfl (by kernel_rfl) (by kernel_rfl) (by kernel_rfl) (by kernel_rfl) (by kernel_rfl) (qck os _)) ?_
 intro W base args ds gs before hval0 hW _ hWt hL _;have hval:∀ (j:Nat) t v,Tryz.f4.params[j]? = some t→args[j]? = some v→Value.okWide Tryz.prog W .any base t v:=hval0;have hW':=hW;obtain ⟨p,q,hA0,hV,rfl,hfz,hnd⟩:=hW;have hA:DataW.TrodAll enc Tryz.prog W 0 (fun _=>true) true Tryz.f4.params.toList args.toList ds p:=hA0
 rw [Tryz.params4] at hA hval hWt;obtain ⟨v0,vs0,d0,ds0,p0,q0,hargs,rfl,rfl,h0,r0⟩:=trodAll_cons hA;obtain ⟨v1,vs1,d1,ds1,p1,q1,rfl,rfl,rfl,h1,r1⟩:=trodAll_cons r0;obtain ⟨rfl,rfl,rfl⟩:=trodAll_nil r1;obtain rfl:args=#[v0,v1]:=by cases args;simp_all
 obtain ⟨rfl,rfl⟩:=trodVars_none hV;obtain ⟨x0,rfl,rfl,rfl,w0⟩:=open_string Tryz.underlying38 (hval 0 38 v0 rfl rfl) h0;obtain ⟨x1,rfl,rfl,rfl,w1⟩:=open_int Tryz.underlying3 (hval 1 3 v1 rfl rfl) h1;clear hA0 hval0 hWt;simp only [List.append_nil] at hW';refine (q0h9 W x0 w0 x1 w1 (qcl hL)).mono fun e W' ⟨he,bel⟩=>?_
 subst he;exact ⟨_,rfl,_,_,_,[],_,[],hW',trodAll_mk1 (shut_bool Tryz.underlying4 _),(trodAll_cons_mk (shut_string Tryz.underlying38 w0) (trodAll_cons_mk (shut_int Tryz.underlying3 w1) trodAll_mk0)),rfl,bel.frame _,fun h=>by cases h⟩
theorem over:Rows.powerAmperesRow.holds Tryz.pinned (OpenSpec.ofChange Rows.powerAmperesSpec) :=
 OpenClaim.holds_of_wide 4 Tryz.f4 rfl rfl rfl rfl rfl rfl rfl ⟨rfl,rfl,rfl,rfl,rfl⟩ rfl rfl rfl rfl rfl (by kernel_rfl) Tryz.func4 q0h8
  (of_decide_eq_true (by kernel_rfl)) (by unfold Func.isWrapper;rw [if_neg (of_decide_eq_false (by kernel_rfl))];exact ⟨rfl,rfl⟩)
  (fun os started H enc _=>lifted os started H enc)
theorem qew:∀ t ∈ Tryz.f4.params.toList,Tryz.prog.wantsStandIn t=false:=by
 rw [Tryz.params4];intro t ht;simp only [List.mem_cons,List.not_mem_nil,or_false] at ht
 rcases ht with rfl | rfl <;> kernel_rfl
theorem limb1:OpenClaim.wfByText (OpenSpec.ofChange Rows.powerAmperesSpec) Rows.powerAmperesRow=true:=by kernel_rfl
theorem limb2 : Tryz.pinned.checked.prog.mainIs = some ((true, "c8318d360e0c024054e6fcf728bc31ca31889c9b1c4374acf87c4bc26a77ea3a").1, (true, "c8318d360e0c024054e6fcf728bc31ca31889c9b1c4374acf87c4bc26a77ea3a").2.toList) := by kernel_rfl
theorem limb3:true=Tryz.pinned.checked.prog.looks []:=by kernel_rfl
theorem limb4:false=Rows.powerAmperesRow.goesBy Tryz.pinned.checked.prog:=by kernel_rfl
theorem limb5 : Tryz.prog.funcNamed "luminaire/luminairelaw59.PowerAmperes" = some 4 := by kernel_rfl
theorem proved:Rows.PowerAmperesCardSaid :=
 Claim7.holds_tied_plain_at .later [] [.data, .data, .data, .data, .sentinel, .sentinel, .pinned] true (true, "c8318d360e0c024054e6fcf728bc31ca31889c9b1c4374acf87c4bc26a77ea3a") true
  over (fun _ h=>by cases h) limb1 (fun _ h=>by cases h) powerAmperes_row_tie rfl ⟨rfl,rfl⟩ limb2 rfl
  (fun f fn hf hfn=>by
   obtain rfl:f=4:=Option.some.inj (limb5.symm.trans hf) |>.symm
   obtain rfl:fn=Tryz.f4:=(Option.some.inj (Tryz.func4.symm.trans hfn)).symm;exact ⟨limb3,fun j t ht=>qew t (Array.mem_toList_iff.2 (Array.mem_of_getElem? ht))⟩)
  limb4
#print axioms proved
end Go.Proofs.YtabhjdmmfdfpeaaGreatDoor.powerAmperesP
