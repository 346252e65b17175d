/- TopColoursArrive: for every input the law returns true, and its arguments read behind the call as they read before. The package variables that the row lists hold what the program's text lays. -/
import Derived.Test.YtmcbkdlfhffphaaGreatDoorCColD
import Derived.Test.YtmcbkdlfhffphaaGreatDoorMLaw
import Derived.Test.YtmcbkdlfhffphaaGreatDoorHTopColoursArrive
import Derived.Test.YtmcbkdlfhffphaaGreatDoorCards
import Derived.Test.YtmcbkdlfhffphaaGreatDoorTie
import Derived.SevenTiedAt
import Derived.SizedLaws
namespace Go.Proofs.YtmcbkdlfhffphaaGreatDoor.topColoursArriveP
set_option maxHeartbeats 32000000
open _root_.Go.Proofs.Tryz
open Go.ChangeShapes Go.ChangeMaps Go.WideShapes Go.ChangeAt Go.RowKit
set_option maxRecDepth 100000 in
theorem lifted (os:Os) (started:os.Started) (H:Type) (enc:TypeId × Value→H) :
  ReturnsInHanded {} checked os 4 .any (fun w args=>(Rows.topColoursArriveSpec.pre enc prog f4 [] false w args∧laidMetH prog Rows.topColoursArriveRow.laid w)∧sizedMet enc prog f4 (OpenSpec.ofChange Rows.topColoursArriveSpec) false w args)
   (Rows.topColoursArriveSpec.post enc prog f4 false true false false):=by
 refine returnsInHanded_of_change_and (C:=checked) (X:=fun w _=>laidMetH prog Rows.topColoursArriveRow.laid w) (fun _ _ _ hh h=>h.of_heap hh) own_ started (by kernel_rfl) func4
  (ChangeSpec.witness_at (enc:=enc) (C:=checked) (os:=os) (X:=fun w _=>laidMetH prog Rows.topColoursArriveRow.laid w) false (qcj os) #[.agg #[.int .u16 0,.int .u16 0,.int .u16 0],.bool false] 8 rfl (by kernel_rfl) (by kernel_rfl) (by kernel_rfl) (by kernel_rfl) (by kernel_rfl) (qck os _)) ?_
 intro W base args ds gs before hval0 hW _ hWt hL _;have hval:∀ (j:Nat) t v,f4.params[j]? = some t→args[j]? = some v→Value.okWide prog W .any base t v:=hval0;have hW':=hW;obtain ⟨p,q,hA0,hV,rfl,hfz,hnd⟩:=hW;have hA:DataW.TrodAll enc prog W 0 (fun _=>true) true f4.params.toList args.toList ds p:=hA0
 rw [params4] at hA hval hWt;obtain ⟨v0,vs0,d0,ds0,p0,q0,hargs,rfl,rfl,h0,r0⟩:=trodAll_cons hA;obtain ⟨v1,vs1,d1,ds1,p1,q1,rfl,rfl,rfl,h1,r1⟩:=trodAll_cons r0;obtain ⟨rfl,rfl,rfl⟩:=trodAll_nil r1;obtain rfl:args=#[v0,v1]:=by cases args;simp_all
 obtain ⟨rfl,rfl⟩:=trodVars_none hV;have lt0:∀ x ∈ p0,x.block<W.heap.size:=by obtain ⟨m,hm⟩:=h0;exact DataW.trod_lt m _ _ _ hm
 obtain ⟨cs0,fuel0,y0,rfl,hf0⟩:=q0x underlying47 (hval 0 47 v0 rfl rfl) h0;obtain ⟨g0,rfl,hg0⟩:=q0db hf0;obtain ⟨x1,rfl,rfl,rfl⟩:=open_bool underlying4 (hval 1 4 v1 rfl rfl) h1;clear hA0 hval0 hWt;simp only [List.append_nil] at hW';refine (q0e9 W g0 hg0 x1 (qcl hL)).mono fun e W' ⟨he,bel⟩=>?_
 subst he;exact ⟨_,rfl,_,_,_,[],_,[],hW',trodAll_mk1 (shut_bool underlying4 _),(trodAll_cons_mk (Below.trod qci (by kernel_rfl) (of_decide_eq_true (by kernel_rfl)) h0 bel lt0) (trodAll_cons_mk (shut_bool underlying4 x1) trodAll_mk0)),rfl,bel.frame _,fun h=>by cases h⟩
theorem over:Rows.topColoursArriveRow.holds Tryz.pinned (OpenSpec.ofChange Rows.topColoursArriveSpec) :=
 OpenClaim.holds_of_wide 4 f4 rfl rfl rfl rfl rfl rfl rfl ⟨rfl,rfl,rfl,rfl,rfl⟩ rfl rfl rfl rfl rfl (by kernel_rfl) func4 q0e8
  (of_decide_eq_true (by kernel_rfl)) (by unfold Func.isWrapper;rw [if_neg (of_decide_eq_false (by kernel_rfl))];exact ⟨rfl,rfl⟩)
  (fun os started H enc _=>lifted os started H enc)
theorem qew:∀ t ∈ f4.params.toList,prog.wantsStandIn t=false:=by
 rw [params4];intro t ht;simp only [List.mem_cons,List.not_mem_nil,or_false] at ht
 rcases ht with rfl | rfl <;> kernel_rfl
theorem limb1:OpenClaim.wfByText (OpenSpec.ofChange Rows.topColoursArriveSpec) Rows.topColoursArriveRow=true:=by kernel_rfl
theorem limb2 : Tryz.pinned.checked.prog.mainIs = some ((true, "2a6848002a9ad1ea054745b71f9598b1136f1410b382e08801898f835ce1cbca").1, (true, "2a6848002a9ad1ea054745b71f9598b1136f1410b382e08801898f835ce1cbca").2.toList) := by kernel_rfl
theorem limb3:true=Tryz.pinned.checked.prog.looks []:=by kernel_rfl
theorem limb4:false=Rows.topColoursArriveRow.goesBy Tryz.pinned.checked.prog:=by kernel_rfl
theorem limb5 : prog.funcNamed "luminaire/luminairetop.TopColoursArrive" = some 4 := by kernel_rfl
theorem proved:Rows.TopColoursArriveCardSaid :=
 Claim7.holds_tied_plain_at .later [] [.data, .data, .data, .data, .sentinel, .sentinel, .pinned] true (true, "2a6848002a9ad1ea054745b71f9598b1136f1410b382e08801898f835ce1cbca") true
  over (fun _ h=>by cases h) limb1 (fun _ h=>by cases h) topColoursArrive_row_tie rfl ⟨rfl,rfl⟩ limb2 rfl
  (fun f fn hf hfn=>by
   obtain rfl:f=4:=Option.some.inj (limb5.symm.trans hf) |>.symm
   obtain rfl:fn=f4:=(Option.some.inj (func4.symm.trans hfn)).symm;exact ⟨limb3,fun j t ht=>qew t (Array.mem_toList_iff.2 (Array.mem_of_getElem? ht))⟩)
  limb4
#print axioms proved
end Go.Proofs.YtmcbkdlfhffphaaGreatDoor.topColoursArriveP
