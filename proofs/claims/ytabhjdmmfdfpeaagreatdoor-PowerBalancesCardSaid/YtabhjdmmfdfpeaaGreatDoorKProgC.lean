/- Lemmas. -/
import Derived.Test.YtabhjdmmfdfpeaaGreatDoorKShelf
import Derived.Shelf.Strings.SlTrimAscii
import Derived.WalkSmall
import Derived.Lib.AppendIntMem
import Derived.Test.YtabhjdmmfdfpeaaGreatDoorKProgB
import Derived.Laws.DeepStrings4
namespace Go.Proofs.YtabhjdmmfdfpeaaGreatDoor
set_option maxHeartbeats 32000000
set_option maxRecDepth 100000
open _root_.Go.Proofs.Tryz
open Go.RowKit
variable {bs s t:BT} {sz:Bool} {b:ByteArray} {c n n₀:Nat} {A:Option Addr} {W W' w w' w2:World}
theorem qsy (s:ByteArray) (w:World) (hs:s.size≤9223372036854775807) :
  Rt 118 #[.string s,.string ⟨#[48,49,50,51,52,53,54,55,56,57]⟩] w (.string ⟨(Lib.trimS s.data.toList cut10).toArray⟩) :=
 Any.strings_Trim_laid lays160 k_ s ⟨#[48,49,50,51,52,53,54,55,56,57]⟩ w hs d_ (ascii_of_all d_)
theorem q2n (s:ByteArray) (w:World) (h:bodyT s.data.toList=[]) :
  Rt 209 #[.string s] w (.int .i64 (chkI s.data.toList)):=by
 have HC:=hj_ (show chkI s.data.toList=3 by unfold chkI;rw [h];simp)
 have H:=hj_ h;clear h
 go_enter func209,ntmps209
 go_wp2_with (go_at_call 270;refine (q11 s _).mono ?_;rintro r w1 ⟨⟨b,hb,rfl⟩,rfl⟩;have hbe:b=⟨#[]⟩:=ByteArray.ext (Array.ext' (by rw [hb,H.out]));subst hbe;clear hb)
 go_ret;exact ⟨by rw [HC.out];rfl,br_⟩
theorem qps {s:ByteArray} (hb:b.data.toList=bodyT s.data.toList) (hs:s.size≤1000000000):b.size≤9223372036854775807:=by
 have h1:b.size=(bodyT s.data.toList).length:=by rw [← hb];simp
 have h2:=qs3 s.data.toList;have h3:s.data.toList.length=s.size:=s_
 have h4:(bodyT s.data.toList).length≤s.data.toList.length:=by
  generalize s.data.toList=l at *
  cases hn:negT l
  ·rw [hn] at h2;exact Nat.le_of_eq (congrArg List.length h2).symm
  ·rw [hn] at h2;have:=congrArg List.length h2;simp at this;omega
 omega
theorem q37 {l:BT} (hb:b.data.toList=bodyT l) (hd:Dgs (bodyT l)) (hne:bodyT l≠[]) (h0:0<b.size) :
  chkI l=if ((b[0].toNat:Int)=48∧(1<(b.size:Int)∨negT l=true)) then 3 else if 4096<(b.size:Int) then 23 else 0:=by
 have h1:b.size=(bodyT l).length:=by rw [← hb];simp
 have hh:(bodyT l).head? = some b[0]:=by
  rw [← hb,List.head?_eq_getElem?,List.getElem?_eq_getElem (by simpa using h0)];rfl
 have hc:(b[0].toNat:Int)=48↔b[0]=48:=by
  rw [← UInt8.toNat_inj];show _↔b[0].toNat=48;omega
 unfold chkI;rw [hh,h1];have e1:(bodyT l=[]∨¬ (∀ c ∈ bodyT l,isDg c=true)∨((some b[0]=some 48)∧(1<(bodyT l).length∨negT l=true)))↔((b[0].toNat:Int)=48∧(1<((bodyT l).length:Int)∨negT l=true)):=by
  rw [hc,Option.some.injEq];have hd':∀ c ∈ bodyT l,isDg c=true:=hd
  constructor
  ·rintro (h | h | ⟨h,h'⟩)
   ·exact absurd h hne
   ·exact absurd hd' h
   ·exact ⟨h,h'.imp o_ id⟩
  ·rintro ⟨h,h'⟩
   exact .inr (.inr ⟨h,h'.imp o_ id⟩)
 by_cases hx:((b[0].toNat:Int)=48∧(1<((bodyT l).length:Int)∨negT l=true))
 ·rw [if_pos hx,if_pos (e1.2 hx)]
 ·rw [if_neg hx,if_neg (fun h=>hx (e1.1 h))]
  by_cases hy:4096<(bodyT l).length
  ·rw [if_pos hy,if_pos o_]
  ·rw [if_neg hy,if_neg o_]
theorem q2l (s:ByteArray) (w:World) (h:bodyT s.data.toList≠[]) (hd:¬ Dgs (bodyT s.data.toList)) (hs:s.size≤1000000000) :
  Rt 209 #[.string s] w (.int .i64 (chkI s.data.toList)):=by
 have HC:=hj_ (show chkI s.data.toList=3 by unfold chkI;rw [if_pos (.inr (.inl hd))])
 have H:=hj_ h;have ht:(Lib.trimS (bodyT s.data.toList) cut10).isEmpty=false:=by
  cases he:(Lib.trimS (bodyT s.data.toList) cut10).isEmpty
  ·rfl
  ·exact absurd (qt0.1 (List.isEmpty_iff.1 he)) hd
 clear h hd
 go_enter func209,ntmps209
 go_wp2_with (first | (go_at_call 270;refine (q11 s _).mono ?_;rintro r w1 ⟨⟨b,hb,rfl⟩,rfl⟩;have hbe:b.toList.isEmpty=false:=(by rw [ByteArray.toList_eq,hb];cases hx:bodyT s.data.toList with | nil=>exact absurd hx H.out | cons c t=>rfl)) | (go_at_call 118;refine (qsy _ _ (qps hb hs)).mono ?_;rintro r w2 ⟨rfl,hb2⟩))
 all_goals first | (go_ret;exact ⟨by rw [HC.out];rfl,hb2⟩) | (exfalso;simp_all)
theorem q2m (s:ByteArray) (w:World) (h:bodyT s.data.toList≠[]) (hd:Dgs (bodyT s.data.toList)) (hs:s.size≤1000000000) :
  Rt 209 #[.string s] w (.int .i64 (chkI s.data.toList)):=by
 have H:=hj_ h;have HD:=hj_ hd;have ht:(Lib.trimS (bodyT s.data.toList) cut10).isEmpty=true:=List.isEmpty_iff.2 (qt0.2 hd);clear h hd
 go_enter func209,ntmps209
 go_wp2_with (first | (go_at_call 270;refine (q11 s _).mono ?_;rintro r w1 ⟨⟨b,hb,rfl⟩,rfl⟩;have hbe:b.toList.isEmpty=false:=(by rw [ByteArray.toList_eq,hb];cases hx:bodyT s.data.toList with | nil=>exact absurd hx H.out | cons c t=>rfl)) | (go_at_call 118;refine (qsy _ _ (qps hb hs)).mono ?_;rintro r w2 ⟨rfl,hb2⟩))
 all_goals
  have h0:0<b.size:=by
   have h1:b.size=(bodyT s.data.toList).length:=by rw [← hb];simp
   rw [h1];exact List.length_pos_iff.2 H.out
 all_goals first | (go_ret;refine ⟨?_,hb2⟩;rw [q37 hb HD.out H.out h0];(repeat' split) <;> first | rfl | (exfalso;simp_all;done) | (exfalso;simp_all;omega)) | (exfalso;simp_all;done)
theorem q2k (s:ByteArray) (w:World) (hs:s.size≤1000000000) :
  Rt 209 #[.string s] w (.int .i64 (chkI s.data.toList)):=by
 by_cases h:bodyT s.data.toList=[]
 ·exact q2n s w h
 ·by_cases hd:Dgs (bodyT s.data.toList)
  ·exact q2m s w h hd hs
  ·exact q2l s w h hd hs
def Tab (w : World) : Prop := Lib.TabIs prog w "internal/strconv.uint64pow10" .u64 Lib.pow10Tab
theorem qad : prog.globalNamed "internal/strconv.uint64pow10" = some 3 := k_
theorem Tab.lt (h:Tab w):3<w.heap.size:=by
 unfold Tab Lib.TabIs World.var? at h;simp only [qad,Option.bind_some] at h
 rcases Nat.lt_or_ge 3 w.heap.size with hlt | hge
 ·exact hlt
 ·rw [Array.getElem?_eq_none hge] at h;cases h
theorem Tab.below (h:Tab w) (hb:Below w.heap.size w w'):Tab w':=var?_below hb qad h.lt h
theorem q19 (w:World) (k:Nat) (os:Array Obj):Below w.heap.size w (Sort.grow (w.drewN k) os) :=
 ⟨rfl,rfl,rfl,by simp [Sort.grow,World.drewN],fun i hi=>by show (w.heap ++ os)[i]? = _;rw [Array.getElem?_append_left hi]⟩
theorem of_any (n:Int) (h0:-9223372036854775808≤n) (h1:n≤9223372036854775807) (w:World) (ht:Tab w) :
  Rt 77 #[.int .i64 n] w (.string ⟨(Lib.itoa n).toArray⟩):=by
 have HC:=hj_ (strconv_Itoa n h0 h1 w ht);clear h0 h1 ht
 go_enter func77,ntmps77
 go_wp2_with (go_at_call 124;refine HC.out.mono ?_;rintro e w1 ⟨rfl,k,os,rfl⟩);go_ret;exact ⟨rfl,q19 _ _ _⟩
section
open Go.RowKit Go.Sort Go.Lib
theorem qbk (u:Nat) (hu:u<18446744073709551616) (w:World) (ht:Tab w) :
  Rt 321 #[.int .u64 u,.int .i64 10] w (.string ⟨(Lib.decDigits u).toArray⟩):=by
 by_cases hs:u<100
 ·go_enter func321,ntmps321
  go_wp2_with (go_at_call 295;refine (internal_strconv_small u hs _).mono ?_;rintro e w' ⟨rfl,rfl⟩);go_ret;exact ⟨rfl,br_⟩
 ·have hu1:1≤u:=by omega
  have hnd20:Lib.nDigits u≤20:=by have:=Lib.numDigits_eq u hu1 hu;split at this <;> omega
  have hb3:Lib.nDigits u≤24:=o_
  have hal:prog.arrayLen 345=24:=k_
  have hsl1:∀ W,(Instr.sliceAt 345 (.pointer (some ⟨w.heap.size,0,none⟩)) none (some (.int .i64 (Lib.nDigits u:Int))) none).run prog W=.ok (.slice (some ⟨w.heap.size,0,none⟩) (Lib.nDigits u) 24) W:=fun W=>by
   rw [run_sliceAt_array_h W 345 ⟨w.heap.size,0,none⟩ (by simp [Program.arrayLen,Program.elem,underlying345]) .i64 (Lib.nDigits u:Int) o_ (by rw [hal];omega)]
   go_simp
  have hH0:=Lib.holds_zero0 w 345 (Lib.nDigits u) o_
  have hfmt:=internal_strconv_formatBase10 w.heap.size 0 24 u (Array.replicate (Lib.nDigits u) 0) (w.alloc (.cells Lib.zeros24 345)) hH0 (by rw [Array.size_replicate];exact Lib.lt_pow_nDigits u) hu (by rw [Array.size_replicate];omega)
  rw [Array.size_replicate] at hfmt;have HH0:=hj_ hH0;clear hH0 hal
  go_enter func321,ntmps321
  go_wp2_with (go_at_call 296;refine (internal_strconv_numDigits u hu1 hu _ (Lib.tabIs_alloc ht _)).mono ?_;rintro e w' ⟨rfl,rfl⟩)
  go_at_call 297
  refine hfmt.mono ?_;rintro e w' ⟨rfl,k,v',dk,rfl,hF⟩;have hcv:(convert 194 9 (.slice (some ⟨w.heap.size,0,none⟩) (Lib.nDigits u) 24)).run prog ((putRow (fun (b:UInt8)=>Value.int .u8 (b.toNat:Int)) (w.alloc (.cells Lib.zeros24 345)) w.heap.size 0 dk).drewN k)=.ok (.string ⟨(Lib.decDigits u).toArray⟩) ((putRow (fun (b:UInt8)=>Value.int .u8 (b.toNat:Int)) (w.alloc (.cells Lib.zeros24 345)) w.heap.size 0 dk).drewN k):=by
   have h:=run_convert_bytes_back (P:=prog) ((putRow (fun (b:UInt8)=>Value.int .u8 (b.toNat:Int)) (w.alloc (.cells Lib.zeros24 345)) w.heap.size 0 dk).drewN k) 194 9 5 ⟨w.heap.size,0,none⟩ 24 (Lib.decDigits u) underlying194 underlying5 underlying9 (fun j hj=>by
    rw [Lib.row_is_numeral hF j hj,Lib.add_plain,World.cell?_drewN];exact cell?_putRow (fun (b:UInt8)=>Value.int .u8 (b.toNat:Int)) _ w.heap.size 0 _ dk HH0.out (by rw [hF.size,Array.size_replicate]) j (by rw [hF.size];rw [Lib.decDigits_length] at hj;exact hj))
   rw [Lib.decDigits_length] at h;exact h
  obtain ⟨os,eo⟩:=Lib.fin_at w (.cells Lib.zeros24 345) dk k 0;have hB:Below w.heap.size w ((putRow (fun (b:UInt8)=>Value.int .u8 (b.toNat:Int)) (w.alloc (.cells Lib.zeros24 345)) w.heap.size 0 dk).drewN k):=by rw [eo];exact q19 _ _ _
  clear hF hfmt HH0 eo;go_wp2;go_ret;exact ⟨rfl,hB⟩
theorem fu_any (u:Nat) (hu:u<18446744073709551616) (w:World) (ht:Tab w) :
  Rt 286 #[.int .u64 u,.int .i64 10] w (.string ⟨(Lib.decDigits u).toArray⟩):=by
 have HC:=hj_ (qbk u hu w ht);clear ht
 go_enter func286,ntmps286
 go_wp2_with (go_at_call 321;refine HC.out.mono ?_;rintro e w1 ⟨rfl,hb⟩);go_ret;exact ⟨rfl,hb⟩
theorem ws_any (B b:Nat) (bs:List Value) (s:ByteArray) (w:World) (h:Lib.IsBuilderF 330 5 B b bs w) (hlen:bs.length+s.size≤140737488355328) (hBw:B≤w.heap.size) :
  Calls prog 287 #[.pointer (some ⟨b,0,none⟩),.string s] w fun e w'=>e=.returned (.tuple #[.int .i64 s.size,.nilIface])∧(Lib.BuilderAtF 330 5 B b (.pointer (some ⟨b,0,none⟩)) (bs ++ Lib.strCells s) w'∧Below B w w'∧Lib.OthersKept 5 (some b) w w') :=
 Any.Builder_WriteString_k { lays105 with } Builder_Extra_105 B b bs s w h hlen hBw
end
section
open Go.RowKit Go.Shelf
attribute [local go_sem] Oper.semAt_some
def piece (l:List Nat) (y:Fin l.length):BT:=(if y.val+1<l.length then List.replicate (9-(Lib.decDigits l[y]).length) 48 else []) ++ Lib.decDigits l[y]
theorem qhp {n:Nat}:∀ t,t+1≤(wds 1000000000 n).length→((dn (wds 1000000000 n)).take (t+1)).flatMap (piece (wds 1000000000 n))=Lib.decDigits (wv 1000000000 ((wds 1000000000 n).drop ((wds 1000000000 n).length-1-t)))
 | 0,h=>by
  rw [q5z (wds 1000000000 n) 0 o_,List.take_zero,List.nil_append]
  simp only [List.flatMap_cons,List.flatMap_nil,List.append_nil];rw [q00b o_,piece,if_neg (by simp;omega)]
  rfl
 | t+1,h=>by
  have ih:=qhp (n:=n) t o_
  rw [q5z (wds 1000000000 n) (t+1) o_,List.flatMap_append,ih]
  simp only [List.flatMap_cons,List.flatMap_nil,List.append_nil];have hlt:(wds 1000000000 n).length-1-(t+1)+1<(wds 1000000000 n).length:=o_
  have e:=q009 (n:=n) (i:=(wds 1000000000 n).length-1-(t+1)) hlt;have e1:(wds 1000000000 n).length-1-(t+1)+1=(wds 1000000000 n).length-1-t:=o_
  refine Eq.trans ?_ e.symm;rw [piece,if_pos (by simp;omega)]
  show _=Lib.decDigits (wv 1000000000 ((wds 1000000000 n).drop ((wds 1000000000 n).length-1-(t+1)+1))) ++ _
  rw [e1]
  rfl
theorem qho (h:0<n):(dn (wds 1000000000 n)).flatMap (piece (wds 1000000000 n))=Lib.decDigits n:=by
 have hl:=(qzc (B:=1000000000) (n:=n) o_).2 h
 have:=qhp (n:=n) ((wds 1000000000 n).length-1) o_
 rw [Nat.sub_add_cancel hl,List.take_of_length_le (by rw [q5y];omega),Nat.sub_self,List.drop_zero,qzh o_] at this
 exact this
theorem qhn (y:Fin (wds 1000000000 n).length):(piece (wds 1000000000 n) y).length≤9:=by
 have hx:=(wds_wd (B:=1000000000) o_ n).at y.isLt
 have hd:(Lib.decDigits (wds 1000000000 n)[y]).length≤9:=(q4q (k:=9) o_).2 hx
 unfold piece
 split
 ·rw [List.length_append,List.length_replicate];omega
 ·simpa using hd
theorem q8n {α:Type} {f:α→BT} {k:Nat} (h:∀ x,(f x).length≤k):∀ l:List α,(l.flatMap f).length≤k*l.length
 | []=>s_
 | x :: l=>by
  rw [List.flatMap_cons,List.length_append,List.length_cons,Nat.mul_add]
  have:=q8n h l
  have:=h x
  omega
def WrAt (w:World) (sz:Bool) (A:Option Addr) (n c:Nat) (bs:BT) (W:World):Prop :=
 W.heap[w.heap.size]? = some (.cells #[.bool sz,.slice A n c] 237 (0,0))∧Lib.IsBuilderF 330 5 w.heap.size (w.heap.size+1) (Lib.byteCells bs) W∧Below w.heap.size w W
theorem q1r {T e:TypeId} {B b:Nat} {bs:List Value} {row:Option Nat} (h:Lib.IsBuilderF T e B b bs W) (hg:W.grownBy W' row) (hr:∀ r,row=some r→∃ o:Obj,W.heap[r]? = some o∧o.isCells=false):Lib.IsBuilderF T e B b bs W':=by
 have key:∀ p,Lib.BuilderAtF T e B b p bs W→Lib.BuilderAtF T e B b p bs W':=by
  intro p h;have hlt:=h.lt;obtain ⟨hB,v,hb,hown,hne⟩:=h;refine ⟨hB,v,(hg.block b hlt (fun e=>?_)).trans hb,hown.kept hg ?_,hne⟩
  ·obtain ⟨o,ho,hc⟩:=hr b e.symm
   rw [hb] at ho
   cases ho
   simp [Obj.isCells] at hc
  ·cases hv:v.ownBlock with
   | none=>exact .inl rfl
   | some g =>
    refine .inr fun e=>?_
    obtain ⟨c,fz,hcell⟩:=Lib.ownsRowF_kind hown g hv;obtain ⟨o,ho,hc⟩:=hr g e.symm;rw [hcell] at ho
    cases ho
    simp [Obj.isCells] at hc
 exact h.imp (key _) (key _)
theorem WrAt.grown {row:Option Nat} (h:WrAt w sz A n c bs W) (hg:W.grownBy W' row) (hr:∀ r,row=some r→w.heap.size≤r∧∃ o:Obj,W.heap[r]? = some o∧o.isCells=false):WrAt w sz A n c bs W':=by
 refine ⟨(hg.block _ (Array.getElem?_eq_some_iff.1 h.1).1 (fun e=>?_)).trans h.1,q1r h.2.1 hg (fun r e=>(hr r e).2),h.2.2.grown hg h.2.2.size (fun k e=>(hr k e).1)⟩
 obtain ⟨_,o,ho,hc⟩:=hr _ e.symm;rw [h.1] at ho
 cases ho
 simp [Obj.isCells] at hc
theorem WrAt.below (h:WrAt w sz A n c bs W) (hb:Below W.heap.size W W'):WrAt w sz A n c bs W' :=
 h.grown (row:=none) ⟨hb.os,hb.tape,hb.output,hb.size,fun k hk _=>hb.block k hk⟩ (fun r e=>by cases e)
theorem WrAt.bcell (h:WrAt w sz A n c bs W):∃ cs,W.heap[w.heap.size+1]? = some (.cells cs 330 (0,0)):=by
 rcases h.2.1 with h | h <;> exact ⟨_,h.2.choose_spec.1⟩
theorem WrAt.wrote {s:ByteArray} (h:WrAt w sz A n c bs W) (hA:Lib.BuilderAtF 330 5 w.heap.size (w.heap.size+1) (.pointer (some ⟨w.heap.size+1,0,none⟩)) (Lib.byteCells bs ++ Lib.strCells s) W') (hb:Below w.heap.size W W')
  (ho:Lib.OthersKept 5 (some (w.heap.size+1)) W W'):WrAt w sz A n c (bs ++ s.data.toList) W' :=
 ⟨ho _ _ h.1 s_ (fun c fz e=>by injection e with _ e;exact absurd e d_),.inr (by rw [Lib.byteCells_append,← Lib.strCells_eq];exact hA),h.2.2.trans hb⟩
def WrK (n₀:Nat) (W W':World):Prop:=KeepsFrom n₀ W W'∧KpR n₀ 235 W W'
theorem WrK.trans {A B C:World} (h:WrK n₀ A B) (k:WrK n₀ B C):WrK n₀ A C:=⟨h.1.trans k.1,h.2.t k.2⟩
theorem WrK.below (hb:Below W.heap.size W W') (hn:n₀≤W.heap.size):WrK n₀ W W' :=
 ⟨KeepsFrom.of_grownBy (row:=none) ⟨hb.os,hb.tape,hb.output,hb.size,fun k hk _=>hb.block k hk⟩ (fun r e=>by cases e),KpR.of_below hb hn⟩
theorem WrK.wrote (h:WrAt w sz A n c bs W) (hb:Below w.heap.size W W') (ho:Lib.OthersKept 5 (some (w.heap.size+1)) W W'):WrK w.heap.size W W':=by
 obtain ⟨cs,hcs⟩:=h.bcell;refine ⟨⟨hb.size,fun k o _ hk hc=>ho k o hk (fun e=>?_) (fun c fz e=>?_)⟩,hb,fun k c hk=>ho k _ hk (fun e=>?_) (fun c fz e=>?_)⟩
 ·injection e with e
  subst e;rw [hcs] at hk
  cases hk
  simp [Obj.isCells] at hc
 ·subst e
  simp [Obj.isCells] at hc
 ·injection e with e
  subst e;rw [hcs] at hk
  injection hk with hk
  injection hk with _ hk
  exact absurd hk d_
 ·injection e with _ e
  exact absurd e d_
theorem WrAt.cells (h:WrAt w sz A n c bs W):W.cell? ⟨w.heap.size,0,none⟩=some (.bool sz)∧W.cell? ⟨w.heap.size,1,none⟩=some (.slice A n c):=by
 have h1:=h.1
 constructor <;> simp [World.cell?,h1]
theorem rep48 (k:Nat):(⟨(Lib.repeatL (⟨#[48]⟩:ByteArray).data.toList k).toArray⟩:ByteArray).data.toList=List.replicate k 48:=by
 show Lib.repeatL (List.replicate 1 48) k=_
 rw [Lib.repeatL_replicate,Nat.mul_one]
theorem q00a (A:Option Addr) (n c:Nat) (z:Int) (w:World) (h:NumA w A n c z) (hn:n≤100000) (ht:Tab w) (hz:z≠0) :
  Rt 237 #[.agg #[.bool (decide (z<0)),.slice A n c]] w (.tuple #[.string ⟨(longT z).1.toArray⟩,.int .i64 (longT z).2]):=by
 have hpos:=h.pos;obtain ⟨sz,hsz⟩:∃ b,b=decide (z<0):=⟨_,rfl⟩;rw [← hsz];have HSz:=hj_ hsz;have HT:=hj_ ht;have hn0:0<n:=hpos.2 hz;have h3:decide ((0:Int)<(n:Int))=true:=by simpa using hn0
 have h4:((n:Int) == 0)=false:=by simp;omega
 have h5:decide (0<n)=true:=by simpa using hn0
 obtain ⟨l,hl⟩:=ex_ (wds 1000000000 z.natAbs);obtain ⟨hnl,_,hus⟩:=h;have hall:=qho (n:=z.natAbs) o_
 have hplen:=fun y=>qhn (n:=z.natAbs) y
 have hwd:=wds_wd (B:=1000000000) o_ z.natAbs
 rw [← hl] at hnl hus hall hplen hwd;subst hnl;have HAll:=hj_ hall;have HPl:=hj_ hplen;have HWd:=hj_ hwd;clear hpos hsz ht hall hplen hwd hl;have hw3:WrAt w sz A l.length c [] (((w.alloc (.cells #[.bool sz,.slice A l.length c] 237)).alloc (.cells #[.pointer none,.slice none 0 0] 330)).alloc (.cells #[.slice A l.length c] 235)):=by
  refine WrAt.below ?_ ((br_).alloc lr_ _);refine ⟨?_,.inl ⟨o_,.slice none 0 0,?_,⟨rfl,.inl ⟨rfl,rfl⟩⟩,by simp [Value.ownBlock]⟩,((Below.refl _ w).alloc lr_ _).alloc s_ _⟩
  ·exact (Below.heap_alloc _ _ _ s_).trans (World.alloc_heap_new w _)
  ·have:=World.alloc_heap_new (w.alloc (.cells #[.bool sz,.slice A l.length c] 237)) (.cells #[.pointer none,.slice none 0 0] 330)
   rwa [World.size_alloc] at this
 refine (callsIn_wide (n:=5)).1 ?_;refine callsIn_of_wp_marks func237 rfl trivial ?_ rfl;simp only [ntmps237,List.size_toArray,List.length_cons,List.length_nil,Nat.reduceAdd,Nat.reduceSub,Array.replicate_succ,Array.replicate_zero,List.push_toArray,List.append_toArray,List.nil_append,List.cons_append]
 gi_wp2_with (refine ⟨trivial,?_⟩;gi_at_call 285;refine (q63 _ _ _ _ _).mono ?_;rintro e w' ⟨rfl,rfl⟩)
 have hB1:=hw3.2.2;have bS:=Boxed.new ((w.alloc (.cells #[.bool sz,.slice A l.length c] 237)).alloc (.cells #[.pointer none,.slice none 0 0] 330)) 235 (.slice A l.length c);simp only [World.size_alloc] at bS;refine wpIn_rangeFunc_ownG rfl o_ (gf:=320) (lb:=#[.pointer (some ⟨w.heap.size+1+1,0,none⟩)]) rfl trivial (enters_of func320 k_ rfl)
  (q66 4 o_ (w.heap.size+1+1) w.heap.size A c l o_ _ (by simp;omega) bS (fun k hk=>by
   obtain ⟨b,o,e,hb,h1⟩:=hus.at1 hk;exact ⟨b,o,e,hb,(hB1.cell (p:=⟨b,_,none⟩) hb).trans h1⟩)) KpR.t (KpR.b (by simp;omega)) (br_) (fun _=>rfl)
  (fun pre W=>WrAt w sz A l.length c (pre.flatMap (piece l)) W)
  (fun e pre W=>False)
  (fun s W W' row hs hg hr=>WrAt.grown hs hg (fun r e=>⟨Nat.le_trans hB1.size (hr r e).1,(hr r e).2⟩))
  (fun e s W W' row hs _ _=>hs)
  hw3
  (fun x=>{ tmps:=#[.agg #[.bool sz,.slice A l.length c],.pointer (some ⟨w.heap.size,0,none⟩),.string ⟨#[]⟩,.int .i64 0,.pointer (some ⟨w.heap.size+1,0,none⟩),.int .i64 (x.val:Int),.int .u64 (l[x]:Nat),undef,.pointer (some ⟨w.heap.size,1,none⟩),.slice A l.length c,.int .i64 l.length,.bool false,.pointer (some ⟨w.heap.size,1,none⟩),.slice A l.length c,.func (.func 320) #[] #[.pointer (some ⟨w.heap.size+1+1,0,none⟩)],.int .i64 (x.val:Int),.int .u64 (l[x]:Nat),undef,undef,undef,undef,undef,undef,undef,undef,undef,undef,undef,undef,undef,undef,undef,undef,undef,undef,undef,undef,undef,undef],defers:=[] }) ?assign ?body ?done ?stop
 case assign =>
  intro l x W K hK
  gi_wp2
  simpa using hK
 case stop=>exact fun _ _ _ _ _ _ h=>h.elim
 case body =>
  rintro y0 pre ⟨x,hx⟩ W hWr hlt;obtain ⟨c0,c1⟩:=hWr.cells;have hfl:=q8n HPl.out pre;have hx9:=HWd.out.at hx;have hpc:piece l ⟨x,hx⟩=(if x+1<l.length then List.replicate (9-(Lib.decDigits l[x]).length) 48 else []) ++ Lib.decDigits l[x]:=rfl
  simp only [Fin.getElem_fin];generalize l[x]=u at *;have hd9:(Lib.decDigits u).length≤9:=(q4q (k:=9) o_).2 hx9
  have hFU:=fu_any u o_ W (HT.out.below hWr.2.2)
  have HPc:=hj_ hpc;have HFU:=hj_ hFU;have HFl:=hj_ (show (pre.flatMap (piece l)).length≤900000 by omega)
  have HWr:=hj_ hWr;clear hpc hFU hfl hlt hw3 hB1 bS hWr
  gi_wp2_with fail
  refine ⟨trivial,?_⟩
  gi_at_call 286
  refine (callsIn_wide.2 HFU.out).mono ?_;rintro e W1 ⟨rfl,hb1⟩;have hW1:=HWr.out.below hb1;have hK1:=WrK.below (n₀:=w.heap.size) hb1 HWr.out.2.2.size;obtain ⟨d0,d1⟩:=hW1.cells;have hds:(⟨(Lib.decDigits u).toArray⟩:ByteArray).size=(Lib.decDigits u).length:=by simp [ByteArray.size]
  have HDs:=hj_ hds;have HD9:=hj_ hd9;have HW1:=hj_ hW1;have HK1:=hj_ hK1;clear hW1 hK1 hds hd9 hb1 c0 c1
  by_cases hnx:x+1<l.length
  ·have g1:decide ((x:Int)<(l.length:Int)-1)=true:=by simp;omega
   obtain ⟨k,hk⟩:∃ k:Nat,k=9-(Lib.decDigits u).length:=⟨_,rfl⟩;have hki:(9:Int)-((Lib.decDigits u).length:Int)=(k:Int):=by have:=HD9.out;omega
   have hk9:k≤9:=o_
   have HKk:=hj_ hk;clear hk
   gi_wp2_with fail
   refine ⟨trivial,?_⟩
   gi_at_call 288
   refine (callsIn_wide.2 (strings_Repeat ⟨#[48]⟩ k W1 o_ (by show 1*k≤_;omega))).mono ?_
   rintro e W2 ⟨rfl,hb2⟩;obtain ⟨R,hR⟩:∃ R:ByteArray,R=⟨(Lib.repeatL (⟨#[48]⟩:ByteArray).data.toList k).toArray⟩:=⟨_,rfl⟩;have hRl:R.data.toList=List.replicate k 48:=by rw [hR];exact rep48 k
   have hRs:R.size=k:=by
    have:R.size=R.data.toList.length:=s_
    rw [this,hRl,List.length_replicate]
   rw [← hR];have hW2:=HW1.out.below hb2;have hK2:=HK1.out.trans (WrK.below hb2 HW1.out.2.2.size);have HRl:=hj_ hRl;have HRs:=hj_ hRs;have HW2:=hj_ hW2;have HK2:=hj_ hK2;clear hR hRl hRs hW2 hK2 hb2 d0 d1
   gi_wp2_with fail
   refine ⟨trivial,?_⟩
   gi_at_call 287
   refine (callsIn_wide.2 (ws_any w.heap.size (w.heap.size+1) _ R W2 HW2.out.2.1 (by rw [Lib.byteCells_length,HRs.out];have:=HFl.out;omega) HW2.out.2.2.size)).mono ?_
   rintro e W3 ⟨rfl,hA3,hb3,ho3⟩;have hW3:=HW2.out.wrote hA3 hb3 ho3;have hK3:=HK2.out.trans (WrK.wrote HW2.out hb3 ho3);have HW3:=hj_ hW3;have HK3:=hj_ hK3;clear hW3 hK3 hA3 hb3 ho3
   gi_wp2_with fail
   refine ⟨trivial,?_⟩
   gi_at_call 287
   refine (callsIn_wide.2 (ws_any w.heap.size (w.heap.size+1) _ _ W3 HW3.out.2.1 (by rw [Lib.byteCells_length,HDs.out,List.length_append,HRl.out,List.length_replicate];have:=HFl.out;have:=HD9.out;omega) HW3.out.2.2.size)).mono ?_
   rintro e W4 ⟨rfl,hA4,hb4,ho4⟩;have hW4:=HW3.out.wrote hA4 hb4 ho4;have hK4:=HK3.out.trans (WrK.wrote HW3.out hb4 ho4);have hfin:WrAt w sz A l.length c ((pre ++ [(⟨x,hx⟩:Fin l.length)]).flatMap (piece l)) W4:=by
    rw [List.flatMap_append];simp only [List.flatMap_cons,List.flatMap_nil,List.append_nil];rw [HPc.out,if_pos hnx,← List.append_assoc,← HKk.out,← HRl.out];exact hW4
   clear hW4 hA4 hb4 ho4
   gi_wp2
   exact ⟨⟨hK4.1.size,fun k o hB hk hc=>hK4.1.same k o (by simp at hB;omega) hk hc⟩,hK4.2,hfin⟩
  ·have g1:decide ((x:Int)<(l.length:Int)-1)=false:=by simp;omega
   gi_wp2_with fail
   refine ⟨trivial,?_⟩
   gi_at_call 287
   refine (callsIn_wide.2 (ws_any w.heap.size (w.heap.size+1) _ _ W1 HW1.out.2.1 (by rw [Lib.byteCells_length,HDs.out];have:=HFl.out;have:=HD9.out;omega) HW1.out.2.2.size)).mono ?_
   rintro e W4 ⟨rfl,hA4,hb4,ho4⟩;have hW4:=HW1.out.wrote hA4 hb4 ho4;have hK4:=HK1.out.trans (WrK.wrote HW1.out hb4 ho4);have hfin:WrAt w sz A l.length c ((pre ++ [(⟨x,hx⟩:Fin l.length)]).flatMap (piece l)) W4:=by
    rw [List.flatMap_append];simp only [List.flatMap_cons,List.flatMap_nil,List.append_nil];rw [HPc.out,if_neg hnx,List.nil_append];exact hW4
   clear hW4 hA4 hb4 ho4
   gi_wp2
   exact ⟨⟨hK4.1.size,fun k o hB hk hc=>hK4.1.same k o (by simp at hB;omega) hk hc⟩,hK4.2,hfin⟩
 case done =>
  rintro D ys W hD rfl hWr hK;have hfl:=q8n HPl.out (dn l);rw [HAll.out,q5y] at hfl;rw [HAll.out] at hWr;obtain ⟨c0,c1⟩:=hWr.cells;obtain ⟨T,hT⟩:=ex_ (Lib.decDigits z.natAbs);rw [← hT] at hWr hfl;have hTn:(T.length:Int)<1000000000000:=o_
  have hlt:longT z=if 4096<T.length then ([],23) else (Lib.itoa z,0):=by rw [hT];rfl
  have HLt:=hj_ hlt;have HTT:=hj_ hT;have HWr:=hj_ hWr;have HK:=hj_ hK;have HD:=hj_ (show w.heap.size≤D by simp at hD;omega)
  clear hw3 hB1 bS hD hlt hT hWr hK
  gi_wp2_with fail
  refine ⟨trivial,?_⟩
  gi_at_call 289
  refine (callsIn_wide.2 (Builder_Len_f w.heap.size (w.heap.size+1) _ W HWr.out.2.1)).mono ?_;rintro e W1 ⟨rfl,rfl⟩;rw [Lib.byteCells_length]
  by_cases hlong:4096<T.length
  ·have g1:decide ((4096:Int)<(T.length:Int))=true:=by simp;omega
   have HV:=hj_ (show longT z=([],23) by rw [HLt.out,if_pos hlong])
   have hBel:=HWr.out.2.2.trans (belowK_b (w:=w) lr_ W1 D _ (.deferred none) HD.out HK.out rfl rfl);have hK1:=HK.out;clear HWr HLt c0 c1 HAll HPl HWd
   gi_wp2
   refine ⟨s_,.inl ⟨_,_,rfl,run_takeDeferred hK1,?_⟩⟩
   exact ⟨.tuple #[.string ⟨#[]⟩,.int .i64 23],by simp [results,f237,go_sem],by rw [HV.out],hBel⟩
  ·have g1:decide ((4096:Int)<(T.length:Int))=false:=by simp;omega
   have HV:=hj_ (show longT z=(Lib.itoa z,0) by rw [HLt.out,if_neg hlong])
   obtain ⟨cs,hcs⟩:=HWr.out.bcell;have hDb:some D≠some (w.heap.size+1):=by
    intro e
    injection e with e
    have:=HK.out
    rw [e,hcs] at this
    cases this
   have HDb:=hj_ hDb;clear HLt hDb hcs HAll HPl HWd
   cases sz
   ·have hz0:(⟨(Lib.itoa z).toArray⟩:ByteArray)=⟨T.toArray⟩:=by rw [qca (by have:=HSz.out;simp at this;omega),HTT.out]
    have HZ:=hj_ hz0;clear hz0
    gi_wp2_with fail
    refine ⟨trivial,?_⟩
    gi_at_call 290
    refine (callsIn_wide.2 (Builder_String_any_k w.heap.size (w.heap.size+1) T W1 HWr.out.2.1 HWr.out.2.2.size)).mono ?_;rintro e W2 ⟨rfl,_,hb2,ho2⟩;have hK2:=ho2 D _ HK.out HDb.out (fun c fz e=>by cases e)
    have hBel:=(HWr.out.2.2.trans hb2).trans (belowK_b (w:=w) lr_ W2 D _ (.deferred none) HD.out hK2 rfl rfl);clear HWr ho2 hb2 c0 c1
    gi_wp2
    refine ⟨s_,.inl ⟨_,_,rfl,run_takeDeferred hK2,?_⟩⟩
    exact ⟨.tuple #[.string ⟨T.toArray⟩,.int .i64 0],by simp [results,f237,go_sem],by rw [HV.out,HZ.out],hBel⟩
   ·have hz0:(⟨(Lib.itoa z).toArray⟩:ByteArray)=⟨#[45]⟩ ++ ⟨T.toArray⟩:=by
     rw [qc7 (by have:=HSz.out;simp at this;omega),HTT.out]
     refine ByteArray.ext (Array.ext' ?_);simp
    have HZ:=hj_ hz0;clear hz0
    gi_wp2_with fail
    refine ⟨trivial,?_⟩
    gi_at_call 290
    refine (callsIn_wide.2 (Builder_String_any_k w.heap.size (w.heap.size+1) T W1 HWr.out.2.1 HWr.out.2.2.size)).mono ?_;rintro e W2 ⟨rfl,_,hb2,ho2⟩;have hK2:=ho2 D _ HK.out HDb.out (fun c fz e=>by cases e)
    have hBel:=(HWr.out.2.2.trans hb2).trans (belowK_b (w:=w) lr_ W2 D _ (.deferred none) HD.out hK2 rfl rfl);clear HWr ho2 hb2 c0 c1
    gi_wp2
    refine ⟨s_,.inl ⟨_,_,rfl,run_takeDeferred hK2,?_⟩⟩
    exact ⟨.tuple #[.string (⟨#[45]⟩ ++ ⟨T.toArray⟩),.int .i64 0],by simp [results,f237,go_sem],by rw [HV.out,HZ.out],hBel⟩
theorem q008 (A:Option Addr) (n c:Nat) (z:Int) (w:World) (h:NumA w A n c z) (hn:n≤100000) (ht:Tab w) :
  Rt 237 #[.agg #[.bool (decide (z<0)),.slice A n c]] w (.tuple #[.string ⟨(longT z).1.toArray⟩,.int .i64 (longT z).2]):=by
 by_cases hz:z=0
 ·subst hz
  have h1:n=0:=by have:=h.pos;omega
  subst h1;have hv:longT 0=([48],0):=by unfold longT;rw [if_neg (by rw [show (0:Int).natAbs=0 from rfl,q50];simp),qcc]
  rw [hv,decide_eq_false o_]
  clear h hn hv ht
  go_enter func237,ntmps237
  go_wp2;go_ret2;exact ⟨rfl,bz_⟩
 ·exact q00a A n c z w h hn ht hz
end
theorem q38 (t:ByteArray) (hd:Dgs t.data.toList) (h0:t.data.toList≠[]) (hl:t.data.toList.length≤18) (w:World) :
  Rt 319 #[.string t,.int .i64 10,.int .i64 64] w (.tuple #[.int .u64 (dval t.data.toList:Int),.nilIface]):=by
 have hsz:t.data.toList.length=t.size:=s_
 refine (strconv_ParseUint_10_at64_ok t o_ _ (qgl hd h0 hl) w).mono ?_
 rintro e w' ⟨rfl,rfl | rfl⟩
 ·exact ⟨rfl,br_⟩
 ·exact ⟨rfl,Lib.bytesWorld_below _ _ _⟩
theorem qli (s:ByteArray) (z:Int) (w:World) (hz:s.data.toList=Lib.itoa z) (hs:(Lib.decDigits z.natAbs).length≤4096) :
  Calls prog 284 #[.string s] w (RetN z w):=by
 have HB:=hj_ (q1f z);have HNg:=hj_ (qeg z);have HZ:=hj_ hz;have HS:=hj_ hs;obtain ⟨W,hW⟩:=ex_ (w.alloc (.cells #[.bool false,.slice none 0 0] 237));have HSz:=hj_ (show W.heap.size=w.heap.size+1 by rw [hW];simp)
 have HBz:=hj_ (show ∀ i,W.cell? ⟨w.heap.size,i,none⟩=(#[.bool false,.slice none 0 0]:Array Value)[i]? from fun i=>by rw [hW,World.cell?_alloc_new])
 have HFz:=hj_ (show ∀ i,W.frozen? ⟨w.heap.size,i,none⟩=false from fun i=>by rw [hW,World.frozen?_alloc_new])
 have HB0:=hj_ (show Below w.heap.size w W by rw [hW];exact (Below.refl _ w).alloc lr_ _)
 clear hz hs
 go_enter func284,ntmps284
 go_wp2_with (go_at_call 270;refine (q11 s _).mono ?_;rw [HZ.out,HB.out,HNg.out];rintro r w1 ⟨⟨b,hb,rfl⟩,rfl⟩;have hbs:b.size=(Lib.decDigits z.natAbs).length:=(by rw [← hb];simp))
 rw [← hW];clear hW;obtain ⟨t,ht⟩:=ex_ (Lib.decDigits z.natAbs);have HD:=hj_ (show Dgs t by rw [ht];exact q4k _)
 have HV:=hj_ (show dval t=z.natAbs by rw [ht];exact q4y _)
 rw [← ht] at hb hbs;have HS:Hid (t.length≤4096):=by rw [ht];exact HS.out
 have HBt:=hj_ hb;generalize decide (z<0)=sg at *;have HT:=hj_ ht;clear hb ht
 go_loopw [5,6] (fun v5 v6 wr=>∃ (k:Nat) (l:List Nat),v6=.int .i64 ((t.length:Int)-9*(k:Int))∧(k=0∨9*(k-1)<t.length)∧wr.ownsRow W.heap.size 258 1 v5 k (uv l)∧l.length=k∧Wd 1000000000 l∧dval t=dval (t.take (t.length-9*k))*1000000000 ^ k+wv 1000000000 l∧Below W.heap.size W wr) (fun _ v6 _=>(intOf v6).toNat)
 case atStart=>exact ⟨0,[],by rw [HT.out];simp,.inl rfl,World.ownsRow_nil _ _ _ _,rfl,fun x hx=>(by cases hx),by simp [wv],br_⟩
 case round =>
  obtain ⟨k,l,rfl,hk,hown,hlk,hwd,hval,hbV⟩:=hrel;have hl9:=HS.out
  by_cases hlt:9*k<t.length
  ·have h0:decide ((0:Int)<(t.length:Int)-9*(k:Int))=true:=by simp;omega
   have HVal:=hj_ hval;have HWd:=hj_ hwd;have HLk:=hj_ hlk;clear hval hwd hlk hk;obtain ⟨en,hen⟩:∃ en:Nat,en=t.length-9*k:=⟨_,rfl⟩;obtain ⟨lo,hlo⟩:∃ lo:Nat,lo=en-9:=⟨_,rfl⟩;have he1:(t.length:Int)-9*(k:Int)=(en:Int):=o_
   rw [he1] at h0 ⊢;have hmax:max 0 ((en:Int)-9)=(lo:Int):=o_
   have hle:lo≤en:=o_
   have heb:en≤b.size:=o_
   have HEn:=hj_ hen;have HLo:=hj_ hlo;have HLt:=hj_ hlt;have hen9:en≤4096:=o_
   have hepos:0<en:=o_
   have HBs:=hj_ hbs;clear hen hlo he1 hlt hbs;have hle':(lo:Int)≤(en:Int):=o_
   have heb':(en:Int)≤(b.size:Int):=o_
   obtain ⟨x,hx⟩:=ex_ (dval ((t.take en).drop lo));have hct:(b.extract lo en).data.toList=(t.take en).drop lo:=by
    rw [ByteArray.data_extract,Array.toList_extract,List.extract_eq_take_drop,HBt.out,List.drop_take]
   have hcl:((t.take en).drop lo).length=en-lo:=by rw [List.length_drop,List.length_take];have:=HBs.out;omega
   have hlo2:=HLo.out;have hch:=q38 (b.extract lo en) (by rw [hct];exact (HD.out.take en).drop lo) (by rw [hct];intro h;rw [h] at hcl;simp at hcl;omega) (by rw [hct,hcl];omega) wr
   rw [hct,← hx] at hch;have hx9:x<1000000000:=by
    rw [hx,HLo.out];exact q39 HD.out 9 en (oh_ HBs.out)
   have hstep:dval t=dval (t.take (en-9))*(10 ^ 9) ^ (k+1)+wv (10 ^ 9) (l ++ [x]):=by
    rw [hx,HLo.out];exact qlk (b:=9) (oh_ HBs.out) HLk.out (by have:=HVal.out;rw [← HEn.out] at this;exact this)
   have HCh:=hj_ hch;have HStep:=hj_ hstep;have HX9:=hj_ hx9;clear hch hstep hx9 hct hcl hx hlo2;go_wp2_with fail;refine HCh.out.mono ?_;rintro e w1 ⟨rfl,hb1⟩;have hown2:=qfq hown hb1;have hbV2:=ht_ hbV hb1;have hsz2:=hbV2.size;have hk2:k≤4096:=by have:=HLt.out;omega
   clear hown hbV hb1;go_wp2_with (at_builtin;refine q003 rfl _ _ _ rfl W.heap.size _ _ 1 8 underlying235 infoU rfl o_ _ k (uv l) rfl hown2 [.int .u64 _] _ _ _ rfl (by first | rfl | simp) rfl (u_one _) (by unfold maxLen;omega) o_ (by first | omega | (simp;omega) | simp) ?_;intro g cap w1 hown1 hg1)
   go_roundw
   case rel=>exact ⟨k+1,l ++ [x],by have:=HEn.out;have:=HLt.out;go_num,.inr (by simpa using HLt.out),by
    rw [qys];exact hown1,by simp [HLk.out],HWd.out.snoc HX9.out,by
    have e1:t.length-9*(k+1)=en-9:=by have:=HEn.out;omega
    rw [e1];exact HStep.out,q1a hbV2 lr_ hown2 hg1⟩
   case measure=>simp [intOf];omega
  ·have h0:decide ((0:Int)<(t.length:Int)-9*(k:Int))=false:=by simp;omega
   have hk4:k≤1000:=o_
   have hval2:wv 1000000000 l=z.natAbs:=by
    rw [← HV.out,hval,show t.length-9*k=0 from o_,List.take_zero,q6m];omega
   obtain ⟨A',c',rfl⟩:=qfu hown;have hus:=Us.of_own hown hlk.symm;have hcut:=q47 A' k c' l wr hus o_ (qfs hown) (qfx hown) hwd
   rw [hval2] at hcut;have HCut:=hj_ hcut;have hbw:=HB0.out.trans (hbV.mono (by rw [HSz.out];omega))
   clear hcut hus hown hval hval2 hwd hlk hk HD HV HBt HB HZ HS hl9;go_wp2_with fail;refine HCut.out.mono ?_;rintro e w2 ⟨v,rfl,hm,hb2,_⟩;obtain ⟨AM,cM,rfl,hcM,huM⟩:=hm;have hb12:=ht_ hbV hb2;have hbw2:=ht_ hbw hb2;obtain ⟨hcc,hcf⟩:=bcell hb12;have hlt0:w.heap.size<W.heap.size:=by rw [HSz.out];omega
   have bz:=hj_ (fun i=>(hcc _ i hlt0).trans (HBz.out i))
   have z0:w2.cell? ⟨w.heap.size,0,none⟩=some (.bool false):=bz.out 0;have z1:w2.cell? ⟨w.heap.size,1,none⟩=some (.slice none 0 0):=bz.out 1;have fz0:=(hcf _ 0 hlt0).trans (HFz.out 0);have fz1:=(hcf _ 1 hlt0).trans (HFz.out 1);obtain ⟨LM,hLM⟩:∃ n,n=(wds 1000000000 z.natAbs).length:=⟨_,rfl⟩;rw [← hLM] at hcM huM;rw [← hLM];obtain ⟨e0,e1,hnum,hbe⟩:=fin1 (z:=z) hbw2 lr_ bz.out (NumA.of huM hLM hcM rfl) sg (by rw [← HNg.out,qeg]) rfl
   clear hcc hcf bz hb12 hb2 hbV hbw hbw2 huM hcM hLM HCut HBz HFz HB0 HSz;go_wp2;exact bodyPost_ret (v:=.agg #[.bool sg,.slice AM LM cM]) (by simp [results,f284,go_sem,e0,e1]) rfl ⟨_,rfl,hnum,hbe⟩
theorem boxes2 (w:World) (c1 c2:Array Value) (t1 t2:TypeId) (hW:W=(w.alloc (.cells c1 t1)).alloc (.cells c2 t2)) :
  W.heap.size=w.heap.size+2∧(∀ i,W.cell? ⟨w.heap.size,i,none⟩=c1[i]?)∧(∀ i,W.cell? ⟨w.heap.size+1,i,none⟩=c2[i]?) ∧
  (∀ i,W.frozen? ⟨w.heap.size,i,none⟩=false)∧(∀ i,W.frozen? ⟨w.heap.size+1,i,none⟩=false)∧Below w.heap.size w W:=by
 subst hW;refine ⟨s_,fun i=>?_,fun i=>?_,fun i=>?_,fun i=>?_,((Below.refl _ w).alloc lr_ _).alloc s_ _⟩
 ·rw [World.cell?_alloc_lt _ _ _ s_,World.cell?_alloc_new]
 ·have e:w.heap.size+1=(w.alloc (.cells c1 t1)).heap.size:=by simp
  rw [e,World.cell?_alloc_new]
 ·have e:((w.alloc (.cells c1 t1)).alloc (.cells c2 t2)).frozen? ⟨w.heap.size,i,none⟩=(w.alloc (.cells c1 t1)).frozen? ⟨w.heap.size,i,none⟩:=((Below.refl (w.alloc (.cells c1 t1)).heap.size _).alloc lr_ _).frozen (p:=⟨w.heap.size,i,none⟩) s_
  rw [e,World.frozen?_alloc_new]
 ·have e:w.heap.size+1=(w.alloc (.cells c1 t1)).heap.size:=by simp
  rw [e,World.frozen?_alloc_new]
theorem fin2g {G1 G2:Nat} {x y:Int} {B N1 N2:Option Addr} {la lb d m1 c1 m2 c2:Nat} {s1 s2:Bool} (hbw:Below w.heap.size w w2) (g1:w.heap.size≤G1) (g2:w.heap.size≤G2) (hne:G1≠G2)
  (bz:∀ i,w2.cell? ⟨G1,i,none⟩=(#[.bool s1,.slice N1 m1 c1]:Array Value)[i]?) (bh:∀ i,w2.cell? ⟨G2,i,none⟩=(#[.bool s2,.slice N2 m2 c2]:Array Value)[i]?)
  (hx:NumA w2 A la c x) (hy:NumA w2 B lb d y) (b1 b2:Bool) (hb1:b1=decide (x<0)) (hb2:b2=decide (y<0)) {WE:World}
  (hWE:WE=(((w2.setCell ⟨G1,0,none⟩ (.bool b1)).setCell ⟨G1,1,none⟩ (.slice A la c)).setCell ⟨G2,0,none⟩ (.bool b2)).setCell ⟨G2,1,none⟩ (.slice B lb d)) :
  WE.cell? ⟨G1,0,none⟩=some (.bool b1)∧WE.cell? ⟨G1,1,none⟩=some (.slice A la c)∧WE.cell? ⟨G2,0,none⟩=some (.bool b2)∧WE.cell? ⟨G2,1,none⟩=some (.slice B lb d) ∧
  Num WE (.agg #[.bool b1,.slice A la c]) x∧Num WE (.agg #[.bool b2,.slice B lb d]) y∧Below w.heap.size w WE:=by
 have z0:w2.cell? ⟨G1,0,none⟩=some (.bool s1):=bz 0;have z1:w2.cell? ⟨G1,1,none⟩=some (.slice N1 m1 c1):=bz 1;have h0:w2.cell? ⟨G2,0,none⟩=some (.bool s2):=bh 0;have h1:w2.cell? ⟨G2,1,none⟩=some (.slice N2 m2 c2):=bh 1;obtain ⟨e0,e1⟩:=qte (.bool b1) (.slice A la c) z0 z1;obtain ⟨d0,d1⟩:=qte (w:=(w2.setCell ⟨G1,0,none⟩ (.bool b1)).setCell ⟨G1,1,none⟩ (.slice A la c)) (.bool b2) (.slice B lb d) (far2 _ _ _ _ _ (Ne.symm hne) h0) (far2 _ _ _ _ _ (Ne.symm hne) h1);have q1:=(hx.2.2.stored (us_far hx.2.2 bz) (.bool b1) (.slice A la c)).stored (us_far hx.2.2 bh) (.bool b2) (.slice B lb d);have r1:=(hy.2.2.stored (us_far hy.2.2 bz) (.bool b1) (.slice A la c)).stored (us_far hy.2.2 bh) (.bool b2) (.slice B lb d);rw [← hWE] at d0 d1 q1 r1;refine ⟨by rw [hWE];exact far2 _ _ _ _ _ hne e0,by rw [hWE];exact far2 _ _ _ _ _ hne e1,d0,d1,(NumA.of q1 hx.1 hx.2.1 rfl).num hb1,(NumA.of r1 hy.1 hy.2.1 rfl).num hb2,?_⟩
 rw [hWE];exact (((hbw.setCell (by simpa using g1) _).setCell (by simpa using g1) _).setCell (by simpa using g2) _).setCell (by simpa using g2) _
theorem Num.open' {v:Value} {z:Int} (h:Num w v z):∃ s A n c,s=decide (z<0)∧v=.agg #[.bool s,.slice A n c]∧NumA w A n c z:=by
 obtain ⟨A,n,c,e,hn⟩:=h.open;exact ⟨_,A,n,c,rfl,e,hn⟩
theorem NumA.zero (w:World):NumA w none 0 0 0:=⟨by rw [show (0:Int).natAbs=0 from rfl,qzi];rfl,Nat.le_refl _,by rw [show (0:Int).natAbs=0 from rfl,qzi];exact Us.nil _ _⟩
theorem qgd (a b:ByteArray) (w:World) (ha:a.size≤1000000000) (hb:b.size≤1000000000) (hc:chk2 a.data.toList b.data.toList≠0) :
  Rt 236 #[.string a,.string b] w (.tuple #[.agg #[.bool false,.slice none 0 0],.agg #[.bool false,.slice none 0 0],.int .i64 (chk2 a.data.toList b.data.toList)]):=by
 obtain ⟨W,hW⟩:=ex_ ((w.alloc (.cells #[.bool false,.slice none 0 0] 237)).alloc (.cells #[.bool false,.slice none 0 0] 237));obtain ⟨hsz,bx,bY,fx,fy,hb2⟩:=boxes2 w _ _ _ _ hW;obtain ⟨K,hK⟩:=ex_ (chk2 a.data.toList b.data.toList);rw [← hK] at hc ⊢;have HK:=hj_ hK;have HC:=hj_ hc;have HSz:=hj_ hsz;have HBx:=hj_ bx;have HBy:=hj_ bY;have HFx:=hj_ fx;have HFy:=hj_ fy;have HB2:=hj_ hb2;have hKn:(K != 0)=true:=by simpa using hc
 clear hK hc hsz bx bY fx fy hb2;have i0:∀ w:World,(Instr.index 326 (.agg #[.string a,.string b]) (.int .i64 0)).run prog w=.ok (.string a) w:=fun _=>k_
 have i1:∀ w:World,(Instr.index 326 (.agg #[.string a,.string b]) (.int .i64 1)).run prog w=.ok (.string b) w:=fun _=>k_
 go_enter func236,ntmps236
 go_wp2_with fail;rw [← hW];clear hW
 go_loopw [13] (fun iv wr=>((iv=.int .i64 0)∨(iv=.int .i64 1∧chkI a.data.toList=0))∧Below W.heap.size W wr) (fun iv _=>2-(intOf iv).toNat)
 case atStart=>exact ⟨.inl rfl,br_⟩
 case round =>
  obtain ⟨hiv,hbV⟩:=hrel;have key:∀ w2,Below W.heap.size W w2→(w2.cell? ⟨w.heap.size,0,none⟩=some (.bool false)∧w2.cell? ⟨w.heap.size,1,none⟩=some (.slice none 0 0)∧w2.cell? ⟨w.heap.size+1,0,none⟩=some (.bool false)∧w2.cell? ⟨w.heap.size+1,1,none⟩=some (.slice none 0 0)) ∧
    (w2.frozen? ⟨w.heap.size,0,none⟩=false∧w2.frozen? ⟨w.heap.size,1,none⟩=false∧w2.frozen? ⟨w.heap.size+1,0,none⟩=false∧w2.frozen? ⟨w.heap.size+1,1,none⟩=false) ∧
    ∀ WE,WE=(((w2.setCell ⟨w.heap.size,0,none⟩ (.bool false)).setCell ⟨w.heap.size,1,none⟩ (.slice none 0 0)).setCell ⟨w.heap.size+1,0,none⟩ (.bool false)).setCell ⟨w.heap.size+1,1,none⟩ (.slice none 0 0) →
     WE.cell? ⟨w.heap.size,0,none⟩=some (.bool false)∧WE.cell? ⟨w.heap.size,1,none⟩=some (.slice none 0 0)∧WE.cell? ⟨w.heap.size+1,0,none⟩=some (.bool false)∧WE.cell? ⟨w.heap.size+1,1,none⟩=some (.slice none 0 0)∧Below w.heap.size w WE:=fun w2 hb=>by
   obtain ⟨hcc,hcf⟩:=bcell hb;have l0:w.heap.size<W.heap.size:=by rw [HSz.out];omega
   have l1:w.heap.size+1<W.heap.size:=by rw [HSz.out];omega
   have z:=fun i=>(hcc _ i l0).trans (HBx.out i)
   have h:=fun i=>(hcc _ i l1).trans (HBy.out i)
   refine ⟨⟨z 0,z 1,h 0,h 1⟩,⟨(hcf _ 0 l0).trans (HFx.out 0),(hcf _ 1 l0).trans (HFx.out 1),(hcf _ 0 l1).trans (HFy.out 0),(hcf _ 1 l1).trans (HFy.out 1)⟩,fun WE hWE=>?_⟩
   obtain ⟨e0,e1,e2,e3,_,_,e4⟩:=fin2g (HB2.out.trans (hb.mono (by rw [HSz.out];omega))) lr_ o_ o_ z h (NumA.zero _) (NumA.zero _) false false s_ s_ hWE
   exact ⟨e0,e1,e2,e3,e4⟩
  have Key:=hj_ key;clear key
  rcases hiv with rfl | ⟨rfl,ha0⟩
  ·by_cases h0:chkI a.data.toList=0
   ·have H0:=hj_ h0
    have HCk:=hj_ (q2k a wr ha);clear h0;go_wp2_with (go_at_call 209;refine HCk.out.mono ?_;rw [H0.out];rintro e w1 ⟨rfl,hb1⟩)
    go_roundw
    case rel=>exact ⟨.inr ⟨by go_num,H0.out⟩,ht_ hbV hb1⟩
    case measure=>first | (simp [intOf];omega) | simp [intOf]
   ·have hKa:chkI a.data.toList=K:=by rw [HK.out];unfold chk2;rw [if_pos h0]
    have HKa:=hj_ hKa;have HCk:=hj_ (q2k a wr ha);clear h0 hKa;go_wp2_with fail;refine HCk.out.mono ?_;rw [HKa.out];rintro e w1 ⟨rfl,hb1⟩;obtain ⟨⟨z0,z1,h0,h1⟩,⟨fz0,fz1,fh0,fh1⟩,hfin⟩:=Key.out w1 (ht_ hbV hb1);obtain ⟨e0,e1,e2,e3,hbe⟩:=hfin _ rfl;clear hfin hb1 hbV HCk Key HB2 HFx HFy HBx HBy HSz;go_wp2;exact bodyPost_ret (v:=.tuple #[.agg #[.bool false,.slice none 0 0],.agg #[.bool false,.slice none 0 0],.int .i64 K]) (by simp [results,f236,go_sem,e0,e1,e2,e3]) rfl ⟨rfl,hbe⟩
  ·have hKb:chkI b.data.toList=K:=by rw [HK.out];unfold chk2;rw [if_neg (by rw [ha0];simp)]
   have HKb:=hj_ hKb;have HCk:=hj_ (q2k b wr hb);clear ha0 hKb;go_wp2_with fail;refine HCk.out.mono ?_;rw [HKb.out];rintro e w1 ⟨rfl,hb1⟩;obtain ⟨⟨z0,z1,h0,h1⟩,⟨fz0,fz1,fh0,fh1⟩,hfin⟩:=Key.out w1 (ht_ hbV hb1);obtain ⟨e0,e1,e2,e3,hbe⟩:=hfin _ rfl;clear hfin hb1 hbV HCk Key HB2 HFx HFy HBx HBy HSz;go_wp2;exact bodyPost_ret (v:=.tuple #[.agg #[.bool false,.slice none 0 0],.agg #[.bool false,.slice none 0 0],.int .i64 K]) (by simp [results,f236,go_sem,e0,e1,e2,e3]) rfl ⟨rfl,hbe⟩
theorem qge (a b:ByteArray) (x y:Int) (w:World) (hax:a.data.toList=Lib.itoa x) (hby:b.data.toList=Lib.itoa y) (hx:Fit x) (hy:Fit y) :
  Calls prog 236 #[.string a,.string b] w fun e w'=>∃ v v',e=.returned (.tuple #[v,v',.int .i64 0])∧Num w' v x∧Num w' v' y∧Below w.heap.size w w':=by
 obtain ⟨W,hW⟩:=ex_ ((w.alloc (.cells #[.bool false,.slice none 0 0] 237)).alloc (.cells #[.bool false,.slice none 0 0] 237));obtain ⟨hsz,bx,bY,fx,fy,hb2⟩:=boxes2 w _ _ _ _ hW;have hfx:=q8f.1 hx;have hfy:=q8f.1 hy;have hc1:chkI a.data.toList=0:=by rw [hax];exact q2w hx
 have hc2:chkI b.data.toList=0:=by rw [hby];exact q2w hy
 have ha:a.size≤1000000000:=by
  have h1:a.size=a.data.toList.length:=s_
  rw [h1,hax];have:=qc3 x;omega
 have hb:b.size≤1000000000:=by
  have h1:b.size=b.data.toList.length:=s_
  rw [h1,hby];have:=qc3 y;omega
 have HA:=hj_ ha;have HB:=hj_ hb;have H1:=hj_ hc1;have H2:=hj_ hc2;have HRx:=hj_ (fun w=>qli a x w hax o_)
 have HRy:=hj_ (fun w=>qli b y w hby o_)
 have HSz:=hj_ hsz;have HBx:=hj_ bx;have HBy:=hj_ bY;have HFx:=hj_ fx;have HFy:=hj_ fy;have HB2:=hj_ hb2;clear hc1 hc2 hfx hfy hax hby hx hy hsz bx bY fx fy hb2 ha hb;have i0:∀ w:World,(Instr.index 326 (.agg #[.string a,.string b]) (.int .i64 0)).run prog w=.ok (.string a) w:=fun _=>k_
 have i1:∀ w:World,(Instr.index 326 (.agg #[.string a,.string b]) (.int .i64 1)).run prog w=.ok (.string b) w:=fun _=>k_
 go_enter func236,ntmps236
 go_wp2_with fail;rw [← hW];clear hW
 go_loopw [13] (fun iv wr=>(∃ k:Nat,k≤2∧iv=.int .i64 k)∧Below W.heap.size W wr) (fun iv _=>2-(intOf iv).toNat)
 case atStart=>exact ⟨⟨0,o_,rfl⟩,br_⟩
 case round =>
  obtain ⟨⟨k,hk,rfl⟩,hbV⟩:=hrel;obtain rfl | rfl | rfl:k=0∨k=1∨k=2:=o_
  ·have HCk:=hj_ (q2k a wr HA.out)
   go_wp2_with (go_at_call 209;refine HCk.out.mono ?_;rw [H1.out];rintro e w1 ⟨rfl,hb1⟩)
   go_roundw
   case rel=>exact ⟨⟨1,o_,by go_num⟩,ht_ hbV hb1⟩
   case measure=>first | (simp [intOf];omega) | simp [intOf]
  ·have HCk:=hj_ (q2k b wr HB.out)
   go_wp2_with (go_at_call 209;refine HCk.out.mono ?_;rw [H2.out];rintro e w1 ⟨rfl,hb1⟩)
   go_roundw
   case rel=>exact ⟨⟨2,o_,by go_num⟩,ht_ hbV hb1⟩
   case measure=>first | (simp [intOf];omega) | simp [intOf]
  ·go_wp2_with fail
   refine (HRx.out wr).mono ?_;rintro e w1 ⟨v,rfl,hv,hb1⟩;obtain ⟨s1,A1,n1,c1,hs1,rfl,hn1⟩:=hv.open';have HS1:=hj_ hs1;clear hs1;go_wp2_with fail;refine (HRy.out w1).mono ?_;rintro e w2 ⟨v',rfl,hv',hb2⟩;obtain ⟨s2,A2,n2,c2,hs2,rfl,hn2⟩:=hv'.open';have hb12:=hbV.trans ((ht_ hb1 hb2).mono hbV.size);have hnn:=hn1.below hb2;obtain ⟨hcc,hcf⟩:=bcell hb12;have l0:w.heap.size<W.heap.size:=by rw [HSz.out];omega
   have l1:w.heap.size+1<W.heap.size:=by rw [HSz.out];omega
   have z:=fun i=>(hcc _ i l0).trans (HBx.out i)
   have h:=fun i=>(hcc _ i l1).trans (HBy.out i)
   obtain ⟨e0,e1,e2,e3,nx,ny,hbe⟩:=fin2g (HB2.out.trans (hb12.mono (by rw [HSz.out];omega))) lr_ o_ o_ z h hnn hn2 s1 s2 HS1.out hs2 rfl
   have z0:w2.cell? ⟨w.heap.size,0,none⟩=some (.bool false):=z 0;have z1:w2.cell? ⟨w.heap.size,1,none⟩=some (.slice none 0 0):=z 1;have h0:w2.cell? ⟨w.heap.size+1,0,none⟩=some (.bool false):=h 0;have h1:w2.cell? ⟨w.heap.size+1,1,none⟩=some (.slice none 0 0):=h 1;have fz0:=(hcf _ 0 l0).trans (HFx.out 0);have fz1:=(hcf _ 1 l0).trans (HFx.out 1);have fh0:=(hcf _ 0 l1).trans (HFy.out 0);have fh1:=(hcf _ 1 l1).trans (HFy.out 1);clear z h hcc hcf hnn hn1 hn2 hv hv' hb1 hb2 hb12 hbV HRx HRy HB2 HFx HFy HBx HBy HSz HA HB H1 H2 HS1 hs2 hk;go_wp2;exact bodyPost_ret (v:=.tuple #[.agg #[.bool s1,.slice A1 n1 c1],.agg #[.bool s2,.slice A2 n2 c2],.int .i64 0]) (by simp [results,f236,go_sem,e0,e1,e2,e3]) rfl ⟨_,_,rfl,nx,ny,hbe⟩
theorem q1d (fn:Nat) (op:Int→Int→Int) (he:∀ args w,(callFunc fn args).run prog w=.ok (.enter fn args) w) (hop:Bounded op)
  (hf:∀ (A:Option Addr) (la c:Nat) (x:Int) (B:Option Addr) (lb d:Nat) (y:Int) (w:World),NumA w A la c x→NumA w B lb d y→la≤2000→lb≤2000→Calls prog fn #[.agg #[.bool (decide (x<0)),.slice A la c],.agg #[.bool (decide (y<0)),.slice B lb d]] w (RetN (op x y) w))
  (a b:ByteArray) (w:World) (ha:a.size≤1000000000) (hb:b.size≤1000000000) (ht:Tab w) :
  Rt 175 #[.string a,.string b,.func (.func fn) #[] #[]] w (.tuple #[.string ⟨(opT op a.data.toList b.data.toList).1.toArray⟩,.int .i64 (opT op a.data.toList b.data.toList).2]):=by
 have HT:=hj_ ht;clear ht
 by_cases hc:chk2 a.data.toList b.data.toList=0
 ·obtain ⟨hca,hcb⟩:=q2r.1 hc
  have HV:=hj_ (show opT op a.data.toList b.data.toList=longT (op (valI a.data.toList) (valI b.data.toList)) by unfold opT;rw [if_neg (by simpa using hc)])
  obtain ⟨hax,hfx⟩:=qz0 hca;obtain ⟨hby,hfy⟩:=qz0 hcb;generalize valI a.data.toList=x at *;generalize valI b.data.toList=y at *;have HP:=hj_ (fun w=>qge a b x y w hax hby hfx hfy)
  have HR:=hj_ (q1c (hop x y hfx hfy));have HX:=hj_ (q8h hfx);have HY:=hj_ (q8h hfy);have HF:=hj_ hf;clear hc hca hcb hax hby hfx hfy hf hop
  go_enter func175,ntmps175
  go_wp2_with fail;refine (HP.out _).mono ?_;rintro e w1 ⟨v,v',rfl,hv,hv',hb1⟩;obtain ⟨A1,n1,c1,rfl,hn1⟩:=hv.open;obtain ⟨A2,n2,c2,rfl,hn2⟩:=hv'.open;have hl1:n1≤2000:=by rw [hn1.1];exact Nat.le_trans HX.out o_
  have hl2:n2≤2000:=by rw [hn2.1];exact Nat.le_trans HY.out o_
  have hb3:Below w1.heap.size w1 ((w1.alloc (.cells #[.bool (decide (x<0)),.slice A1 n1 c1] 237)).alloc (.cells #[.bool (decide (y<0)),.slice A2 n2 c2] 237)):=((Below.refl _ w1).alloc lr_ _).alloc s_ _
  have hC:=HF.out A1 n1 c1 x A2 n2 c2 y _ (hn1.below hb3) (hn2.below hb3) hl1 hl2;generalize decide (x<0)=s1 at *;generalize decide (y<0)=s2 at *;have HC:=hj_ hC;have HB1:=hj_ (ht_ hb1 hb3);clear hv hv' hn1 hn2 hl1 hl2 hb1 HF hb3 hC;go_wp2_with fail;refine HC.out.mono ?_;rintro e w2 ⟨v,rfl,hv,hb2⟩;obtain ⟨A3,n3,c3,rfl,hn3⟩:=hv.open;have HW:=hj_ (q008 A3 n3 c3 (op x y) w2 hn3 (by rw [hn3.1];exact Nat.le_trans HR.out o_) (HT.out.below (ht_ HB1.out hb2)))
  have HB2:=hj_ (ht_ HB1.out hb2);generalize decide (op x y<0)=s3 at *;clear hv hn3 hb2 HC;go_wp2_with fail;refine HW.out.mono ?_;rintro e w3 ⟨rfl,hb3⟩;have hbe:=ht_ HB2.out hb3;go_wp2;go_ret2;exact ⟨by rw [HV.out];rfl,hbe⟩
 ·have HV:=hj_ (show opT op a.data.toList b.data.toList=([],chk2 a.data.toList b.data.toList) by unfold opT;rw [if_pos hc])
  have hP:=qgd a b w ha hb hc;generalize chk2 a.data.toList b.data.toList=k at *;have h1:(k == 0)=false:=by simpa using hc
  have h2:(k != 0)=true:=by simpa using hc
  have HP:=hj_ hP;clear hP hc hf hop
  go_enter func175,ntmps175
  go_wp2_with (go_at_call 236;refine HP.out.mono ?_;rintro e w1 ⟨rfl,hb1⟩)
  all_goals (go_ret2;exact ⟨by rw [HV.out];rfl,(hb1.alloc hb1.size _).alloc (by have:=hb1.size;simp;omega) _⟩)
theorem q06 (a b:ByteArray) (w:World) (ha:a.size≤1000000000) (hb:b.size≤1000000000) (ht:Tab w) :
  Rt 179 #[.string a,.string b] w (.tuple #[.string ⟨(opT (fun x y=>x+y) a.data.toList b.data.toList).1.toArray⟩,.int .i64 (opT (fun x y=>x+y) a.data.toList b.data.toList).2]):=by
 have HC:=hj_ (q1d 247 (fun x y=>x+y) (enters_of func247 k_ rfl) q1l (fun A la c x B lb d y w hx hy hla hlb=>qra A la c x B lb d y w hx hy o_ o_) a b w ha hb ht)
 clear ht;generalize opT (fun x y=>x+y) a.data.toList b.data.toList=R at *
 go_enter func179,ntmps179
 go_wp2_with (go_at_call 175;refine HC.out.mono ?_;rintro e w1 ⟨rfl,hb1⟩);go_ret2;exact ⟨rfl,hb1⟩
theorem qr6 (a b:ByteArray) (w:World) (ha:a.size≤1000000000) (hb:b.size≤1000000000) (ht:Tab w) :
  Rt 180 #[.string a,.string b] w (.tuple #[.string ⟨(opT (fun x y=>x-y) a.data.toList b.data.toList).1.toArray⟩,.int .i64 (opT (fun x y=>x-y) a.data.toList b.data.toList).2]):=by
 have HC:=hj_ (q1d 248 (fun x y=>x-y) (enters_of func248 k_ rfl) q1p (fun A la c x B lb d y w hx hy hla hlb=>qqz A la c x B lb d y w hx hy o_ o_) a b w ha hb ht)
 clear ht;generalize opT (fun x y=>x-y) a.data.toList b.data.toList=R at *
 go_enter func180,ntmps180
 go_wp2_with (go_at_call 175;refine HC.out.mono ?_;rintro e w1 ⟨rfl,hb1⟩);go_ret2;exact ⟨rfl,hb1⟩
theorem qe4 (a b:ByteArray) (w:World) (ha:a.size≤1000000000) (hb:b.size≤1000000000) (ht:Tab w) :
  Rt 246 #[.string a,.string b] w (.tuple #[.string ⟨(opT (fun x y=>x*y) a.data.toList b.data.toList).1.toArray⟩,.int .i64 (opT (fun x y=>x*y) a.data.toList b.data.toList).2]):=by
 have HC:=hj_ (q1d 292 (fun x y=>x*y) (enters_of func292 k_ rfl) q1n (fun A la c x B lb d y w hx hy hla hlb=>qip A la c x B lb d y w hx hy hla hlb) a b w ha hb ht)
 clear ht;generalize opT (fun x y=>x*y) a.data.toList b.data.toList=R at *
 go_enter func246,ntmps246
 go_wp2_with (go_at_call 175;refine HC.out.mono ?_;rintro e w1 ⟨rfl,hb1⟩);go_ret2;exact ⟨rfl,hb1⟩
theorem q9v (a b:ByteArray) (w:World) (ha:a.size≤1000000000) (hb:b.size≤1000000000) (ht:Tab w) :
  Rt 120 #[.string a,.string b] w (.tuple #[.string ⟨(opT (fun x y=>(Nat.gcd x.natAbs y.natAbs:Int)) a.data.toList b.data.toList).1.toArray⟩,.int .i64 (opT (fun x y=>(Nat.gcd x.natAbs y.natAbs:Int)) a.data.toList b.data.toList).2]):=by
 have HC:=hj_ (q1d 176 (fun x y=>(Nat.gcd x.natAbs y.natAbs:Int)) (enters_of func176 k_ rfl) q1m (fun A la c x B lb d y w hx hy hla hlb=>q9u A la c x B lb d y w hx hy hla hlb) a b w ha hb ht)
 clear ht;generalize opT (fun x y=>(Nat.gcd x.natAbs y.natAbs:Int)) a.data.toList b.data.toList=R at *
 go_enter func120,ntmps120
 go_wp2_with (go_at_call 175;refine HC.out.mono ?_;rintro e w1 ⟨rfl,hb1⟩);go_ret2;exact ⟨rfl,hb1⟩
theorem qej (a:ByteArray) (w:World) (ha:a.size≤1000000000) (ht:Tab w) :
  Rt 183 #[.string a] w (.tuple #[.string ⟨(opT (fun x y=>x-y) [48] a.data.toList).1.toArray⟩,.int .i64 (opT (fun x y=>x-y) [48] a.data.toList).2]):=by
 have hC:=qr6 ⟨#[48]⟩ a w d_ ha ht
 rw [show (⟨#[48]⟩:ByteArray).data.toList=[48] from rfl] at hC
 have HC:=hj_ hC;clear ht hC;generalize opT (fun x y=>x-y) [48] a.data.toList=R at *
 go_enter func183,ntmps183
 go_wp2_with (go_at_call 180;refine HC.out.mono ?_;rintro e w1 ⟨rfl,hb1⟩);go_ret2;exact ⟨rfl,hb1⟩
def comT (s t:BT):Int × Int:=if chk2 s t≠0 then (0,chk2 s t) else ((valI s-valI t).sign,0)
theorem q3t (a b:ByteArray) (w:World) (ha:a.size≤1000000000) (hb:b.size≤1000000000) :
  Rt 308 #[.string a,.string b] w (.tuple #[.int .i64 (comT a.data.toList b.data.toList).1,.int .i64 (comT a.data.toList b.data.toList).2]):=by
 by_cases hc:chk2 a.data.toList b.data.toList=0
 ·obtain ⟨hca,hcb⟩:=q2r.1 hc
  have HV:=hj_ (show comT a.data.toList b.data.toList=((valI a.data.toList-valI b.data.toList).sign,0) by unfold comT;rw [if_neg (by simpa using hc)])
  obtain ⟨hax,hfx⟩:=qz0 hca;obtain ⟨hby,hfy⟩:=qz0 hcb;generalize valI a.data.toList=x at *;generalize valI b.data.toList=y at *;have HP:=hj_ (fun w=>qge a b x y w hax hby hfx hfy)
  have HR:=hj_ (q1c (q1p x y hfx hfy));have HX:=hj_ (q8h hfx);have HY:=hj_ (q8h hfy);clear hc hca hcb hax hby hfx hfy
  go_enter func308,ntmps308
  go_wp2_with fail;refine (HP.out _).mono ?_;rintro e w1 ⟨v,v',rfl,hv,hv',hb1⟩;obtain ⟨s1,A1,n1,c1,hs1,rfl,hn1⟩:=hv.open';obtain ⟨s2,A2,n2,c2,hs2,rfl,hn2⟩:=hv'.open';obtain ⟨V,hV⟩:=ex_ ((w1.alloc (.cells #[.bool s1,.slice A1 n1 c1] 237)).alloc (.cells #[.bool s2,.slice A2 n2 c2] 237));obtain ⟨hsz,bx,bY,_,_,hbv⟩:=boxes2 w1 _ _ _ _ hV;have hbv:=q18 hbv 1;have HB:=hj_ (ht_ hb1 hbv);have hla:n1≤2000:=by rw [hn1.1];exact Nat.le_trans HX.out o_
  have hlb:n2≤2000:=by rw [hn2.1];exact Nat.le_trans HY.out o_
  have hN:=qeq A2 n2 c2 y V.drew (hn2.below hbv) o_
  rw [← hs2] at hN;have HN:=hj_ hN;have HX1:=hj_ (hn1.below hbv);have HS1:=hj_ hs1;have HSz:=hj_ (show V.drew.heap.size=w1.heap.size+2 from hsz)
  have hlb':=hj_ (show (wds 1000000000 (-y).natAbs).length≤10000 by rw [Int.natAbs_neg];exact Nat.le_trans HY.out o_)
  have x0:V.cell? ⟨w1.heap.size,0,none⟩=some (.bool s1):=bx 0;have x1:V.cell? ⟨w1.heap.size,1,none⟩=some (.slice A1 n1 c1):=bx 1;have y0:V.cell? ⟨w1.heap.size+1,0,none⟩=some (.bool s2):=bY 0;have y1:V.cell? ⟨w1.heap.size+1,1,none⟩=some (.slice A2 n2 c2):=bY 1;clear hs1 hs2 hv hv' hn1 hn2 hN bx bY hb1 hbv hsz hlb HP;go_wp2_with fail;rw [← hV];clear hV
  go_region_held3 (fun w'=>w'.cell? ⟨w1.heap.size,0,none⟩=some (.bool s1)∧w'.cell? ⟨w1.heap.size,1,none⟩=some (.slice A1 n1 c1)∧w'.cell? ⟨w1.heap.size+1,0,none⟩=some (.bool s2)∧w'.cell? ⟨w1.heap.size+1,1,none⟩=some (.slice A2 n2 c2)) (first | exact ⟨x0,x1,y0,y1⟩ | exact ⟨p0,p1,p2,p3⟩ | exact ⟨q0,q1,q2,q3⟩ | exact ⟨r0,r1,r2,r3⟩)
   (first | (go_at_call 249;refine HN.out.mono ?_;rintro e w2 ⟨v,rfl,hv,hb2⟩;obtain ⟨A',n',c',rfl,hn'⟩:=hv.open;obtain ⟨h1,h2⟩:=bcell hb2;have p0:=(h1 _ 0 (by rw [HSz.out];omega:w1.heap.size<V.drew.heap.size)).trans x0;have p1:=(h1 _ 1 (by rw [HSz.out];omega:w1.heap.size<V.drew.heap.size)).trans x1;have p2:=(h1 _ 0 (by rw [HSz.out];omega:w1.heap.size+1<V.drew.heap.size)).trans y0;have p3:=(h1 _ 1 (by rw [HSz.out];omega:w1.heap.size+1<V.drew.heap.size)).trans y1;have hS:=qra A1 n1 c1 x A' n' c' (-y) w2 (HX1.out.below hb2) hn' o_ (by rw [hn'.1];exact hlb'.out);rw [← HS1.out] at hS;have HS:=hj_ hS;clear hS hv hn' h1 h2;generalize decide (-y<0)=sn at *) | (go_at_call 247;refine HS.out.mono ?_;rintro e w3 ⟨v,rfl,hv,hb3⟩;obtain ⟨A2',n2',c2',rfl,hn2'⟩:=hv.open;rw [← Int.sub_eq_add_neg] at hn2';rw [← Int.sub_eq_add_neg];have hb23:=ht_ hb2 hb3;obtain ⟨hcc,hcf⟩:=bcell hb23;have q0:=(hcc _ 0 (by rw [HSz.out];omega:w1.heap.size<V.drew.heap.size)).trans x0;have q1:=(hcc _ 1 (by rw [HSz.out];omega:w1.heap.size<V.drew.heap.size)).trans x1;have q2:=(hcc _ 0 (by rw [HSz.out];omega:w1.heap.size+1<V.drew.heap.size)).trans y0;have q3:=(hcc _ 1 (by rw [HSz.out];omega:w1.heap.size+1<V.drew.heap.size)).trans y1;have HG:=hj_ (qpm A2' n2' c2' (x-y) w3 hn2' (by rw [hn2'.1];exact Nat.le_trans HR.out o_));generalize decide (x-y<0)=sr at *;clear hcc hcf) | (go_at_call 333;refine HG.out.mono ?_;rintro e w4 ⟨rfl,hb4⟩;have hb24:=ht_ hb23 hb4;obtain ⟨hdd,hdf⟩:=bcell hb24;have r0:=(hdd _ 0 (by rw [HSz.out];omega:w1.heap.size<V.drew.heap.size)).trans x0;have r1:=(hdd _ 1 (by rw [HSz.out];omega:w1.heap.size<V.drew.heap.size)).trans x1;have r2:=(hdd _ 0 (by rw [HSz.out];omega:w1.heap.size+1<V.drew.heap.size)).trans y0;have r3:=(hdd _ 1 (by rw [HSz.out];omega:w1.heap.size+1<V.drew.heap.size)).trans y1;clear hdd hdf))
  have hbe:=ht_ HB.out hb24;clear HS HG HN HX1 HS1 HSz HB hb2 hb23 hb24 x0 x1 y0 y1 p0 p1 p2 p3 q0 q1 q2 q3 r0 r1 r2 r3;go_wp2;go_ret2;exact ⟨by rw [HV.out];rfl,hbe⟩
 ·have HV:=hj_ (show comT a.data.toList b.data.toList=(0,chk2 a.data.toList b.data.toList) by unfold comT;rw [if_pos hc])
  have hP:=qgd a b w ha hb hc;generalize chk2 a.data.toList b.data.toList=k at *;have h1:(k == 0)=false:=by simpa using hc
  have h2:(k != 0)=true:=by simpa using hc
  have HP:=hj_ hP;clear hP hc
  go_enter func308,ntmps308
  go_wp2_with (go_at_call 236;refine HP.out.mono ?_;rintro e w1 ⟨rfl,hb1⟩)
  all_goals (go_ret2;exact ⟨by rw [HV.out];rfl,(hb1.alloc hb1.size _).alloc (by have:=hb1.size;simp;omega) _⟩)
def Rng (w : World) : Prop := ∃ tp p, w.var? prog "strconv.ErrRange" = some #[.iface tp p]
theorem qac : prog.globalNamed "strconv.ErrRange" = some 7 := k_
theorem Rng.below (h:Rng w) (hb:Below w.heap.size w w'):Rng w':=by
 obtain ⟨tp,p,hv⟩:=h;refine ⟨tp,p,var?_below hb qac ?_ hv⟩;unfold World.var? at hv;simp only [qac,Option.bind_some] at hv
 rcases Nat.lt_or_ge 7 w.heap.size with hlt | hge
 ·exact hlt
 ·rw [Array.getElem?_eq_none hge] at hv;cases hv
def smallT (s:BT):Int × Int:=if chkI s≠0 then (0,chkI s) else if -9223372036854775808≤valI s∧valI s≤9223372036854775807 then (valI s,0) else (0,2)
theorem qq9 (a:ByteArray) (w:World) (ha:a.size≤1000000000) (hr:Rng w) :
  Rt 268 #[.string a] w (.tuple #[.int .i64 (smallT a.data.toList).1,.int .i64 (smallT a.data.toList).2]):=by
 have HCk:=hj_ (q2k a w ha)
 by_cases hc:chkI a.data.toList=0
 ·obtain ⟨hax,hfx⟩:=qz0 hc
  have H0:=hj_ hc
  by_cases hin:-9223372036854775808≤valI a.data.toList∧valI a.data.toList≤9223372036854775807
  ·have HV:=hj_ (show smallT a.data.toList=(valI a.data.toList,0) by unfold smallT;rw [if_neg (by simpa using hc),if_pos hin])
   have hat:Lib.atoiAll a.data.toList=.ok (valI a.data.toList):=by rw [hax,q0y,qyz,if_pos hin]
   generalize valI a.data.toList=x at *;have HA:=hj_ (fun w=>strconv_Atoi_ok a o_ x hat w)
   clear hc hax hfx hin hat
   go_enter func268,ntmps268
   go_wp2_with (first | (go_at_call 209;refine HCk.out.mono ?_;rw [H0.out];rintro e w1 ⟨rfl,hb1⟩) | (go_at_call 309;refine (HA.out _).mono ?_;rintro e w2 ⟨rfl,hb2⟩))
   go_ret2;refine ⟨by rw [HV.out];rfl,?_⟩
   rcases hb2 with rfl | ⟨t,rfl⟩
   ·exact hb1
   ·exact hb1.trans ((Lib.bytesWorld_below _ _ _).mono hb1.size)
  ·have HV:=hj_ (show smallT a.data.toList=(0,2) by unfold smallT;rw [if_neg (by simpa using hc),if_neg hin])
   have hat:Lib.atoiAll a.data.toList=.range:=by rw [hax,q0y,if_neg hin]
   have HA:=hj_ hat;have HRg:=hj_ hr;clear hc hax hfx hin hat hr
   go_enter func268,ntmps268
   go_wp2_with (first | (go_at_call 209;refine HCk.out.mono ?_;rw [H0.out];rintro e w1 ⟨rfl,hb1⟩) | (go_at_call 309;obtain ⟨tp,pv,hv⟩:=HRg.out.below hb1;refine (strconv_Atoi_range_var a o_ HA.out tp pv _ hv).mono ?_;rintro e w2 ⟨N,rfl,_,_,hb2⟩))
   go_ret2;exact ⟨by rw [HV.out];rfl,ht_ hb1 hb2⟩
 ·have HV:=hj_ (show smallT a.data.toList=(0,chkI a.data.toList) by unfold smallT;rw [if_pos hc])
  obtain ⟨k,hk⟩:=ex_ (chkI a.data.toList);rw [← hk] at HCk HV hc;have h1:(k == 0)=false:=by simpa using hc
  have h2:(k != 0)=true:=by simpa using hc
  clear hk hc hr
  go_enter func268,ntmps268
  go_wp2_with (go_at_call 209;refine HCk.out.mono ?_;rintro r w1 ⟨rfl,hb1⟩)
  all_goals (go_ret2;exact ⟨by rw [HV.out];rfl,hb1⟩)
def errD (s t:BT):Int:=if chk2 s t≠0 then chk2 s t else if valI t=0 then 15 else 0
theorem back2 {s1 s2:Value} (hsz:W.heap.size=w.heap.size+2) (bx:∀ i,W.cell? ⟨w.heap.size,i,none⟩=(#[.bool false,s1]:Array Value)[i]?) (bY:∀ i,W.cell? ⟨w.heap.size+1,i,none⟩=(#[.bool false,s2]:Array Value)[i]?)
  (fx:∀ i,W.frozen? ⟨w.heap.size,i,none⟩=false) (fy:∀ i,W.frozen? ⟨w.heap.size+1,i,none⟩=false) (hb2:Below w.heap.size w W) (hb:Below W.heap.size W w2) :
  (∀ i,w2.cell? ⟨w.heap.size,i,none⟩=(#[.bool false,s1]:Array Value)[i]?)∧(∀ i,w2.cell? ⟨w.heap.size+1,i,none⟩=(#[.bool false,s2]:Array Value)[i]?) ∧
  (w2.cell? ⟨w.heap.size,0,none⟩=some (.bool false)∧w2.cell? ⟨w.heap.size,1,none⟩=some s1∧w2.cell? ⟨w.heap.size+1,0,none⟩=some (.bool false)∧w2.cell? ⟨w.heap.size+1,1,none⟩=some s2) ∧
  (w2.frozen? ⟨w.heap.size,0,none⟩=false∧w2.frozen? ⟨w.heap.size,1,none⟩=false∧w2.frozen? ⟨w.heap.size+1,0,none⟩=false∧w2.frozen? ⟨w.heap.size+1,1,none⟩=false)∧Below w.heap.size w w2∧w.heap.size+2≤w2.heap.size:=by
 obtain ⟨hcc,hcf⟩:=bcell hb;have l0:w.heap.size<W.heap.size:=o_
 have l1:w.heap.size+1<W.heap.size:=o_
 have z:=fun i=>(hcc _ i l0).trans (bx i)
 have h:=fun i=>(hcc _ i l1).trans (bY i)
 exact ⟨z,h,⟨z 0,z 1,h 0,h 1⟩,⟨(hcf _ 0 l0).trans (fx 0),(hcf _ 1 l0).trans (fx 1),(hcf _ 0 l1).trans (fy 0),(hcf _ 1 l1).trans (fy 1)⟩,hb2.trans (hb.mono o_),by rw [← hsz];exact hb.size⟩
theorem qqi (a b:ByteArray) (w:World) (ha:a.size≤1000000000) (hb:b.size≤1000000000) (hc:errD a.data.toList b.data.toList≠0) :
  Rt 250 #[.string a,.string b] w (.tuple #[.agg #[.bool false,.slice none 0 0],.agg #[.bool false,.slice none 0 0],.int .i64 (errD a.data.toList b.data.toList)]):=by
 obtain ⟨W,hW⟩:=ex_ ((w.alloc (.cells #[.bool false,.slice none 0 0] 237)).alloc (.cells #[.bool false,.slice none 0 0] 237));have HBoxes:=hj_ (boxes2 w _ _ _ _ hW)
 by_cases h2:chk2 a.data.toList b.data.toList=0
 ·have hv:valI b.data.toList=0:=Classical.byContradiction fun h=>hc (by unfold errD;rw [if_neg (by simpa using h2),if_neg h])
  have HE:=hj_ (show errD a.data.toList b.data.toList=15 by unfold errD;rw [if_neg (by simpa using h2),if_pos hv])
  obtain ⟨hca,hcb⟩:=q2r.1 h2;obtain ⟨hax,hfx⟩:=qz0 hca;obtain ⟨hby,hfy⟩:=qz0 hcb;rw [hv] at hby hfy;have HP:=hj_ (qge a b _ 0 W hax hby hfx hfy);clear h2 hc hv hca hcb hax hby hfx hfy
  go_enter func250,ntmps250
  go_wp2_with fail;rw [← hW];clear hW;refine HP.out.mono ?_;rintro e w1 ⟨v,v',rfl,hv,hv',hb1⟩;obtain ⟨s1,A1,n1,c1,hs1,rfl,hn1⟩:=hv.open';obtain ⟨s2,A2,n2,c2,hs2,rfl,hn2⟩:=hv'.open';have hn0:n2=0:=by have:=hn2.pos;omega
  subst hn0;have hb2:=hb1.trans ((((Below.refl _ w1).alloc lr_ (.cells #[.bool s1,.slice A1 n1 c1] 237)).alloc s_ (.cells #[.bool s2,.slice A2 0 c2] 237)).mono hb1.size)
  obtain ⟨q0,q1,q2,q3,q4,q5⟩:=HBoxes.out;obtain ⟨z,h,⟨z0,z1,h0,h1⟩,⟨fz0,fz1,fh0,fh1⟩,hbe,hsz⟩:=back2 q0 q1 q2 q3 q4 q5 hb2;obtain ⟨e0,e1,e2,e3,_,_,hbf⟩:=fin2g hbe lr_ o_ o_ z h (NumA.zero _) (NumA.zero _) false false s_ s_ rfl
  clear z h hbe q0 q1 q2 q3 q4 q5 HBoxes hb1 hb2 hn1 hn2 hv hv' HP hs1 hs2;go_wp2;exact bodyPost_ret (v:=.tuple #[.agg #[.bool false,.slice none 0 0],.agg #[.bool false,.slice none 0 0],.int .i64 15]) (by simp [results,f250,go_sem,e0,e1,e2,e3]) rfl ⟨by rw [HE.out],hbf⟩
 ·have HE:=hj_ (show errD a.data.toList b.data.toList=chk2 a.data.toList b.data.toList by unfold errD;rw [if_pos h2])
  have hP:=qgd a b W ha hb h2;generalize chk2 a.data.toList b.data.toList=k at *;have g1:(k == 0)=false:=by simpa using h2
  have g2:(k != 0)=true:=by simpa using h2
  have HP:=hj_ hP;clear hP hc h2
  go_enter func250,ntmps250
  go_wp2_with fail;rw [← hW];clear hW;refine HP.out.mono ?_;rintro e w1 ⟨rfl,hb1⟩;have hb2:=hb1.trans ((((Below.refl _ w1).alloc lr_ (.cells #[.bool false,.slice none 0 0] 237)).alloc s_ (.cells #[.bool false,.slice none 0 0] 237)).mono hb1.size)
  obtain ⟨q0,q1,q2,q3,q4,q5⟩:=HBoxes.out;obtain ⟨z,h,⟨z0,z1,h0,h1⟩,⟨fz0,fz1,fh0,fh1⟩,hbe,hsz⟩:=back2 q0 q1 q2 q3 q4 q5 hb2;obtain ⟨e0,e1,e2,e3,_,_,hbf⟩:=fin2g hbe lr_ o_ o_ z h (NumA.zero _) (NumA.zero _) false false s_ s_ rfl
  clear z h hbe q0 q1 q2 q3 q4 q5 HBoxes hb1 hb2 HP;go_wp2;exact bodyPost_ret (v:=.tuple #[.agg #[.bool false,.slice none 0 0],.agg #[.bool false,.slice none 0 0],.int .i64 k]) (by simp [results,f250,go_sem,e0,e1,e2,e3]) rfl ⟨by rw [HE.out],hbf⟩
theorem qqk (a b:ByteArray) (x y:Int) (w:World) (hax:a.data.toList=Lib.itoa x) (hby:b.data.toList=Lib.itoa y) (hx:Fit x) (hy:Fit y) (hy0:y≠0) :
  Calls prog 250 #[.string a,.string b] w fun e w'=>∃ v v',e=.returned (.tuple #[v,v',.int .i64 0])∧Num w' v (x.fdiv y)∧Num w' v' (x.fmod y)∧Below w.heap.size w w':=by
 obtain ⟨W,hW⟩:=ex_ ((w.alloc (.cells #[.bool false,.slice none 0 0] 237)).alloc (.cells #[.bool false,.slice none 0 0] 237));have HBoxes:=hj_ (boxes2 w _ _ _ _ hW);have HP:=hj_ (qge a b _ _ W hax hby hx hy);have HX:=hj_ (q8h hx);have HY:=hj_ (q8h hy);have HY0:=hj_ hy0;clear hax hby hx hy hy0
 go_enter func250,ntmps250
 go_wp2_with fail;rw [← hW];clear hW;refine HP.out.mono ?_;rintro e w1 ⟨v,v',rfl,hv,hv',hb1⟩;obtain ⟨A1,n1,c1,rfl,hn1⟩:=hv.open;obtain ⟨A2,n2,c2,rfl,hn2⟩:=hv'.open;have hn0:0<n2:=hn2.pos.2 HY0.out;have h3:((n2:Int) == 0)=false:=by simp;omega
 have h4:(n2 == 0)=false:=by simp;omega
 have hal:Below w1.heap.size w1 ((w1.alloc (.cells #[.bool (decide (x<0)),.slice A1 n1 c1] 237)).alloc (.cells #[.bool (decide (y<0)),.slice A2 n2 c2] 237)):=((Below.refl _ w1).alloc lr_ _).alloc s_ _
 have hQ:=qkb A1 n1 c1 x A2 n2 c2 y _ (hn1.below hal) (hn2.below hal) (by rw [hn1.1];exact Nat.le_trans HX.out o_) (by rw [hn2.1];exact Nat.le_trans HY.out o_) HY0.out
 have HB2:=hj_ (ht_ hb1 hal);generalize decide (x<0)=s1 at *;generalize decide (y<0)=s2 at *;have HQ:=hj_ hQ;clear hv hv' hn1 hn2 hal hQ hb1 HP;go_wp2_with fail;refine HQ.out.mono ?_;rintro e w2 ⟨v,v',rfl,hv,hv',hb3⟩;obtain ⟨s3,A3,n3,c3,hs3,rfl,hn3⟩:=hv.open';obtain ⟨s4,A4,n4,c4,hs4,rfl,hn4⟩:=hv'.open';obtain ⟨V,hV⟩:=ex_ ((w2.alloc (.cells #[.bool s3,.slice A3 n3 c3] 237)).alloc (.cells #[.bool s4,.slice A4 n4 c4] 237));obtain ⟨_,bx,bY,_,_,hbv⟩:=boxes2 w2 _ _ _ _ hV;have x0:V.drew.cell? ⟨w2.heap.size,0,none⟩=some (.bool s3):=bx 0;have x1:V.drew.cell? ⟨w2.heap.size,1,none⟩=some (.slice A3 n3 c3):=bx 1;have y0:V.drew.cell? ⟨w2.heap.size+1,0,none⟩=some (.bool s4):=bY 0;have y1:V.drew.cell? ⟨w2.heap.size+1,1,none⟩=some (.slice A4 n4 c4):=bY 1;have hbv:=q18 hbv 1;have hb4:=(ht_ HB2.out hb3).trans (hbv.mono (Nat.le_trans HB2.out.size hb3.size));obtain ⟨q0,q1,q2,q3,q4,q5⟩:=HBoxes.out;have hG:w.heap.size+2≤w2.heap.size:=by have h1:=HB2.out.size;have h2:=hb3.size;omega
 obtain ⟨z,h,⟨z0,z1,h0,h1⟩,⟨fz0,fz1,fh0,fh1⟩,hbe,hsz⟩:=back2 q0 q1 q2 q3 q4 q5 hb4;have HFin:=hj_ (fun WE=>fin2g (WE:=WE) hbe lr_ o_ o_ z h (hn3.below hbv) (hn4.below hbv) s3 s4 hs3 hs4)
 clear z h hbe q0 q1 q2 q3 q4 q5 HBoxes hb3 hb4 hn3 hn4 hv hv' HQ hs3 hs4 HB2 HX HY HY0 bx bY hbv hsz;go_wp2_with fail;rw [← hV];clear hV;have z0:V.cell? ⟨w.heap.size,0,none⟩=some (.bool false):=z0;have z1:V.cell? ⟨w.heap.size,1,none⟩=some (.slice none 0 0):=z1;have h0:V.cell? ⟨w.heap.size+1,0,none⟩=some (.bool false):=h0;have h1:V.cell? ⟨w.heap.size+1,1,none⟩=some (.slice none 0 0):=h1;have fz0:V.frozen? ⟨w.heap.size,0,none⟩=false:=fz0;have fz1:V.frozen? ⟨w.heap.size,1,none⟩=false:=fz1;have fh0:V.frozen? ⟨w.heap.size+1,0,none⟩=false:=fh0;have fh1:V.frozen? ⟨w.heap.size+1,1,none⟩=false:=fh1
 go_region_held3 (fun w'=>w'.cell? ⟨w2.heap.size,0,none⟩=some (.bool s3)∧w'.cell? ⟨w2.heap.size,1,none⟩=some (.slice A3 n3 c3)∧w'.cell? ⟨w2.heap.size+1,0,none⟩=some (.bool s4)∧w'.cell? ⟨w2.heap.size+1,1,none⟩=some (.slice A4 n4 c4)) (first | exact ⟨x0,x1,y0,y1⟩ | exact ⟨far2 _ _ _ _ _ o_ x0,far2 _ _ _ _ _ o_ x1,far2 _ _ _ _ _ o_ y0,far2 _ _ _ _ _ o_ y1⟩ | exact ⟨far2 _ _ _ _ _ o_ (far2 _ _ _ _ _ o_ x0),far2 _ _ _ _ _ o_ (far2 _ _ _ _ _ o_ x1),far2 _ _ _ _ _ o_ (far2 _ _ _ _ _ o_ y0),far2 _ _ _ _ _ o_ (far2 _ _ _ _ _ o_ y1)⟩) (fail)
 obtain ⟨W5,hW5⟩:=ex_ ((((V.setCell ⟨w.heap.size,0,none⟩ (.bool s3)).setCell ⟨w.heap.size,1,none⟩ (.slice A3 n3 c3)).setCell ⟨w.heap.size+1,0,none⟩ (.bool s4)).setCell ⟨w.heap.size+1,1,none⟩ (.slice A4 n4 c4));rw [← hW5];obtain ⟨e0,e1,e2,e3,r1,r2,hbf⟩:=HFin.out W5.drew (by rw [hW5];rfl)
 have e0:W5.cell? ⟨w.heap.size,0,none⟩=some (.bool s3):=e0;have e1:W5.cell? ⟨w.heap.size,1,none⟩=some (.slice A3 n3 c3):=e1;have e2:W5.cell? ⟨w.heap.size+1,0,none⟩=some (.bool s4):=e2;have e3:W5.cell? ⟨w.heap.size+1,1,none⟩=some (.slice A4 n4 c4):=e3;clear HFin hW5;go_wp2;exact bodyPost_ret (v:=.tuple #[.agg #[.bool s3,.slice A3 n3 c3],.agg #[.bool s4,.slice A4 n4 c4],.int .i64 0]) (by simp [results,f250,go_sem,e0,e1,e2,e3]) rfl ⟨_,_,rfl,r1,r2,hbf⟩
theorem q6z (h:errD s t=0):chkI s=0∧chkI t=0∧valI t≠0:=by
 unfold errD at h
 by_cases h2:chk2 s t=0
 ·rw [if_neg (by simpa using h2)] at h
  obtain ⟨h3,h4⟩:=q2r.1 h2;refine ⟨h3,h4,fun h5=>?_⟩
  rw [if_pos h5] at h
  cases h
 ·rw [if_pos h2] at h
  exact absurd h h2
theorem q5o {op:Int→Int→Int} (h:errD s t=0):divT op s t=longT (op (valI s) (valI t)):=by
 obtain ⟨h1,h2,h3⟩:=q6z h;unfold divT;rw [if_neg (by simpa using q2r.2 ⟨h1,h2⟩),if_neg h3]
theorem q5m {op:Int→Int→Int} (h:errD s t≠0):divT op s t=([],errD s t):=by
 by_cases h2:chk2 s t=0
 ·by_cases h3:valI t=0
  ·have e:errD s t=15:=by unfold errD;rw [if_neg (by simpa using h2),if_pos h3]
   rw [e];unfold divT;rw [if_neg (by simpa using h2),if_pos h3]
  ·have e:errD s t=0:=by unfold errD;rw [if_neg (by simpa using h2),if_neg h3]
   exact absurd e h
 ·have e:errD s t=chk2 s t:=by unfold errD;rw [if_pos h2]
  rw [e];unfold divT;rw [if_pos h2]
theorem qk9 (a b:ByteArray) (w:World) (ha:a.size≤1000000000) (hb:b.size≤1000000000) (ht:Tab w) :
  Rt 184 #[.string a,.string b] w (.tuple #[.string ⟨(divT (fun x y:Int=>x.fdiv y) a.data.toList b.data.toList).1.toArray⟩,.int .i64 (divT (fun x y:Int=>x.fdiv y) a.data.toList b.data.toList).2]):=by
 have HT:=hj_ ht;clear ht
 by_cases hc:errD a.data.toList b.data.toList=0
 ·have HV:=hj_ (q5o (op:=(fun x y:Int=>x.fdiv y)) hc)
  obtain ⟨hca,hcb,hy0⟩:=q6z hc;obtain ⟨hax,hfx⟩:=qz0 hca;obtain ⟨hby,hfy⟩:=qz0 hcb;generalize valI a.data.toList=x at *;generalize valI b.data.toList=y at *;have hbd:((fun x y:Int=>x.fdiv y) x y).natAbs<10 ^ 8200:=by
   have h1:=qe9 x hy0;have h2:=qid;unfold Fit at hfx hfy;show (x.fdiv y).natAbs<_
   generalize (10:Nat) ^ 4096=A at *;generalize (10:Nat) ^ 8200=B at *;omega
  have HR:=hj_ (q1c hbd);have HP:=hj_ (fun w=>qqk a b x y w hax hby hfx hfy hy0)
  clear hc hca hcb hax hby hfx hfy hy0 hbd
  go_enter func184,ntmps184
  go_wp2_with fail;refine (HP.out _).mono ?_;rintro e w1 ⟨v,v',rfl,hv,hv',hb1⟩;obtain ⟨s1,A1,n1,c1,hs1,rfl,hn1⟩:=hv.open';obtain ⟨s2,A2,n2,c2,hs2,rfl,hn2⟩:=hv'.open';have HW:=hj_ (fun W (hW:Below w1.heap.size w1 W)=>q008 A1 n1 c1 (x.fdiv y) W (hn1.below hW) (by rw [hn1.1];exact Nat.le_trans HR.out o_) (HT.out.below (ht_ hb1 hW)))
  have HW:Hid (∀ W,Below w1.heap.size w1 W→Rt 237 #[.agg #[.bool s1,.slice A1 n1 c1]] W (.tuple #[.string ⟨(longT (x.fdiv y)).1.toArray⟩,.int .i64 (longT (x.fdiv y)).2])):=by rw [hs1];exact HW
  have HB1:=hj_ hb1;clear hv hv' hn1 hn2 hs1 hs2 hb1 HP;have hal:=((Below.refl _ w1).alloc lr_ (.cells #[.bool s1,.slice A1 n1 c1] 237)).alloc s_ (.cells #[.bool s2,.slice A2 n2 c2] 237)
  have HC:=hj_ (HW.out _ hal);have HBa:=hj_ (ht_ HB1.out hal);clear hal HW;go_wp2_with fail;refine HC.out.mono ?_;rintro e w3 ⟨rfl,hb3⟩;have hbe:=ht_ HBa.out hb3;clear HC hb3;go_wp2;go_ret2;exact ⟨by rw [HV.out];rfl,hbe⟩
 ·have HV:=hj_ (q5m (op:=(fun x y:Int=>x.fdiv y)) hc)
  have hP:=qqi a b w ha hb hc;generalize errD a.data.toList b.data.toList=k at *;have g1:(k == 0)=false:=by simpa using hc
  have g2:(k != 0)=true:=by simpa using hc
  have HP:=hj_ hP;clear hP hc
  go_enter func184,ntmps184
  go_wp2_with (go_at_call 250;refine HP.out.mono ?_;rintro e w1 ⟨rfl,hb1⟩)
  all_goals (go_ret2;exact ⟨by rw [HV.out];rfl,(hb1.alloc hb1.size _).alloc (by have:=hb1.size;simp;omega) _⟩)
theorem qlr (a b:ByteArray) (w:World) (ha:a.size≤1000000000) (hb:b.size≤1000000000) (ht:Tab w) :
  Rt 307 #[.string a,.string b] w (.tuple #[.string ⟨(divT (fun x y:Int=>x.fmod y) a.data.toList b.data.toList).1.toArray⟩,.int .i64 (divT (fun x y:Int=>x.fmod y) a.data.toList b.data.toList).2]):=by
 have HT:=hj_ ht;clear ht
 by_cases hc:errD a.data.toList b.data.toList=0
 ·have HV:=hj_ (q5o (op:=(fun x y:Int=>x.fmod y)) hc)
  obtain ⟨hca,hcb,hy0⟩:=q6z hc;obtain ⟨hax,hfx⟩:=qz0 hca;obtain ⟨hby,hfy⟩:=qz0 hcb;generalize valI a.data.toList=x at *;generalize valI b.data.toList=y at *;have hbd:((fun x y:Int=>x.fmod y) x y).natAbs<10 ^ 8200:=by
   have h1:=qea x hy0;have h2:=qid;unfold Fit at hfx hfy;show (x.fmod y).natAbs<_
   generalize (10:Nat) ^ 4096=A at *;generalize (10:Nat) ^ 8200=B at *;omega
  have HR:=hj_ (q1c hbd);have HP:=hj_ (fun w=>qqk a b x y w hax hby hfx hfy hy0)
  clear hc hca hcb hax hby hfx hfy hy0 hbd
  go_enter func307,ntmps307
  go_wp2_with fail;refine (HP.out _).mono ?_;rintro e w1 ⟨v,v',rfl,hv,hv',hb1⟩;obtain ⟨s1,A1,n1,c1,hs1,rfl,hn1⟩:=hv.open';obtain ⟨s2,A2,n2,c2,hs2,rfl,hn2⟩:=hv'.open';have HW:=hj_ (fun W (hW:Below w1.heap.size w1 W)=>q008 A2 n2 c2 (x.fmod y) W (hn2.below hW) (by rw [hn2.1];exact Nat.le_trans HR.out o_) (HT.out.below (ht_ hb1 hW)))
  have HW:Hid (∀ W,Below w1.heap.size w1 W→Rt 237 #[.agg #[.bool s2,.slice A2 n2 c2]] W (.tuple #[.string ⟨(longT (x.fmod y)).1.toArray⟩,.int .i64 (longT (x.fmod y)).2])):=by rw [hs2];exact HW
  have HB1:=hj_ hb1;clear hv hv' hn1 hn2 hs1 hs2 hb1 HP;have hal:=((Below.refl _ w1).alloc lr_ (.cells #[.bool s1,.slice A1 n1 c1] 237)).alloc s_ (.cells #[.bool s2,.slice A2 n2 c2] 237)
  have HC:=hj_ (HW.out _ hal);have HBa:=hj_ (ht_ HB1.out hal);clear hal HW;go_wp2_with fail;refine HC.out.mono ?_;rintro e w3 ⟨rfl,hb3⟩;have hbe:=ht_ HBa.out hb3;clear HC hb3;go_wp2;go_ret2;exact ⟨by rw [HV.out];rfl,hbe⟩
 ·have HV:=hj_ (q5m (op:=(fun x y:Int=>x.fmod y)) hc)
  have hP:=qqi a b w ha hb hc;generalize errD a.data.toList b.data.toList=k at *;have g1:(k == 0)=false:=by simpa using hc
  have g2:(k != 0)=true:=by simpa using hc
  have HP:=hj_ hP;clear hP hc
  go_enter func307,ntmps307
  go_wp2_with (go_at_call 250;refine HP.out.mono ?_;rintro e w1 ⟨rfl,hb1⟩)
  all_goals (go_ret2;exact ⟨by rw [HV.out];rfl,(hb1.alloc hb1.size _).alloc (by have:=hb1.size;simp;omega) _⟩)
end Go.Proofs.YtabhjdmmfdfpeaaGreatDoor
