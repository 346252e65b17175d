/- Lemmas. -/
import Derived.Deep.RegionHeld3
import Derived.Test.YtabhjdmmfdfpeaaGreatDoorKProK
namespace Go.Proofs.YtabhjdmmfdfpeaaGreatDoor
set_option maxHeartbeats 32000000
open _root_.Go.Proofs.Tryz
open Go.RowKit
variable {p:Addr} {c:Array Value} {vs:List Value} {B B' P a j n:Nat} {A:Option Addr} {t:TypeId} {u:Value} {w w':World}
theorem sf_ {a:Addr} {v:Value} (h:p.block≠a.block):(w.setCell p v).cell? a=w.cell? a:=World.cell?_setCell_far w p a v h
theorem tq {P : Program} {ops : Array Oper} {Q : Exit → Act → World → Prop} {md : Region.Mode} {S : World → Prop} (i : Nat) {oi : Oper} {v : Value} {fuel : Nat} {listed l' : Array Bool} {a a' : Act} {w : World}
    (h : wpAnyH P md ops Q S fuel l' a' w)
    (hi : ops[i]? = some oi := by simp only [List.getElem?_toArray, List.getElem?_cons_succ, List.getElem?_cons_zero]; rfl)
    (hy : YieldsIf P ops S oi v a := by first | (refine Or.inl ⟨?_, ?_⟩; (· rfl); intro w hSw; (try dsimp only at hSw); go_simp; try with_reducible rfl) | exact Or.inr ⟨rfl, rfl⟩)
    (hs : Region.noSelect ops = true := by kernel_rfl) (hf : Region.free md ops listed i = true := by kernel_rfl) (hr : (Region.ready md ops listed).contains i = true := by kernel_rfl)
    (hQ : ∀ c a w, Q (.panic c) (a.put oi.dst v) w → Q (.panic c) a w := by exact fun _ _ _ h => h) (hS : S w := by assumption)
    (hl : listed.setIfInBounds i true = l' := by first | (simp only [List.setIfInBounds_toArray, List.set_cons_zero, List.set_cons_succ]; rfl) | rfl)
    (ha : a.put oi.dst v = a' := by first | (simp only [Act.put, List.setIfInBounds_toArray, List.set_cons_zero, List.set_cons_succ]; rfl) | rfl) : wpAnyH P md ops Q S (fuel + 1) listed a w := by
  subst hl ha
  exact wpAnyH_take hi hs hf hr hQ hy hS h
theorem tr {P : Program} {ops : Array Oper} {Q : Exit → Act → World → Prop} {md : Region.Mode} {S : World → Prop} (i : Nat) {o : Oper} {fuel : Nat} {listed l' : Array Bool} {a : Act} {w : World}
    (h : ∀ K' : Act → World → Prop, Shut (∀ a w, S w → (S w → wpAnyH P md ops Q S fuel l' a w) → K' a w) → if Region.wanted o (yielded ops a.tmps) = true then Oper.wp P o a w K' Q else K' (a.put o.dst undef) w)
    (hr : Region.ready md ops listed = [i] := by kernel_rfl) (ho : ops[i]? = some o := by rfl)
    (hl : listed.setIfInBounds i true = l' := by first | (simp only [List.setIfInBounds_toArray, List.set_cons_zero, List.set_cons_succ]; rfl) | rfl) : wpAnyH P md ops Q S (fuel + 1) listed a w := by
  subst hl
  exact wpAnyH_ready hr s_ (AllReadyH.cons ho h AllReadyH.nil)
structure Fx where
 ch:Int
 pt:Int
 pr:ByteArray
 un:Int
 ad:Int
 ph:Int
 cb:ByteArray
def fx0:Fx:=⟨0,0,⟨#[]⟩,0,0,0,⟨#[]⟩⟩
def pc0:PC:=⟨⟨#[]⟩,0,0,none,0,0⟩
def PC.val (p:PC):Value:=.agg (shPr.cs p).toArray
def pcI (P:List PC) (s:ByteArray):Int:=idxOf (fun p=>decide (p.s=s)) P
def pcF (P:List PC) (s:ByteArray):Option PC:=P.find? fun p=>decide (p.s=s)
def footV (P:List PC) (s:ByteArray):Int:=match pcF P s with
 | none=>0
 | some p=>p.ft
theorem qgv:∀ {P:List PC} {s:ByteArray},pcI P s<0↔pcF P s=none
 | [],_=>⟨fun _=>rfl,fun _=>by unfold pcI idxOf;decide⟩
 | p :: P,s=>by
  have ih:=qgv (P:=P) (s:=s);unfold pcI pcF at *;rw [idxOf,List.find?_cons]
  cases decide (p.s=s) with
  | true=>simp
  | false =>
   simp only [Bool.false_eq_true,if_false];rw [← ih]
   by_cases h:idxOf (fun p:PC=>decide (p.s=s)) P<0
   ·rw [if_pos h];exact ⟨fun _=>h,fun _=>d_⟩
   ·rw [if_neg h];exact ⟨fun h2=>absurd h2 o_,fun h2=>absurd h2 h⟩
theorem pcI_ge (P:List PC) (s:ByteArray):-1≤pcI P s:=qb9 P
theorem pcI_lt (P:List PC) (s:ByteArray):pcI P s<P.length:=qbb P
theorem pcI_at:∀ {P:List PC} {s:ByteArray},¬ pcI P s<0→pcF P s=some (P.getD (pcI P s).toNat pc0)
 | [],_,h=>absurd (by unfold pcI idxOf;decide) h
 | p :: P,s,h=>by
  have ih:=pcI_at (P:=P) (s:=s);unfold pcI pcF at *;rw [idxOf] at h ⊢;rw [List.find?_cons]
  cases hp:decide (p.s=s) with
  | true=>simp
  | false =>
   rw [hp] at h;simp only [Bool.false_eq_true,if_false] at h ⊢
   by_cases h2:idxOf (fun p:PC=>decide (p.s=s)) P<0
   ·rw [if_pos h2] at h;exact absurd d_ h
   ·rw [if_neg h2,ih h2,show (idxOf (fun p:PC=>decide (p.s=s)) P+1).toNat=(idxOf (fun p:PC=>decide (p.s=s)) P).toNat+1 by omega]
    rfl
def putP (m:List (ByteArray × Value)) (p:PC):List (ByteArray × Value):=if (lookL m p.s).isSome then m else m ++ [(p.s,p.val)]
def profM (P:List PC):List (ByteArray × Value):=P.foldl putP []
theorem qiq (P:List PC) (p:PC):profM (P ++ [p])=putP (profM P) p:=by unfold profM;rw [List.foldl_append];rfl
theorem qdd (s:ByteArray):∀ (P:List PC) (m:List (ByteArray × Value)),lookL (P.foldl putP m) s=(lookL m s).or ((pcF P s).map PC.val)
 | [],m=>by simp [pcF]
 | p :: P,m=>by
  rw [List.foldl_cons,qdd s P];unfold putP pcF;rw [List.find?_cons]
  cases h:(lookL m p.s).isSome with
  | true =>
   simp only [if_true]
   by_cases hp:p.s=s
   ·subst hp
    obtain ⟨v,hv⟩:=Option.isSome_iff_exists.1 h;simp [hv]
   ·simp [hp]
  | false =>
   have hn:lookL m p.s=none:=by
    cases hv:lookL m p.s with
    | none=>rfl
    | some v=>rw [hv] at h;exact absurd h s_
   simp only [Bool.false_eq_true,if_false];rw [qd4]
   by_cases hp:p.s=s
   ·subst hp
    simp [hn]
   ·have hp':¬ s=p.s:=fun e=>hp e.symm
    simp [hp,hp']
theorem qde (P:List PC) (s:ByteArray):lookL (profM P) s=(pcF P s).map PC.val:=by
 unfold profM;rw [qdd,qd5];simp
theorem q9f (P:List PC) (s:ByteArray):((lookL (profM P) s).getD pc0.val)=((pcF P s).getD pc0).val:=by
 rw [qde]
 cases pcF P s <;> rfl
theorem q9e (P:List PC) (s:ByteArray):footV P s=((pcF P s).getD pc0).ft:=by
 unfold footV
 cases pcF P s <;> rfl
def qkt (x:Fx):Bool:=decide (1≤x.ch∧x.ch≤999) && decide (1≤x.pt∧x.pt≤64) && decide (1≤x.un∧x.un≤8) && decide (1≤x.ad∧x.ad≤512) && decide (1≤x.ph∧x.ph≤3)
def sameP (x y:Fx):Bool:=decide (y.ch=x.ch) && decide (y.pt=x.pt)
def overB (P:List PC) (x y:Fx):Bool:=decide (y.un=x.un) && decide (y.ad<x.ad+footV P x.pr) && decide (x.ad<y.ad+footV P y.pr)
def fxE (P:List PC) (l:List Fx) (i:Nat):Int :=
 if qkt (l.getD i fx0)=false then 2
 else if (l.getD i fx0).cb.size≠0∧nmB (l.getD i fx0).cb=false then 8
 else if pcF P (l.getD i fx0).pr=none then 6
 else if footV P (l.getD i fx0).pr<1∨513-(l.getD i fx0).ad<footV P (l.getD i fx0).pr then 2
 else if (l.take i).any (sameP (l.getD i fx0)) then 7
 else if (l.take i).any (overB P (l.getD i fx0)) then 10 else 0
def patE (P:List PC) (l:List Fx):Int:=if 32<P.length∨64<l.length then 5 else firstE (fxE P l) l.length
def FxOK (P:List PC) (x:Fx):Prop:=qkt x=true∧1≤footV P x.pr∧x.ad+footV P x.pr≤513∧∃ p,pcF P x.pr=some p
theorem fx_ok {P:List PC} {l:List Fx} {i:Nat} (h:fxE P l i=0):FxOK P (l.getD i fx0)∧(l.take i).any (sameP (l.getD i fx0))=false∧(l.take i).any (overB P (l.getD i fx0))=false:=by
 unfold fxE at h
 by_cases h1:qkt (l.getD i fx0)=false
 ·rw [if_pos h1] at h;cases h
 rw [if_neg h1] at h
 by_cases h2:(l.getD i fx0).cb.size≠0∧nmB (l.getD i fx0).cb=false
 ·rw [if_pos h2] at h;cases h
 rw [if_neg h2] at h
 by_cases h3:pcF P (l.getD i fx0).pr=none
 ·rw [if_pos h3] at h;cases h
 rw [if_neg h3] at h
 by_cases h4:footV P (l.getD i fx0).pr<1∨513-(l.getD i fx0).ad<footV P (l.getD i fx0).pr
 ·rw [if_pos h4] at h;cases h
 rw [if_neg h4] at h
 cases h5:(l.take i).any (sameP (l.getD i fx0)) with
 | true=>rw [h5,if_pos rfl] at h;cases h
 | false =>
  rw [h5,if_neg Bool.false_ne_true] at h
  cases h6:(l.take i).any (overB P (l.getD i fx0)) with
  | true=>rw [h6,if_pos rfl] at h;cases h
  | false =>
   refine ⟨⟨by simpa using h1,o_,o_,?_⟩,rfl,rfl⟩
   exact Option.ne_none_iff_exists'.1 h3
def usesB (P:List PC) (x:Fx) (u a:Int):Bool:=decide (x.un=u) && decide (x.ad≤a) && decide (a<x.ad+footV P x.pr)
def slotK (P:List PC) (l:List Fx) (u a:Int):Nat→Int
 | 0=>0
 | n+1=>if usesB P (l.getD n fx0) u a then (n:Int)+1 else slotK P l u a n
theorem qq0 (P:List PC) (l:List Fx) (u a:Int):∀ n,n≤l.length→decide (0<slotK P l u a n)=(l.take n).any fun x=>usesB P x u a
 | 0,_=>by simp [slotK]
 | n+1,h=>by
  have hn:n<l.length:=h;rw [slotK,qa1 hn,q0n hn,← qq0 P l u a n o_]
  cases usesB P l[n] u a with
  | true=>simp only [if_true,Bool.or_true];exact decide_eq_true o_
  | false=>simp
theorem qq1 (P:List PC) (l:List Fx) (u a:Int):∀ n,0≤slotK P l u a n∧slotK P l u a n≤n
 | 0=>by simp [slotK]
 | n+1=>by
  have h:=qq1 P l u a n;rw [slotK]
  cases usesB P (l.getD n fx0) u a with
  | true=>simp;omega
  | false=>simp;omega
theorem qfo {P:List PC} {l:List Fx} {x:Fx} (hn:n≤l.length) (hx:1≤footV P x.pr) (hl:∀ i,i<n→1≤footV P (l.getD i fx0).pr) (F:Nat) (hF:(F:Int)=footV P x.pr) :
  ((List.range F).any fun k=>decide (0<slotK P l x.un (x.ad+(k:Int)) n))=(l.take n).any (overB P x):=by
 rw [Bool.eq_iff_iff,List.any_eq_true,List.any_eq_true]
 constructor
 ·rintro ⟨k,hk,h⟩
  rw [qq0 P l _ _ n hn,List.any_eq_true] at h;obtain ⟨y,hy,hu⟩:=h;refine ⟨y,hy,?_⟩;rw [List.mem_range] at hk;unfold usesB at hu;unfold overB;simp only [Bool.and_eq_true,decide_eq_true_eq] at hu ⊢;exact ⟨⟨hu.1.1,o_⟩,o_⟩
 ·rintro ⟨y,hy,h⟩
  have hyf:1≤footV P y.pr:=by
   obtain ⟨i,hi,rfl⟩:=List.getElem_of_mem hy;rw [List.length_take] at hi
   have:=hl i o_
   rw [qa1 o_] at this
   rw [List.getElem_take];exact this
  unfold overB at h;simp only [Bool.and_eq_true,decide_eq_true_eq] at h;obtain ⟨⟨hun,h1⟩,h2⟩:=h;refine ⟨(max x.ad y.ad-x.ad).toNat,?_,?_⟩
  ·rw [List.mem_range];omega
  ·rw [qq0 P l _ _ n hn,List.any_eq_true]
   refine ⟨y,hy,?_⟩;unfold usesB;simp only [Bool.and_eq_true,decide_eq_true_eq];exact ⟨⟨hun,o_⟩,o_⟩
structure Am where
 ch:Int
 at_:Int
 lev:ByteArray
def am0:Am:=⟨0,0,⟨#[]⟩⟩
def paramE (c a:Int):Int:=if c<1∨999<c∨a<0∨15≤a then 2 else 0
def q15 (x y:Am):Bool:=decide (x.ch<y.ch) || (decide (x.ch=y.ch) && decide (x.at_<y.at_))
def amE (l:List Am) (i:Nat):Int :=
 if paramE (l.getD i am0).ch (l.getD i am0).at_≠0 then paramE (l.getD i am0).ch (l.getD i am0).at_
 else if errLv (l.getD i am0).lev.data.toList≠0 then errLv (l.getD i am0).lev.data.toList
 else if 0<i∧q15 (l.getD (i-1) am0) (l.getD i am0)=false then 9 else 0
def givE (l:List Am):Int:=if 4096<l.length then 5 else firstE (amE l) l.length
structure Fm where
 un:Int
 sl:ByteArray
structure Cg where
 un:Int
 ad:Int
 by_:Int
def cg0:Cg:=⟨0,0,0⟩
def Fx.cells (x:Fx):List Value:=[.int .i64 x.ch,.int .i64 x.pt,.string x.pr,.int .i64 x.un,.int .i64 x.ad,.int .i64 x.ph,.string x.cb]
def shX:Sh Fx:=⟨7,Fx.cells,fun _=>rfl,fun a=>by unfold Fx.cells;simp;exact ⟨rfl,rfl,rfl,rfl,rfl,rfl,rfl⟩⟩
def Fx.val (x:Fx):Value:=.agg #[.int .i64 x.ch,.int .i64 x.pt,.string x.pr,.int .i64 x.un,.int .i64 x.ad,.int .i64 x.ph,.string x.cb]
def shAm:Sh Am:=⟨3,fun x=>[.int .i64 x.ch,.int .i64 x.at_,.string x.lev],fun _=>rfl,fun a=>by simp;exact ⟨rfl,rfl,rfl⟩⟩
def shFm:Sh Fm:=⟨2,fun x=>[.int .i64 x.un,.string x.sl],fun _=>rfl,fun a=>by simp;exact ⟨rfl,rfl⟩⟩
def shCg:Sh Cg:=⟨3,fun x=>[.int .i64 x.un,.int .i64 x.ad,.int .i64 x.by_],fun _=>rfl,fun a=>by simp;exact ⟨rfl,rfl,rfl⟩⟩
theorem fx_at {l:List Fx} (h:shX.In w A n l) (h0:0<l.length) :
  ∃ b o,A=some ⟨b,o,none⟩∧b<w.heap.size∧∀ k (hk:k<l.length),w.cell? ⟨b,o+k*7,none⟩=some (.int .i64 l[k].ch)∧w.cell? ⟨b,o+k*7+1,none⟩=some (.int .i64 l[k].pt)∧w.cell? ⟨b,o+k*7+2,none⟩=some (.string l[k].pr)∧w.cell? ⟨b,o+k*7+3,none⟩=some (.int .i64 l[k].un)∧w.cell? ⟨b,o+k*7+4,none⟩=some (.int .i64 l[k].ad)∧w.cell? ⟨b,o+k*7+5,none⟩=some (.int .i64 l[k].ph)∧w.cell? ⟨b,o+k*7+6,none⟩=some (.string l[k].cb):=by
 obtain ⟨b,o,e,hb,hc⟩:=h.at_ h0
 exact ⟨b,o,e,hb,fun k hk=>⟨hc k hk 0 _ d_ rfl,hc k hk 1 _ d_ rfl,hc k hk 2 _ d_ rfl,hc k hk 3 _ d_ rfl,hc k hk 4 _ d_ rfl,hc k hk 5 _ d_ rfl,hc k hk 6 _ d_ rfl⟩⟩
theorem am_at {l:List Am} (h:shAm.In w A n l) (h0:0<l.length) :
  ∃ b o,A=some ⟨b,o,none⟩∧b<w.heap.size∧∀ k (hk:k<l.length),w.cell? ⟨b,o+k*3,none⟩=some (.int .i64 l[k].ch)∧w.cell? ⟨b,o+k*3+1,none⟩=some (.int .i64 l[k].at_)∧w.cell? ⟨b,o+k*3+2,none⟩=some (.string l[k].lev):=by
 obtain ⟨b,o,e,hb,hc⟩:=h.at_ h0
 exact ⟨b,o,e,hb,fun k hk=>⟨hc k hk 0 _ d_ rfl,hc k hk 1 _ d_ rfl,hc k hk 2 _ d_ rfl⟩⟩
theorem cg_at {l:List Cg} (h:shCg.In w A n l) (h0:0<l.length) :
  ∃ b o,A=some ⟨b,o,none⟩∧b<w.heap.size∧∀ k (hk:k<l.length),w.cell? ⟨b,o+k*3,none⟩=some (.int .i64 l[k].un)∧w.cell? ⟨b,o+k*3+1,none⟩=some (.int .i64 l[k].ad)∧w.cell? ⟨b,o+k*3+2,none⟩=some (.int .i64 l[k].by_):=by
 obtain ⟨b,o,e,hb,hc⟩:=h.at_ h0
 exact ⟨b,o,e,hb,fun k hk=>⟨hc k hk 0 _ d_ rfl,hc k hk 1 _ d_ rfl,hc k hk 2 _ d_ rfl⟩⟩
theorem pc_at {l:List PC} (h:shPr.In w A n l) (h0:0<l.length) :
  ∃ b o,A=some ⟨b,o,none⟩∧b<w.heap.size∧∀ k (hk:k<l.length),w.cell? ⟨b,o+k*4,none⟩=some (.string l[k].s)∧w.cell? ⟨b,o+k*4+1,none⟩=some (.int .i64 l[k].ft)∧w.cell? ⟨b,o+k*4+2,none⟩=some (.int .i64 l[k].wa)∧w.cell? ⟨b,o+k*4+3,none⟩=some (.slice l[k].A l[k].n l[k].c):=by
 obtain ⟨b,o,e,hb,hc⟩:=h.at_ h0
 exact ⟨b,o,e,hb,fun k hk=>⟨hc k hk 0 _ d_ rfl,hc k hk 1 _ d_ rfl,hc k hk 2 _ d_ rfl,hc k hk 3 _ d_ rfl⟩⟩
theorem box1 (vs:Array Value) (t:TypeId) (w W:World) (hW:W=w.alloc (.cells vs t)) :
  Below w.heap.size w W∧∀ w',Below W.heap.size W w'→∀ j u,vs[j]? = some u→w'.cell? ⟨w.heap.size,j,none⟩=some u:=by
 have hb:Below w.heap.size w W:=by rw [hW];exact (Below.refl _ w).alloc lr_ _
 have hs:w.heap.size<W.heap.size:=by rw [hW];simp
 refine ⟨hb,fun w' h j u hu=>?_⟩
 refine (h.cell (p:=⟨w.heap.size,j,none⟩) hs).trans ?_;rw [hW,World.cell?_alloc_new];exact hu
theorem box2 (vs:Array Value) (t:TypeId) (us:Array Value) (s:TypeId) (w W:World) (hW:W=(w.alloc (.cells vs t)).alloc (.cells us s)) :
  Below w.heap.size w W∧∀ w',Below W.heap.size W w'→(∀ j u,vs[j]? = some u→w'.cell? ⟨w.heap.size,j,none⟩=some u)∧∀ j u,us[j]? = some u→w'.cell? ⟨w.heap.size+1,j,none⟩=some u:=by
 obtain ⟨W1,hW1⟩:=ex_ (w.alloc (.cells vs t));rw [← hW1] at hW;obtain ⟨b1,k1⟩:=box1 vs t w W1 hW1;obtain ⟨b2,k2⟩:=box1 us s W1 W hW;have hs:W1.heap.size=w.heap.size+1:=by rw [hW1];simp
 rw [hs] at k2;exact ⟨ht_ b1 b2,fun w' h=>⟨k1 w' (ht_ b2 h),k2 w' h⟩⟩
theorem box3 (vs:Array Value) (t:TypeId) (us:Array Value) (s:TypeId) (xs:Array Value) (r:TypeId) (w W:World) (hW:W=((w.alloc (.cells vs t)).alloc (.cells us s)).alloc (.cells xs r)) :
  Below w.heap.size w W∧∀ w',Below W.heap.size W w'→(∀ j u,vs[j]? = some u→w'.cell? ⟨w.heap.size,j,none⟩=some u)∧(∀ j u,us[j]? = some u→w'.cell? ⟨w.heap.size+1,j,none⟩=some u)∧∀ j u,xs[j]? = some u→w'.cell? ⟨w.heap.size+1+1,j,none⟩=some u:=by
 obtain ⟨W1,hW1⟩:=ex_ ((w.alloc (.cells vs t)).alloc (.cells us s));rw [← hW1] at hW;obtain ⟨b1,k1⟩:=box2 vs t us s w W1 hW1;obtain ⟨b2,k2⟩:=box1 xs r W1 W hW;have hs:W1.heap.size=w.heap.size+1+1:=by rw [hW1];simp
 rw [hs] at k2;exact ⟨ht_ b1 b2,fun w' h=>⟨(k1 w' (ht_ b2 h)).1,(k1 w' (ht_ b2 h)).2,k2 w' h⟩⟩
theorem bx1 (w:World) (a0:Value) (t0:TypeId):∃ W,Hid (W=(w.alloc (.cells #[a0] t0)))∧Hid (Below w.heap.size w W)∧Hid (∀ w',Below W.heap.size W w'→w'.cell? ⟨w.heap.size,0,none⟩=some a0):=by
 obtain ⟨hB,hK⟩:=box1 #[a0] t0 w _ rfl
 exact ⟨_,rfl,hB,fun w' h=>by
  replace h:=hK w' h
  and_intros <;> exact h _ _ rfl⟩
theorem bx2 (w:World) (a0 a1:Value) (t0:TypeId):∃ W,Hid (W=(w.alloc (.cells #[a0,a1] t0)))∧Hid (Below w.heap.size w W)∧Hid (∀ w',Below W.heap.size W w'→w'.cell? ⟨w.heap.size,0,none⟩=some a0∧w'.cell? ⟨w.heap.size,1,none⟩=some a1):=by
 obtain ⟨hB,hK⟩:=box1 #[a0,a1] t0 w _ rfl
 exact ⟨_,rfl,hB,fun w' h=>by
  replace h:=hK w' h
  and_intros <;> exact h _ _ rfl⟩
theorem bx2_1_1 (w:World) (a0 a1:Value) (t0:TypeId) (b0:Value) (t1:TypeId) (d0:Value) (t2:TypeId):∃ W,Hid (W=(((w.alloc (.cells #[a0,a1] t0)).alloc (.cells #[b0] t1)).alloc (.cells #[d0] t2)))∧Hid (Below w.heap.size w W)∧Hid (∀ w',Below W.heap.size W w'→w'.cell? ⟨w.heap.size,0,none⟩=some a0∧w'.cell? ⟨w.heap.size,1,none⟩=some a1∧w'.cell? ⟨w.heap.size+1,0,none⟩=some b0∧w'.cell? ⟨w.heap.size+1+1,0,none⟩=some d0):=by
 obtain ⟨hB,hK⟩:=box3 #[a0,a1] t0 #[b0] t1 #[d0] t2 w _ rfl
 exact ⟨_,rfl,hB,fun w' h=>by
  replace h:=hK w' h
  and_intros <;> first | exact h.1 _ _ rfl | exact h.2.1 _ _ rfl | exact h.2.2 _ _ rfl⟩
theorem bx2_2 (w:World) (a0 a1:Value) (t0:TypeId) (b0 b1:Value) (t1:TypeId):∃ W,Hid (W=((w.alloc (.cells #[a0,a1] t0)).alloc (.cells #[b0,b1] t1)))∧Hid (Below w.heap.size w W)∧Hid (∀ w',Below W.heap.size W w'→w'.cell? ⟨w.heap.size,0,none⟩=some a0∧w'.cell? ⟨w.heap.size,1,none⟩=some a1∧w'.cell? ⟨w.heap.size+1,0,none⟩=some b0∧w'.cell? ⟨w.heap.size+1,1,none⟩=some b1):=by
 obtain ⟨hB,hK⟩:=box2 #[a0,a1] t0 #[b0,b1] t1 w _ rfl
 exact ⟨_,rfl,hB,fun w' h=>by
  replace h:=hK w' h
  and_intros <;> first | exact h.1 _ _ rfl | exact h.2 _ _ rfl⟩
theorem bx2_7 (w:World) (a0 a1:Value) (t0:TypeId) (b0 b1 b2 b3 b4 b5 b6:Value) (t1:TypeId):∃ W,Hid (W=((w.alloc (.cells #[a0,a1] t0)).alloc (.cells #[b0,b1,b2,b3,b4,b5,b6] t1)))∧Hid (Below w.heap.size w W)∧Hid (∀ w',Below W.heap.size W w'→w'.cell? ⟨w.heap.size,0,none⟩=some a0∧w'.cell? ⟨w.heap.size,1,none⟩=some a1∧w'.cell? ⟨w.heap.size+1,0,none⟩=some b0∧w'.cell? ⟨w.heap.size+1,1,none⟩=some b1∧w'.cell? ⟨w.heap.size+1,2,none⟩=some b2∧w'.cell? ⟨w.heap.size+1,3,none⟩=some b3∧w'.cell? ⟨w.heap.size+1,4,none⟩=some b4∧w'.cell? ⟨w.heap.size+1,5,none⟩=some b5∧w'.cell? ⟨w.heap.size+1,6,none⟩=some b6):=by
 obtain ⟨hB,hK⟩:=box2 #[a0,a1] t0 #[b0,b1,b2,b3,b4,b5,b6] t1 w _ rfl
 exact ⟨_,rfl,hB,fun w' h=>by
  replace h:=hK w' h
  and_intros <;> first | exact h.1 _ _ rfl | exact h.2 _ _ rfl⟩
theorem bx3 (w:World) (a0 a1 a2:Value) (t0:TypeId):∃ W,Hid (W=(w.alloc (.cells #[a0,a1,a2] t0)))∧Hid (Below w.heap.size w W)∧Hid (∀ w',Below W.heap.size W w'→w'.cell? ⟨w.heap.size,0,none⟩=some a0∧w'.cell? ⟨w.heap.size,1,none⟩=some a1∧w'.cell? ⟨w.heap.size,2,none⟩=some a2):=by
 obtain ⟨hB,hK⟩:=box1 #[a0,a1,a2] t0 w _ rfl
 exact ⟨_,rfl,hB,fun w' h=>by
  replace h:=hK w' h
  and_intros <;> exact h _ _ rfl⟩
theorem bx3_1_1 (w:World) (a0 a1 a2:Value) (t0:TypeId) (b0:Value) (t1:TypeId) (d0:Value) (t2:TypeId):∃ W,Hid (W=(((w.alloc (.cells #[a0,a1,a2] t0)).alloc (.cells #[b0] t1)).alloc (.cells #[d0] t2)))∧Hid (Below w.heap.size w W)∧Hid (∀ w',Below W.heap.size W w'→w'.cell? ⟨w.heap.size,0,none⟩=some a0∧w'.cell? ⟨w.heap.size,1,none⟩=some a1∧w'.cell? ⟨w.heap.size,2,none⟩=some a2∧w'.cell? ⟨w.heap.size+1,0,none⟩=some b0∧w'.cell? ⟨w.heap.size+1+1,0,none⟩=some d0):=by
 obtain ⟨hB,hK⟩:=box3 #[a0,a1,a2] t0 #[b0] t1 #[d0] t2 w _ rfl
 exact ⟨_,rfl,hB,fun w' h=>by
  replace h:=hK w' h
  and_intros <;> first | exact h.1 _ _ rfl | exact h.2.1 _ _ rfl | exact h.2.2 _ _ rfl⟩
theorem bx3_3 (w:World) (a0 a1 a2:Value) (t0:TypeId) (b0 b1 b2:Value) (t1:TypeId):∃ W,Hid (W=((w.alloc (.cells #[a0,a1,a2] t0)).alloc (.cells #[b0,b1,b2] t1)))∧Hid (Below w.heap.size w W)∧Hid (∀ w',Below W.heap.size W w'→w'.cell? ⟨w.heap.size,0,none⟩=some a0∧w'.cell? ⟨w.heap.size,1,none⟩=some a1∧w'.cell? ⟨w.heap.size,2,none⟩=some a2∧w'.cell? ⟨w.heap.size+1,0,none⟩=some b0∧w'.cell? ⟨w.heap.size+1,1,none⟩=some b1∧w'.cell? ⟨w.heap.size+1,2,none⟩=some b2):=by
 obtain ⟨hB,hK⟩:=box2 #[a0,a1,a2] t0 #[b0,b1,b2] t1 w _ rfl
 exact ⟨_,rfl,hB,fun w' h=>by
  replace h:=hK w' h
  and_intros <;> first | exact h.1 _ _ rfl | exact h.2 _ _ rfl⟩
theorem bx3_7 (w:World) (a0 a1 a2:Value) (t0:TypeId) (b0 b1 b2 b3 b4 b5 b6:Value) (t1:TypeId):∃ W,Hid (W=((w.alloc (.cells #[a0,a1,a2] t0)).alloc (.cells #[b0,b1,b2,b3,b4,b5,b6] t1)))∧Hid (Below w.heap.size w W)∧Hid (∀ w',Below W.heap.size W w'→w'.cell? ⟨w.heap.size,0,none⟩=some a0∧w'.cell? ⟨w.heap.size,1,none⟩=some a1∧w'.cell? ⟨w.heap.size,2,none⟩=some a2∧w'.cell? ⟨w.heap.size+1,0,none⟩=some b0∧w'.cell? ⟨w.heap.size+1,1,none⟩=some b1∧w'.cell? ⟨w.heap.size+1,2,none⟩=some b2∧w'.cell? ⟨w.heap.size+1,3,none⟩=some b3∧w'.cell? ⟨w.heap.size+1,4,none⟩=some b4∧w'.cell? ⟨w.heap.size+1,5,none⟩=some b5∧w'.cell? ⟨w.heap.size+1,6,none⟩=some b6):=by
 obtain ⟨hB,hK⟩:=box2 #[a0,a1,a2] t0 #[b0,b1,b2,b3,b4,b5,b6] t1 w _ rfl
 exact ⟨_,rfl,hB,fun w' h=>by
  replace h:=hK w' h
  and_intros <;> first | exact h.1 _ _ rfl | exact h.2 _ _ rfl⟩
theorem bx3_7_4 (w:World) (a0 a1 a2:Value) (t0:TypeId) (b0 b1 b2 b3 b4 b5 b6:Value) (t1:TypeId) (d0 d1 d2 d3:Value) (t2:TypeId):∃ W,Hid (W=(((w.alloc (.cells #[a0,a1,a2] t0)).alloc (.cells #[b0,b1,b2,b3,b4,b5,b6] t1)).alloc (.cells #[d0,d1,d2,d3] t2)))∧Hid (Below w.heap.size w W)∧Hid (∀ w',Below W.heap.size W w'→w'.cell? ⟨w.heap.size,0,none⟩=some a0∧w'.cell? ⟨w.heap.size,1,none⟩=some a1∧w'.cell? ⟨w.heap.size,2,none⟩=some a2∧w'.cell? ⟨w.heap.size+1,0,none⟩=some b0∧w'.cell? ⟨w.heap.size+1,1,none⟩=some b1∧w'.cell? ⟨w.heap.size+1,2,none⟩=some b2∧w'.cell? ⟨w.heap.size+1,3,none⟩=some b3∧w'.cell? ⟨w.heap.size+1,4,none⟩=some b4∧w'.cell? ⟨w.heap.size+1,5,none⟩=some b5∧w'.cell? ⟨w.heap.size+1,6,none⟩=some b6∧w'.cell? ⟨w.heap.size+1+1,0,none⟩=some d0∧w'.cell? ⟨w.heap.size+1+1,1,none⟩=some d1∧w'.cell? ⟨w.heap.size+1+1,2,none⟩=some d2∧w'.cell? ⟨w.heap.size+1+1,3,none⟩=some d3):=by
 obtain ⟨hB,hK⟩:=box3 #[a0,a1,a2] t0 #[b0,b1,b2,b3,b4,b5,b6] t1 #[d0,d1,d2,d3] t2 w _ rfl
 exact ⟨_,rfl,hB,fun w' h=>by
  replace h:=hK w' h
  and_intros <;> first | exact h.1 _ _ rfl | exact h.2.1 _ _ rfl | exact h.2.2 _ _ rfl⟩
theorem bx4 (w:World) (a0 a1 a2 a3:Value) (t0:TypeId):∃ W,Hid (W=(w.alloc (.cells #[a0,a1,a2,a3] t0)))∧Hid (Below w.heap.size w W)∧Hid (∀ w',Below W.heap.size W w'→w'.cell? ⟨w.heap.size,0,none⟩=some a0∧w'.cell? ⟨w.heap.size,1,none⟩=some a1∧w'.cell? ⟨w.heap.size,2,none⟩=some a2∧w'.cell? ⟨w.heap.size,3,none⟩=some a3):=by
 obtain ⟨hB,hK⟩:=box1 #[a0,a1,a2,a3] t0 w _ rfl
 exact ⟨_,rfl,hB,fun w' h=>by
  replace h:=hK w' h
  and_intros <;> exact h _ _ rfl⟩
theorem bx7 (w:World) (a0 a1 a2 a3 a4 a5 a6:Value) (t0:TypeId):∃ W,Hid (W=(w.alloc (.cells #[a0,a1,a2,a3,a4,a5,a6] t0)))∧Hid (Below w.heap.size w W)∧Hid (∀ w',Below W.heap.size W w'→w'.cell? ⟨w.heap.size,0,none⟩=some a0∧w'.cell? ⟨w.heap.size,1,none⟩=some a1∧w'.cell? ⟨w.heap.size,2,none⟩=some a2∧w'.cell? ⟨w.heap.size,3,none⟩=some a3∧w'.cell? ⟨w.heap.size,4,none⟩=some a4∧w'.cell? ⟨w.heap.size,5,none⟩=some a5∧w'.cell? ⟨w.heap.size,6,none⟩=some a6):=by
 obtain ⟨hB,hK⟩:=box1 #[a0,a1,a2,a3,a4,a5,a6] t0 w _ rfl
 exact ⟨_,rfl,hB,fun w' h=>by
  replace h:=hK w' h
  and_intros <;> exact h _ _ rfl⟩
theorem bx7_7 (w:World) (a0 a1 a2 a3 a4 a5 a6:Value) (t0:TypeId) (b0 b1 b2 b3 b4 b5 b6:Value) (t1:TypeId):∃ W,Hid (W=((w.alloc (.cells #[a0,a1,a2,a3,a4,a5,a6] t0)).alloc (.cells #[b0,b1,b2,b3,b4,b5,b6] t1)))∧Hid (Below w.heap.size w W)∧Hid (∀ w',Below W.heap.size W w'→w'.cell? ⟨w.heap.size,0,none⟩=some a0∧w'.cell? ⟨w.heap.size,1,none⟩=some a1∧w'.cell? ⟨w.heap.size,2,none⟩=some a2∧w'.cell? ⟨w.heap.size,3,none⟩=some a3∧w'.cell? ⟨w.heap.size,4,none⟩=some a4∧w'.cell? ⟨w.heap.size,5,none⟩=some a5∧w'.cell? ⟨w.heap.size,6,none⟩=some a6∧w'.cell? ⟨w.heap.size+1,0,none⟩=some b0∧w'.cell? ⟨w.heap.size+1,1,none⟩=some b1∧w'.cell? ⟨w.heap.size+1,2,none⟩=some b2∧w'.cell? ⟨w.heap.size+1,3,none⟩=some b3∧w'.cell? ⟨w.heap.size+1,4,none⟩=some b4∧w'.cell? ⟨w.heap.size+1,5,none⟩=some b5∧w'.cell? ⟨w.heap.size+1,6,none⟩=some b6):=by
 obtain ⟨hB,hK⟩:=box2 #[a0,a1,a2,a3,a4,a5,a6] t0 #[b0,b1,b2,b3,b4,b5,b6] t1 w _ rfl
 exact ⟨_,rfl,hB,fun w' h=>by
  replace h:=hK w' h
  and_intros <;> first | exact h.1 _ _ rfl | exact h.2 _ _ rfl⟩
theorem bx7_10 (w:World) (a0 a1 a2 a3 a4 a5 a6:Value) (t0:TypeId) (b0 b1 b2 b3 b4 b5 b6 b7 b8 b9:Value) (t1:TypeId):∃ W,Hid (W=((w.alloc (.cells #[a0,a1,a2,a3,a4,a5,a6] t0)).alloc (.cells #[b0,b1,b2,b3,b4,b5,b6,b7,b8,b9] t1)))∧Hid (Below w.heap.size w W)∧Hid (∀ w',Below W.heap.size W w'→w'.cell? ⟨w.heap.size,0,none⟩=some a0∧w'.cell? ⟨w.heap.size,1,none⟩=some a1∧w'.cell? ⟨w.heap.size,2,none⟩=some a2∧w'.cell? ⟨w.heap.size,3,none⟩=some a3∧w'.cell? ⟨w.heap.size,4,none⟩=some a4∧w'.cell? ⟨w.heap.size,5,none⟩=some a5∧w'.cell? ⟨w.heap.size,6,none⟩=some a6∧w'.cell? ⟨w.heap.size+1,0,none⟩=some b0∧w'.cell? ⟨w.heap.size+1,1,none⟩=some b1∧w'.cell? ⟨w.heap.size+1,2,none⟩=some b2∧w'.cell? ⟨w.heap.size+1,3,none⟩=some b3∧w'.cell? ⟨w.heap.size+1,4,none⟩=some b4∧w'.cell? ⟨w.heap.size+1,5,none⟩=some b5∧w'.cell? ⟨w.heap.size+1,6,none⟩=some b6∧w'.cell? ⟨w.heap.size+1,7,none⟩=some b7∧w'.cell? ⟨w.heap.size+1,8,none⟩=some b8∧w'.cell? ⟨w.heap.size+1,9,none⟩=some b9):=by
 obtain ⟨hB,hK⟩:=box2 #[a0,a1,a2,a3,a4,a5,a6] t0 #[b0,b1,b2,b3,b4,b5,b6,b7,b8,b9] t1 w _ rfl
 exact ⟨_,rfl,hB,fun w' h=>by
  replace h:=hK w' h
  and_intros <;> first | exact h.1 _ _ rfl | exact h.2 _ _ rfl⟩
def Cells (w:World) (P:Nat) (vs:List Value):Prop:=P<w.heap.size∧∀ j u,vs[j]? = some u→w.cell? ⟨P,j,none⟩=some u∧w.frozen? ⟨P,j,none⟩=false
theorem Cells.below (h:Cells w P vs) (hb:Below B w w') (hP:P<B):Cells w' P vs:=by
 exact ⟨Nat.lt_of_lt_of_le h.1 hb.size,fun j u hu=>⟨(hb.cell (p:=⟨P,j,none⟩) hP).trans (h.2 j u hu).1,(hb.frozen (p:=⟨P,j,none⟩) hP).trans (h.2 j u hu).2⟩⟩
theorem q9p (h:w'.heap[p.block]? = w.heap[p.block]?):w'.frozen? p=w.frozen? p:=by
 unfold World.frozen?;rw [h]
theorem Cells.grown {r:Nat} (h:Cells w P vs) (hg:w.grownBy w' (some r)) (hne:P≠r):Cells w' P vs:=by
 have hb:=hg.block P h.1 (by simpa using hne)
 exact ⟨Nat.lt_of_lt_of_le h.1 hg.size,fun j u hu=>⟨(World.cell?_of_block hb).trans (h.2 j u hu).1,(q9p hb).trans (h.2 j u hu).2⟩⟩
theorem Cells.fresh (w:World) (vs:List Value) (t:TypeId):Cells (w.alloc (.cells vs.toArray t)) w.heap.size vs :=
 ⟨s_,fun j u hu=>⟨by rw [World.cell?_alloc_new];simpa using hu,World.frozen?_alloc_new ..⟩⟩
theorem Cells.at_ (h:Cells w P vs) (hu:vs[j]? = some u):w.cell? ⟨P,j,none⟩=some u:=(h.2 j u hu).1
theorem Cells.fr (h:Cells w P vs) (hu:vs[j]? = some u):w.frozen? ⟨P,j,none⟩=false:=(h.2 j u hu).2
def RowAt (w:World) (B:Nat) (c:Array Value) (t:TypeId):Prop:=w.heap[B]? = some (.cells c t (0,0))
theorem RowAt.lt (h:RowAt w B c t):B<w.heap.size:=(Array.getElem?_eq_some_iff.1 h).1
theorem RowAt.fresh (w:World) (c:Array Value) (t:TypeId):RowAt (w.alloc (.cells c t)) w.heap.size c t:=heap_alloc_last w _
theorem RowAt.below {Bd:Nat} (h:RowAt w B c t) (hb:Below Bd w w') (hB:B<Bd):RowAt w' B c t:=(hb.block B hB).trans h
theorem RowAt.cell (h:RowAt w B c t) (hu:c[j]? = some u):w.cell? ⟨B,j,none⟩=some u :=
 (cell_of_row _ _ j c t (0,0) h).trans hu
theorem RowAt.fr (h:RowAt w B c t) (j:Nat):w.frozen? ⟨B,j,none⟩=false:=by
 unfold World.frozen?;rw [show w.heap[(⟨B,j,none⟩:Addr).block]? = _ from h]
 simp
theorem RowAt.set (h:RowAt w B c t) (j:Nat) (v:Value):RowAt (w.setCell ⟨B,j,none⟩ v) B (c.setIfInBounds j v) t:=by
 unfold RowAt World.setCell at *;simp only [Array.getElem?_modify,if_true,h]
 rfl
theorem RowAt.far (h:RowAt w B c t) (j:Nat) (v:Value) (hne:B'≠B):RowAt (w.setCell ⟨B',j,none⟩ v) B c t:=by
 unfold RowAt World.setCell at *;simp only [Array.getElem?_modify];rw [if_neg (by simpa using hne)]
 exact h
theorem Cells.far (h:Cells w B vs) (j:Nat) (v:Value) (hne:B'≠B):Cells (w.setCell ⟨B',j,none⟩ v) B vs:=by
 refine ⟨by rw [World.size_setCell];exact h.1,fun i u hu=>⟨?_,by rw [World.frozen?_setCell];exact (h.2 i u hu).2⟩⟩
 exact (World.cell?_setCell_other w ⟨B',j,none⟩ ⟨B,i,none⟩ v (fun e=>by injection e with e;exact hne e)).trans (h.2 i u hu).1
def rowI (f:Int→Int):Array Value:=((List.range 513).map fun a:Nat=>Value.int .i64 (f a)).toArray
theorem qn2 (f:Int→Int):(rowI f).size=513:=by simp [rowI]
theorem qmz (f:Int→Int) (h:a<513):(rowI f)[a]? = some (.int .i64 (f a)):=by
 unfold rowI;simp [h]
theorem qn1 (f g:Int→Int) (v:Int) (hg:∀ i:Nat,i<513→g i=if i=a then v else f i):(rowI f).setIfInBounds a (.int .i64 v)=rowI g:=by
 apply Array.ext
 ·simp [rowI]
 ·intro i h1 h2
  have hi:i<513:=by simpa [rowI] using h2
  rw [Array.getElem_setIfInBounds (by simpa [rowI] using hi)]
  simp only [rowI,List.getElem_toArray,List.getElem_map,List.getElem_range];rw [hg i hi]
  by_cases h:a=i
  ·subst h;simp
  ·have h':¬ i=a:=fun e=>h e.symm
   simp [h,h']
theorem qn0 {f g:Int→Int} (h:∀ a:Nat,a<513→f a=g a):rowI f=rowI g:=by
 have e:((List.range 513).map fun a:Nat=>Value.int .i64 (f a))=(List.range 513).map fun a:Nat=>Value.int .i64 (g a):=List.map_congr_left fun a ha=>by rw [h a (List.mem_range.1 ha)]
 exact congrArg List.toArray e
theorem Cells.set (h:Cells w P vs) (j:Nat) (v:Value) (hj:j<vs.length):Cells (w.setCell ⟨P,j,none⟩ v) P (vs.set j v):=by
 refine ⟨by rw [World.size_setCell];exact h.1,fun i u hu=>⟨?_,by
  rw [World.frozen?_setCell];have hi:i<vs.length:=by have:=(List.getElem?_eq_some_iff.1 hu).1;rwa [List.length_set] at this
  exact (h.2 i vs[i] (List.getElem?_eq_getElem hi)).2⟩⟩
 by_cases e:j=i
 ·subst e
  rw [List.getElem?_set_self hj] at hu
  injection hu with hu
  subst hu;exact World.cell?_setCell_same' _ _ _ (by rw [(h.2 j vs[j] (List.getElem?_eq_getElem hj)).1];rfl)
 ·rw [List.getElem?_set_ne e] at hu
  exact (World.cell?_setCell_other w ⟨P,j,none⟩ ⟨P,i,none⟩ v (fun e2=>by injection e2 with _ e2;exact e e2)).trans (h.2 i u hu).1
theorem MapAt.far {κ:Type} {enc:κ→Value} {b:Nat} {L:List (κ × Value)} (h:MapAt enc w b L) (j:Nat) (v:Value) (hne:B≠b):MapAt enc (w.setCell ⟨B,j,none⟩ v) b L :=
 h.keep (by
  unfold World.setCell;simp only [Array.getElem?_modify];rw [if_neg (by simpa using hne)])
theorem qlt {fn:Func} {p:Tmp} {ty:TypeId} (h:fn.results=#[.cell p ty]) (tmps:Array Value) (P:Program) (w:World) :
  (results fn tmps).run P w=((asAddr (tmps.getD p undef)).run P w).andThen fun a w₁=>(loadVar ty a).run P w₁:=by
 simp only [results,h];simp [Sem.run_bind,Result.andThen]
theorem q1b {a:World} (h:Below B a w) {g:Nat} (hg:B≤g) (cs:Array Value):Below B a (w.setRow g cs) :=
 ⟨h.os,h.tape,h.output,by rw [setRow_size];exact h.size,fun b hb=>(setRow_other w g b cs o_).trans (h.block b hb)⟩
theorem RowAt.setRow (h:RowAt w B c t) (cs:Array Value):RowAt (w.setRow B cs) B cs t:=setRow_heap w B c cs t (0,0) h
theorem qmy (f:Int→Int):(rowI f).all (·.oneCell')=true:=by
 rw [Array.all_eq_true_iff_forall_mem];intro v hv;unfold rowI at hv;simp at hv;obtain ⟨a,-,rfl⟩:=hv
 rfl
theorem q80 {κ:Type} [DecidableEq κ] {P:Program} {kt:TypeId} {enc:κ→Value} (he:∀ a b w,(Op.equal kt (enc a) (enc b)).run P w=.ok (decide (a=b)) w) (k:κ) (w:World) :
  ∀ (l:List MapEntry) (L:List (κ × Value)) (i:Nat),l.map (fun e=>(e.key,e.val))=L.map (fun x=>(enc x.1,x.2))→(Instr.findAsking kt (enc k) l i).run P w=.ok (findL L k i) w
 | [],[],_,_=>rfl
 | [],_ :: _,_,h=>by simp at h
 | _ :: _,[],_,h=>by simp at h
 | e :: l,(a,v) :: L,i,hL=>by
  simp only [List.map_cons,List.cons.injEq,Prod.mk.injEq] at hL;obtain ⟨⟨h1,h2⟩,h3⟩:=hL;have ih:=q80 he k w l L (i+1) h3;unfold Instr.findAsking;simp only [Sem.run_bind,h1,he,Result.andThen]
  by_cases hk:k=a
  ·simp [hk,h2,findL]
  ·simp [hk,findL,ih]
theorem KeyTy.of_eq {κ:Type} [DecidableEq κ] {P:Program} {kt:TypeId} {enc:κ→Value} (hwide:(match P.underlying kt with | some (.array _ _) | some (.struct _)=>true | _=>false)=true)
  (hc:∀ a e w,(Instr.checkKey e 10000 kt (enc a)).run P w=.ok () w) (he:∀ a b w,(Op.equal kt (enc a) (enc b)).run P w=.ok (decide (a=b)) w):KeyTy P kt enc :=
 ⟨hc,fun l L k w hL=>(run_findKey_eq w hwide (enc k) l).trans (q80 he k w l L 0 hL)⟩
theorem qj3 {α:Type} {p:α→Bool} {l:List α} {k:Nat} (hk:k<l.length) (hall:∀ j (h:j<l.length),j<k→p l[j]=false) (h:p l[k]=false):∀ j (h:j<l.length),j<k+1→p l[j]=false:=fun j hj hjk=>by
 rcases Nat.lt_or_eq_of_le (Nat.le_of_lt_succ hjk) with h1 | h1
 ·exact hall j hj h1
 ·subst h1;exact h
theorem qna (A:Option Addr) (n c:Nat) (P:List PC) (s:ByteArray) (w:World) (hl:shPr.In w A n P) (hn:n≤9223372036854775806) :
  Rt 50 #[.slice A n c,.string s] w (.int .i64 (pcI P s)):=by
 obtain ⟨rfl,_⟩:=id hl;have HL:=hj_ hl;obtain ⟨E,hE⟩:=ex_ (pcI P s);rw [← hE];have HE:=hj_ hE;clear hl hE
 go_enter func50,ntmps50
 go_wp2_with fail
 go_loopw [5] (fun iv wr=>∃ k:Nat,k≤P.length∧iv=.int .i64 k∧(∀ j (h:j<P.length),j<k→decide (P[j].s=s)=false)∧Below w.heap.size w wr) (fun iv _=>P.length-(intOf iv).toNat)
 case atStart=>exact ⟨0,Nat.zero_le _,rfl,fun j _ h=>absurd h (Nat.not_lt_zero _),br_⟩
 case round =>
  obtain ⟨k,hk,rfl,hall,hBr⟩:=hrel;have HAll:=hj_ hall;clear hall
  by_cases hlt:k<P.length
  ·obtain ⟨b,o,rfl,hbl,hcell⟩:=pc_at HL.out o_
   have p0:=(hBr.cell (p:=⟨b,o+k*4,none⟩) hbl).trans (hcell k hlt).1;have hbw:b<wr.heap.size:=Nat.lt_of_lt_of_le hbl hBr.size;have HY:=hj_ (show decide (P[k].s=s)=true→E=k from fun h=>HE.out.trans (qbd hlt (fun i hi=>HAll.out i o_ hi) h))
   have HN:=hj_ (qj3 (p:=fun p:PC=>decide (p.s=s)) hlt HAll.out)
   have i0:(0:Int)≤(k:Int):=o_
   have i1:(k:Int)<(P.length:Int):=o_
   have w1:IntKind.i64.wrap ((k:Int)+1)=(k:Int)+1:=IntWalk.i64_in _ o_
   have hbq:=q1w P[k].s s;clear hcell;generalize P[k].s=x at *
   cases hd:decide (x=s) with
   | true =>
    rw [hd] at hbq;have hee:E=k:=HY.out hd;subst hee;clear hd HY HN;go_wp2_with fail;go_ret;exact ⟨rfl,hBr⟩
   | false =>
    rw [hd] at hbq;have HN1:=hj_ (HN.out hd);clear hd HY HN;go_wp2_with fail
    go_roundw
    case rel=>exact ⟨k+1,o_,by go_num,HN1.out,hBr⟩
    case measure=>simp [intOf];omega
  ·obtain rfl:k=P.length:=by omega
   have hE0:E=-1:=HE.out.trans (qbc fun i h=>HAll.out i h h)
   subst hE0;go_wp2_with fail;go_ret;exact ⟨rfl,hBr⟩
theorem qnp (A:Option Addr) (n c:Nat) (P:List PC) (x:Fx) (w:World) (hl:shPr.In w A n P) (hn:n≤9223372036854775806) (p:PC) (hp:pcF P x.pr=some p) :
  Rt 165 #[.slice A n c,x.val] w (.int .i64 (footV P x.pr)):=by
 have hfo:footV P x.pr=p.ft:=by unfold footV;rw [hp]
 rw [hfo];have HP:=hj_ (fun w' hl=>qna A n c P x.pr w' hl hn)
 have hge:=pcI_ge P x.pr;have hlt:=pcI_lt P x.pr;have hnn:¬ pcI P x.pr<0:=fun h=>by rw [qgv.1 h] at hp;cases hp
 have hat:=pcI_at hnn;rw [hp] at hat;obtain ⟨rfl,_⟩:=id hl;obtain ⟨k,hk⟩:∃ k:Nat,pcI P x.pr=k:=⟨(pcI P x.pr).toNat,o_⟩
 rw [hk] at HP hlt hat;have hkl:k<P.length:=o_
 rw [show ((k:Int).toNat)=k by omega,qa1 hkl] at hat
 injection hat with hat
 have HL:=hj_ hl;obtain ⟨ch,pt,pr,un,ad,ph,cb⟩:=x;show Rt 165 #[.slice A P.length c,.agg #[.int .i64 ch,.int .i64 pt,.string pr,.int .i64 un,.int .i64 ad,.int .i64 ph,.string cb]] w (.int .i64 p.ft)
 dsimp only at HP;obtain ⟨W,HW,HB0,HK⟩:=bx7 w (.int .i64 ch) (.int .i64 pt) (.string pr) (.int .i64 un) (.int .i64 ad) (.int .i64 ph) (.string cb) 45;have hB:=Below.refl W.heap.size W;obtain ⟨c0,c1,c2,c3,c4,c5,c6⟩:=HK.out W hB;replace HL:=hj_ (HL.out.below HB0.out);obtain ⟨b,o,rfl,hbl,hcell⟩:=pc_at HL.out o_
 have HC:=hj_ (hcell k hkl);have i0:(0:Int)≤(k:Int):=o_
 have i1:(k:Int)<(P.length:Int):=o_
 rw [← hat] at HC;clear hl hk hge hnn hat hcell hp hfo
 go_enter func165,ntmps165
 go_wp2_with fail;rw [← HW.out];refine uq_ (HP.out _ (HL.out.below hB)) hB fun wk hB=>?_;obtain ⟨c0,c1,c2,c3,c4,c5,c6⟩:=HK.out _ hB;have p0:=(hB.cell (p:=⟨b,o+k*4+1,none⟩) hbl).trans HC.out.2.1;have hbw:=Nat.lt_of_lt_of_le hbl hB.size;go_wp2_with fail;go_ret;exact ⟨rfl,ht_ HB0.out hB⟩
theorem qku {x:Fx}:qkt x=false↔(x.ch<1∨999<x.ch∨x.pt<1∨64<x.pt∨x.un<1∨8<x.un∨x.ad<1∨512<x.ad∨x.ph<1∨3<x.ph):=by
 unfold qkt;rw [← Bool.not_eq_true];simp only [Bool.and_eq_true,decide_eq_true_eq];omega
theorem qng (x:Fx) (w:World) :
  Rt 164 #[x.val] w (.int .i64 (if qkt x=false then 2 else 0)):=by
 have hr:=qku (x:=x);obtain ⟨E,hE⟩:∃ E:Int,(if qkt x=false then (2:Int) else 0)=E:=⟨_,rfl⟩
 rw [hE];generalize qkt x=q at *;obtain ⟨ch,pt,pr,un,ad,ph,cb⟩:=x;dsimp only at hr;show Rt 164 #[.agg #[.int .i64 ch,.int .i64 pt,.string pr,.int .i64 un,.int .i64 ad,.int .i64 ph,.string cb]] w (.int .i64 E)
 obtain ⟨W,HW,HB0,HK⟩:=bx7 w (.int .i64 ch) (.int .i64 pt) (.string pr) (.int .i64 un) (.int .i64 ad) (.int .i64 ph) (.string cb) 45;have hB:=Below.refl W.heap.size W;obtain ⟨c0,c1,c2,c3,c4,c5,c6⟩:=HK.out W hB;have hbad:=hj_ (show (ch<1∨999<ch∨pt<1∨64<pt∨un<1∨8<un∨ad<1∨512<ad∨ph<1∨3<ph)→E=2 from fun h=>by rw [← hE,if_pos (hr.2 h)])
 have hgood:=hj_ (show ¬ (ch<1∨999<ch∨pt<1∨64<pt∨un<1∨8<un∨ad<1∨512<ad∨ph<1∨3<ph)→E=0 from fun h=>by rw [← hE,if_neg (fun h2=>h (hr.1 h2))])
 clear hE hr
 by_cases h1:ch<1
 ·obtain rfl:=hbad.out o_
  go_enter func164,ntmps164
  go_wp2_with fail;rw [← HW.out];go_wp2_with fail;go_ret;exact ⟨rfl,HB0.out⟩
 by_cases h2:999<ch
 ·obtain rfl:=hbad.out o_
  go_enter func164,ntmps164
  go_wp2_with fail;rw [← HW.out];go_wp2_with fail;go_ret;exact ⟨rfl,HB0.out⟩
 by_cases h3:pt<1
 ·obtain rfl:=hbad.out o_
  go_enter func164,ntmps164
  go_wp2_with fail;rw [← HW.out];go_wp2_with fail;go_ret;exact ⟨rfl,HB0.out⟩
 by_cases h4:64<pt
 ·obtain rfl:=hbad.out o_
  go_enter func164,ntmps164
  go_wp2_with fail;rw [← HW.out];go_wp2_with fail;go_ret;exact ⟨rfl,HB0.out⟩
 by_cases h5:un<1
 ·obtain rfl:=hbad.out o_
  go_enter func164,ntmps164
  go_wp2_with fail;rw [← HW.out];go_wp2_with fail;go_ret;exact ⟨rfl,HB0.out⟩
 by_cases h6:8<un
 ·obtain rfl:=hbad.out o_
  go_enter func164,ntmps164
  go_wp2_with fail;rw [← HW.out];go_wp2_with fail;go_ret;exact ⟨rfl,HB0.out⟩
 by_cases h7:ad<1
 ·obtain rfl:=hbad.out o_
  go_enter func164,ntmps164
  go_wp2_with fail;rw [← HW.out];go_wp2_with fail;go_ret;exact ⟨rfl,HB0.out⟩
 by_cases h8:512<ad
 ·obtain rfl:=hbad.out o_
  go_enter func164,ntmps164
  go_wp2_with fail;rw [← HW.out];go_wp2_with fail;go_ret;exact ⟨rfl,HB0.out⟩
 by_cases h9:ph<1
 ·obtain rfl:=hbad.out o_
  go_enter func164,ntmps164
  go_wp2_with fail;rw [← HW.out];go_wp2_with fail;go_ret;exact ⟨rfl,HB0.out⟩
 by_cases h10:3<ph
 ·obtain rfl:=hbad.out o_
  go_enter func164,ntmps164
  go_wp2_with fail;rw [← HW.out];go_wp2_with fail;go_ret;exact ⟨rfl,HB0.out⟩
 obtain rfl:=hgood.out o_
 go_enter func164,ntmps164
 go_wp2_with fail;rw [← HW.out];go_wp2_with fail;go_ret;exact ⟨rfl,HB0.out⟩
set_option maxRecDepth 100000 in
theorem qu6 (s:ByteArray) (w:World) (hs:s.size≤9223372036854775807) :
  Rt 224 #[.string s] w (.bool (nmB s)):=by
 have hcv:=Lib.run_convert_string_bytes (P:=prog) w 9 194 5 s (u:=.string) underlying9 underlying194 underlying5;obtain ⟨W,hW⟩:=ex_ (Lib.bytesWorld w 5 s);rw [← hW] at hcv;have hbw:Below w.heap.size w W:=by rw [hW];exact Lib.bytesWorld_below _ _ _
 have hsz:W.heap.size=w.heap.size+1:=by rw [hW];exact Lib.bytesWorld_size _ _ _
 have hcb:∀ j,j<s.size→W.cell? ⟨w.heap.size,j,none⟩=some (.int .u8 (s.data.toList.getD j 0).toNat):=fun j hj=>by rw [hW];exact Lib.bytesWorld_cell _ _ _ _ hj
 have HCb:=hj_ hcb;have HS:=hj_ hsz;have HB0:=hj_ hbw;obtain ⟨E,hE⟩:=ex_ (nmB s);rw [← hE];have HE:=hj_ hE;clear hE hW hbw hsz hcb
 go_enter func224,ntmps224
 go_wp2_with fail
 go_loopw [9] (fun iv wr=>∃ k:Nat,k≤s.size∧iv=.int .i64 k∧(∀ j (h:j<s.size),j<k→nmC s[j]=true∧(j=0→lowB s[j]=true))∧Below W.heap.size W wr) (fun iv _=>s.size-(intOf iv).toNat)
 case atStart=>exact ⟨0,Nat.zero_le _,rfl,fun j _ h=>absurd h (Nat.not_lt_zero _),br_⟩
 case round =>
  obtain ⟨k,hk,rfl,hall,hBr⟩:=hrel;have HAll:=hj_ hall;have HBr:=hj_ hBr;clear hall
  by_cases hlt:k<s.size
  ·have i0:(0:Int)≤(k:Int):=by omega
   have i1:(k:Int)<(s.size:Int):=o_
   have p0:wr.cell? ⟨w.heap.size,k,none⟩=some (.int .u8 (s.data.toList.getD k 0).toNat):=(hBr.cell (p:=⟨w.heap.size,k,none⟩) (by have:=HS.out;show w.heap.size<_;omega)).trans (HCb.out k hlt)
   have HK:=hj_ (show (nmC s[k]=false∨k=0∧lowB s[k]=false→E=false)∧(nmC s[k]=true→(k=0→lowB s[k]=true)→∀ j (h:j<s.size),j<k+1→nmC s[j]=true∧(j=0→lowB s[j]=true)) from
    ⟨fun h=>HE.out.trans (nm_bad hlt h),fun h1 h2 j hj hjk=>by
     rcases Nat.lt_or_eq_of_le (Nat.le_of_lt_succ hjk) with h3 | h3
     ·exact HAll.out j hj h3
     ·subst h3;exact ⟨h1,h2⟩⟩)
   rw [show s.data.toList.getD k 0=s[k] by rw [qa1 (by simpa using hlt)];exact qcx s hlt] at p0
   obtain ⟨c,hc⟩:=xe_ (s[k]);rw [hc] at HK p0;clear hc
   by_cases a1:97≤c.toNat∧c.toNat≤122
   ·have l1:(97:Int)≤((c.toNat:Nat):Int):=by omega
    have l2:((c.toNat:Nat):Int)≤122:=o_
    have hlow:lowB c=true:=by unfold lowB;rw [decide_eq_true a1.1,decide_eq_true a1.2];rfl
    have HN:=hj_ (HK.out.2 (by unfold nmC;rw [hlow];rfl) (fun _=>hlow))
    clear HK a1 hlow;go_wp2_with fail
    go_roundw
    case rel=>exact ⟨k+1,o_,by go_num,HN.out,HBr.out⟩
    case measure=>simp [intOf];omega
   ·have hlow:lowB c=false:=by
     unfold lowB
     by_cases h1:97≤c.toNat
     ·rw [decide_eq_false (p:=c.toNat≤122) (fun h2=>a1 ⟨h1,h2⟩),Bool.and_false]
     ·rw [decide_eq_false h1,Bool.false_and]
    have l1:(decide ((97:Int)≤((c.toNat:Nat):Int)) && decide (((c.toNat:Nat):Int)≤122))=false:=by
     rw [Bool.and_eq_false_iff,decide_eq_false_iff_not,decide_eq_false_iff_not];omega
    by_cases hk0:k=0
    ·have hf:E=false:=HK.out.1 (.inr ⟨hk0,hlow⟩)
     subst hk0 hf;clear HK
     by_cases l2:(97:Int)≤((c.toNat:Nat):Int)
     ·have l3:¬ ((c.toNat:Nat):Int)≤122:=by omega
      go_wp2_with fail;go_ret;exact ⟨rfl,ht_ HB0.out HBr.out⟩
     ·go_wp2_with fail
      go_ret;exact ⟨rfl,ht_ HB0.out HBr.out⟩
    ·have g0:((k:Int) == 0)=false:=by rw [beq_eq_false_iff_ne];omega
     have hnl:nmC c=(decide (c=95) || (decide (48≤c.toNat) && decide (c.toNat≤57))):=by unfold nmC;rw [hlow];simp
     by_cases h95:c=95
     ·subst h95
      have HN:=hj_ (HK.out.2 d_ (fun h=>absurd h hk0))
      clear HK hnl hlow l1 a1;go_wp2_with fail
      go_roundw
      case rel=>exact ⟨k+1,o_,by go_num,HN.out,HBr.out⟩
      case measure=>simp [intOf];omega
     ·have n95:(((c.toNat:Nat):Int) == 95)=false:=by
       rw [beq_eq_false_iff_ne];intro h;exact h95 (UInt8.toNat_inj.1 (by show c.toNat=95;omega))
      have m95:(((c.toNat:Nat):Int) != 95)=true:=by rw [bne,n95];rfl
      by_cases d1:48≤c.toNat∧c.toNat≤57
      ·have HN:=hj_ (HK.out.2 (by rw [hnl,decide_eq_true d1.1,decide_eq_true d1.2];simp) (fun h=>absurd h hk0))
       have l2:¬ (97:Int)≤((c.toNat:Nat):Int):=o_
       have l3:¬ ((c.toNat:Nat):Int)<48:=o_
       have l4:¬ (57:Int)<((c.toNat:Nat):Int):=o_
       clear HK hnl hlow l1 a1 d1;go_wp2_with fail
       go_roundw
       case rel=>exact ⟨k+1,o_,by go_num,HN.out,HBr.out⟩
       case measure=>simp [intOf];omega
      ·have hf:E=false:=HK.out.1 (.inl (by rw [hnl,decide_eq_false h95];simp;omega))
       subst hf;clear HK hnl hlow;have l5:(decide (((c.toNat:Nat):Int)<48) || decide ((57:Int)<((c.toNat:Nat):Int)))=true:=by simp;omega
       by_cases l2:(97:Int)≤((c.toNat:Nat):Int)
       ·have l3:¬ ((c.toNat:Nat):Int)≤122:=by omega
        have l4:(57:Int)<((c.toNat:Nat):Int):=o_
        have l6:¬ ((c.toNat:Nat):Int)<48:=o_
        go_wp2_with fail;go_ret;exact ⟨rfl,ht_ HB0.out HBr.out⟩
       ·by_cases l6:((c.toNat:Nat):Int)<48
        ·go_wp2_with fail
         go_ret;exact ⟨rfl,ht_ HB0.out HBr.out⟩
        ·have l7:(57:Int)<((c.toNat:Nat):Int):=by omega
         go_wp2_with fail;go_ret;exact ⟨rfl,ht_ HB0.out HBr.out⟩
  ·obtain rfl:k=s.size:=by omega
   have hf:E=(decide (1≤s.size) && decide (s.size≤24)):=HE.out.trans (qes fun j hj=>HAll.out j hj hj)
   have hemp:=q1w s ⟨#[]⟩;clear HAll
   by_cases g1:1≤s.size
   ·have hne:¬ s.toList=[]:=fun e=>by
     rw [ByteArray.toList_eq] at e;have h3:s.data.size=0:=by simpa using congrArg List.length e
     have h4:s.data.size=s.size:=rfl;omega
    clear hemp
    by_cases g2:s.size≤24
    ·have h2:(s.size:Int)≤24:=by omega
     rw [decide_eq_true g1,decide_eq_true g2] at hf;subst hf;go_wp2_with fail;go_ret;exact ⟨ret_b (by simp [hne]),ht_ HB0.out HBr.out⟩
    ·have h2:¬ (s.size:Int)≤24:=by omega
     rw [decide_eq_true g1,decide_eq_false g2] at hf;subst hf;go_wp2_with fail;go_ret;exact ⟨ret_b s_,ht_ HB0.out HBr.out⟩
   ·have hz:s=⟨#[]⟩:=ByteArray.ext (Array.eq_empty_of_size_eq_zero (by have:s.data.size=s.size:=rfl;omega))
    rw [decide_eq_false g1] at hf;subst hf;clear hemp;have hnl:s.toList=[]:=by rw [hz,ByteArray.toList_eq]
    go_wp2_with fail;go_ret;exact ⟨rfl,ht_ HB0.out HBr.out⟩
end Go.Proofs.YtabhjdmmfdfpeaaGreatDoor
