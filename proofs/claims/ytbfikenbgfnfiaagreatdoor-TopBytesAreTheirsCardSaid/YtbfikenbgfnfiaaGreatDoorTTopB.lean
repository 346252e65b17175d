/- Lemmas and contracts of functions, joined for the claim: TIdx, TPlain. -/
import Derived.Test.YtbfikenbgfnfiaaGreatDoorTUniH
import Derived.Test.YtbfikenbgfnfiaaGreatDoorTUniD
import Derived.Test.YtbfikenbgfnfiaaGreatDoorTUniK
import Derived.ChangeKeysEq
import Derived.Test.YtbfikenbgfnfiaaGreatDoorMProJ
namespace Go.Proofs.YtbfikenbgfnfiaaGreatDoor
set_option maxHeartbeats 32000000
open _root_.Go.Proofs.Tryz

section
open Go.RowKit
def Am.val (a:Am):Value:=.agg #[.int .i64 a.ch,.int .i64 a.at_,.string a.lev]
def hitA (ch at_:Int) (a:Am):Bool:=decide (a.ch=ch) && decide (a.at_=at_)
theorem q03l {l:List Am} {ch at_ ho:Int}:(idxOf (hitA ch at_) l<0→toldT l ch at_ ho=sR (ho:Rat))∧∀ k:Nat,idxOf (hitA ch at_) l=k→∃ hk:k<l.length,toldT l ch at_ ho=l[k].lev:=by
 have none_:∀ {l:List Am},idxOf (hitA ch at_) l<0→∀ i (h:i<l.length),hitA ch at_ l[i]=false:=by
  intro l h i hi
  cases hp:hitA ch at_ l[i] with
  | false=>rfl
  | true=>exact absurd h (q012 (List.getElem_mem hi) hp)
 refine ⟨fun h=>qsk (fun i hi=>none_ h i hi),fun k hk=>?_⟩
 have hlt:=qbb (p:=hitA ch at_) l
 have hkl:k<l.length:=by omega
 refine ⟨hkl,qsn hkl (fun i hi hik=>?_) (qba hkl hk)⟩
 have h2:idxOf (hitA ch at_) (l.take k)<0:=by
  refine Classical.byContradiction fun hn=>?_
  have hge:=qb9 (p:=hitA ch at_) (l.take k)
  have hlt2:=qbb (p:=hitA ch at_) (l.take k)
  obtain ⟨q,hq⟩:∃ q:Nat,idxOf (hitA ch at_) (l.take k)=q:=⟨(idxOf (hitA ch at_) (l.take k)).toNat,by omega⟩
  have hql:q<(l.take k).length:=by omega
  have hit:=qba hql hq;have hqk:q<k:=by rw [List.length_take] at hql;omega
  rw [List.getElem_take] at hit;have key:∀ {l:List Am} {k:Nat},idxOf (hitA ch at_) l=k→∀ i (h:i<l.length),i<k→hitA ch at_ l[i]=false:=by
   intro l
   induction l with
   | nil=>intro k _ i h;exact absurd h (Nat.not_lt_zero _)
   | cons a l ih =>
    intro k h i hi hik;rw [idxOf] at h
    cases ha:hitA ch at_ a with
    | true=>rw [ha,if_pos rfl] at h;omega
    | false =>
     rw [ha,if_neg Bool.false_ne_true] at h
     match i,hi with
     | 0,_=>exact ha
     | i+1,hi =>
      by_cases h2:idxOf (hitA ch at_) l<0
      ·rw [if_pos h2] at h;omega
      ·rw [if_neg h2] at h
       obtain ⟨m,hm⟩:∃ m:Nat,idxOf (hitA ch at_) l=m:=⟨(idxOf (hitA ch at_) l).toNat,by omega⟩
       exact ih hm i (by simpa using hi) (by omega)
  rw [key hk q (by omega) hqk] at hit
  cases hit
 have:=none_ h2 i (by rw [List.length_take];omega)
 rwa [List.getElem_take] at this
set_option maxRecDepth 100000 in
theorem q03a (g:Nat) (cb:Array Value) (p:Am→Bool) (A:Option Addr) (n c:Nat) (l:List Am) (w:World) (eg:∀ args w,(callFunc g args).run prog w=.ok (.enter g args) w) (hl:shAm.In w A n l) (hn:n≤9223372036854775807)
  (hf:∀ i (h:i<l.length) (W:World),Below w.heap.size w W→Calls prog g (#[l[i].val] ++ cb) W fun e w'=>e=.returned (.bool (p l[i]))∧Below W.heap.size W w') :
  Calls prog 43 #[.slice A n c,.func (.func g) #[] cb] w fun e w'=>e=.returned (.int .i64 (idxOf p l))∧Below w.heap.size w w':=by
 obtain ⟨rfl,_⟩:=id hl;have HL:=Lib.hid hl;have HF:=Lib.hid hf;have hB:=Below.refl w.heap.size w;obtain ⟨E,hE⟩:∃ E,E=idxOf p l:=⟨_,rfl⟩;rw [← hE];have HE:=Lib.hid hE;clear hl hf hE
 go_enter func43,ntmps43
 go_wp2_with fail
 go_loopw [8] (fun iv wr=>∃ k:Nat,k≤l.length∧iv=.int .i64 k∧(∀ j (h:j<l.length),j<k→p l[j]=false)∧Below w.heap.size w wr) (fun iv _=>l.length-(intOf iv).toNat)
 case atStart=>exact ⟨0,Nat.zero_le _,rfl,fun j _ h=>absurd h (Nat.not_lt_zero _),Below.refl _ _⟩
 case round =>
  obtain ⟨k,hk,rfl,hall,hBr⟩:=hrel;have HAll:=Lib.hid hall;clear hall
  by_cases hlt:k<l.length
  ·obtain ⟨b,o,rfl,hbl,hcell⟩:=am_at HL.out (by omega)
   have hk2:=hcell k hlt;have kk:=fun (q:Nat)=>hBr.cell (p:=⟨b,q,none⟩) hbl
   have hbw:b<wr.heap.size:=Nat.lt_of_lt_of_le hbl hBr.size;have hc:=HF.out k hlt wr hBr;have HY:=Lib.hid (show p l[k]=true→E=k from fun h=>HE.out.trans (qbd hlt (fun i hi=>HAll.out i (by omega) hi) h))
   have HN:=Lib.hid (show p l[k]=false→∀ j (h:j<l.length),j<k+1→p l[j]=false from fun h j hj hjk=>by
    rcases Nat.lt_or_eq_of_le (Nat.le_of_lt_succ hjk) with h1 | h1
    ·exact HAll.out j hj h1
    ·subst h1;exact h)
   clear hcell;have i0:(0:Int)≤(k:Int):=by omega
   have i1:(k:Int)<(l.length:Int):=by omega
   have HBr:=Lib.hid hBr;clear hBr;generalize l[k]=f at *;generalize hpf:p f=pf at *;obtain ⟨ch,at_,lev⟩:=f
   obtain ⟨k0,k1,k2⟩:=hk2;have p0:=(kk _).trans k0;have p1:=(kk _).trans k1;have p2:=(kk _).trans k2;clear k0 k1 k2 kk hpf;dsimp only at p0 p1 p2
   cases pf with
   | true =>
    have hee:E=k:=HY.out rfl;subst hee;go_wp2_with (go_at_fn g;refine hc.mono ?_;rintro e w' ⟨rfl,hb⟩;have hB:=HBr.out.trans (hb.mono HBr.out.size));go_ret;exact ⟨rfl,hB⟩
   | false =>
    have HN1:=Lib.hid (HN.out rfl);go_wp2_with (go_at_fn g;refine hc.mono ?_;rintro e w' ⟨rfl,hb⟩;have hB:=HBr.out.trans (hb.mono HBr.out.size))
    go_roundw
    case rel=>exact ⟨k+1,by omega,by go_num,HN1.out,hB⟩
    case measure=>simp [intOf];omega
  ·obtain rfl:k=l.length:=by omega
   have hE0:E=-1:=HE.out.trans (qbc fun i h=>HAll.out i h h)
   subst hE0;go_wp2_with fail;go_ret;exact ⟨rfl,hBr⟩
set_option maxRecDepth 100000 in
theorem q03k (a:Am) (Px Pf:Nat) (ch at_:Int) (w:World) (hx:w.cell? ⟨Px,0,none⟩=some (.int .i64 ch)) (hf:w.cell? ⟨Pf,0,none⟩=some (.int .i64 at_)) (bx:Px<w.heap.size) (bf:Pf<w.heap.size) :
  Calls prog 44 #[a.val,.pointer (some ⟨Px,0,none⟩),.pointer (some ⟨Pf,0,none⟩)] w fun e w'=>e=.returned (.bool (hitA ch at_ a))∧Below w.heap.size w w':=by
 have hq:hitA ch at_ a=(decide (a.ch=ch) && decide (a.at_=at_)):=rfl
 rw [hq];obtain ⟨ac,aa,lev⟩:=a;show Calls prog 44 #[.agg #[.int .i64 ac,.int .i64 aa,.string lev],.pointer (some ⟨Px,0,none⟩),.pointer (some ⟨Pf,0,none⟩)] w fun e w'=>e=.returned (.bool (decide (ac=ch) && decide (aa=at_)))∧Below w.heap.size w w'
 have m1:¬ Px=w.heap.size:=by omega
 have m2:¬ Pf=w.heap.size:=by omega
 clear hq
 by_cases h1:ac=ch
 ·have e1:(ac == ch)=true:=by simpa using h1
  rw [decide_eq_true h1]
  by_cases h2:aa=at_
  ·have e2:(aa == at_)=true:=by simpa using h2
   rw [decide_eq_true h2];clear h1 h2
   go_enter func44,ntmps44
   go_wp2_with fail;go_ret;exact ⟨rfl,by (repeat' first | exact Below.refl _ _ | assumption | apply Below.drew | apply q18 | refine Below.alloc ?_ ?_ _ | refine Below.setCell ?_ ?_ _ | refine Below.trans ?_ (Below.mono ‹_› ?_) | omega | (simp;omega) | simp)⟩
  ·have e2:(aa == at_)=false:=by simpa using h2
   rw [decide_eq_false h2];clear h1 h2
   go_enter func44,ntmps44
   go_wp2_with fail;go_ret;exact ⟨rfl,by (repeat' first | exact Below.refl _ _ | assumption | apply Below.drew | apply q18 | refine Below.alloc ?_ ?_ _ | refine Below.setCell ?_ ?_ _ | refine Below.trans ?_ (Below.mono ‹_› ?_) | omega | (simp;omega) | simp)⟩
 ·have e1:(ac == ch)=false:=by simpa using h1
  rw [decide_eq_false h1,Bool.false_and];clear h1
  go_enter func44,ntmps44
  go_wp2_with fail;go_ret;exact ⟨rfl,by (repeat' first | exact Below.refl _ _ | assumption | apply Below.drew | apply q18 | refine Below.alloc ?_ ?_ _ | refine Below.setCell ?_ ?_ _ | refine Below.trans ?_ (Below.mono ‹_› ?_) | omega | (simp;omega) | simp)⟩
theorem eq_two (a b:Int × Int) (w:World):(Op.equal 98 (pK a) (pK b)).run prog w=.ok (decide (a=b)) w:=by
 obtain ⟨a1,a2⟩:=a;obtain ⟨b1,b2⟩:=b;obtain ⟨i,hi⟩:=Option.isSome_iff_exists.1 (show (prog.info? 3).isSome=true by kernel_rfl)
 have p0:∀ (x y:Int) w,(part 3 #[.int .i64 x,.int .i64 y] 0).run prog w=.ok (.int .i64 x) w:=fun x y w=>by kernel_rfl
 have p1:∀ (x y:Int) w,(part 3 #[.int .i64 x,.int .i64 y] 1).run prog w=.ok (.int .i64 y) w:=fun x y w=>by kernel_rfl
 have hu:=underlying3;show (Op.equalIn (9999+1) 98 (.agg #[.int .i64 a1,.int .i64 a2]) (.agg #[.int .i64 b1,.int .i64 b2])).run prog w=_
 rw [run_equalIn_array w 9999 _ _ underlying98 hi,show prog.cellsOf 3=1 by kernel_rfl]
 have e:∀ (d:Nat) (x y:Int) w,(Op.equalIn (d+1) 3 (.int .i64 x) (.int .i64 y)).run prog w=.ok (x == y) w:=fun d x y w=>by
  simp [Op.equalIn,run_underlying hu]
 have e9:∀ (x y:Int) w,(Op.equalIn 9999 3 (.int .i64 x) (.int .i64 y)).run prog w=.ok (x == y) w:=fun x y w=>e 9998 x y w
 rw [show List.range 2=[0,1] from rfl]
 generalize hd:9999=d at *;clear e hd hi hu
 by_cases h1:a1=b1
 ·subst h1
  by_cases h2:a2=b2
  ·subst h2
   simp [Op.eqItems,Sem.run_bind,p0,p1,e9,Result.andThen]
  ·simp [Op.eqItems,Sem.run_bind,p0,p1,e9,Result.andThen,h2]
 ·simp [Op.eqItems,Sem.run_bind,p0,e9,Result.andThen,h1]
theorem kTwo:KeyTy prog 98 pK:=KeyTy.of_eq (by rw [underlying98]) (fun a e w=>by kernel_rfl) eq_two
end

section
open Go.RowKit
abbrev KL:=List ((Int × Int) × Value)
theorem q03g {κ:Type} [DecidableEq κ] {l:List (κ × Value)} {k:κ} (h:∀ e ∈ l,e.1≠k):lookL l k=none:=by
 unfold lookL
 suffices key:∀ i,findL l k i=none by rw [key];rfl
 induction l with
 | nil=>intro i;rfl
 | cons e l ih =>
  intro i;obtain ⟨a,v⟩:=e;rw [findL,if_neg (fun e=>h _ (List.mem_cons_self ..) e.symm)]
  exact ih (fun e he=>h e (List.mem_cons_of_mem _ he)) (i+1)
def knF (x:Fx) (f:Fea) (raw:Int):KL:=if f.bits=16 then [((x.un,x.ad+f.co),.int .i64 (raw / 256)),((x.un,x.ad+f.fi),.int .i64 (raw % 256))] else [((x.un,x.ad+f.co),.int .i64 raw)]
def knX (L:List (List PT)) (l:List Am) (x:Fx) (F:List Fea):KL:=F.flatMap fun f=>knF x f (rawF L l x.ch f)
def knA (L:List (List PT)) (l:List Am) (PL:List (PC × List Fea)) (X:List Fx):KL:=X.flatMap fun x=>knX L l x (featV PL x.pr)
theorem q03d (L:List (List PT)) (l:List Am) (x:Fx) (F:List Fea) (f:Fea):knX L l x (F ++ [f])=knX L l x F ++ knF x f (rawF L l x.ch f):=by unfold knX;rw [List.flatMap_append];simp
theorem q03b (L:List (List PT)) (l:List Am) (PL:List (PC × List Fea)) (X:List Fx) (x:Fx):knA L l PL (X ++ [x])=knA L l PL X ++ knX L l x (featV PL x.pr):=by unfold knA;rw [List.flatMap_append];simp
theorem q03c {x:Fx} {f:Fea} {raw:Int} {e:(Int × Int) × Value} (h:e ∈ knF x f raw):e.1=(x.un,x.ad+f.co)∨f.bits=16∧e.1=(x.un,x.ad+f.fi):=by
 unfold knF at h
 by_cases h16:f.bits=16
 ·rw [if_pos h16] at h
  rcases List.mem_cons.1 h with rfl | h
  ·exact .inl rfl
  ·rcases List.mem_cons.1 h with rfl | h
   ·exact .inr ⟨h16,rfl⟩
   ·cases h
 ·rw [if_neg h16] at h
  rcases List.mem_cons.1 h with rfl | h
  ·exact .inl rfl
  ·cases h
theorem kn_new {L:List (List PT)} {l:List Am} {PL:List (PC × List Fea)} {X:List Fx} (h:RigOK L PL X) {k:Nat} (hk:k<X.length) {j:Nat} (hj:j<(featV PL X[k].pr).length) {o:Int}
  (ho:o=(featV PL X[k].pr)[j].co∨(featV PL X[k].pr)[j].bits=16∧o=(featV PL X[k].pr)[j].fi) :
  lookL (knA L l PL (X.take k) ++ knX L l X[k] ((featV PL X[k].pr).take j)) (X[k].un,X[k].ad+o)=none:=by
 have hx:=List.getElem_mem hk;have hf:=List.getElem_mem hj;obtain ⟨hx1,hx2⟩:=h.fitX _ hx;obtain ⟨f1,f2,f3⟩:=hx2 _ hf;refine q03g fun e he hq=>?_
 rcases List.mem_append.1 he with he | he
 ·unfold knA at he
  obtain ⟨y,hy,he⟩:=List.mem_flatMap.1 he;unfold knX at he;obtain ⟨g,hg,he⟩:=List.mem_flatMap.1 he;obtain ⟨i,hi,rfl⟩:=List.getElem_of_mem hy;rw [List.length_take] at hi;rw [List.getElem_take] at hg he;have hov:=List.pairwise_iff_getElem.1 h.over i k (by omega) hk (by omega)
  obtain ⟨hy1,hy2⟩:=h.fitX X[i] (List.getElem_mem (by omega))
  obtain ⟨g1,g2,g3⟩:=hy2 g hg;unfold overB at hov;rw [Bool.and_eq_false_iff,Bool.and_eq_false_iff,decide_eq_false_iff_not,decide_eq_false_iff_not,decide_eq_false_iff_not] at hov
  rcases q03c he with e1 | ⟨h16,e1⟩
  ·rw [e1] at hq
   injection hq with q1 q2
   rcases ho with rfl | ⟨ho,rfl⟩
   ·omega
   ·have:=f3 ho;omega
  ·rw [e1] at hq
   injection hq with q1 q2
   have:=g3 h16
   rcases ho with rfl | ⟨ho,rfl⟩
   ·omega
   ·have:=f3 ho;omega
 ·unfold knX at he
  obtain ⟨g,hg,he⟩:=List.mem_flatMap.1 he;obtain ⟨i,hi,rfl⟩:=List.getElem_of_mem hg;rw [List.length_take] at hi;rw [List.getElem_take] at he;obtain ⟨a1,a2,a3⟩:=List.pairwise_iff_getElem.1 (h.apart _ hx) i j (by omega) hj (by omega)
  rcases q03c he with e1 | ⟨h16,e1⟩
  ·rw [e1] at hq
   injection hq with q1 q2
   rcases ho with rfl | ⟨ho,rfl⟩
   ·omega
   ·have:=a3 ho;omega
  ·rw [e1] at hq
   injection hq with q1 q2
   rcases ho with rfl | ⟨ho,rfl⟩
   ·have:=a2 h16;omega
   ·have:=(a3 ho).2 h16;omega
theorem q03e {K:KL} {x:Fx} {f:Fea} {v:Value} (h:lookL K (x.un,x.ad+f.fi)=none) (hne:f.fi≠f.co):lookL (K ++ [((x.un,x.ad+f.co),v)]) (x.un,x.ad+f.fi)=none:=by
 rw [qd4,h,if_neg (fun e=>by injection e with _ e;omega)]
 rfl
def KnS (K:KL) (pg:Int→List UInt8):Prop:=∀ (u:Int) (i:Nat),i<512→(lookL K (u,(i:Int)+1)).getD (.int .i64 0)=.int .i64 (((pg u).getD i 0).toNat:Int)
theorem KnS.congr {K:KL} {pg pg':Int→List UInt8} (h:KnS K pg) (e:∀ u,pg' u=pg u):KnS K pg':=fun u i hi=>by rw [e];exact h u i hi
theorem KnS.put {K:KL} {pg:Int→List UInt8} (h:KnS K pg) {un p q v:Int} (hp:0≤p∧p<512) (hq:q=p+1) (hn:lookL K (un,q)=none) (hv:0≤v∧v≤255) (hl:(pg un).length=512):KnS (K ++ [((un,q),.int .i64 v)]) (fun u=>if u=un then (pg un).set p.toNat (u8v v) else pg u):=by
 intro u i hi;show (lookL (K ++ [((un,q),.int .i64 v)]) (u,(i:Int)+1)).getD (.int .i64 0)=.int .i64 (((if u=un then (pg un).set p.toNat (u8v v) else pg u).getD i 0).toNat:Int)
 rw [qd4]
 by_cases hu:u=un
 ·subst hu
  by_cases he:(i:Int)+1=q
  ·rw [he,hn,if_pos rfl]
   have e2:p.toNat=i:=by omega
   show Value.int .i64 v=_
   rw [if_pos rfl,e2,List.getD_eq_getElem?_getD,List.getElem?_set,if_pos rfl,if_pos (by omega)]
   show _=Value.int .i64 ((u8v v).toNat:Int)
   rw [qtj hv.1 hv.2]
  ·rw [if_neg (fun e=>by injection e with _ e;exact he e),Option.or_none,h u i hi]
   rw [if_pos rfl,List.getD_eq_getElem?_getD,List.getD_eq_getElem?_getD,List.getElem?_set,if_neg (by omega)]
 ·rw [if_neg (fun e=>by injection e with e _;exact hu e),Option.or_none,h u i hi,if_neg hu]
theorem KnS.feat {K:KL} {pg:Int→List UInt8} (h:KnS K pg) {x:Fx} {f:Fea} (hf:FitF x.ad f) {raw:Int} (h0:0≤raw) (h1:raw≤topV f.bits) (hl:(pg x.un).length=512) (n1:lookL K (x.un,x.ad+f.co)=none) (n2:f.bits=16→lookL K (x.un,x.ad+f.fi)=none) :
  KnS (K ++ knF x f raw) (fun u=>if u=x.un then setF (pg x.un) x.ad f raw else pg u):=by
 obtain ⟨b,c1,c2,c3⟩:=hf;unfold knF setF topV at *
 by_cases h8:f.bits=8
 ·rw [if_pos h8] at h1
  rw [if_neg (by omega),if_pos h8]
  exact h.put (p:=x.ad-1+f.co) ⟨c1,c2⟩ (by omega) n1 ⟨h0,h1⟩ hl
 ·have h16:f.bits=16:=by omega
  obtain ⟨d1,d2,d3⟩:=c3 h16;rw [if_neg h8] at h1;rw [if_pos h16,if_neg h8];have s1:=h.put (p:=x.ad-1+f.co) (q:=x.ad+f.co) (v:=raw / 256) ⟨c1,c2⟩ (by omega) n1 (by omega) hl
  have s2:=s1.put (un:=x.un) (p:=x.ad-1+f.fi) (q:=x.ad+f.fi) (v:=raw % 256) ⟨d1,d2⟩ (by omega) (q03e (n2 h16) d3) (by omega) (by rw [if_pos rfl,List.length_set];exact hl)
  rw [List.append_assoc] at s2;refine s2.congr fun u=>?_
  by_cases hu:u=x.un
  ·subst hu;rw [if_pos rfl,if_pos rfl,if_pos rfl]
  ·rw [if_neg hu,if_neg hu,if_neg hu]
theorem q03f {L:List (List PT)} {l:List Am} {PL:List (PC × List Fea)} {X:List Fx} (h:RigOK L PL X):KnS (knA L l PL X) (pageV L l PL X):=by
 have key:∀ k,k≤X.length→KnS (knA L l PL (X.take k)) (pageV L l PL (X.take k)):=by
  intro k
  induction k with
  | zero =>
   intro _ u i hi;show Value.int .i64 0=_
   have:pageV L l PL (X.take 0) u=q00p:=rfl
   rw [this,q01f]
   rfl
  | succ k ih =>
   intro hk;have hk':k<X.length:=hk;have hS:=ih (by omega)
   have hx:=List.getElem_mem hk';have inner:∀ j,j≤(featV PL X[k].pr).length→KnS (knA L l PL (X.take k) ++ knX L l X[k] ((featV PL X[k].pr).take j)) (fun u=>if u=X[k].un then setX L l X[k] (pageV L l PL (X.take k) X[k].un) ((featV PL X[k].pr).take j) else pageV L l PL (X.take k) u):=by
    intro j
    induction j with
    | zero =>
     intro _;have e:knX L l X[k] ((featV PL X[k].pr).take 0)=[]:=rfl;rw [e,List.append_nil];refine hS.congr fun u=>?_
     by_cases hu:u=X[k].un
     ·subst hu;rw [if_pos rfl];rfl
     ·rw [if_neg hu]
    | succ j ih2 =>
     intro hj;have hj':j<(featV PL X[k].pr).length:=hj;have hf:=List.getElem_mem hj';rw [List.take_succ_eq_append_getElem hj',q03d,qpi,← List.append_assoc];have hr:=raw_in (l:=l) (ch:=X[k].ch) (h.alone _ hx _ hf);have s:=(ih2 (by omega)).feat (h.fit _ hx _ hf) hr.1 hr.2 (by rw [if_pos rfl,qph];exact qg7 _ _ _ _ _) (kn_new h hk' hj' (.inl rfl)) (fun h16=>kn_new h hk' hj' (.inr ⟨h16,rfl⟩))
     refine s.congr fun u=>?_
     by_cases hu:u=X[k].un
     ·subst hu;rw [if_pos rfl,if_pos rfl,if_pos rfl]
     ·rw [if_neg hu,if_neg hu,if_neg hu]
   have hI:=inner _ (Nat.le_refl _);rw [List.take_length] at hI;rw [List.take_succ_eq_append_getElem hk',q03b];refine hI.congr fun u=>?_
   rw [qg9]
   by_cases hu:u=X[k].un
   ·subst hu;rw [if_pos rfl]
   ·rw [if_neg hu,if_neg (fun e=>hu e.symm)]
 have:=key X.length (Nat.le_refl _)
 rwa [List.take_length] at this
end

end Go.Proofs.YtbfikenbgfnfiaaGreatDoor
