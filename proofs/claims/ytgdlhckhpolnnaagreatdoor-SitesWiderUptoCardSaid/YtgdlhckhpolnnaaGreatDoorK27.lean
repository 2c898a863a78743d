/- Part 28 of the proof (its last part says what is proved). No condition. -/
import Derived.Shelf.Small.Strs
import Derived.Shelf.Small.Wraps
import Derived.Shelf.Strings.Shaped
import Derived.Shelf.Strings.SplitShaped
import Derived.Shelf.Unicode.DecodeSlow
import Derived.Shelf.Strings.FieldsFuncAny
import Derived.Shelf.Slices.Turned
import Derived.Shelf.Slices.SearchI
import Derived.Shelf.Slices.Cells
import Derived.Shelf.Slices.In.SortNone
import Derived.Shelf.Slices.Empties2
import Derived.Test.YtgdlhckhpolnnaaGreatDoorK26
namespace Go.Proofs.YtgdlhckhpolnnaaGreatDoor
set_option maxRecDepth 100000
set_option maxHeartbeats 8000000
open Go.RowKit Go.Proofs.Tryz
section
namespace Q
section
variable {C:Cx} {T:VT} {H:List HO} {Q:VQ} {c:Code}
theorem qiQ (t:Nat)(e:TypeId)(k bw:Nat)(J:Oo T t=some (.s (.slice none 0 0)))(h:VW C c Q ((t,.row k bw [] (some H.length))::T) (H++[.tok e k 0])):VW C c Q T H:=⟨fun g a w j=>by
 obtain⟨g1,I,r1,v1⟩:=qdx (e:=e) (k:=k) j.hr;refine h.out g1 a w ⟨j.le.trans I,fun u y hy=>?_,r1,j.defers,j.size,j.nil⟩;simp only[Oo] at hy;split at hy
 ·rename_i e;subst e;cases hy
  obtain⟨v,h1,o⟩:=j.tmps t _ J;cases o.of_s;exact⟨_,h1,v1 bw⟩
 obtain⟨v,h1,o⟩:=j.tmps u y hy;exact⟨v,h1,o.le I⟩⟩
theorem qit (t:Nat){k bw:Nat}{es:List (List V)}{tok:Option Nat}(o:Oo T t=some (.row k bw es tok))(h:VW C c Q ((t,.row k bw es none)::T) H):VW C c Q T H:=⟨fun g a w j=>by
 refine h.out g a w ⟨j.le,fun u y hy=>?_,j.hr,j.defers,j.size,j.nil⟩;simp only[Oo] at hy;split at hy
 ·rename_i e;subst e;cases hy;obtain⟨v,h1,I⟩:=j.tmps t _ o;refine⟨v,h1,?_⟩;cases I with
  |row _ _ _ _ a c f J R Y k4 k5 k6 _=>exact .row _ _ _ _ a c f J R Y k4 k5 k6 nofun
 exact j.tmps u y hy⟩
end
theorem r6 {l j:List qaI}(h:l=j){o:Option Nat}:some (V.row 5 40 (l.map qaB) o)=some (.row 5 40 (j.map qaB) o):=by rw[h]
theorem qbV (N:Nat)(l:List qaI):∀e∈l.map qaB,∀c∈e,Lt N c:=fun e he=>by obtain⟨s,_,rfl⟩:=dr.1 he;simp[LT,qaB]
theorem qgA {N j:Nat}{l:List qaI}(h:j<N):Lt N (.row 5 40 (l.map qaB) (some j)):=.row _ _ _ _ (qbV N l) fun t e=>by cases e;exact h
theorem wN {α:Type}{M:List (List α)}{k:Nat}{L:List α}(h:M[k]? =some L):(M.take k).flatten.length+L.length≤M.flatten.length:=by have e:=congrArg List.length (congrArg List.flatten (List.take_append_drop (k+1) M));rw[List.flatten_append,vd h] at e;simp only[iQ] at e;omega
theorem qjE {α β:Type}(f:α→β)(u v:List α):(u++v).map f=u.map f++v.map f:=ic
structure qes (c:aE)(b:aw):Prop where
 ref:∀x∈b.Ng.flatten,x.kind=5→0≤x.ref∧x.ref<c.Nd.length
 two:∀x∈b.Ng.flatten,x.kind=2→x.args.length=2
 mem:∀x∈b.Ng.flatten,x.kind=4∨x.kind=6→0<x.args.length∧0≤x.ref∧x.ref<c.Nd.length
abbrev qaL (p:aH)(c:aE):Prop:=bJ p c∧jH c
open Classical in
noncomputable def qdH (p:aH)(c:aE):V:=if qaL p c then .tup [.row 5 40 ((qaw c).map qaB) none,.s (.int .i64 0)] else .tup [.s (.slice none 0 0),.s (.int .i64 1)]
theorem qdI (p:aH)(c:aE)(hI:qaZ p c)(hS:qaL p c→∀b∈c.Nf,qes c b)(J:qaL p c→(qaw c).length*40≤140737488355328):VFL gz prog 8 [.agg (qaY p),.agg (qax c)] (·=qdH p c):=by
 refine qbW [4,5] func8 rfl Tryz.results8 ntmps8 rfl fun g w hL hk=>?_;refine st ?_;refine qiT (fun g' w' vs hl hh hv=>qhv hI (hL.keep (hk g' w' hl)) hh hv) ?_;refine st ?_;by_cases hr:qaL p c
 case neg=>
  refine qcg (fun h=>?_) fun h=>?_;·refine st ?_;refine qar ⟨.inl rfl,_,_,rfl,yc.cons (.lt _ (.s _)) (yc.cons (.lt _ (.s _)) yc.nil),?_⟩;unfold qdH;rw[ae hr];rfl
  exact absurd (by simpa [pB] using h) hr
 refine qcg (fun h=>?_) fun h=>?_;·exact absurd hr (by simpa [pB] using h)
 refine st ?_;refine qiQ 6 47 5 40 rfl ?_;have b0:c.Nf.length≤1048576:=hI.csm.Nf;refine qbf (fun k=>k≤c.Nf.length) (fun k=>c.Nf.length-k) (fun k=>[(23,.s (.int .i64 k)),(22,.s (.int .i64 c.Nf.length)),(21,.row 3 40 (c.Nf.map qaH) none),(6,.row 5 40 (((qas c).take k).flatten.map qaB) (some 2)),(3,.ptr 1 0)]) (fun k=>[.cells 26 (qaY p),.cells 30 (qax c),.tok 47 5 (((qas c).take k).flatten.map qaB).length]) 0 (Nat.zero_le _) ⟨rfl,rfl,rfl,rfl,rfl,trivial⟩ (.inl rfl) ?_;intro k hk;refine st ?_;refine qbu (fun h=>?_) fun h=>?_
 case refine_2=>(refine qbe (qit 6 rfl (st ?_));refine qbM (qhV ((qas c).take k).flatten) ?_ (hl:=xz (.row _ _ _ _ (qbV 0 _) nofun) ik);refine st ?_;refine qar ⟨.inl rfl,_,_,rfl,yc.cons (.row _ _ _ _ (qbV 0 _)) (yc.cons (.lt _ (.s _)) yc.nil),?_⟩;unfold qdH;rw[ap hr,oF (by simp[qas];omega)];rfl)
 obtain⟨b,hx⟩:=eG h;have o:=mG hx;have b1:=hI.csm.Ng b o;have R:=hI.csm.ops b o;have Y:(qas c)[k]? =some (qav c k b).flatten:=by simp[qas,hx]
 refine st ?_;refine qbM (qgl b (by omega) fun l hl=>by have:=R l hl;omega) ?_ (hl:=xz (.agg _ (qbg 0 b)) ik);refine st ?_;refine qbf (fun i=>i≤b.Ng.length) (fun i=>b.Ng.length-i) (fun i=>[(33,.s (.int .i64 i)),(32,.s (.int .i64 b.Ng.length)),(31,.row 1 24 (b.Ng.map fun l=>[qcz l]) none),(9,.rmap (.int .i64) (qaM b.Ng.flatten)),(7,.s (.int .i64 k)),(23,.s (.int .i64 k)),(22,.s (.int .i64 c.Nf.length)),(21,.row 3 40 (c.Nf.map qaH) none),(6,.row 5 40 ((((qas c).take k).flatten++((qav c k b).take i).flatten).map qaB) (some 2)),(3,.ptr 1 0)]) (fun i=>[.cells 26 (qaY p),.cells 30 (qax c),.tok 47 5 ((((qas c).take k).flatten++((qav c k b).take i).flatten).map qaB).length,.cells 42 (qaH b)]) 0 (Nat.zero_le _) ⟨rfl,rfl,rfl,rfl,rfl,rfl,rfl,rfl,r6 (by simp),rfl,trivial⟩ (.inl (by simp)) ?_;intro i hi;refine st ?_;refine qbu (fun h=>?_) fun h=>?_
 case refine_2=>
  refine qbe (st ?_);have e:((qas c).take k).flatten++((qav c k b).take i).flatten=((qas c).take (k+1)).flatten:=by rw[vd Y,oF (l:=qav c k b) (by simp[qav];omega)]
  exact⟨k+1,by omega,by omega,⟨rfl,rfl,rfl,r6 e,rfl,trivial⟩,.inr ⟨_,by rw[e];rfl,Nat.zero_le _,xz (.s _) (xz (.s _) (xz (qaA _ c _ (by simp)) (xz (qgA (by simp)) (xz (.ptr _ _ (by simp)) ik)))),xz (qaN _ p) (xz (qaA _ c) (xz trivial ik))⟩⟩
 obtain⟨l,hy⟩:=eG h;have a1:=mG hy;have b2:=R l a1;have a6:(qav c k b)[i]? =some (qaE c b k i l).flatten:=by simp[qav,hy]
 refine st ?_;refine qbf (fun j=>j≤l.length) (fun j=>l.length-j) (fun j=>[(40,.s (.int .i64 j)),(39,.s (.int .i64 l.length)),(38,qcz l),(10,.s (.int .i64 i)),(33,.s (.int .i64 i)),(32,.s (.int .i64 b.Ng.length)),(31,.row 1 24 (b.Ng.map fun l=>[qcz l]) none),(9,.rmap (.int .i64) (qaM b.Ng.flatten)),(7,.s (.int .i64 k)),(23,.s (.int .i64 k)),(22,.s (.int .i64 c.Nf.length)),(21,.row 3 40 (c.Nf.map qaH) none),(6,.row 5 40 ((((qas c).take k).flatten++((qav c k b).take i).flatten++((qaE c b k i l).take j).flatten).map qaB) (some 2)),(3,.ptr 1 0)]) (fun j=>[.cells 26 (qaY p),.cells 30 (qax c),.tok 47 5 ((((qas c).take k).flatten++((qav c k b).take i).flatten++((qaE c b k i l).take j).flatten).map qaB).length,.cells 42 (qaH b)]) 0 (Nat.zero_le _) ⟨rfl,rfl,rfl,rfl,rfl,rfl,rfl,rfl,rfl,rfl,rfl,rfl,r6 (by simp),rfl,trivial⟩ (.inl (by simp)) ?_;intro j hj;refine st ?_;refine qbu (fun h=>?_) fun h=>?_
 case refine_2=>
  refine qbe (st ?_);have e:((qas c).take k).flatten++((qav c k b).take i).flatten++((qaE c b k i l).take j).flatten=((qas c).take k).flatten++((qav c k b).take (i+1)).flatten:=by rw[vd a6,oF (l:=qaE c b k i l) (by simp[qaE];omega),jM]
  exact⟨i+1,by omega,by omega,⟨rfl,rfl,rfl,rfl,rfl,rfl,rfl,rfl,r6 e,rfl,trivial⟩,.inl (by rw[e])⟩
 obtain⟨x,hz⟩:=eG h;have a7:x∈b.Ng.flatten:=List.mem_flatten.2 ⟨l,a1,mG hz⟩;have I:(qaE c b k i l)[j]? =some (qbC c b k i j x):=by simp[qaE,hz]
 have hs:=hS hr b o;refine st ?_;refine qbM (qio c b x hs.ref (hs.two x a7) (hs.mem x a7)) ?_ (hl:=xz (.agg _ (qaA 0 c)) (xz (.rmap _ _ (qbA 0 _)) (xz (.agg _ (by simp[LT,Oe])) ik)));refine st ?_;have a8:∀(l':List qaI),∀y∈[(40,V.s (.int .i64 (j+1:Nat))),(39,.s (.int .i64 l.length)),(38,qcz l),(10,.s (.int .i64 i)),(33,.s (.int .i64 i)),(32,.s (.int .i64 b.Ng.length)),(31,.row 1 24 (b.Ng.map fun l=>[qcz l]) none),(9,.rmap (.int .i64) (qaM b.Ng.flatten)),(7,.s (.int .i64 k)),(23,.s (.int .i64 k)),(22,.s (.int .i64 c.Nf.length)),(21,.row 3 40 (c.Nf.map qaH) none),(6,.row 5 40 (l'.map qaB) (some 2)),(3,.ptr 1 0)],Lt 4 y.2:=fun l'=>
  xz (.s _) (xz (.s _) (xz (by simp[LT,Oe]) (xz (.s _) (xz (.s _) (xz (.s _) (xz (qbg 4 b _ (by simp[qaH])) (xz (.rmap _ _ (qbA _ _)) (xz (.s _) (xz (.s _) (xz (.s _) (xz (qaA 4 c _ (by simp)) (xz (qgA (by omega)) (xz (.ptr _ _ (by omega)) ik)))))))))))))
 refine qcg (fun h6=>?_) fun h6=>?_
 ·have e1:qbC c b k i j x=[⟨k,i,j,(qau c b x).1,(qau c b x).2⟩]:=by unfold qbC;rw[ae (by simpa using h6)]
  have e:((qas c).take k).flatten++((qav c k b).take i).flatten++((qaE c b k i l).take (j+1)).flatten=(((qas c).take k).flatten++((qav c k b).take i).flatten++((qaE c b k i l).take j).flatten)++[⟨k,i,j,(qau c b x).1,(qau c b x).2⟩]:=by rw[vd I,e1,←jM]
  have em:=congrArg (List.map qaB) e;rw[qjE _ (((qas c).take k).flatten++((qav c k b).take i).flatten++((qaE c b k i l).take j).flatten)] at em;have hn:(((qas c).take k).flatten++((qav c k b).take i).flatten++((qaE c b k i l).take j).flatten).length+1≤(qaw c).length:=by have k1:=wN Y;have k2:=wN a6;have k3:=wN I;rw[e1] at k3;simp only[iQ,kI,List.length_nil,qaw] at k3⊢;omega
  have hb:=J hr;refine st ?_;exact⟨j+1,by omega,by omega,⟨rfl,rfl,rfl,rfl,rfl,rfl,rfl,rfl,rfl,rfl,rfl,rfl,by rw[em];rfl,rfl,trivial⟩,.inr ⟨_,by rw[em,iQ];rfl,Nat.zero_le _,a8 _,xz (qaN _ p) (xz (qaA _ c) (xz trivial (xz (qbg _ b) ik)))⟩⟩
 have e:((qas c).take k).flatten++((qav c k b).take i).flatten++((qaE c b k i l).take (j+1)).flatten=((qas c).take k).flatten++((qav c k b).take i).flatten++((qaE c b k i l).take j).flatten:=by rw[vd I];unfold qbC;rw[ap (by simpa using h6),List.append_nil]
 refine st ?_;exact⟨j+1,by omega,by omega,⟨rfl,rfl,rfl,rfl,rfl,rfl,rfl,rfl,rfl,rfl,rfl,rfl,by rw[e];rfl,rfl,trivial⟩,.inr ⟨_,by rw[e];rfl,Nat.zero_le _,a8 _,xz (qaN _ p) (xz (qaA _ c) (xz trivial (xz (qbg _ b) ik)))⟩⟩
end Q
end
namespace Q
def qdF (p:aH)(c:aE)(f k i:Int):Prop:=qaL p c∧∃b l,0≤f∧0≤k∧0≤i∧c.Nf[f.toNat]? =some b∧b.Ng[k.toNat]? =some l∧i<l.length∧∀s∈qaw c,qcK f k i s=false
theorem qin (p:aH)(c:aE)(f k i:Int)(hI:qaZ p c)(hS:qaL p c→∀b∈c.Nf,qes c b)(j:qaL p c→(qaw c).length*40≤140737488355328):VFL gz prog 14 [.agg (qaY p),.agg (qax c),.s (.int .i64 f),.s (.int .i64 k),.s (.int .i64 i)] (·=.s (.bool (pB (qdF p c f k i)))):=by
 refine qbW [10] func14 rfl Tryz.results14 ntmps14 rfl fun g w hL hk=>?_;have fin:∀ {e:Exit} {T:VT} {H:List HO},e=.ret→Oo T 10=some (.s (.bool false))→¬qdF p c f k i→qcM [10] (·=.s (.bool (pB (qdF p c f k i)))) e T H:=fun he e1 e2=>⟨.inl he,[.s (.bool false)],_,by simp[e1],yc.cons (.lt _ (.s _)) yc.nil,by simp[pB,e2,qeU]⟩;refine st ?_;refine qaW 42 ?_;refine st ?_;refine qaF (fun h1=>?_) fun h1=>?_
 ·refine st ?_
  exact qar (fin rfl rfl fun⟨_,J,R,Y,k2,k3,C,I,k6,_⟩=>by omega)
 refine st ?_;refine qaF (fun h2=>?_) fun h2=>?_
 ·refine st ?_
  exact qar (fin rfl rfl fun⟨_,J,R,Y,k2,k3,C,I,k6,_⟩=>by have:=(lS.1 C).1;omega)
 obtain⟨b,hb⟩:∃b,c.Nf[f.toNat]? =some b:=⟨_,lG (by omega)⟩;refine st ?_;refine qaF (fun h3=>?_) fun h3=>?_
 ·refine st ?_
  exact qar (fin rfl rfl fun⟨_,J,R,Y,k2,k3,C,I,k6,_⟩=>by omega)
 refine st ?_;refine qaF (fun h4=>?_) fun h4=>?_
 ·refine st ?_
  exact qar (fin rfl rfl fun⟨_,J,R,Y,k2,k3,C,I,k6,_⟩=>by rw[hb] at C;cases C;have:=(lS.1 I).1;omega)
 obtain⟨l,hl⟩:∃l,b.Ng[k.toNat]? =some l:=⟨_,lG (by omega)⟩;refine st ?_;refine qaF (fun h5=>?_) fun h5=>?_
 ·refine st ?_
  exact qar (fin rfl rfl fun⟨_,J,R,Y,k2,k3,C,I,k6,_⟩=>by omega)
 refine st ?_;refine qbu (fun h6=>?_) fun h6=>?_
 ·refine st ?_
  exact qar (fin rfl rfl fun⟨_,J,R,Y,k2,k3,C,I,k6,_⟩=>by rw[hb] at C;cases C;rw[hl] at I;cases I;omega)
 refine st ?_;by_cases hr:qaL p c;·(
 have o:VFL gz prog 8 [.agg (qaY p),.agg (qax c)] (·=.tup [.row 5 40 ((qaw c).map qaB) none,.s (.int .i64 0)]):=by have:=qdI p c hI hS j;unfold qdH at this;rwa [ap hr] at this
 refine qaG (fun g' w' hle=>o w' (hL.keep (hk g' w' hle))) ?_ (hl:=xz (.agg _ (qaN 0 p)) (xz (.agg _ (qaA 0 c)) ik));refine st ?_;have a1:=j hr;refine qeV (qeC (qaw c) f k i (by omega)) (yc.cons (.row _ _ _ _ (qbV 0 _)) (yc.cons (Ro.fn' (yc.cons (Ro.ptr' (yc.cons (.lt _ (.s _)) yc.nil) rfl) (yc.cons (Ro.ptr' (yc.cons (.lt _ (.s _)) yc.nil) rfl) (yc.cons (Ro.ptr' (yc.cons (.lt _ (.s _)) yc.nil) rfl) yc.nil)))) yc.nil)) ?_;refine st ?_;refine qar ⟨.inl rfl,_,_,rfl,yc.cons (.lt _ (.s _)) yc.nil,?_⟩;cases ha:(qaw c).any (qcK f k i) with
 |false=>have h:qdF p c f k i:=⟨hr,b,l,by omega,by omega,by omega,hb,hl,by omega,fun s hs=>by simpa using List.any_eq_false.1 ha s hs⟩;simp[qeU,av h]
 |true=>
  have h:¬qdF p c f k i:=fun⟨_,_,_,_,_,_,_,_,_,h⟩=>by obtain⟨s,h1,h2⟩:=mW.1 ha;rw[h s h1] at h2;cases h2
  simp[qeU,au h])
 have o:VFL gz prog 8 [.agg (qaY p),.agg (qax c)] (·=.tup [.s (.slice none 0 0),.s (.int .i64 1)]):=by have:=qdI p c hI hS j;unfold qdH at this;rwa [ae hr] at this
 refine qaG (fun g' w' hle=>o w' (hL.keep (hk g' w' hle))) ?_ (hl:=xz (.agg _ (qaN 0 p)) (xz (.agg _ (qaA 0 c)) ik));refine st ?_;exact qar (fin rfl rfl fun h=>hr h.1)
end Q
namespace Q
theorem qbi {p:aH}{c:aE}(h:bJ p c){b:aw}(J:b∈c.Nf):qes c b:=by
 obtain⟨_,_,_,_,_,_,_,h,_⟩:=h;obtain⟨_,_,_,_,_,h,_⟩:=h b J;have get:∀x∈b.Ng.flatten,∃n dst ref Ni,cw x.kind=some (n,dst,ref,Ni)∧(ref=true→0≤x.ref∧x.ref<cW p c b x.kind)∧(x.kind≠3→x.kind≠7→(x.args.length:Int)=n):=fun x C=>by obtain⟨k,R⟩:=cY.1 C;obtain⟨n,dst,ref,Ni,e,_,_,_,_,_,_,h1,_,j,_⟩:=h k x R;exact⟨n,dst,ref,Ni,e,h1,fun I Y=>by rw[ae I] at j;rw[j.2,ae Y]⟩
 clear h;refine⟨fun x C e=>?_,fun x C e=>?_,fun x C e=>?_⟩
 ·obtain⟨n,dst,ref,Ni,o,h1,j⟩:=get x C
  rw[e] at o h1 j;cases o;simpa [cW] using h1 rfl
 ·obtain⟨n,dst,ref,Ni,o,h1,j⟩:=get x C;rw[e] at o h1 j;cases o;have:=j (by decide) (by decide);omega
 obtain⟨n,dst,ref,Ni,o,h1,j⟩:=get x C;rcases e with e|e
 all_goals
  rw[e] at o h1 j;cases o;have:=j (by decide) (by decide);have I:=h1 rfl;simp[cW] at I;exact⟨by omega,I⟩
theorem IN {α β:Type}{f:α→Nat}:∀ {l:List α} {g:Nat→α→List β},(∀i x,(g i x).length≤f x)→(l.mapIdx g).flatten.length≤(l.map f).sum
 | [],g,_=>by simp
 |a::l,g,h=>by rw[List.mapIdx_cons,List.flatten_cons,iQ,List.map_cons,List.sum_cons];have:=IN (l:=l) (g:=fun i=>g (i+1)) fun i x=>h (i+1) x;have:=h 0 a;omega
theorem qdb {p:aH}{c:aE}(h:bJ p c):(qaw c).length≤4096:=by
 obtain⟨_,_,_,_,_,_,_,_,h⟩:=h;refine fR (IN (f:=ft) fun i b=>?_) h;unfold ft;rw[List.length_flatten (L:=b.Ng)];refine IN fun k l=>?_;have e:(l.map fun _=>1).sum=l.length:=by
  induction l with
  |nil=>rfl
  |cons x l o=>rw[List.map_cons,List.sum_cons,o,kI];omega
 rw[←e];refine IN fun j x=>?_;unfold qbC;split<;>simp
end Q
section
open Go.Shelf
def Tryz.lays137_ren:Go.Shelf.Ren:=⟨fun|137=>144|217=>134|266=>191|n=>n,fun|9=>9|5=>5|3=>3|n=>n,fun|n=>n⟩
theorem Tryz.lays137:Go.Proofs.Lays.n137 prog Tryz.lays137_ren:= {
 mixed:=by kernel_rfl
 f137:=func144.trans (congrArg some (by kernel_rfl))
 f217:=func134.trans (congrArg some (by kernel_rfl))
 f266:=func191.trans (congrArg some (by kernel_rfl))
 t3:=underlying3
 a3:=Tryz.isAgg3
 z3:=Tryz.sizeOf3
 v3:=Tryz.zeroValue3
 t5:=underlying5
 a5:=Tryz.isAgg5
 z5:=Tryz.sizeOf5
 v5:=Tryz.zeroValue5
 t9:=underlying9
 a9:=Tryz.isAgg9
 z9:=Tryz.sizeOf9
 v9:=Tryz.zeroValue9}
open Go.RowKit in
theorem Tryz.strings_IndexByte (s:ByteArray)(c:Int)(w:World):
 Calls prog 144 #[.string s,.int .u8 c] w fun e w'=>e=.returned (.int .i64 (Lib.indexByte s.data.toList c.toNat.toUInt8))∧w'=w:=Any.strings_IndexByte Tryz.lays137 s c w
def Tryz.lays103_ren:Go.Shelf.Ren:=⟨fun|103=>130|210=>189|206=>221|n=>n,fun|9=>9|4=>4|24=>214|3=>3|n=>n,fun|n=>n⟩
theorem Tryz.lays103:Go.Proofs.Lays.n103 prog Tryz.lays103_ren:= {
 mixed:=by kernel_rfl
 f103:=func130.trans (congrArg some (by kernel_rfl))
 f206:=func221.trans (congrArg some (by kernel_rfl))
 f210:=func189.trans (congrArg some (by kernel_rfl))
 t3:=underlying3
 a3:=Tryz.isAgg3
 z3:=Tryz.sizeOf3
 v3:=Tryz.zeroValue3
 t4:=underlying4
 a4:=Tryz.isAgg4
 z4:=Tryz.sizeOf4
 v4:=Tryz.zeroValue4
 t9:=underlying9
 a9:=Tryz.isAgg9
 z9:=Tryz.sizeOf9
 v9:=Tryz.zeroValue9
 t24:=underlying214
 a24:=Tryz.isAgg214
 z24:=Tryz.sizeOf214
 v24:=Tryz.zeroValue214}
open Go.RowKit in
theorem Tryz.strings_CutPrefix (s p:ByteArray)(w:World):
 Calls prog 130 #[.string s,.string p] w fun e w'=>e=.returned (.tuple #[.string ⟨(Lib.trimPrefix s.data.toList p.data.toList).toArray⟩,.bool (Lib.hasPrefix s.data.toList p.data.toList)])∧w'=w:=Any.strings_CutPrefix Tryz.lays103 s p w
def Tryz.lays146_ren:Go.Shelf.Ren:=⟨fun|146=>32|221=>69|268=>123|138=>124|143=>36|195=>186|197=>68|218=>187|219=>73|260=>122|217=>134|225=>135|224=>136|267=>137|266=>191|314=>192|n=>n,fun|9=>9|31=>22|3=>3|4=>4|0=>0|105=>149|21=>21|5=>5|46=>217|119=>256|139=>259|138=>258|146=>263|51=>262|n=>n,fun|1=>0|3=>1|4=>2|n=>n⟩
theorem Tryz.lays146:Go.Proofs.Lays.n146 prog Tryz.lays146_ren:= {
 mixed:=by kernel_rfl
 f138:=func124.trans (congrArg some (by kernel_rfl))
 f143:=func36.trans (congrArg some (by kernel_rfl))
 f146:=func32.trans (congrArg some (by kernel_rfl))
 f195:=func186.trans (congrArg some (by kernel_rfl))
 f197:=func68.trans (congrArg some (by kernel_rfl))
 f217:=func134.trans (congrArg some (by kernel_rfl))
 f218:=func187.trans (congrArg some (by kernel_rfl))
 f219:=func73.trans (congrArg some (by kernel_rfl))
 f221:=func69.trans (congrArg some (by kernel_rfl))
 f224:=func136.trans (congrArg some (by kernel_rfl))
 f225:=func135.trans (congrArg some (by kernel_rfl))
 f260:=func122.trans (congrArg some (by kernel_rfl))
 f266:=func191.trans (congrArg some (by kernel_rfl))
 f267:=func137.trans (congrArg some (by kernel_rfl))
 f268:=func123.trans (congrArg some (by kernel_rfl))
 f314:=func192.trans (congrArg some (by kernel_rfl))
 t0:=underlying0
 a0:=Tryz.isAgg0
 z0:=Tryz.sizeOf0
 v0:=Tryz.zeroValue0
 t3:=underlying3
 a3:=Tryz.isAgg3
 z3:=Tryz.sizeOf3
 v3:=Tryz.zeroValue3
 t4:=underlying4
 a4:=Tryz.isAgg4
 z4:=Tryz.sizeOf4
 v4:=Tryz.zeroValue4
 t5:=underlying5
 a5:=Tryz.isAgg5
 z5:=Tryz.sizeOf5
 v5:=Tryz.zeroValue5
 t9:=underlying9
 a9:=Tryz.isAgg9
 z9:=Tryz.sizeOf9
 v9:=Tryz.zeroValue9
 t21:=underlying21
 a21:=Tryz.isAgg21
 z21:=Tryz.sizeOf21
 v21:=Tryz.zeroValue21
 t31:=underlying22
 a31:=Tryz.isAgg22
 z31:=Tryz.sizeOf22
 v31:=Tryz.zeroValue22
 t46:=underlying217
 a46:=Tryz.isAgg217
 z46:=Tryz.sizeOf217
 v46:=Tryz.zeroValue217
 t51:=underlying262
 a51:=Tryz.isAgg262
 z51:=Tryz.sizeOf262
 v51:=Tryz.zeroValue262
 t105:=underlying149
 a105:=Tryz.isAgg149
 z105:=Tryz.sizeOf149
 v105:=Tryz.zeroValue149
 t119:=underlying256
 a119:=Tryz.isAgg256
 z119:=Tryz.sizeOf256
 t138:=underlying258
 a138:=Tryz.isAgg258
 z138:=Tryz.sizeOf258
 v138:=Tryz.zeroValue258
 t139:=underlying259
 a139:=Tryz.isAgg259
 z139:=Tryz.sizeOf259
 v139:=Tryz.zeroValue259
 t146:=underlying263
 a146:=Tryz.isAgg263
 z146:=Tryz.sizeOf263
 v146:=Tryz.zeroValue263
 g1:=by kernel_rfl
 g3:=by kernel_rfl
 g4:=by kernel_rfl}
open Go.RowKit Go.Lib in
theorem Tryz.strings_Split (s sep:ByteArray)(m:Int)(w:World)(j:s.size<4294967281)(hm:w.cell? ⟨0,0,none⟩=some (.int .i64 m))(h1:1≤sep.size):
 Calls prog 32 #[.string s,.string sep] w fun e w'=>
  e=.returned (.slice (some ⟨w.heap.size,0,none⟩) (Lib.countB s sep+1) (Lib.countB s sep+1))∧w'=w.alloc (.cells ((Lib.splitB sep 0 (Lib.countB s sep) s).map Value.string).toArray 9):=Any.strings_Split Tryz.lays146 (by kernel_rfl) s sep m w j hm h1
def Tryz.lays229_ren:Go.Shelf.Ren:=⟨fun|229=>33|n=>n,fun|9=>9|40=>89|31=>22|152=>152|3=>3|0=>0|4=>4|21=>21|154=>154|n=>n,fun|n=>n⟩
theorem Tryz.lays229:Go.Proofs.Lays.n229 prog Tryz.lays229_ren:= {
 mixed:=by kernel_rfl
 f229:=func33.trans (congrArg some (by kernel_rfl))
 t0:=underlying0
 a0:=Tryz.isAgg0
 z0:=Tryz.sizeOf0
 v0:=Tryz.zeroValue0
 t3:=underlying3
 a3:=Tryz.isAgg3
 z3:=Tryz.sizeOf3
 v3:=Tryz.zeroValue3
 t4:=underlying4
 a4:=Tryz.isAgg4
 z4:=Tryz.sizeOf4
 v4:=Tryz.zeroValue4
 t9:=underlying9
 a9:=Tryz.isAgg9
 z9:=Tryz.sizeOf9
 v9:=Tryz.zeroValue9
 t21:=underlying21
 a21:=Tryz.isAgg21
 z21:=Tryz.sizeOf21
 v21:=Tryz.zeroValue21
 t31:=underlying22
 a31:=Tryz.isAgg22
 z31:=Tryz.sizeOf22
 v31:=Tryz.zeroValue22
 t40:=underlying89
 a40:=Tryz.isAgg89
 z40:=Tryz.sizeOf89
 v40:=Tryz.zeroValue89
 t152:=underlying152
 a152:=Tryz.isAgg152
 z152:=Tryz.sizeOf152
 v152:=Tryz.zeroValue152
 t154:=underlying154
 a154:=Tryz.isAgg154
 z154:=Tryz.sizeOf154
 v154:=Tryz.zeroValue154}
open Go.RowKit Go.Lib in
theorem Tryz.strings_FieldsFunc_runes (g:Nat)(lb:Array Value)(j:∀args w,(callFunc g args).run prog w=.ok (.enter g args) w)(p:Nat→Bool)(s:ByteArray)(w:World)(o:s.size≤4294967296)(C:PredAtRunes prog g lb p w):
 Calls prog 33 #[.string s,.func (.func g) #[] lb] w fun e w'=>∃A,e=.returned (.slice (some ⟨A,0,none⟩) (Lib.goFieldsP p s).length (Lib.goFieldsP p s).length)∧w.heap.size≤A∧
  w'.ownsRow w.heap.size 9 1 (.slice (some ⟨A,0,none⟩) (Lib.goFieldsP p s).length (Lib.goFieldsP p s).length) (Lib.goFieldsP p s).length ((Lib.goFieldsP p s).map Value.string)∧Below w.heap.size w w':=Any.strings_FieldsFunc_runes Tryz.lays229 g lb j p s w o C (by kernel_rfl) (by kernel_rfl)
open Go.RowKit Go.Lib in
end
theorem Ug {s:ByteArray}(h:Ab s=true)(a b:Nat):Ab (s.extract a b)=true:=by refine List.all_eq_true.2 fun x j=>List.all_eq_true.1 h x ?_;rw[ByteArray.data_extract] at j;rw[Array.toList_extract] at j;exact List.mem_of_mem_drop (List.mem_of_mem_take j)
theorem Vd {s:ByteArray}{f p n:Nat}(h:¬p<s.size):TP s (f+1) p n=some n:=by simp[TP,h]
theorem Ui {s:ByteArray}{f p n:Nat}(h:p<s.size):TP s (f+1) p n=if fY (Utf8.decode s p).1 then TP s f (p+(Utf8.decode s p).2) (10*n+((Utf8.decode s p).1-48)) else none:=by simp[TP,h]
def Un (s:ByteArray)(w:World)(e:Ending)(w':World):Prop:=aa All w w'∧∃v:Int,e=.returned (.tuple #[.int .i64 v,.bool (ia s).isSome])∧∀n,ia s=some n→v=n
theorem Un.no {s:ByteArray}{w w':World}{v:Int}(h:ia s=none)(o:aa All w w'):Un s w (.returned (.tuple #[.int .i64 v,.bool false])) w':=⟨o,v,by rw[h];rfl,fun n j=>by rw[h] at j;cases j⟩
theorem Un.yes {s:ByteArray}{w w':World}{n:Nat}(h:ia s=some n)(j:aa All w w'):Un s w (.returned (.tuple #[.int .i64 n,.bool true])) w':=⟨j,n,by rw[h];rfl,fun m hm=>by rw[h] at hm;cases hm;rfl⟩
theorem Xb {s:ByteArray}(h:s.size=0∨Ai s 0≠45):Lib.hasPrefix s.data.toList [45]=false∧(⟨(Lib.trimPrefix s.data.toList [45]).toArray⟩:ByteArray)=s:=by
 have h1:Lib.hasPrefix s.data.toList [45]=false:=by(
 unfold Lib.hasPrefix;obtain⟨d⟩:=s;obtain⟨l⟩:=d;cases l with
 |nil=>rfl
 |cons b l=>
  rcases h with h|h;·simp[ByteArray.size] at h
  rw[TG _ _ (by simp[ByteArray.size])] at h;have h':b.toNat≠45:=h;have:¬b=45:=fun e=>h' (by rw[e];rfl);simp[List.isPrefixOf];exact fun e=>this e.symm)
 refine⟨h1,?_⟩;unfold Lib.trimPrefix;rw[h1];rfl
theorem Wz {n:Nat}(h:n<9223372036854775808):(some n).filter (fun n=>decide (n<9223372036854775808))=some n:=by show(if decide (n<9223372036854775808)=true then some n else none)=_;rw[ap (bL h)]
theorem Xd {n:Nat}(h:¬n<9223372036854775808):(some n).filter (fun n=>decide (n<9223372036854775808))=none:=by show(if decide (n<9223372036854775808)=true then some n else none)=_;rw[ae (by rw[cI h];exact oG)]
theorem WI (s:ByteArray):s.toList.isEmpty=decide (s.size=0):=by
 by_cases h:s.size=0
 ·have:s=gR:=by obtain⟨d⟩:=s;obtain⟨l⟩:=d;have:l=[]:=List.length_eq_zero_iff.1 (by simpa [ByteArray.size] using h);subst this;rfl
  subst this;rw[bL h];simp[gR,ByteArray.toList,ByteArray.toList.loop,ByteArray.size]
 rw[cI h];cases j:s.toList.isEmpty with
 |false=>rfl
 |true=>
  exfalso;have h1:s.toList=[]:=List.isEmpty_iff.1 j;have o:gR.toList=[]:=by simp[gR,ByteArray.toList,ByteArray.toList.loop,ByteArray.size]
  have:s=gR:=cM.1 (by rw[h1,o];rfl);subst this;exact h rfl
theorem VU (s:ByteArray)(w:World)(hp:Ab s=true)(hm:s.size=0∨Ai s 0≠45)(hs:s.size≤65536):Calls prog 71 #[.string s] w (Un s w):=by
 obtain⟨c1,c2⟩:=Xb hm;have hc:=Tryz.strings_CutPrefix s ⟨#[45]⟩ w;rw[show(ByteArray.mk #[45]).data.toList=[45] from rfl,c1,c2] at hc;clear c1 c2;have HC:=oH hc;clear hc;have hz:=WI s;by_cases h0:s.size=0;·have HN:=oH (show ia s=none from by unfold ia;rw[ap (.inl h0)]);rw[bL h0] at hz;go_enter func71,ntmps71;go_wp2_with fail;refine HC.out.mono ?_;rintro e Y ⟨rfl,rfl⟩;go_wp2;go_ret2;exact .no HN.out kR
 rw[cI h0] at hz;by_cases b7:19<s.size;·have HN:=oH (show ia s=none from by unfold ia;rw[ap (.inr (.inl b7))]);go_enter func71,ntmps71;go_wp2_with fail;refine HC.out.mono ?_;rintro e Y ⟨rfl,rfl⟩;go_wp2;go_ret2;exact .no HN.out kR
 have a7:0<s.size:=by omega
 have b3:=TG s 0 a7;by_cases a8:Ai s 0=48∧1<s.size
 ·have HN:=oH (show ia s=none from by unfold ia;rw[ap (.inr (.inr a8))]);have h1:=a8.2;have e1:((((s[0]' a7).toNat:Nat):Int)==48)=true:=by rw[cy];omega
  clear b3 a8;go_enter func71,ntmps71;go_wp2_with fail;refine HC.out.mono ?_;rintro e Y ⟨rfl,rfl⟩;go_wp2;go_ret2;exact .no HN.out kR
 have b2:ia s=(TP s (s.size+1) 0 0).filter fun n=>decide (n<9223372036854775808):=by unfold ia;rw[ae (by omega)]
 have hit:(w.iter s 0).heap[w.heap.size]? =some (.stringIter s 0):=World.iter_heap w s 0;have b5:aa All w (w.iter s 0):=(aa.refl _ w).alloc _;have H0:=J3 hit b5 b2;clear hit b5 b2;by_cases hf:Ai s 0=48;·(
 have e1:((((s[0]' a7).toNat:Nat):Int)==48)=true:=by rw[cy];omega
 have h1:¬1<s.size:=fun h=>a8 ⟨hf,h⟩;clear hf a8 b3;go_enter func71,ntmps71;go_wp2_with fail;refine HC.out.mono ?_;rintro e Y ⟨rfl,rfl⟩;go_wp2;go_loopg [6] (s.size+1) (fun g m wr=>∃q n f:Nat,g=s.size+1-q∧m=.int .u64 n∧q≤s.size∧n<10^q∧s.size+1≤q+f∧wr.heap[Y.heap.size]? =some (.stringIter s q)∧aa All Y wr∧TP s f q n=TP s (s.size+1) 0 0);·exact⟨0,0,s.size+1,by omega,rfl,by omega,by decide,by omega,H0.1,H0.2.1,rfl⟩
 obtain⟨q,n,f,rfl,rfl,hq,hn,hf,J,C,j⟩:=hrel;obtain⟨f,rfl⟩:∃f',f=f'+1:=⟨f-1,by omega⟩;by_cases R:q<s.size;·(
 have a6:=fun ty=>Jw (P:=prog) wr Y.heap.size s q ty J R;obtain⟨k1,_,k3⟩:=TI hp R;have hB:Y.heap.size<wr.heap.size:=by
  rcases Nat.lt_or_ge Y.heap.size wr.heap.size with h|h;·exact h
  rw[jK h] at J;cases J
 rw[Ui R,k3] at j;rw[k3] at a6;simp only at a6 j;have b0:aa All Y (ji wr Y.heap.size s (q+1)):=xm C (.inr (cf _));have a1:=Bl (W:=wr) (s:=s) (p:=q+1) hB;have HQ:=J2 b0 a1;clear b0 a1 J C k3;generalize Ai s q=r at*;have o:=fun W=>CM (r:Int) W;cases hD:fY (r:Int) with
 |false=>rw[hD] at j o;have HN:=oH (show ia s=none from by rw[H0.2.2,←j];rfl);have HD:=oH o;clear hD j o hn;go_wp2_with (go_at_call 131;refine(HD.out _).mono ?_;rintro e w2 ⟨rfl,rfl⟩);go_ret2;exact .no HN.out HQ.1
 |true=>
  rw[hD] at j o;have hr:48≤r∧r≤57:=by unfold fY od at hD;simp only[gE,qal] at hD;omega
  have b6:10^q≤1000000000000000000:=fR (Nat.pow_le_pow_right (by decide) (show q≤18 by omega)) (by decide);have b1:10*n+(r-48)<10^(q+1):=by rw[Nat.pow_succ];omega
  have HW:=J2 j b1;have HD:=oH o;clear hD j o b1;go_wp2_with (go_at_call 131;refine(HD.out _).mono ?_;rintro e w2 ⟨rfl,rfl⟩);go_roundg (s.size+1-(q+1));·exact⟨q+1,10*n+(r-48),f,rfl,by rw[show(((10*n+(r-48):Nat)):Int)=10*(n:Int)+((r:Int)-48) by omega],by omega,HW.2,by omega,HQ.2,HQ.1,HW.1⟩
  omega)
 rw[Vd R] at j;have a6:=fun ty=>Gl (P:=prog) wr Y.heap.size s q ty J R;have HK:=oH C;have HS:=oH j;clear C J j;by_cases I:n<9223372036854775808
 ·have HN:=oH (show ia s=some n from by rw[H0.2.2,←HS.out];exact Wz I);have b4:(n:Int)<9223372036854775808:=by omega
  clear I;go_wp2;go_ret2;exact .yes HN.out HK.out
 have HN:=oH (show ia s=none from by rw[H0.2.2,←HS.out];exact Xd I);have b4:¬(n:Int)<9223372036854775808:=by omega
 clear I;go_wp2;go_ret2;exact .no HN.out HK.out)
 have e1:((((s[0]' a7).toNat:Nat):Int)==48)=false:=by rw[bE];omega
 clear hf a8 b3;go_enter func71,ntmps71;go_wp2_with fail;refine HC.out.mono ?_;rintro e Y ⟨rfl,rfl⟩;go_wp2;go_loopg [6] (s.size+1) (fun g m wr=>∃q n f:Nat,g=s.size+1-q∧m=.int .u64 n∧q≤s.size∧n<10^q∧s.size+1≤q+f∧wr.heap[Y.heap.size]? =some (.stringIter s q)∧aa All Y wr∧TP s f q n=TP s (s.size+1) 0 0);·exact⟨0,0,s.size+1,by omega,rfl,by omega,by decide,by omega,H0.1,H0.2.1,rfl⟩
 obtain⟨q,n,f,rfl,rfl,hq,hn,hf,J,C,j⟩:=hrel;obtain⟨f,rfl⟩:∃f',f=f'+1:=⟨f-1,by omega⟩;by_cases R:q<s.size;·(
 have a6:=fun ty=>Jw (P:=prog) wr Y.heap.size s q ty J R;obtain⟨k1,_,k3⟩:=TI hp R;have hB:Y.heap.size<wr.heap.size:=by
  rcases Nat.lt_or_ge Y.heap.size wr.heap.size with h|h;·exact h
  rw[jK h] at J;cases J
 rw[Ui R,k3] at j;rw[k3] at a6;simp only at a6 j;have b0:aa All Y (ji wr Y.heap.size s (q+1)):=xm C (.inr (cf _));have a1:=Bl (W:=wr) (s:=s) (p:=q+1) hB;have HQ:=J2 b0 a1;clear b0 a1 J C k3;generalize Ai s q=r at*;have o:=fun W=>CM (r:Int) W;cases hD:fY (r:Int) with
 |false=>rw[hD] at j o;have HN:=oH (show ia s=none from by rw[H0.2.2,←j];rfl);have HD:=oH o;clear hD j o hn;go_wp2_with (go_at_call 131;refine(HD.out _).mono ?_;rintro e w2 ⟨rfl,rfl⟩);go_ret2;exact .no HN.out HQ.1
 |true=>
  rw[hD] at j o;have hr:48≤r∧r≤57:=by unfold fY od at hD;simp only[gE,qal] at hD;omega
  have b6:10^q≤1000000000000000000:=fR (Nat.pow_le_pow_right (by decide) (show q≤18 by omega)) (by decide);have b1:10*n+(r-48)<10^(q+1):=by rw[Nat.pow_succ];omega
  have HW:=J2 j b1;have HD:=oH o;clear hD j o b1;go_wp2_with (go_at_call 131;refine(HD.out _).mono ?_;rintro e w2 ⟨rfl,rfl⟩);go_roundg (s.size+1-(q+1));·exact⟨q+1,10*n+(r-48),f,rfl,by rw[show(((10*n+(r-48):Nat)):Int)=10*(n:Int)+((r:Int)-48) by omega],by omega,HW.2,by omega,HQ.2,HQ.1,HW.1⟩
  omega)
 rw[Vd R] at j;have a6:=fun ty=>Gl (P:=prog) wr Y.heap.size s q ty J R;have HK:=oH C;have HS:=oH j;clear C J j;by_cases I:n<9223372036854775808
 ·have HN:=oH (show ia s=some n from by rw[H0.2.2,←HS.out];exact Wz I);have b4:(n:Int)<9223372036854775808:=by omega
  clear I;go_wp2;go_ret2;exact .yes HN.out HK.out
 have HN:=oH (show ia s=none from by rw[H0.2.2,←HS.out];exact Xd I);have b4:¬(n:Int)<9223372036854775808:=by omega
 clear I;go_wp2;go_ret2;exact .no HN.out HK.out
theorem Vx {s:ByteArray}(h:Ab s=true):∀ {f p:Nat},p≤s.size→Vw s f p≤s.size
 |0,_,o=>o
 |f+1,p,o=>by
  by_cases j:p<s.size
  ·rw[Vk j];split;·rw[(TI h j).2.2];exact Vx h (by show p+1≤_;omega)
   exact o
  rw[VP j];exact cf _
def Wk:List UInt8:=[40,41,123,125,91,93,44,58,61]
theorem Xr:∀n,n<256→decide (0≤Lib.indexByte Wk n.toUInt8)=Wb n:=of_decide_eq_true (by kernel_rfl)
theorem TS (s:ByteArray)(a b:Nat)(h:b≤s.size):(s.extract a b).size=b-a:=by rw[ByteArray.size_extract];omega
def XE (r:Option Um)(p:Nat)(w:World)(e:Ending)(w':World):Prop:=aa All w w'∧match r with
 |none=>e=.returned (.tuple #[.agg #[.int .u8 0,.int .i64 0,.int .i64 0],.int .i64 p,.int .i64 4])
 |some t=>e=.returned (.tuple #[.agg #[.int .u8 t.kind,.int .i64 t.beg,.int .i64 t.fin],.int .i64 0,.int .i64 0])
theorem Ur {j:Ending→World→Prop}{a:Act}{W:World}{g:Nat}{k b f x y:Int}(o:a.tmps[4]? =some (.pointer (some ⟨g,0,none⟩)))(C:a.tmps[5]? =some (.int .i64 x))(I:a.tmps[6]? =some (.int .i64 y))(J:a.defers=[])
 (c:al W g 169 #[.int .u8 k,.int .i64 b,.int .i64 f]) (h:j (.returned (.tuple #[.agg #[.int .u8 k,.int .i64 b,.int .i64 f],.int .i64 x,.int .i64 y])) W):bodyPost prog Tryz.f77 j .ret a W:=by
 obtain⟨R,r1,r2⟩:=c.c3;exact bodyPost_ret (by simp[results,Tryz.results77,go_sem,o,C,I,R,r1,r2]) J h
theorem Xu (s:ByteArray)(at':Nat)(r:Option Um)(w:World)(hp:Ab s=true)(hs:s.size≤65536)(ha:at'≤s.size)(hr:Vu s at'=some r):
 Calls prog 77 #[.string s,.int .i64 at'] w (XE r (Ht s (s.size+1) at') w):=by
 have d7:=fun w=>WS s at' w hp ha hs;have hle:Ht s (s.size+1) at'≤s.size:=VS ha;unfold Vu at hr;generalize Ht s (s.size+1) at'=p at*;have c8:=oH d7;clear d7;have hg:¬s.size<at':=by omega
 obtain⟨W0,b9⟩:=eQ (w.alloc (.cells #[.int .u8 0,.int .i64 0,.int .i64 0] 169));have d8:=yf b9;have bT:=yv b9;have J:=J3 b9 d8 bT;clear b9 d8 bT;by_cases a6:p<s.size;·(
 simp only[ap a6] at hr;have hb:=TG s p a6;have b5:=fun w=>Tryz.strings_IndexByte ⟨#[40,41,123,125,91,93,44,58,61]⟩ ((Ai s p:Nat):Int) w;have R:=Xr (Ai s p) (by rw[hb];exact(s[p]' a6).toNat_lt);rw[hb] at b5 R;simp only[dP] at b5;change ∀w,Calls _ _ _ _ (fun e w'=>e=.returned (.int .i64 (Lib.indexByte Wk (s[p]' a6).toNat.toUInt8))∧w'=w) at b5;generalize hI:Lib.indexByte Wk (s[p]' a6).toNat.toUInt8=I at*;have d9:=oH b5;clear b5 hI;have e0:((p:Int)==(s.size:Int))=false:=by rw[bE];omega
 by_cases C:Wb (Ai s p)=true;·rw[ap C] at hr;cases hr;rw[←hb,C] at R;have e6:0≤I:=of_decide_eq_true R;clear R C hb;go_enter func77,ntmps77;go_upto_region 1 with fail;rw[←J.1];go_wp2_with fail;refine(c8.out _).mono ?_;rintro e w1 ⟨rfl,rfl⟩;go_wp2_with fail;refine(d9.out _).mono ?_;rintro e w1 ⟨rfl,rfl⟩;obtain⟨t0,t1,t2⟩:=(show w1.cell? ⟨w.heap.size,0,none⟩=some (.int .u8 0)∧w1.cell? ⟨w.heap.size,1,none⟩=some (.int .i64 0)∧w1.cell? ⟨w.heap.size,2,none⟩=some (.int .i64 0) from⟨J.2.2.cell 0,J.2.2.cell 1,J.2.2.cell 2⟩);have f0:=J.2.2.free 0;have f1:=J.2.2.free 1;have f2:=J.2.2.free 2;go_wp2_with fail;have b1:=((J.2.2.set 0 (.int .u8 4)).set 1 (.int .i64 p)).set 2 (.int .i64 (p+1));have k1:aa All w (((w1.setCell ⟨w.heap.size,0,none⟩ (.int .u8 4)).setCell ⟨w.heap.size,1,none⟩ (.int .i64 p)).setCell ⟨w.heap.size,2,none⟩ (.int .i64 (p+1))):=((J.2.1.setCell (.inr (cf _)) _).setCell (.inr (cf _)) _).setCell (.inr (cf _)) _;simp only[ga] at b1;exact Ur rfl rfl rfl rfl b1 ⟨k1,rfl⟩
 rw[ae C] at hr;rw[←hb] at R;have e6:¬0≤I:=fun h=>by rw[bL h] at R;exact C R.symm
 by_cases c4:Ai s p=45;·rw[ap c4] at hr;cases hr
 rw[ae c4] at hr;have e9:((((s[p]' a6).toNat:Nat):Int)==45)=false:=by rw[bE];omega
 have e1:=TS s p s.size (cf _);have h1:Ul (s.extract p s.size)≤s.size-p:=by rw[←e1];exact Vx (Ug hp _ _) (Nat.zero_le _)
 have c5:=fun w=>Xv (s.extract p s.size) w;generalize Ul (s.extract p s.size)=n at*;have e7:=TS s p (p+n) (by omega);have e2:=Ug hp p (p+n);have e3:(s.extract p (p+n)).size=0∨Ai (s.extract p (p+n)) 0≠45:=by(
 by_cases h0:n=0;·left;omega
 right;rw[TG _ _ (by omega)];intro e;apply c4;rw[hb,←e];congr 1;rw[ByteArray.getElem_extract];simp)
 have c6:=fun w=>VU (s.extract p (p+n)) w e2 e3 (by omega);have b7:=fun w=>zC (s.extract p (p+n)) w;have b8:=fun w=>yL (s.extract p (p+n)) w;generalize hP:s.extract p (p+n)=P at*;have HR:=oH c5;have HN:=oH c6;have HM:=J2 b7 b8;have h2:p+n≤s.size:=by omega
 clear c5 c6 b7 b8 R C hb c4 e3 e2 e7 e1;have hk:TQ P≠0:=fun h=>by rw[ap h] at hr;cases hr
 rw[ae hk] at hr;cases hr;have HP:=oH hP;go_enter func77,ntmps77;go_upto_region 1 with fail;rw[←J.1];go_wp2_with fail;refine(c8.out _).mono ?_;rintro e w1 ⟨rfl,rfl⟩;go_wp2_with fail;refine(d9.out _).mono ?_;rintro e w1 ⟨rfl,rfl⟩;go_wp2_with fail;refine(HR.out _).mono ?_;rintro e w2 ⟨rfl,e4⟩;have e5:=oH e4;clear e4;go_upto_region 12 with fail;have k3:aa All w2 (w2.alloc (.cells #[.int .u8 0,.int .i64 p,.int .i64 (p+n)] 169)):=kR.alloc _;have b3:al (w2.alloc (.cells #[.int .u8 0,.int .i64 p,.int .i64 (p+n)] 169)) w2.heap.size 169 #[.int .u8 0,.int .i64 p,.int .i64 (p+n)]:=al.new _ _ _;have c7:w.heap.size<w2.heap.size:=by have:=e5.out.size;have:=J.2.2.lt;omega
 generalize w2.alloc _=W3 at*;have Y:=J3 (e5.out.trans k3) b3 c7;clear k3 b3 c7;have e8:=HP.out;go_upto_region 13 with fail;clear e8;go_wp2_with fail;refine(HN.out _).mono ?_;rintro e w4 ⟨c9,v,rfl,_⟩;have a7:=J2 (Y.1.trans c9) (Y.2.1.kept c9 trivial);clear c9;go_wp2_with fail;refine(HM.1 _).mono ?_;rintro e w5 ⟨rfl,rfl⟩;cases hw:jv P with
 |true=>have b2:=oH (show TQ P=2 from by unfold TQ;rw[ap hw]);clear hw;have bK:=a7.2;have c0:=bK.cl 0;have g0:=bK.free 0;go_upto_region 21 with fail;have k7:aa All w (w4.setCell ⟨w2.heap.size,0,none⟩ (.int .u8 2)):=(J.2.1.trans a7.1).setCell (.inr (by have:=Y.2.2;show w.heap.size≤w2.heap.size;omega)) _;have o:=bK.set 0 (.int .u8 2);have j:=(J.2.2.kept a7.1 trivial).far (p:=⟨w2.heap.size,0,none⟩) (by have:=Y.2.2;simp<;>omega) (.int .u8 2);simp only[ga] at o;generalize w4.setCell _ _=w7 at*;clear c0 g0 bK;have a1:=J2 k7 j;have c0:=o.cl 0;have c1:=o.cl 1;have c2:=o.cl 2;have t0:=j.cl 0;have t1:=j.cl 1;have t2:=j.cl 2;have f0:=j.free 0;have f1:=j.free 1;have f2:=j.free 2;clear k7 o j;go_wp2_with fail;have b6:=((a1.2.set 0 (.int .u8 2)).set 1 (.int .i64 p)).set 2 (.int .i64 (p+n));have k6:aa All w (((w7.setCell ⟨w.heap.size,0,none⟩ (.int .u8 2)).setCell ⟨w.heap.size,1,none⟩ (.int .i64 p)).setCell ⟨w.heap.size,2,none⟩ (.int .i64 (p+n))):=(((a1.1.setCell (.inr (cf _)) _).setCell (.inr (cf _)) _).setCell (.inr (cf _)) _);simp only[ga] at b6;exact Ur rfl rfl rfl rfl b6 ⟨k6,by rw[b2.out];rfl⟩
 |false=>
  cases b4:dW P with
  |true=>have b2:=oH (show TQ P=1 from by unfold TQ;rw[ae (by rw[hw];exact oG),ap b4]);clear hw;go_wp2_with fail;refine(HM.2 _).mono ?_;rintro e w6 ⟨rfl,a8⟩;rw[b4];clear b4;have b0:=J2 (a7.1.trans a8) (a7.2.kept a8 trivial);clear a8;have bK:=b0.2;have c0:=bK.cl 0;have g0:=bK.free 0;go_upto_region 21 with fail;have k7:aa All w (w6.setCell ⟨w2.heap.size,0,none⟩ (.int .u8 1)):=(J.2.1.trans b0.1).setCell (.inr (by have:=Y.2.2;show w.heap.size≤w2.heap.size;omega)) _;have o:=bK.set 0 (.int .u8 1);have j:=(J.2.2.kept b0.1 trivial).far (p:=⟨w2.heap.size,0,none⟩) (by have:=Y.2.2;simp<;>omega) (.int .u8 1);simp only[ga] at o;generalize w6.setCell _ _=w7 at*;clear c0 g0 bK;have a1:=J2 k7 j;have c0:=o.cl 0;have c1:=o.cl 1;have c2:=o.cl 2;have t0:=j.cl 0;have t1:=j.cl 1;have t2:=j.cl 2;have f0:=j.free 0;have f1:=j.free 1;have f2:=j.free 2;clear k7 o j;go_wp2_with fail;have b6:=((a1.2.set 0 (.int .u8 1)).set 1 (.int .i64 p)).set 2 (.int .i64 (p+n));have k6:aa All w (((w7.setCell ⟨w.heap.size,0,none⟩ (.int .u8 1)).setCell ⟨w.heap.size,1,none⟩ (.int .i64 p)).setCell ⟨w.heap.size,2,none⟩ (.int .i64 (p+n))):=(((a1.1.setCell (.inr (cf _)) _).setCell (.inr (cf _)) _).setCell (.inr (cf _)) _);simp only[ga] at b6;exact Ur rfl rfl rfl rfl b6 ⟨k6,by rw[b2.out];rfl⟩
  |false=>
   have b2:=oH (show(ia P).isSome=true∧TQ P=3 from by
    unfold TQ at hk⊢;rw[ae (by rw[hw];exact oG),ae (by rw[b4];exact oG)] at hk⊢;by_cases h:(ia P).isSome=true;·exact⟨h,ap h⟩
    rw[ae h] at hk;exact absurd rfl hk)
   clear hw;go_wp2_with fail;refine(HM.2 _).mono ?_;rintro e w6 ⟨rfl,a8⟩;rw[b4];clear b4;have b0:=J2 (a7.1.trans a8) (a7.2.kept a8 trivial);clear a8;have h3:=b2.1;have bK:=b0.2;have c0:=bK.cl 0;have g0:=bK.free 0;go_upto_region 21 with fail;have k7:aa All w (w6.setCell ⟨w2.heap.size,0,none⟩ (.int .u8 3)):=(J.2.1.trans b0.1).setCell (.inr (by have:=Y.2.2;show w.heap.size≤w2.heap.size;omega)) _;have o:=bK.set 0 (.int .u8 3);have j:=(J.2.2.kept b0.1 trivial).far (p:=⟨w2.heap.size,0,none⟩) (by have:=Y.2.2;simp<;>omega) (.int .u8 3);simp only[ga] at o;generalize w6.setCell _ _=w7 at*;clear c0 g0 bK;have a1:=J2 k7 j;have c0:=o.cl 0;have c1:=o.cl 1;have c2:=o.cl 2;have t0:=j.cl 0;have t1:=j.cl 1;have t2:=j.cl 2;have f0:=j.free 0;have f1:=j.free 1;have f2:=j.free 2;clear k7 o j;go_wp2_with fail;have b6:=((a1.2.set 0 (.int .u8 3)).set 1 (.int .i64 p)).set 2 (.int .i64 (p+n));have k6:aa All w (((w7.setCell ⟨w.heap.size,0,none⟩ (.int .u8 3)).setCell ⟨w.heap.size,1,none⟩ (.int .i64 p)).setCell ⟨w.heap.size,2,none⟩ (.int .i64 (p+n))):=(((a1.1.setCell (.inr (cf _)) _).setCell (.inr (cf _)) _).setCell (.inr (cf _)) _);simp only[ga] at b6;exact Ur rfl rfl rfl rfl b6 ⟨k6,by rw[b2.2];rfl⟩)
 simp only[ae a6] at hr;cases hr;have e0:((p:Int)==(s.size:Int))=true:=by rw[cy];omega
 go_enter func77,ntmps77;go_upto_region 1 with fail;rw[←J.1];go_wp2_with fail;refine(c8.out _).mono ?_;rintro e w1 ⟨rfl,rfl⟩;obtain⟨t0,t1,t2⟩:=(show W0.cell? ⟨w.heap.size,0,none⟩=some (.int .u8 0)∧W0.cell? ⟨w.heap.size,1,none⟩=some (.int .i64 0)∧W0.cell? ⟨w.heap.size,2,none⟩=some (.int .i64 0) from⟨J.2.2.cell 0,J.2.2.cell 1,J.2.2.cell 2⟩);have f0:=J.2.2.free 0;have f1:=J.2.2.free 1;have f2:=J.2.2.free 2;go_wp2_with fail;have b1:=((J.2.2.set 0 (.int .u8 0)).set 1 (.int .i64 0)).set 2 (.int .i64 0);have k1:aa All w (((W0.setCell ⟨w.heap.size,0,none⟩ (.int .u8 0)).setCell ⟨w.heap.size,1,none⟩ (.int .i64 0)).setCell ⟨w.heap.size,2,none⟩ (.int .i64 0)):=((J.2.1.setCell (.inr (cf _)) _).setCell (.inr (cf _)) _).setCell (.inr (cf _)) _;simp only[ga] at b1;exact Ur rfl rfl rfl rfl b1 ⟨k1,rfl⟩
def XG:cO Um:=fun _ _ cs t=>cs=[.int .u8 t.kind,.int .i64 t.beg,.int .i64 t.fin]
theorem Ud:cO.Good XG:=⟨fun _ h=>h,fun _ h=>h⟩
abbrev WG:=rx 3 24 XG
theorem cu:bT.Good WG:=cH Ud
theorem XK:(prog.info? 169).map (fun i=>(i.zero,i.size,i.bytes))=some (some (.agg #[.int .u8 0,.int .i64 0,.int .i64 0]),3,24):=by kernel_rfl
theorem Xa (A:Option Addr)(n c:Nat)(w:World)(h:n≤c):Calls prog 78 #[.slice A n c] w fun e w'=>e=.returned (.slice A n n)∧w'=w:=by go_enter func78,ntmps78;go_wp2;go_ret;exact⟨rfl,rfl⟩
theorem Yg {α:Type}{n bw:Nat}{E:cO α}{S:Nat→Prop}{w:World}{A:Option Addr}{k c:Nat}{l:List α}(h:rx n bw E S w (.slice A k c) l):k≤c:=by obtain⟨j,o,e,h1,_⟩:=h;cases e;exact h1
theorem XU {α:Type}{n bw:Nat}{E:cO α}{S:Nat→Prop}{w:World}{A:Option Addr}{k c:Nat}{l:List α}(h:rx n bw E S w (.slice A k c) l):rx n bw E S w (.slice A k k) l:=by obtain⟨o,C,e,h1,I,J,j⟩:=h;cases e;exact⟨A,l.length,rfl,cf _,by omega,by omega,j⟩
theorem Xn {s:ByteArray}(j:Ab s=true){q:Nat}{t:Um}(h:Vu s q=some (some t)):t.fin≤s.size:=by
 unfold Vu at h;simp only at h;split at h
 ·rename_i o;split at h;·cases h;show _+1≤_;omega
  split at h;·cases h
  split at h;·cases h
  cases h;have h1:=Vx (Ug j (Ht s (s.size+1) q) s.size) (f:=(s.extract (Ht s (s.size+1) q) s.size).size+1) (Nat.zero_le _);rw[TS _ _ _ (cf _)] at h1;show _+Ul _≤_;unfold Ul;rw[TS _ _ _ (cf _)];omega
 cases h
theorem UW {s:ByteArray}:∀ {f q:Nat} {l:List Um},Tt s f q=some l→l.length<f
 |0,_,_,h=>by cases h
 |f+1,q,l,h=>by(
 rw[Tt] at h;split at h;·cases h
 ·cases h;simp
 cases hm:Tt s f _ with
 |none=>rw[hm] at h;cases h
 |some r=>rw[hm] at h;cases h;have:=UW hm;simp;omega)
def XB (l:List Um)(w:World)(e:Ending)(w':World):Prop:=aa All w w'∧∃(A:Option Addr) (c:Nat),e=.returned (.tuple #[.slice A l.length c,.int .i64 0,.int .i64 0])∧WG (fun b=>w.heap.size≤b∧b<w'.heap.size) w' (.slice A l.length c) l
theorem Xt (s:ByteArray)(l:List Um)(w:World)(hp:Ab s=true)(hs:s.size≤65536)(hr:Tt s (s.size+1) 0=some l):
 Calls prog 38 #[.string s] w (XB l w):=by
 have HB:=oH (qel s w hp);have HT:=oH (fun q r w1 (h1:q≤s.size) (h2:Vu s q=some r)=>Xu s q r w1 hp hs h1 h2);have HF:=oH (fun q t=>Xn hp (q:=q) (t:=t));obtain⟨iT,IT⟩:=iH XK;have HL:=oH (UW hr);have HR:=oH hr;clear hr hp;go_enter func38,ntmps38;go_wp2_with fail;refine HB.out.mono ?_;rintro e w1 ⟨rfl,b2⟩;have b6:=oH b2;clear b2;go_wp2_with fail;go_loopg [6,7] (s.size+1) (fun g m6 m7 wr=>∃(f q:Nat) (r l1:List Um),g=f∧m7=.int .i64 q∧q≤s.size∧Tt s f q=some r∧l1++r=l∧aa All w wr∧dR 3 169 XG w.heap.size wr m6 l1);·exact⟨s.size+1,0,l,[],rfl,rfl,by omega,HR.out,rfl,b6.out,dR.nil⟩
 obtain⟨f,q,r,l1,b9,rfl,hq,C,R,b4,Y⟩:=hrel;obtain⟨wo,b7⟩:=eQ wr;subst b7;obtain⟨A,c,rfl⟩:=Y.form;have I:=J3 b4 Y R;clear b4 Y R;have c4:l1.length≤65536:=by have h:=congrArg List.length I.2.2;rw[iQ] at h;have:=HL.out;omega
 cases f with
 |zero=>cases C
 |succ f=>
 rw[Tt] at C;cases ho:Vu s q with
 |none=>rw[ho] at C;cases C
 |some o=>
  rw[ho] at C;have HO:=oH (HT.out q o wo hq ho);cases o with
  |none=>
   cases C;clear ho;go_wp2_with fail;refine HO.out.mono ?_;rintro e w2 ⟨a1,rfl⟩;have a6:=oH a1;clear a1;go_upto_region 9 with fail;have k3:aa All w2 (w2.alloc (.cells #[.int .u8 0,.int .i64 0,.int .i64 0] 169)):=kR.alloc _;generalize w2.alloc _=W3 at*;have J:=oH (a6.out.trans k3);clear k3;have b0:=(I.2.1.keep Ud J.out fun _ _ _=>trivial).read (bw:=24) Ud (by omega);have hc:=Yg b0;have b8:=oH (XU b0);clear b0;go_wp2_with fail;refine(Xa A l1.length c W3 hc).mono ?_;rintro e w4 ⟨rfl,rfl⟩;go_wp2_with fail;have R:l=l1:=by rw[←I.2.2];simp
   refine bodyPost_ret (v:=.tuple #[.slice A l1.length l1.length,.int .i64 0,.int .i64 0]) (by simp[results,Tryz.results38,go_sem]) rfl ?_;refine⟨I.1.trans J.out,A,l1.length,by rw[R],?_⟩;rw[R];exact b8.out
  |some t=>
   have C:(Tt s f t.fin).map (fun l=>t::l)=some r:=C;cases hm:Tt s f t.fin with
   |none=>rw[hm] at C;cases C
   |some r2=>
   rw[hm] at C;cases C;have a8:=HF.out q t ho;have HM:=J2 hm a8;clear ho hm a8;go_wp2_with fail;refine HO.out.mono ?_;rintro e w2 ⟨a1,rfl⟩;have a6:=oH a1;clear a1;go_upto_region 9 with fail;have k3:aa All w2 (w2.alloc (.cells #[.int .u8 t.kind,.int .i64 t.beg,.int .i64 t.fin] 169)):=kR.alloc _;have b3:al (w2.alloc (.cells #[.int .u8 t.kind,.int .i64 t.beg,.int .i64 t.fin] 169)) w2.heap.size 169 #[.int .u8 t.kind,.int .i64 t.beg,.int .i64 t.fin]:=al.new _ _ _;generalize w2.alloc _=W3 at*;have J:=J3 (I.1.trans (a6.out.trans k3)) b3 (I.2.1.keep Ud (a6.out.trans k3) fun _ _ _=>trivial);obtain⟨c0,c1,c2⟩:=b3.c3;clear k3 b3;have c5:w2.heap.size<W3.heap.size:=J.2.1.lt;have c6:=J.1.size;go_wp2_with (
    at_builtin;go_loud (
    refine bN (E:=XG) _ Ud rfl (.tmp 34) (.tmp 36) 94 rfl iT _ 24 underlying94 IT.1 IT.2.1 IT.2.2.1 IT.2.2.2 rfl (by decide) _ _ rfl ((J.2.2.keep Ud ((aa.refl All _).alloc _)) fun _ _ _=>trivial) W3.heap.size 0 1 rfl [.int .u8 t.kind,.int .i64 t.beg,.int .i64 t.fin] t rfl ?_ ?_ ?_ (by omega) ?_ (fun _=>False) ?_ rfl ?_;·intro j u hu;rw[cN,(al.new _ _ _:al (W3.alloc _) W3.heap.size _ _).cell,List.getElem?_toArray];exact hu
    ·intro u hu;simp only[fX,List.not_mem_nil,or_false] at hu;rcases hu with rfl|rfl|rfl<;>rfl
    ·omega
    ·simp;omega
    ·intro b hb;exact hb.elim
    intro C2 c7 w4 a7 b1 b5;have k4:=(J.1.alloc (.cells #[.int .u8 t.kind,.int .i64 t.beg,.int .i64 t.fin] 169)).grown b1 (fun b hb=>.inr (b5 b hb));have q2:=(J.2.1.alloc (.cells #[.int .u8 t.kind,.int .i64 t.beg,.int .i64 t.fin] 169)).grown b1 (fun e=>by obtain⟨xs,hx⟩:=I.2.1.own;have:=(aD hx e.symm).2;have:=a6.out.size;omega);have c2:=q2.cl 2;have H4:=J2 a7 k4;clear k4 a7 b1 b5 q2))
   go_roundg f;·exact⟨f,t.fin,r2,l1++[t],rfl,rfl,HM.2,HM.1,by rw[jM];exact I.2.2,H4.2,by simpa using H4.1⟩
   omega
end Go.Proofs.YtgdlhckhpolnnaaGreatDoor
