/- Part 38 of the proof (its last part says what is proved). No condition. -/
import Derived.Shelf.Small.Strs
import Derived.Shelf.Small.Wraps
import Derived.Shelf.Strings.Shaped
import Derived.Shelf.Strings.SplitShaped
import Derived.Shelf.Unicode.DecodeSlow
import Derived.Shelf.Strings.FieldsFuncAny
import Derived.Shelf.Slices.Turned
import Derived.Shelf.Slices.SearchI
import Derived.Shelf.Slices.Cells
import Derived.Shelf.Slices.In.SortNone
import Derived.Shelf.Slices.Empties2
import Derived.Test.YtgdlhckhpolnnaaGreatDoorK36
namespace Go.Proofs.YtgdlhckhpolnnaaGreatDoor
set_option maxRecDepth 100000
set_option maxHeartbeats 8000000
open Go.RowKit Go.Proofs.Tryz
section
namespace Q
section
variable {g:Gh} {w:World} {S:Nat→Prop} {c:V} {cs:List V} {vs:List Value} {v:Value}
theorem VRs.cons_inv (h:VRs g w (c::cs) vs):∃v us,vs=v::us∧VR g w c v∧VRs g w cs us:=by
 cases vs with
 |nil=>have:=h.1;simp at this
 |cons v us=>exact⟨v,us,rfl,h.2 0 c v rfl rfl,by simpa using h.1,fun i x u j hu=>h.2 (i+1) x u (by simpa using j) (by simpa using hu)⟩
def qhA (g:Gh)(w:World):List V→List Value→Prop
 | [],vs=>vs=[]
 |c::cs,vs=>∃v us,vs=v::us∧VR g w c v∧qhA g w cs us
theorem VRs.inv:∀ {cs:List V} {vs:List Value},VRs g w cs vs→qhA g w cs vs
 | [],vs,h=>by have:=h.1;simpa [qhA] using this.symm
 |c::cs,vs,h=>by obtain⟨v,us,e,j,o⟩:=VRs.cons_inv h;exact⟨v,us,e,j,o.inv⟩
theorem qcY (h:VR g w (.agg cs) v):∃vs,v=.agg vs.toArray∧VRs g w cs vs:=by
 cases h with
 |agg _ vs hl h=>exact⟨vs,rfl,hl,h⟩
theorem qbo {α:Type}{n bw:Nat}{E:cO α}{fv:α→List V}{l:List α}{tok:Option Nat}(h0:0<n)(hS:∀b o,g.fz b o→S b)(hE:∀x∈l,∀vs,VRs g w (fv x) vs→E S w vs x)(h:VR g w (.row n bw (l.map fv) tok) v):rx n bw E S w v l:=by
 cases h with
 |row _ _ _ _ a c f h1 h2 h3 hk ha hr ht=>
  simp only[ce] at h1 h3;rw[ce];refine⟨a,c,rfl,h1,h2,h3,fun i x hx=>?_⟩;have hi:=(lS.1 hx).1;have R:(l.map fv)[i]? =some (fv x):=by simp[hx]
  obtain⟨b,off,rfl,hc⟩:=ha (by simp;omega);skip;have Y:=hc i (by simpa using hi);have a1:=hk (fv x) (mG R);have I:∀(j:Nat) u,((List.range n).map (f i))[j]? =some u→j<n∧u=f i j:=fun j u J=>by(
 have C:j<n:=by simpa using(lS.1 J).1
 rw[cL,ln C] at J;cases J;exact⟨C,rfl⟩)
  refine⟨b,off,(List.range n).map (f i),rfl,hS _ _ (Y 0 h0).1,by simp,fun j u J=>?_,hE x (mG hx) _ ⟨by simp[a1],fun j c u J hu=>?_⟩⟩;·obtain⟨C,rfl⟩:=I j u J;exact(Y j C).2
  obtain⟨C,rfl⟩:=I j u hu;exact hr i _ j c R J
theorem qbW {α:Type}{bw:Nat}{E:bT α}{fv:α→V}{l:List α}{tok:Option Nat}(C:∀b o,g.fz b o→S b)(I:∀x∈l,∀u,VR g w (fv x) u→E S w u x)(h:VR g w (.row 1 bw (l.map fun x=>[fv x]) tok) v):Sl bw E S w v l:=by obtain⟨a,c,e,J,R,Y,k4⟩:=qbo (E:=fun S w cs x=>∃u,cs=[u]∧E S w u x) (by omega) C (fun x j vs hv=>by obtain⟨u,_,rfl,h1,rfl⟩:=hv.inv;exact⟨u,rfl,I x j u h1⟩) h;refine⟨a,c,e,J,R,Y,fun i x j=>?_⟩;obtain⟨b,off,cs,e1,s1,e2,e3,u,rfl,e4⟩:=k4 i x j;exact⟨b,off,u,e1,s1,by simpa using e3 0 u rfl,e4⟩
structure qcW (c:aE):Prop where
 main:aV c.main
 arr:∀x∈c.Nd,aV x.1∧aV x.2
 fns:∀b∈c.Nf,aV b.params∧aV b.vars∧∀l∈b.Ng,∀x∈l,jx x∧(∀a∈x.args,aV a)∧∀a∈x.Nh,aV a
theorem qdI {l:List Int}(j:∀b o,g.fz b o→S b)(hl:∀a∈l,aV a)(h:VR g w (qeN l) v):aK S w v l:=qbW (fv:=fun n=>.s (.int .i64 n)) j (fun x C _ hu=>⟨hu.of_s,WalkArith.wf_i64 (hl x C)⟩) h
theorem qhK {x:bz}(C:∀b o,g.fz b o→S b)(j:jx x∧(∀a∈x.args,aV a)∧∀a∈x.Nh,aV a)(h:VRs g w (Oe x) vs):KD S w vs x:=by obtain⟨_,_,rfl,I,_,_,rfl,J,_,_,rfl,R,_,_,rfl,Y,_,_,rfl,h5,a,_,rfl,ha,f,_,rfl,hf,_,_,rfl,h6,_,_,rfl,h7,rfl⟩:=h.inv;cases I.of_s;cases J.of_s;cases R.of_s;cases Y.of_s;cases h5.of_s;cases h6.of_s;cases h7.of_s;exact⟨a,f,rfl,qdI C j.2.1 ha,qdI C j.2.2 hf,j.1⟩
theorem qdD {c:aE}(j:∀b o,g.fz b o→S b)(J:qcW c)(h:VR g w (.agg (qaI c)) v):cQ S w v c:=by
 obtain⟨_,rfl,k⟩:=qcY h;obtain⟨a,_,rfl,ha,f,_,rfl,hf,_,_,rfl,C,rfl⟩:=k.inv;cases C.of_s;refine⟨a,f,rfl,qbo (by omega) j (fun x R vs I=>?_) ha,qbo (by omega) j (fun b hb vs I=>?_) hf,J.main⟩
 ·obtain⟨_,_,rfl,C,_,_,rfl,Y,rfl⟩:=I.inv
  cases C.of_s;cases Y.of_s;exact⟨rfl,J.arr x R⟩
 obtain⟨h5,h6,h7⟩:=J.fns b hb;obtain⟨_,_,rfl,C,_,_,rfl,Y,r,_,rfl,hr,rfl⟩:=I.inv;cases C.of_s;cases Y.of_s;exact⟨r,rfl,qbW (fv:=qcv) j (fun l hl u hu=>qbo (by omega) j (fun x R vs I=>qhK j (h7 l hl x R) I) hu) hr,h5,h6⟩
abbrev qdB (x:ByteArray×Int):List V:=[.s (.string x.1),.s (.int .i64 x.2)]
abbrev qbn (p:aH):List V:=[.row 1 16 (p.MZ.map fun s=>[.s (.string s)]) none,.row 1 8 (p.up.map fun x=>[.s (U x)]) none,.row 2 24 (p.Nb.map qdB) none,.row 2 24 (p.Na.map qdB) none,.s (.int .i64 p.Nc)]
structure qdu (p:aH):Prop where
 Nb:∀c∈p.Nb,aV c.2
 Na:∀c∈p.Na,aV c.2
 Nc:aV p.Nc
theorem qeV {p:aH}(j:∀b o,g.fz b o→S b)(C:qdu p)(h:VR g w (.agg (qbn p)) v):dJ S w v p:=by obtain⟨_,rfl,k⟩:=qcY h;obtain⟨a,_,rfl,J,b,_,rfl,R,c,_,rfl,Y,d,_,rfl,hd,_,_,rfl,I,rfl⟩:=k.inv;cases I.of_s;have key:∀ {l:List (ByteArray×Int)} {v:Value},(∀c∈l,aV c.2)→VR g w (.row 2 24 (l.map qdB) none) v→kh S w v l:=fun hl h=>qbo (by omega) j (fun x hx vs hv=>by obtain⟨_,_,rfl,I,_,_,rfl,h2,rfl⟩:=hv.inv;cases I.of_s;cases h2.of_s;exact⟨rfl,WalkArith.wf_i64 (hl x hx)⟩) h;exact⟨a,b,c,d,rfl,qbW (fv:=fun s=>.s (.string s)) j (fun _ _ _ hu=>hu.of_s) J,qbW (fv:=fun x=>.s (U x)) j (fun _ _ _ hu=>hu.of_s) R,key C.Nb Y,key C.Na hd,WalkArith.wf_i64 C.Nc⟩
end
structure qbf (p:aH)(c:aE):Prop where
 pol:qdu p
 code:qcW c
 psm:kj p
 csm:lY c
 names:eM p c↔bJ p c
theorem qhj {p:aH}{c:aE}{g:Gh}{w:World}{vs:List Value}{H:List HO}(j:qbf p c)(C:gz w)(o:HR g w H)(h:VRs g w [.agg (qbn p),.agg (qaI c)] vs):Calls prog 15 vs.toArray w fun e w'=>e=.returned (.bool (pB (bJ p c∧jH c)))∧aa All w w':=by obtain⟨a,_,rfl,I,b,_,rfl,J,rfl⟩:=h.inv;exact Bq (fun b=>b<w.heap.size) a b p c w (qeV o.lt j.pol I) (qdD o.lt j.code J) C (fun b h=>h) j.psm j.csm j.names
end Q
end
section
namespace Q
section
variable {C:Cx} {T:VT} {H:List HO} {Q:VQ} {c:Code}
theorem qiz (t:Nat)(e:TypeId)(k bw:Nat)(Y:Oo T t=some (.s (.slice none 0 0)))(h:VW C c Q ((t,.row k bw [] (some H.length))::T) (H++[.tok e k 0])):VW C c Q T H:=⟨fun g a w j=>by
 obtain⟨g1,R,r1,v1⟩:=qeZ (e:=e) (k:=k) j.hr;refine h.out g1 a w ⟨j.le.trans R,fun u y o=>?_,r1,j.defers,j.size,j.nil⟩;simp only[Oo] at o;split at o
 ·rename_i e;subst e;cases o
  obtain⟨v,I,J⟩:=j.tmps t _ Y;cases J.of_s;exact⟨_,I,v1 bw⟩
 obtain⟨v,I,J⟩:=j.tmps u y o;exact⟨v,I,J.le R⟩⟩
theorem qib (t:Nat){k bw:Nat}{es:List (List V)}{tok:Option Nat}(I:Oo T t=some (.row k bw es tok))(h:VW C c Q ((t,.row k bw es none)::T) H):VW C c Q T H:=⟨fun g a w j=>by
 refine h.out g a w ⟨j.le,fun u y o=>?_,j.hr,j.defers,j.size,j.nil⟩;simp only[Oo] at o;split at o
 ·rename_i e;subst e;cases o;obtain⟨v,J,R⟩:=j.tmps t _ I;refine⟨v,J,?_⟩;cases R with
  |row _ _ _ _ a c f Y k2 k3 k4 k5 k6 _=>exact .row _ _ _ _ a c f Y k2 k3 k4 k5 k6 nofun
 exact j.tmps u y o⟩
end
theorem r6 {l j:List qaJ}(h:l=j){o:Option Nat}:some (V.row 5 40 (l.map qaH) o)=some (.row 5 40 (j.map qaH) o):=by rw[h]
theorem qau (N:Nat)(l:List qaJ):∀e∈l.map qaH,∀c∈e,Lt N c:=fun e he=>by obtain⟨s,_,rfl⟩:=dr.1 he;simp[LT,qaH]
theorem qgn {N j:Nat}{l:List qaJ}(h:j<N):Lt N (.row 5 40 (l.map qaH) (some j)):=.row _ _ _ _ (qau N l) fun t e=>by cases e;exact h
theorem qas (N:Nat)(p:aH):∀x∈qbn p,Lt N x:=by
 have j:∀(l:List (ByteArray×Int)),∀e∈l.map qdB,∀x∈e,Lt N x:=fun l e he x o=>by obtain⟨a,_,rfl⟩:=dr.1 he;revert x;simp[LT]
 exact al1 (.row _ _ _ _ (by simp[LT]) nofun) (al1 (.row _ _ _ _ (by simp[LT]) nofun) (al1 (.row _ _ _ _ (j _) nofun) (al1 (.row _ _ _ _ (j _) nofun) (al1 (.s _) al0))))
theorem wN {α:Type}{M:List (List α)}{k:Nat}{L:List α}(h:M[k]? =some L):(M.take k).flatten.length+L.length≤M.flatten.length:=by have e:=congrArg List.length (congrArg List.flatten (List.take_append_drop (k+1) M));rw[List.flatten_append,vd h] at e;simp only[iQ] at e;omega
structure qed (c:aE)(b:aw):Prop where
 ref:∀x∈b.Ng.flatten,x.kind=5→0≤x.ref∧x.ref<c.Nd.length
 two:∀x∈b.Ng.flatten,x.kind=2→x.args.length=2
 mem:∀x∈b.Ng.flatten,x.kind=4∨x.kind=6→0<x.args.length∧0≤x.ref∧x.ref<c.Nd.length
abbrev qaL (p:aH)(c:aE):Prop:=bJ p c∧jH c
open Classical in
noncomputable def qeg (p:aH)(c:aE):V:=if qaL p c then .tup [.row 5 40 ((qaF c).map qaH) none,.s (.int .i64 0)] else .tup [.s (.slice none 0 0),.s (.int .i64 1)]
theorem qeI (p:aH)(c:aE)(hI:qbf p c)(hS:qaL p c→∀b∈c.Nf,qed c b)(J:qaL p c→(qaF c).length*40≤140737488355328):VFL gz prog 8 [.agg (qbn p),.agg (qaI c)] (·=qeg p c):=by
 refine qbX [4,5] func8 rfl Tryz.results8 ntmps8 rfl fun g w hL hk=>?_;refine st ?_;refine qiC (fun g' w' vs hl hh hv=>qhj hI (hL.keep (hk g' w' hl)) hh hv) ?_;refine st ?_;by_cases hr:qaL p c
 case neg=>
  refine qbr (fun h=>?_) fun h=>?_;·refine st ?_;refine qaw ⟨.inl rfl,_,_,rfl,Ros.cons (.lt _ (.s _)) (Ros.cons (.lt _ (.s _)) Ros.nil),?_⟩;unfold qeg;rw[ae hr];rfl
  exact absurd (by simpa [pB] using h) hr
 refine qbr (fun h=>?_) fun h=>?_;·exact absurd hr (by simpa [pB] using h)
 refine st ?_;refine qiz 6 47 5 40 rfl ?_;have b0:c.Nf.length≤1048576:=hI.csm.Nf;refine qbM (fun k=>k≤c.Nf.length) (fun k=>c.Nf.length-k) (fun k=>[(23,.s (.int .i64 k)),(22,.s (.int .i64 c.Nf.length)),(21,.row 3 40 (c.Nf.map qaW) none),(6,.row 5 40 (((qav c).take k).flatten.map qaH) (some 2)),(3,.ptr 1 0)]) (fun k=>[.cells 26 (qbn p),.cells 30 (qaI c),.tok 47 5 (((qav c).take k).flatten.map qaH).length]) 0 (Nat.zero_le _) ⟨rfl,rfl,rfl,rfl,rfl,trivial⟩ (.inl rfl) ?_;intro k hk;refine st ?_;refine qbT (fun h=>?_) fun h=>?_
 case refine_2=>(refine qbL (qib 6 rfl (st ?_));refine qbN (qhF ((qav c).take k).flatten) ?_ (hl:=al1 (.row _ _ _ _ (qau 0 _) nofun) al0);refine st ?_;refine qaw ⟨.inl rfl,_,_,rfl,Ros.cons (.row _ _ _ _ (qau 0 _)) (Ros.cons (.lt _ (.s _)) Ros.nil),?_⟩;unfold qeg;rw[ap hr,oF (by simp[qav];omega)];rfl)
 obtain⟨b,hx⟩:=eG h;have o:=mG hx;have b1:=hI.csm.Ng b o;have R:=hI.csm.ops b o;have Y:(qav c)[k]? =some (qaz c k b).flatten:=by simp[qav,hx]
 refine st ?_;refine qbN (qfY b (by omega) fun l hl=>by have:=R l hl;omega) ?_ (hl:=al1 (.agg _ (qbb 0 b)) al0);refine st ?_;refine qbM (fun i=>i≤b.Ng.length) (fun i=>b.Ng.length-i) (fun i=>[(33,.s (.int .i64 i)),(32,.s (.int .i64 b.Ng.length)),(31,.row 1 24 (b.Ng.map fun l=>[qcv l]) none),(9,.rmap (.int .i64) (qaN b.Ng.flatten)),(7,.s (.int .i64 k)),(23,.s (.int .i64 k)),(22,.s (.int .i64 c.Nf.length)),(21,.row 3 40 (c.Nf.map qaW) none),(6,.row 5 40 ((((qav c).take k).flatten++((qaz c k b).take i).flatten).map qaH) (some 2)),(3,.ptr 1 0)]) (fun i=>[.cells 26 (qbn p),.cells 30 (qaI c),.tok 47 5 ((((qav c).take k).flatten++((qaz c k b).take i).flatten).map qaH).length,.cells 42 (qaW b)]) 0 (Nat.zero_le _) ⟨rfl,rfl,rfl,rfl,rfl,rfl,rfl,rfl,r6 (by simp),rfl,trivial⟩ (.inl (by simp)) ?_;intro i hi;refine st ?_;refine qbT (fun h=>?_) fun h=>?_
 case refine_2=>
  refine qbL (st ?_);have e:((qav c).take k).flatten++((qaz c k b).take i).flatten=((qav c).take (k+1)).flatten:=by rw[vd Y,oF (l:=qaz c k b) (by simp[qaz];omega)]
  exact⟨k+1,by omega,by omega,⟨rfl,rfl,rfl,r6 e,rfl,trivial⟩,.inr ⟨_,by rw[e];rfl,Nat.zero_le _,al1 (.s _) (al1 (.s _) (al1 (qar _ c _ (by simp)) (al1 (qgn (by simp)) (al1 (.ptr _ _ (by simp)) al0)))),al1 (qas _ p) (al1 (qar _ c) (al1 trivial al0))⟩⟩
 obtain⟨l,hy⟩:=eG h;have a1:=mG hy;have b2:=R l a1;have a6:(qaz c k b)[i]? =some (qaE c b k i l).flatten:=by simp[qaz,hy]
 refine st ?_;refine qbM (fun j=>j≤l.length) (fun j=>l.length-j) (fun j=>[(40,.s (.int .i64 j)),(39,.s (.int .i64 l.length)),(38,qcv l),(10,.s (.int .i64 i)),(33,.s (.int .i64 i)),(32,.s (.int .i64 b.Ng.length)),(31,.row 1 24 (b.Ng.map fun l=>[qcv l]) none),(9,.rmap (.int .i64) (qaN b.Ng.flatten)),(7,.s (.int .i64 k)),(23,.s (.int .i64 k)),(22,.s (.int .i64 c.Nf.length)),(21,.row 3 40 (c.Nf.map qaW) none),(6,.row 5 40 ((((qav c).take k).flatten++((qaz c k b).take i).flatten++((qaE c b k i l).take j).flatten).map qaH) (some 2)),(3,.ptr 1 0)]) (fun j=>[.cells 26 (qbn p),.cells 30 (qaI c),.tok 47 5 ((((qav c).take k).flatten++((qaz c k b).take i).flatten++((qaE c b k i l).take j).flatten).map qaH).length,.cells 42 (qaW b)]) 0 (Nat.zero_le _) ⟨rfl,rfl,rfl,rfl,rfl,rfl,rfl,rfl,rfl,rfl,rfl,rfl,r6 (by simp),rfl,trivial⟩ (.inl (by simp)) ?_;intro j hj;refine st ?_;refine qbT (fun h=>?_) fun h=>?_
 case refine_2=>
  refine qbL (st ?_);have e:((qav c).take k).flatten++((qaz c k b).take i).flatten++((qaE c b k i l).take j).flatten=((qav c).take k).flatten++((qaz c k b).take (i+1)).flatten:=by rw[vd a6,oF (l:=qaE c b k i l) (by simp[qaE];omega),jM]
  exact⟨i+1,by omega,by omega,⟨rfl,rfl,rfl,rfl,rfl,rfl,rfl,rfl,r6 e,rfl,trivial⟩,.inl (by rw[e])⟩
 obtain⟨x,hz⟩:=eG h;have a7:x∈b.Ng.flatten:=List.mem_flatten.2 ⟨l,a1,mG hz⟩;have I:(qaE c b k i l)[j]? =some (qbp c b k i j x):=by simp[qaE,hz]
 have hs:=hS hr b o;refine st ?_;refine qbN (qhW c b x hs.ref (hs.two x a7) (hs.mem x a7)) ?_ (hl:=al1 (.agg _ (qar 0 c)) (al1 (.rmap _ _ (qbx 0 _)) (al1 (.agg _ (by simp[LT,Oe])) al0)));refine st ?_;have a8:∀(l':List qaJ),∀y∈[(40,V.s (.int .i64 (j+1:Nat))),(39,.s (.int .i64 l.length)),(38,qcv l),(10,.s (.int .i64 i)),(33,.s (.int .i64 i)),(32,.s (.int .i64 b.Ng.length)),(31,.row 1 24 (b.Ng.map fun l=>[qcv l]) none),(9,.rmap (.int .i64) (qaN b.Ng.flatten)),(7,.s (.int .i64 k)),(23,.s (.int .i64 k)),(22,.s (.int .i64 c.Nf.length)),(21,.row 3 40 (c.Nf.map qaW) none),(6,.row 5 40 (l'.map qaH) (some 2)),(3,.ptr 1 0)],Lt 4 y.2:=fun l'=>
  al1 (.s _) (al1 (.s _) (al1 (by simp[LT,Oe]) (al1 (.s _) (al1 (.s _) (al1 (.s _) (al1 (qbb 4 b _ (by simp[qaW])) (al1 (.rmap _ _ (qbx _ _)) (al1 (.s _) (al1 (.s _) (al1 (.s _) (al1 (qar 4 c _ (by simp)) (al1 (qgn (by omega)) (al1 (.ptr _ _ (by omega)) al0)))))))))))))
 refine qbr (fun h6=>?_) fun h6=>?_
 ·have e1:qbp c b k i j x=[⟨k,i,j,(qaA c b x).1,(qaA c b x).2⟩]:=by unfold qbp;rw[ae (by simpa using h6)]
  have e:((qav c).take k).flatten++((qaz c k b).take i).flatten++((qaE c b k i l).take (j+1)).flatten=(((qav c).take k).flatten++((qaz c k b).take i).flatten++((qaE c b k i l).take j).flatten)++[⟨k,i,j,(qaA c b x).1,(qaA c b x).2⟩]:=by rw[vd I,e1,←jM]
  have em:=congrArg (List.map qaH) e;rw[List.map_append (l₁:=((qav c).take k).flatten++((qaz c k b).take i).flatten++((qaE c b k i l).take j).flatten)] at em;have hn:(((qav c).take k).flatten++((qaz c k b).take i).flatten++((qaE c b k i l).take j).flatten).length+1≤(qaF c).length:=by have k1:=wN Y;have k2:=wN a6;have k3:=wN I;rw[e1] at k3;simp only[iQ,kI,List.length_nil,qaF] at k3⊢;omega
  have hb:=J hr;refine st ?_;exact⟨j+1,by omega,by omega,⟨rfl,rfl,rfl,rfl,rfl,rfl,rfl,rfl,rfl,rfl,rfl,rfl,by rw[em];rfl,rfl,trivial⟩,.inr ⟨_,by rw[em,iQ];rfl,Nat.zero_le _,a8 _,al1 (qas _ p) (al1 (qar _ c) (al1 trivial (al1 (qbb _ b) al0)))⟩⟩
 have e:((qav c).take k).flatten++((qaz c k b).take i).flatten++((qaE c b k i l).take (j+1)).flatten=((qav c).take k).flatten++((qaz c k b).take i).flatten++((qaE c b k i l).take j).flatten:=by rw[vd I];unfold qbp;rw[ap (by simpa using h6),List.append_nil]
 refine st ?_;exact⟨j+1,by omega,by omega,⟨rfl,rfl,rfl,rfl,rfl,rfl,rfl,rfl,rfl,rfl,rfl,rfl,by rw[e];rfl,rfl,trivial⟩,.inr ⟨_,by rw[e];rfl,Nat.zero_le _,a8 _,al1 (qas _ p) (al1 (qar _ c) (al1 trivial (al1 (qbb _ b) al0)))⟩⟩
end Q
end
namespace Q
def qdv (p:aH)(c:aE)(f k i:Int):Prop:=qaL p c∧∃b l,0≤f∧0≤k∧0≤i∧c.Nf[f.toNat]? =some b∧b.Ng[k.toNat]? =some l∧i<l.length∧∀s∈qaF c,qcr f k i s=false
theorem qgq (p:aH)(c:aE)(f k i:Int)(hI:qbf p c)(hS:qaL p c→∀b∈c.Nf,qed c b)(j:qaL p c→(qaF c).length*40≤140737488355328):VFL gz prog 14 [.agg (qbn p),.agg (qaI c),.s (.int .i64 f),.s (.int .i64 k),.s (.int .i64 i)] (·=.s (.bool (pB (qdv p c f k i)))):=by
 refine qbX [10] func14 rfl Tryz.results14 ntmps14 rfl fun g w hL hk=>?_;have fin:∀ {e:Exit} {T:VT} {H:List HO},e=.ret→Oo T 10=some (.s (.bool false))→¬qdv p c f k i→qcE [10] (·=.s (.bool (pB (qdv p c f k i)))) e T H:=fun he e1 e2=>⟨.inl he,[.s (.bool false)],_,by simp[e1],Ros.cons (.lt _ (.s _)) Ros.nil,by simp[pB,e2,qeF]⟩;refine st ?_;refine qaK 42 ?_;refine st ?_;refine qaq (fun h1=>?_) fun h1=>?_
 ·refine st ?_
  exact qaw (fin rfl rfl fun⟨_,J,R,Y,k2,k3,C,I,k6,_⟩=>by omega)
 refine st ?_;refine qaq (fun h2=>?_) fun h2=>?_
 ·refine st ?_
  exact qaw (fin rfl rfl fun⟨_,J,R,Y,k2,k3,C,I,k6,_⟩=>by have:=(lS.1 C).1;omega)
 obtain⟨b,hb⟩:∃b,c.Nf[f.toNat]? =some b:=⟨_,lG (by omega)⟩;refine st ?_;refine qaq (fun h3=>?_) fun h3=>?_
 ·refine st ?_
  exact qaw (fin rfl rfl fun⟨_,J,R,Y,k2,k3,C,I,k6,_⟩=>by omega)
 refine st ?_;refine qaq (fun h4=>?_) fun h4=>?_
 ·refine st ?_
  exact qaw (fin rfl rfl fun⟨_,J,R,Y,k2,k3,C,I,k6,_⟩=>by rw[hb] at C;cases C;have:=(lS.1 I).1;omega)
 obtain⟨l,hl⟩:∃l,b.Ng[k.toNat]? =some l:=⟨_,lG (by omega)⟩;refine st ?_;refine qaq (fun h5=>?_) fun h5=>?_
 ·refine st ?_
  exact qaw (fin rfl rfl fun⟨_,J,R,Y,k2,k3,C,I,k6,_⟩=>by omega)
 refine st ?_;refine qbT (fun h6=>?_) fun h6=>?_
 ·refine st ?_
  exact qaw (fin rfl rfl fun⟨_,J,R,Y,k2,k3,C,I,k6,_⟩=>by rw[hb] at C;cases C;rw[hl] at I;cases I;omega)
 refine st ?_;by_cases hr:qaL p c;·(
 have o:VFL gz prog 8 [.agg (qbn p),.agg (qaI c)] (·=.tup [.row 5 40 ((qaF c).map qaH) none,.s (.int .i64 0)]):=by have:=qeI p c hI hS j;unfold qeg at this;rwa [ap hr] at this
 refine qaP (fun g' w' hle=>o w' (hL.keep (hk g' w' hle))) ?_ (hl:=al1 (.agg _ (qas 0 p)) (al1 (.agg _ (qar 0 c)) al0));refine st ?_;have a1:=j hr;refine qeG (qeo (qaF c) f k i (by omega)) (Ros.cons (.row _ _ _ _ (qau 0 _)) (Ros.cons (Ro.fn' (Ros.cons (Ro.ptr' (Ros.cons (.lt _ (.s _)) Ros.nil) rfl) (Ros.cons (Ro.ptr' (Ros.cons (.lt _ (.s _)) Ros.nil) rfl) (Ros.cons (Ro.ptr' (Ros.cons (.lt _ (.s _)) Ros.nil) rfl) Ros.nil)))) Ros.nil)) ?_;refine st ?_;refine qaw ⟨.inl rfl,_,_,rfl,Ros.cons (.lt _ (.s _)) Ros.nil,?_⟩;cases ha:(qaF c).any (qcr f k i) with
 |false=>have h:qdv p c f k i:=⟨hr,b,l,by omega,by omega,by omega,hb,hl,by omega,fun s hs=>by simpa using List.any_eq_false.1 ha s hs⟩;simp[qeF,av h]
 |true=>
  have h:¬qdv p c f k i:=fun⟨_,_,_,_,_,_,_,_,_,h⟩=>by obtain⟨s,h1,h2⟩:=mW.1 ha;rw[h s h1] at h2;cases h2
  simp[qeF,au h])
 have o:VFL gz prog 8 [.agg (qbn p),.agg (qaI c)] (·=.tup [.s (.slice none 0 0),.s (.int .i64 1)]):=by have:=qeI p c hI hS j;unfold qeg at this;rwa [ae hr] at this
 refine qaP (fun g' w' hle=>o w' (hL.keep (hk g' w' hle))) ?_ (hl:=al1 (.agg _ (qas 0 p)) (al1 (.agg _ (qar 0 c)) al0));refine st ?_;exact qaw (fin rfl rfl fun h=>hr h.1)
end Q
section
namespace Q
section
variable {g:Gh} {w:World} {S:Nat→Prop} {v:Value} {vs:List Value}
theorem qfH {cs:List V}(h:VRs g w cs vs):VR g w (.agg cs) (.agg vs.toArray):=.agg _ _ h.1 h.2
theorem qgw {cs:List V}(h:VRs g w cs vs):VR g w (.tup cs) (.tuple vs.toArray):=.tup _ _ h.1 h.2
theorem qbq {α:Type}{n bw:Nat}{E:cO α}{fv:α→List V}{l:List α}(hS:∀b,S b→∀o,g.fz b o)(hn:∀x,(fv x).length=n)(hE:∀x vs,E S w vs x→VRs g w (fv x) vs)(h:rx n bw E S w v l):VR g w (.row n bw (l.map fv) none) v:=by
 obtain⟨a,cap,rfl,h1,h2,h3,h4⟩:=h;have key:∀i:Nat,∃cs:List Value,∀x,l[i]? =some x→∃b off,a=some ⟨b,off,none⟩∧S b∧cs.length=n∧(∀(j:Nat) c,cs[j]? =some c→w.cell? ⟨b,off+i*n+j,none⟩=some c)∧E S w cs x:=fun i=>by(
 cases J:l[i]? with
 |none=>exact⟨[],nofun⟩
 |some x=>obtain⟨b,off,cs,h⟩:=h4 i x J;exact⟨cs,fun y R=>by cases R;exact⟨b,off,h⟩⟩)
 obtain⟨F,Y⟩:∃F:Nat→List Value,∀i x,l[i]? =some x→∃b off,a=some ⟨b,off,none⟩∧S b∧(F i).length=n∧(∀(j:Nat) c,(F i)[j]? =some c→w.cell? ⟨b,off+i*n+j,none⟩=some c)∧E S w (F i) x:=⟨fun i=>(key i).choose,fun i=>(key i).choose_spec⟩;have:=VR.row (g:=g) (w:=w) n bw (l.map fv) none a cap (fun i j=>(F i).getD j undef) (by simpa using h1) h2 (by simpa using h3) (fun e he=>by obtain⟨x,_,rfl⟩:=dr.1 he;exact hn x) (fun h0=>by
  rw[ce] at h0⊢;obtain⟨b,off,e,_⟩:=Y 0 _ (lG h0);refine⟨b,off,e,fun i hi j hj=>?_⟩;obtain⟨b2,a1,I,s2,l2,c2,_⟩:=Y i _ (lG hi);rw[e] at I;cases I;have C:j<(F i).length:=by omega
  exact⟨hS _ s2 _,(c2 j _ (lG C)).trans (by simp[lG C])⟩) (fun i e j x he J=>by
  rw[cL] at he;obtain⟨y,R,rfl⟩:=oE.1 he;obtain⟨b,off,_,_,_,_,h⟩:=Y i y R;obtain⟨u,e1,I⟩:=(hE y _ h).get J;simpa [iG,e1] using I) nofun
 rwa [ce] at this
theorem qcn {α:Type}{bw:Nat}{E:bT α}{fv:α→V}{l:List α}(I:∀b,S b→∀o,g.fz b o)(J:∀x u,E S w u x→VR g w (fv x) u)(h:Sl bw E S w v l):VR g w (.row 1 bw (l.map fun x=>[fv x]) none) v:=by
 obtain⟨a,c,e,R,Y,k3,k4⟩:=h;refine qbq (E:=fun S w cs x=>∃u,cs=[u]∧E S w u x) I (fun _=>rfl) (fun x vs hv=>?_) ⟨a,c,e,R,Y,k3,fun i x hx=>?_⟩
 ·obtain⟨u,rfl,h⟩:=hv
  exact VRs.cons (J x u h) VRs.nil
 obtain⟨b,off,u,e1,s1,e2,e3⟩:=k4 i x hx;refine⟨b,off,[u],e1,s1,rfl,fun j c C=>?_,u,rfl,e3⟩;cases j with
 |zero=>simp at C;subst C;simpa using e2
 |succ j=>simp at C
theorem qfU {l:List Int}(j:∀b,S b→∀o,g.fz b o)(h:aK S w v l):VR g w (qeN l) v:=qcn (fv:=fun n=>.s (.int .i64 n)) j (fun x u hu=>by rw[hu.1];exact .s _) h
theorem qiO {x:bz}(j:∀b,S b→∀o,g.fz b o)(h:KD S w vs x):VRs g w (Oe x) vs:=by obtain⟨a,f,rfl,C,I,_⟩:=h;exact VRs.cons (.s _) (VRs.cons (.s _) (VRs.cons (.s _) (VRs.cons (.s _) (VRs.cons (.s _) (VRs.cons (qfU j C) (VRs.cons (qfU j I) (VRs.cons (.s _) (VRs.cons (.s _) VRs.nil))))))))
theorem qfP {l:List aw}(j:∀b,S b→∀o,g.fz b o)(h:mL S w v l):VR g w (.row 3 40 (l.map qaW) none) v:=qbq j (fun _=>rfl) (fun b vs h=>by obtain⟨r,rfl,C,_⟩:=h;exact VRs.cons (.s _) (VRs.cons (.s _) (VRs.cons (qcn (fv:=qcv) j (fun l u h=>qbq j (fun _=>rfl) (fun x vs h=>qiO j h) h) C) VRs.nil))) h
theorem qhG {c:aE}(j:∀b,S b→∀o,g.fz b o)(h:cQ S w v c):VR g w (.agg (qaI c)) v:=by obtain⟨a,f,rfl,C,I,_⟩:=h;refine qfH (VRs.cons (qbq j (fun _=>rfl) (fun x vs h=>?_) C) (VRs.cons (qfP j I) (VRs.cons (.s _) VRs.nil)));obtain⟨rfl,_⟩:=h;exact VRs.cons (.s _) (VRs.cons (.s _) VRs.nil)
theorem qdp {l:List ByteArray}(j:∀b,S b→∀o,g.fz b o)(h:gB S w v l):VR g w (.row 1 16 (l.map fun s=>[.s (.string s)]) none) v:=qcn (fv:=fun s=>.s (.string s)) j (fun x u hu=>by cases (hu:u=.string x);exact .s _) h
theorem qiv {p:aH}(j:∀b,S b→∀o,g.fz b o)(h:dJ S w v p):VR g w (.agg (qbn p)) v:=by obtain⟨a,b,c,d,rfl,C,I,J,R,_⟩:=h;have key:∀ {l:List (ByteArray×Int)} {v:Value},kh S w v l→VR g w (.row 2 24 (l.map qdB) none) v:=fun h=>qbq j (fun _=>rfl) (fun x vs h=>by obtain⟨rfl,_⟩:=h;exact VRs.cons (.s _) (VRs.cons (.s _) VRs.nil)) h;exact qfH (VRs.cons (qdp j C) (VRs.cons (qcn (fv:=fun x=>.s (U x)) j (fun x u hu=>by cases (hu:u=U x);exact .s _) I) (VRs.cons (key J) (VRs.cons (key R) (VRs.cons (.s _) VRs.nil)))))
theorem qaU {α:Type}{n bw:Nat}{E:cO α}{l:List α}(h:rx n bw E S w v l){x:α}(j:x∈l):∃cs,E S w cs x:=by obtain⟨_,_,_,_,_,_,o⟩:=h;obtain⟨i,hi⟩:=cY.1 j;obtain⟨_,_,cs,_,_,_,_,h⟩:=o i x hi;exact⟨cs,h⟩
theorem qeB {α:Type}{bw:Nat}{E:bT α}{l:List α}(h:Sl bw E S w v l){x:α}(j:x∈l):∃u,E S w u x:=by obtain⟨_,_,_,_,_,_,o⟩:=h;obtain⟨i,hi⟩:=cY.1 j;obtain⟨_,_,u,_,_,_,h⟩:=o i x hi;exact⟨u,h⟩
theorem qfg {c:aE}(h:cQ S w v c):qcW c:=by obtain⟨a,f,rfl,I,J,R⟩:=h;refine⟨R,fun x j=>(qaU I j).choose_spec.2,fun b Y=>?_⟩;obtain⟨_,r,rfl,h4,h5,h6⟩:=qaU J Y;refine⟨h5,h6,fun l hl x j=>?_⟩;obtain⟨u,h7⟩:=qeB h4 hl;obtain⟨_,_,_,rfl,h8,h9,o⟩:=qaU h7 j;exact⟨o,fun a C=>rs (qeB h8 C).choose_spec.2,fun a C=>rs (qeB h9 C).choose_spec.2⟩
theorem qgi {p:aH}(h:dJ S w v p):qdu p:=by obtain⟨a,b,c,d,rfl,_,_,o,C,I⟩:=h;exact⟨fun x j=>rs (qaU o j).choose_spec.2,fun x j=>rs (qaU C j).choose_spec.2,rs I⟩
abbrev qeY (l:List ByteArray):V:=.row 1 16 (l.map fun s=>[.s (.string s)]) none
def qio (x:cX):List V:=[.s (.int .u8 x.kind),.s (.int .u8 x.op),.s (.string x.dst),.s (.string x.ref),.s (.string x.Ni),qeY x.args,qeY x.Nh,.s (.int .i64 x.num),.s (.int .i64 x.Nj)]
def qfO (b:eS):List V:=[.s (.string b.name),.row 9 120 (b.code.map qio) none,.s (.int .i64 b.Nj)]
def qhw (f:cD):List V:=[.s (.string f.name),qeY f.params,.row 3 48 (f.Ng.map qfO) none,.s (.int .i64 f.Nj)]
def qin (a:EL):List V:=[.s (.string a.name),.s (.int .i64 a.size),.s (.string a.level),.s (.int .i64 a.Nj)]
abbrev qdV (q:dN):List V:=[.row 4 48 (q.Nd.map qin) none,.row 4 72 (q.Nf.map qhw) none]
theorem qhU {q:dN}(j:∀b,S b→∀o,g.fz b o)(h:BF S w v q):VR g w (.agg (qdV q)) v:=by
 obtain⟨a,f,rfl,C,I⟩:=h;refine qfH (VRs.cons (qbq j (fun _=>rfl) (fun x vs h=>?_) C) (VRs.cons (qbq j (fun _=>rfl) (fun b vs h=>?_) I) VRs.nil))
 ·obtain⟨rfl,_⟩:=h
  exact VRs.cons (.s _) (VRs.cons (.s _) (VRs.cons (.s _) (VRs.cons (.s _) VRs.nil)))
 obtain⟨p,r,rfl,J,R,_⟩:=h;refine VRs.cons (.s _) (VRs.cons (qdp j J) (VRs.cons (qbq j (fun _=>rfl) (fun b vs h=>?_) R) (VRs.cons (.s _) VRs.nil)));obtain⟨r,rfl,Y,_⟩:=h;refine VRs.cons (.s _) (VRs.cons (qbq j (fun _=>rfl) (fun x vs h=>?_) Y) (VRs.cons (.s _) VRs.nil));obtain⟨a,f,rfl,h6,h7,_⟩:=h;exact VRs.cons (.s _) (VRs.cons (.s _) (VRs.cons (.s _) (VRs.cons (.s _) (VRs.cons (.s _) (VRs.cons (qdp j h6) (VRs.cons (qdp j h7) (VRs.cons (.s _) (VRs.cons (.s _) VRs.nil))))))))
structure qcX (q:dN):Prop where
 arr:∀a∈q.Nd,aV a.size∧aV a.Nj∧a.name.size≤140737488355328∧a.level.size≤140737488355328
 fns:∀f∈q.Nf,(aV f.Nj∧f.name.size≤140737488355328∧∀s∈f.params,s.size≤140737488355328)∧∀b∈f.Ng,(aV b.Nj∧b.name.size≤140737488355328)∧∀x∈b.code,uB x
theorem qfv {q:dN}(h:BF S w v q):qcX q:=by obtain⟨a,f,rfl,o,C⟩:=h;refine⟨fun x j=>(qaU o j).choose_spec.2,fun b I=>?_⟩;obtain⟨_,p,r,rfl,h3,J,R⟩:=qaU C I;refine⟨R,fun l hl=>?_⟩;obtain⟨_,r,rfl,Y,h7⟩:=qaU J hl;refine⟨h7,fun x j=>?_⟩;obtain⟨_,_,_,rfl,_,_,h8⟩:=qaU Y j;exact h8
theorem qcz {l:List ByteArray}(j:∀b o,g.fz b o→S b)(h:VR g w (qeY l) v):gB S w v l:=qbW (fv:=fun s=>.s (.string s)) j (fun _ _ _ hu=>hu.of_s) h
theorem qgl {q:dN}(j:∀b o,g.fz b o→S b)(hq:qcX q)(h:VR g w (.agg (qdV q)) v):BF S w v q:=by
 obtain⟨_,rfl,k⟩:=qcY h;obtain⟨a,_,rfl,R,f,_,rfl,Y,rfl⟩:=k.inv;refine⟨a,f,rfl,qbo (by omega) j (fun x hx vs C=>?_) R,qbo (by omega) j (fun b hb vs C=>?_) Y⟩
 ·obtain⟨_,_,rfl,I,_,_,rfl,J,_,_,rfl,h3,_,_,rfl,h4,rfl⟩:=C.inv
  cases I.of_s;cases J.of_s;cases h3.of_s;cases h4.of_s;exact⟨rfl,hq.arr x hx⟩
 obtain⟨h5,h6⟩:=hq.fns b hb;obtain⟨_,_,rfl,I,p,_,rfl,hp,r,_,rfl,hr,_,_,rfl,J,rfl⟩:=C.inv;cases I.of_s;cases J.of_s;refine⟨p,r,rfl,qcz j hp,qbo (by omega) j (fun l hl vs C=>?_) hr,h5⟩;obtain⟨h7,h8⟩:=h6 l hl;obtain⟨_,_,rfl,I,r,_,rfl,hr,_,_,rfl,J,rfl⟩:=C.inv;cases I.of_s;cases J.of_s;refine⟨r,rfl,qbo (by omega) j (fun x hx vs C=>?_) hr,h7⟩;obtain⟨_,_,rfl,I,_,_,rfl,J,_,_,rfl,h3,_,_,rfl,h4,_,_,rfl,h5,a,_,rfl,R,f,_,rfl,Y,_,_,rfl,h6,_,_,rfl,h7,rfl⟩:=C.inv;cases I.of_s;cases J.of_s;cases h3.of_s;cases h4.of_s;cases h5.of_s;cases h6.of_s;cases h7.of_s;exact⟨a,f,rfl,qcz j R,qcz j Y,h8 x hx⟩
end
theorem qdd {L:World→Prop}{P:Program}{f:FuncId}{xs:List V}{x:V}(h:∀w,L w→∀g vs,HR g w []→VRs g w xs vs→Calls P f vs.toArray w fun e w'=>∃v,e=.returned v∧aa All w w'∧VR (g.frz w.heap.size w') w' x v):VFL L P f xs (·=x):=fun w hw g vs j C=>(h w hw g vs j C).mono fun e w'=>by rintro⟨v,rfl,o,I⟩;exact⟨v,x,_,[],rfl,⟨rfl,rfl⟩,I,Le.frz j o,HR.frz j o⟩
def Gh.top (w:World):Gh:=⟨fun _=>none,fun b _=>b<w.heap.size,fun _=>none⟩
theorem HR.top (w:World):HR (Gh.top w) w []:=⟨fun i o h=>by simp at h,fun i _=>⟨rfl,rfl⟩,fun i j b hi=>by rcases hi with hi|⟨v,n,hi,_⟩<;>simp[Gh.top] at hi,fun b o h=>h⟩
theorem qbF {p:aH}{c:aE}(h:bJ p c){b:aw}(R:b∈c.Nf):qed c b:=by
 obtain⟨_,_,_,_,_,_,_,h,_⟩:=h;obtain⟨_,_,_,_,_,h,_⟩:=h b R;have get:∀x∈b.Ng.flatten,∃n dst ref Ni,cw x.kind=some (n,dst,ref,Ni)∧(ref=true→0≤x.ref∧x.ref<cW p c b x.kind)∧(x.kind≠3→x.kind≠7→(x.args.length:Int)=n):=fun x I=>by obtain⟨k,Y⟩:=cY.1 I;obtain⟨n,dst,ref,Ni,e,_,_,_,_,_,_,o,_,j,_⟩:=h k x Y;exact⟨n,dst,ref,Ni,e,o,fun J h7=>by rw[ae J] at j;rw[j.2,ae h7]⟩
 clear h;refine⟨fun x I e=>?_,fun x I e=>?_,fun x I e=>?_⟩
 ·obtain⟨n,dst,ref,Ni,C,o,j⟩:=get x I
  rw[e] at C o j;cases C;simpa [cW] using o rfl
 ·obtain⟨n,dst,ref,Ni,C,o,j⟩:=get x I;rw[e] at C o j;cases C;have:=j (by decide) (by decide);omega
 obtain⟨n,dst,ref,Ni,C,o,j⟩:=get x I;rcases e with e|e<;>rw[e] at C o j<;>cases C<;>(have:=j (by decide) (by decide);have J:=o rfl;simp[cW] at J;exact⟨by omega,J⟩)
theorem IN {α β:Type}{f:α→Nat}:∀ {l:List α} {g:Nat→α→List β},(∀i x,(g i x).length≤f x)→(l.mapIdx g).flatten.length≤(l.map f).sum
 | [],g,_=>by simp
 |a::l,g,h=>by rw[List.mapIdx_cons,List.flatten_cons,iQ,List.map_cons,List.sum_cons];have:=IN (l:=l) (g:=fun i=>g (i+1)) fun i x=>h (i+1) x;have:=h 0 a;omega
theorem qcS {p:aH}{c:aE}(h:bJ p c):(qaF c).length≤4096:=by
 obtain⟨_,_,_,_,_,_,_,_,h⟩:=h;refine fR (IN (f:=ft) fun i b=>?_) h;unfold ft;rw[List.length_flatten (L:=b.Ng)];refine IN fun k l=>?_;have e:(l.map fun _=>1).sum=l.length:=by
  induction l with
  |nil=>rfl
  |cons x l o=>rw[List.map_cons,List.sum_cons,o,kI];omega
 rw[←e];refine IN fun j x=>?_;unfold qbp;split<;>simp
end Q
end
section
open Go.Shelf
def Tryz.lays137_ren:Go.Shelf.Ren:=⟨fun|137=>144|217=>134|266=>191|n=>n,fun|9=>9|5=>5|3=>3|n=>n,fun|n=>n⟩
theorem Tryz.lays137:Go.Proofs.Lays.n137 prog Tryz.lays137_ren:= {
 mixed:=by kernel_rfl
 f137:=func144.trans (congrArg some (by kernel_rfl))
 f217:=func134.trans (congrArg some (by kernel_rfl))
 f266:=func191.trans (congrArg some (by kernel_rfl))
 t3:=underlying3
 a3:=Tryz.isAgg3
 z3:=Tryz.sizeOf3
 v3:=Tryz.zeroValue3
 t5:=underlying5
 a5:=Tryz.isAgg5
 z5:=Tryz.sizeOf5
 v5:=Tryz.zeroValue5
 t9:=underlying9
 a9:=Tryz.isAgg9
 z9:=Tryz.sizeOf9
 v9:=Tryz.zeroValue9}
open Go.RowKit in
theorem Tryz.strings_IndexByte (s:ByteArray)(c:Int)(w:World):
 Calls prog 144 #[.string s,.int .u8 c] w fun e w'=>e=.returned (.int .i64 (Lib.indexByte s.data.toList c.toNat.toUInt8))∧w'=w:=Any.strings_IndexByte Tryz.lays137 s c w
def Tryz.lays103_ren:Go.Shelf.Ren:=⟨fun|103=>130|210=>189|206=>221|n=>n,fun|9=>9|4=>4|24=>214|3=>3|n=>n,fun|n=>n⟩
theorem Tryz.lays103:Go.Proofs.Lays.n103 prog Tryz.lays103_ren:= {
 mixed:=by kernel_rfl
 f103:=func130.trans (congrArg some (by kernel_rfl))
 f206:=func221.trans (congrArg some (by kernel_rfl))
 f210:=func189.trans (congrArg some (by kernel_rfl))
 t3:=underlying3
 a3:=Tryz.isAgg3
 z3:=Tryz.sizeOf3
 v3:=Tryz.zeroValue3
 t4:=underlying4
 a4:=Tryz.isAgg4
 z4:=Tryz.sizeOf4
 v4:=Tryz.zeroValue4
 t9:=underlying9
 a9:=Tryz.isAgg9
 z9:=Tryz.sizeOf9
 v9:=Tryz.zeroValue9
 t24:=underlying214
 a24:=Tryz.isAgg214
 z24:=Tryz.sizeOf214
 v24:=Tryz.zeroValue214}
open Go.RowKit in
theorem Tryz.strings_CutPrefix (s p:ByteArray)(w:World):
 Calls prog 130 #[.string s,.string p] w fun e w'=>e=.returned (.tuple #[.string ⟨(Lib.trimPrefix s.data.toList p.data.toList).toArray⟩,.bool (Lib.hasPrefix s.data.toList p.data.toList)])∧w'=w:=Any.strings_CutPrefix Tryz.lays103 s p w
def Tryz.lays146_ren:Go.Shelf.Ren:=⟨fun|146=>32|221=>69|268=>123|138=>124|143=>36|195=>186|197=>68|218=>187|219=>73|260=>122|217=>134|225=>135|224=>136|267=>137|266=>191|314=>192|n=>n,fun|9=>9|31=>22|3=>3|4=>4|0=>0|105=>149|21=>21|5=>5|46=>217|119=>256|139=>259|138=>258|146=>263|51=>262|n=>n,fun|1=>0|3=>1|4=>2|n=>n⟩
theorem Tryz.lays146:Go.Proofs.Lays.n146 prog Tryz.lays146_ren:= {
 mixed:=by kernel_rfl
 f138:=func124.trans (congrArg some (by kernel_rfl))
 f143:=func36.trans (congrArg some (by kernel_rfl))
 f146:=func32.trans (congrArg some (by kernel_rfl))
 f195:=func186.trans (congrArg some (by kernel_rfl))
 f197:=func68.trans (congrArg some (by kernel_rfl))
 f217:=func134.trans (congrArg some (by kernel_rfl))
 f218:=func187.trans (congrArg some (by kernel_rfl))
 f219:=func73.trans (congrArg some (by kernel_rfl))
 f221:=func69.trans (congrArg some (by kernel_rfl))
 f224:=func136.trans (congrArg some (by kernel_rfl))
 f225:=func135.trans (congrArg some (by kernel_rfl))
 f260:=func122.trans (congrArg some (by kernel_rfl))
 f266:=func191.trans (congrArg some (by kernel_rfl))
 f267:=func137.trans (congrArg some (by kernel_rfl))
 f268:=func123.trans (congrArg some (by kernel_rfl))
 f314:=func192.trans (congrArg some (by kernel_rfl))
 t0:=underlying0
 a0:=Tryz.isAgg0
 z0:=Tryz.sizeOf0
 v0:=Tryz.zeroValue0
 t3:=underlying3
 a3:=Tryz.isAgg3
 z3:=Tryz.sizeOf3
 v3:=Tryz.zeroValue3
 t4:=underlying4
 a4:=Tryz.isAgg4
 z4:=Tryz.sizeOf4
 v4:=Tryz.zeroValue4
 t5:=underlying5
 a5:=Tryz.isAgg5
 z5:=Tryz.sizeOf5
 v5:=Tryz.zeroValue5
 t9:=underlying9
 a9:=Tryz.isAgg9
 z9:=Tryz.sizeOf9
 v9:=Tryz.zeroValue9
 t21:=underlying21
 a21:=Tryz.isAgg21
 z21:=Tryz.sizeOf21
 v21:=Tryz.zeroValue21
 t31:=underlying22
 a31:=Tryz.isAgg22
 z31:=Tryz.sizeOf22
 v31:=Tryz.zeroValue22
 t46:=underlying217
 a46:=Tryz.isAgg217
 z46:=Tryz.sizeOf217
 v46:=Tryz.zeroValue217
 t51:=underlying262
 a51:=Tryz.isAgg262
 z51:=Tryz.sizeOf262
 v51:=Tryz.zeroValue262
 t105:=underlying149
 a105:=Tryz.isAgg149
 z105:=Tryz.sizeOf149
 v105:=Tryz.zeroValue149
 t119:=underlying256
 a119:=Tryz.isAgg256
 z119:=Tryz.sizeOf256
 t138:=underlying258
 a138:=Tryz.isAgg258
 z138:=Tryz.sizeOf258
 v138:=Tryz.zeroValue258
 t139:=underlying259
 a139:=Tryz.isAgg259
 z139:=Tryz.sizeOf259
 v139:=Tryz.zeroValue259
 t146:=underlying263
 a146:=Tryz.isAgg263
 z146:=Tryz.sizeOf263
 v146:=Tryz.zeroValue263
 g1:=by kernel_rfl
 g3:=by kernel_rfl
 g4:=by kernel_rfl}
open Go.RowKit Go.Lib in
theorem Tryz.strings_Split (s sep:ByteArray)(m:Int)(w:World)(j:s.size<4294967281)(hm:w.cell? ⟨0,0,none⟩=some (.int .i64 m))(o:1≤sep.size):
 Calls prog 32 #[.string s,.string sep] w fun e w'=>
  e=.returned (.slice (some ⟨w.heap.size,0,none⟩) (Lib.countB s sep+1) (Lib.countB s sep+1))∧w'=w.alloc (.cells ((Lib.splitB sep 0 (Lib.countB s sep) s).map Value.string).toArray 9):=Any.strings_Split Tryz.lays146 (by kernel_rfl) s sep m w j hm o
def Tryz.lays229_ren:Go.Shelf.Ren:=⟨fun|229=>33|n=>n,fun|9=>9|40=>89|31=>22|152=>152|3=>3|0=>0|4=>4|21=>21|154=>154|n=>n,fun|n=>n⟩
theorem Tryz.lays229:Go.Proofs.Lays.n229 prog Tryz.lays229_ren:= {
 mixed:=by kernel_rfl
 f229:=func33.trans (congrArg some (by kernel_rfl))
 t0:=underlying0
 a0:=Tryz.isAgg0
 z0:=Tryz.sizeOf0
 v0:=Tryz.zeroValue0
 t3:=underlying3
 a3:=Tryz.isAgg3
 z3:=Tryz.sizeOf3
 v3:=Tryz.zeroValue3
 t4:=underlying4
 a4:=Tryz.isAgg4
 z4:=Tryz.sizeOf4
 v4:=Tryz.zeroValue4
 t9:=underlying9
 a9:=Tryz.isAgg9
 z9:=Tryz.sizeOf9
 v9:=Tryz.zeroValue9
 t21:=underlying21
 a21:=Tryz.isAgg21
 z21:=Tryz.sizeOf21
 v21:=Tryz.zeroValue21
 t31:=underlying22
 a31:=Tryz.isAgg22
 z31:=Tryz.sizeOf22
 v31:=Tryz.zeroValue22
 t40:=underlying89
 a40:=Tryz.isAgg89
 z40:=Tryz.sizeOf89
 v40:=Tryz.zeroValue89
 t152:=underlying152
 a152:=Tryz.isAgg152
 z152:=Tryz.sizeOf152
 v152:=Tryz.zeroValue152
 t154:=underlying154
 a154:=Tryz.isAgg154
 z154:=Tryz.sizeOf154
 v154:=Tryz.zeroValue154}
open Go.RowKit Go.Lib in
theorem Tryz.strings_FieldsFunc_runes (g:Nat)(lb:Array Value)(j:∀args w,(callFunc g args).run prog w=.ok (.enter g args) w)(p:Nat→Bool)(s:ByteArray)(w:World)(o:s.size≤4294967296)(C:PredAtRunes prog g lb p w):
 Calls prog 33 #[.string s,.func (.func g) #[] lb] w fun e w'=>∃A,e=.returned (.slice (some ⟨A,0,none⟩) (Lib.goFieldsP p s).length (Lib.goFieldsP p s).length)∧w.heap.size≤A∧
  w'.ownsRow w.heap.size 9 1 (.slice (some ⟨A,0,none⟩) (Lib.goFieldsP p s).length (Lib.goFieldsP p s).length) (Lib.goFieldsP p s).length ((Lib.goFieldsP p s).map Value.string)∧Below w.heap.size w w':=Any.strings_FieldsFunc_runes Tryz.lays229 g lb j p s w o C (by kernel_rfl) (by kernel_rfl)
open Go.RowKit Go.Lib in
end
end Go.Proofs.YtgdlhckhpolnnaaGreatDoor
