/- Part 20 of the proof (its last part says what is proved). No condition. -/
import Derived.Test.YtgdlhckhpolnnaaGreatDoorK18
namespace Go.Proofs.YtgdlhckhpolnnaaGreatDoor
set_option maxRecDepth 100000
set_option maxHeartbeats 8000000
open Go.RowKit Go.Proofs.Tryz
structure lY (c:aE):Prop where
 Nd:c.Nd.length≤1048576
 Nf:c.Nf.length≤1048576
 Ng:∀b∈c.Nf,b.Ng.length≤1048576
 ops:∀b∈c.Nf,∀l∈b.Ng,l.length≤1048576
 op:∀b∈c.Nf,∀l∈b.Ng,∀x∈l,Cv x
namespace Q
theorem tO {α β:Type}{l:List α}{g:Nat→α→β}{k:Nat}{a:α}(h:l[k]? =some a):(l.mapIdx g).take (k+1)=(l.mapIdx g).take k++[g k a]:=by rw[cU,jA,h];rfl
theorem qjN (j:UInt8){n:Int}(o:aV n){g:Gh}{w:World}{vs:List Value}(C:da g w [.s (.string ⟨#[j]⟩),.s (.int .i64 n)] vs):Calls prog 204 vs.toArray w fun e w'=>e=.returned (.string (aL j n))∧aa All w w':=by obtain⟨_,_,rfl,h1,_,_,rfl,I,rfl⟩:=C.inv;cases h1.of_s;cases I.of_s;exact ez j n o w
def qjL (p:aH)(c:aE)(x:bz)(q:V):Prop:=dx p x∧q=.tup [.agg (qiG (jC p c.main x)),.s (.bool true)]∨¬dx p x∧∃a b d e f g h i j,q=.tup [.agg [.s a,.s b,.s d,.s e,.s f,.s g,.s h,.s i,.s j],.s (.bool false)]∧∀v∈[a,b,d,e,f,g,h,i,j],v.oneCell'=true
theorem qjU {p:aH}{c:aE}{x:bz}(R:qdE p)(C:jx x∧(∀a∈x.args,aV a)∧∀a∈x.Nh,aV a)(Y:Cv x)(j:kj p){g:Gh}{w:World}{H:List HO}{vs:List Value}(I:HR g w H)(hv:da g w [.agg (qaY p),.agg (qax c),.agg (Oe x)] vs):Calls prog 205 vs.toArray w fun e w'=>∃v q,e=.returned v∧qjL p c x q∧aa All w w'∧VR (g.frz w.heap.size w') w' q v:=by
 obtain⟨_,_,rfl,h1,_,_,rfl,h2,_,_,rfl,h3,rfl⟩:=hv.inv;have h1:=qfl I.lt R h1;obtain⟨_,rfl,k2⟩:=qdh h2;obtain⟨va,_,rfl,_,vf,_,rfl,_,_,_,rfl,h4,rfl⟩:=k2.inv;cases h4.of_s;obtain⟨_,rfl,k3⟩:=qdh h3;obtain⟨a,f,rfl,ha,hf,_⟩:=qib (S:=fun b=>b<w.heap.size) I.lt C k3;refine(AR (fun b=>b<w.heap.size) _ p va vf c.main a f x w h1 ha hf C.1 Y j).mono ?_;rintro e w' ⟨u,b,rfl,rfl,J,d,r,t,a1,n1,c1,a2,n2,c2,rfl,hy⟩;by_cases hr:dx p x
 ·rw[av hr]
  exact⟨_,_,rfl,.inl ⟨hr,rfl⟩,J,qgJ (da.cons (qdG (qjY (fun b o _ hb hc=>.inr ⟨hb,jy w' _ hc⟩) (hy hr))) (da.cons (.s _) da.nil))⟩
 rw[au hr];exact⟨_,_,rfl,.inr ⟨hr,_,_,_,_,_,_,_,_,_,rfl,by simp[Value.oneCell']⟩,J,qgJ (da.cons (qdG (da.cons (.s _) (da.cons (.s _) (da.cons (.s _) (da.cons (.s _) (da.cons (.s _) (da.cons (.s _) (da.cons (.s _) (da.cons (.s _) (da.cons (.s _) da.nil)))))))))) (da.cons (.s _) da.nil))⟩
def qjM (p:aH)(c:aE)(q:V):Prop:=∃A F,q=.tup [.agg [.row 4 48 A none,.row 4 72 F none],.s (.bool (pB (pi p c)))]∧(pi p c→A=(cP p c).Nd.map qiF∧F=(cP p c).Nf.map qhK)
def jn (p:aH)(c:aE)(k:Nat):List (List V):=((c.Nd.mapIdx (sa p)).take k).map qiF
def iF (p:aH)(c:aE)(k:Nat):List (List V):=((c.Nf.mapIdx (bU p c.main)).take k).map qhK
theorem qjP {p:aH}{c:aE}{k:Nat}(h:k≤c.Nd.length):(jn p c k).length=k:=by simp[jn];omega
theorem qjR {p:aH}{c:aE}{k:Nat}(h:k≤c.Nf.length):(iF p c k).length=k:=by simp[iF];omega
theorem vF (p:aH)(c:aE)(k N:Nat):∀e∈jn p c k,∀x∈e,Lt N x:=fun e he=>by obtain⟨a,_,rfl⟩:=dr.1 he;simp[LT,qiF]
theorem jk (p:aH)(c:aE)(k N:Nat):∀e∈iF p c k,∀x∈e,Lt N x:=fun e he=>by obtain⟨a,_,rfl⟩:=dr.1 he;simp[LT,qhK,qgc,qiG]
def vB (b:aw)(k:Nat):List (List V):=(((List.range b.params.toNat).map fun(k:Nat)=>aL 118 k).take k).map fun s=>[.s (.string s)]
def ip (p:aH)(c:aE)(b:aw)(k:Nat):List (List V):=((b.Ng.mapIdx (eh p c.main)).take k).map qgc
def zb (p:aH)(c:aE)(l:List bz)(k:Nat):List (List V):=((l.map (jC p c.main)).take k).map qiG
theorem qjT (b:aw)(k N:Nat):∀e∈vB b k,∀x∈e,Lt N x:=fun e he=>by obtain⟨a,_,rfl⟩:=dr.1 he;simp[LT]
theorem FN (p:aH)(c:aE)(b:aw)(k N:Nat):∀e∈ip p c b k,∀x∈e,Lt N x:=fun e he=>by obtain⟨a,_,rfl⟩:=dr.1 he;simp[LT,qgc,qiG]
theorem qjW (p:aH)(c:aE)(l:List bz)(k N:Nat):∀e∈zb p c l k,∀x∈e,Lt N x:=fun e he=>by obtain⟨a,_,rfl⟩:=dr.1 he;simp[LT,qiG]
abbrev fB (c:aE)(i:Nat):VT:=[(60,.s (.int .i64 i)),(59,.s (.int .i64 c.Nf.length)),(58,.row 3 40 (c.Nf.map qaH) none),(6,.ptr 3 0),(4,.ptr 2 0),(3,.ptr 1 0),(2,.ptr 0 0)]
abbrev fC (c:aE)(i:Nat):VT:=(11,.ptr 7 0)::(10,.ptr 6 0)::fB c i
theorem qkg (c:aE)(i:Nat){N:Nat}(h:6≤N):∀y∈fB c i,Lt N y.2:=xz (.s _) (xz (.s _) (xz (qaA _ c _ (by simp)) (xz (.ptr _ _ (by omega)) (xz (.ptr _ _ (by omega)) (xz (.ptr _ _ (by omega)) (xz (.ptr _ _ (by omega)) ik))))))
theorem qkh (c:aE)(i:Nat){N:Nat}(h:8≤N):∀y∈fC c i,Lt N y.2:=xz (.ptr _ _ (by omega)) (xz (.ptr _ _ (by omega)) (qkg c i (by omega)))
abbrev hB (p:aH)(c:aE)(A:List (List V))(i:Nat)(t:List HO):List HO:=.cells 26 (qaY p)::.cells 30 (qax c)::.cells 69 [.s (.slice none 0 0),.s (.slice none 0 0)]::.cells 69 [.row 4 48 A (some 4),.row 4 72 (iF p c i) (some 5)]::.tok 106 4 A.length::.tok 110 4 (iF p c i).length::t
theorem qkf (p:aH)(c:aE){A:List (List V)}(i:Nat){N:Nat}{t:List HO}(j:∀N,∀e∈A,∀x∈e,Lt N x)(h:6≤N)(C:∀o∈t,HLt N o):∀o∈hB p c A i t,HLt N o:=xz (qaN _ p) (xz (qaA _ c) (xz (by simp[HLt,LT]) (xz (xz (ja (j _) (by omega)) (xz (ja (jk _ _ _ _) (by omega)) ik)) (xz trivial (xz trivial C)))))
theorem qkc (p:aH)(c:aE)(hp:qdE p)(hc:qcq c)(c6:kj p)(hz:lY c):VFL (fun _=>True) prog 158 [.agg (qaY p),.agg (qax c)] (qjM p c):=by
 refine qjV (m:=2) 4 [5] func158 rfl Tryz.results158 ntmps158 (by intro w;go_simp<;>with_reducible rfl) (by intro w;go_simp<;>with_reducible rfl) rfl fun g w _ _=>?_;have fin:∀ {e:Exit} {T:VT} {H:List HO} {A F:List (List V)} {tA tF:Option Nat} {b:Bool},e=.ret→Oo T 4=some (.ptr 2 0)→H[2]? =some (.cells 69 [.row 4 48 A tA,.row 4 72 F tF])→Oo T 5=some (.s (.bool b))→(∀e∈A,∀x∈e,Lt 0 x)→(∀e∈F,∀x∈e,Lt 0 x)→b=pB (pi p c)→(pi p c→A=(cP p c).Nd.map qiF∧F=(cP p c).Nf.map qhK)→qjQ 2 4 [5] (qjM p c) e T H:=fun {e T H A F tA tF b} he h1 h2 h3 h4 h5 h6 h7=>by have hs:yc H [.row 4 48 A tA,.row 4 72 F tF] [.row 4 48 A none,.row 4 72 F none]:=yc.cons (.row _ _ _ _ h4) (yc.cons (.row _ _ _ _ h5) yc.nil);exact⟨.inl he,2,_,_,[.s (.bool b)],_,h1,h2,rfl,by simp[h3],yc.cons (.agg _ _ hs.1 hs.2) (yc.cons (.lt _ (.s _)) yc.nil),A,F,by simp[qeU,h6],h7⟩
 have d9:=hz.Nd;have e0:=hz.Nf;refine st ?_;refine zf 3 0 106 4 48 ?_;refine zf 3 1 110 4 72 ?_;refine qbf (fun k=>k≤c.Nd.length∧∀(j:Nat) a,j<k→c.Nd[j]? =some a→0≤a.2∧a.2<p.MZ.length) (fun k=>c.Nd.length-k) (fun k=>[(23,.s (.int .i64 k)),(22,.s (.int .i64 c.Nd.length)),(21,.row 2 16 (c.Nd.map qbI) none),(6,.ptr 3 0),(4,.ptr 2 0),(3,.ptr 1 0),(2,.ptr 0 0)]) (fun k=>[.cells 26 (qaY p),.cells 30 (qax c),.cells 69 [.s (.slice none 0 0),.s (.slice none 0 0)],.cells 69 [.row 4 48 (jn p c k) (some 4),.row 4 72 [] (some 5)],.tok 106 4 (jn p c k).length,.tok 110 4 0]) 0 ⟨Nat.zero_le _,fun j a C=>by omega⟩ ⟨rfl,rfl,rfl,rfl,rfl,rfl,rfl,trivial⟩ (.inl rfl) ?_;rintro k ⟨hk,b6⟩;refine st ?_;refine qbu (fun h=>?_) fun h=>?_
 case refine_2=>(
 refine qbe (st ?_);obtain rfl:k=c.Nd.length:=by omega
 obtain⟨A,b7⟩:=eQ (jn p c c.Nd.length);have I:∀N,∀e∈A,∀x∈e,Lt N x:=fun N=>by rw[b7];exact vF p c _ N
 have hA:A=(cP p c).Nd.map qiF:=by rw[b7,jn,oF (by simp)];rfl
 rw[←b7];refine qbf (fun i=>i≤c.Nf.length∧∀(j:Nat) b,j<i→c.Nf[j]? =some b→lX p b) (fun i=>c.Nf.length-i) (fun i=>fB c i) (fun i=>hB p c A i []) 0 ⟨Nat.zero_le _,fun j a C=>by omega⟩ ⟨rfl,rfl,rfl,rfl,rfl,rfl,rfl,trivial⟩ (.inl rfl) ?_;rintro i ⟨hi,R⟩;refine st ?_;refine qbu (fun h=>?_) fun h=>?_
 case refine_2=>(
 refine qbe (st ?_);obtain rfl:i=c.Nf.length:=by omega
 have o:pi p c:=⟨fun a ha=>by
  obtain⟨j,C⟩:=cY.1 ha;exact b6 j a (lS.1 C).1 C,fun b hb=>by
  obtain⟨j,C⟩:=cY.1 hb;exact R j b (lS.1 C).1 C⟩
 exact qar (fin rfl rfl rfl rfl (I 0) (jk _ _ _ _) (av o).symm fun _=>⟨hA,by rw[iF,oF (by simp)];rfl⟩))
 obtain⟨b,hb⟩:∃b,c.Nf[i]? =some b:=⟨_,lG (by omega)⟩;have J:=mG hb;have bad:¬lX p b→false=pB (pi p c):=fun h=>(au fun o=>h (o.2 b J)).symm;have b8:¬lX p b→pi p c→A=(cP p c).Nd.map qiF∧iF p c i=(cP p c).Nf.map qhK:=fun h o=>absurd (o.2 b J) h;have e2:=hz.Ng b J;obtain⟨e3,e4,c7⟩:=hc.fns b J;refine st ?_;refine qiT (fun g' w' vs hl hh hv=>qjN 102 (n:=i) (by unfold aV;omega) hv) ?_;refine qhA ?_;refine qfr ?_;refine qeq ?_;refine qhL ?_;obtain⟨nm,b9⟩:=eQ (qY c.main i);refine qiN (fun _:Unit=>True) (fun _=>fC c i) (fun _=>hB p c A i [.cells 42 (qaH b),.cells 110 [.s (.string nm),.s (.slice none 0 0),.s (.slice none 0 0),.s (.int .i64 0)]]) ?_ ?_;·(
 refine st ?_;refine qcg (fun h1=>?_) fun h1=>?_
 ·refine st ?_
  have h1:(i:Int)=c.main:=by simpa using h1
  exact⟨(),trivial,⟨rfl,rfl,rfl,rfl,rfl,rfl,rfl,rfl,rfl,trivial⟩,.inl (by rw[b9,qY,ap h1];rfl)⟩
 refine st ?_;have h1:¬(i:Int)=c.main:=by simpa using h1
 exact⟨(),trivial,⟨rfl,rfl,rfl,rfl,rfl,rfl,rfl,rfl,rfl,trivial⟩,.inl (by rw[b9,qY,ae h1])⟩)
 intro _ _;refine st ?_;refine qaF (fun h1=>?_) fun h1=>?_
 ·refine st ?_
  exact qar (fin rfl rfl rfl rfl (I 0) (jk _ _ _ _) (bad fun h=>by have:=h.1;omega) (b8 fun h=>by have:=h.1;omega))
 refine st ?_;refine qbu (fun h2=>?_) fun h2=>?_
 ·refine st ?_
  exact qar (fin rfl rfl rfl rfl (I 0) (jk _ _ _ _) (bad fun h=>by have:=h.2.1;omega) (b8 fun h=>by have:=h.2.1;omega))
 refine st ?_;refine zf 7 1 9 1 16 ?_;refine zf 7 2 135 3 48 ?_;have e5:(iF p c i).length=i:=qjR hi;refine qbf (fun k=>k≤b.params.toNat) (fun k=>b.params.toNat-k) (fun k=>(84,.s (.int .i64 k))::(83,.s (.int .i64 b.params))::fC c i) (fun k=>hB p c A i [.cells 42 (qaH b),.cells 110 [.s (.string nm),.row 1 16 (vB b k) (some 8),.row 3 48 [] (some 9),.s (.int .i64 0)],.tok 9 1 (vB b k).length,.tok 135 3 0]) 0 (Nat.zero_le _) ⟨rfl,rfl,rfl,rfl,rfl,rfl,rfl,rfl,rfl,rfl,rfl,trivial⟩ (.inl rfl) ?_;intro k e6;refine st ?_;refine qbu (fun h3=>?_) fun h3=>?_
 case refine_1=>(
 have e1:vB b (k+1)=vB b k++[[.s (.string (aL 118 k))]]:=by
  have hx:((List.range b.params.toNat).map fun(k:Nat)=>aL 118 k)[k]? =some (aL 118 k):=by rw[cL,ln (by omega)];rfl
  rw[vB,vB,cU,hx,ic];rfl
 have c8:(vB b k).length=k:=by simp[vB];omega
 obtain⟨es,Y⟩:=eQ (vB b k);rw[←Y] at e1 c8⊢;refine st ?_;refine qaW 5 ?_;refine st ?_;refine qiT (fun g' w' vs hl hh hv=>qjN 118 (n:=k) (by unfold aV;omega) hv) ?_;refine st ?_;exact⟨k+1,by omega,by omega,⟨rfl,rfl,rfl,rfl,rfl,rfl,rfl,rfl,rfl,rfl,rfl,trivial⟩,.inl (by rw[e1,iQ];rfl)⟩)
 obtain⟨PS,b4⟩:=eQ (vB b k);have c4:∀N,∀e∈PS,∀x∈e,Lt N x:=fun N=>by rw[b4];exact qjT b k N
 have c9:PS=((List.range b.params.toNat).map fun(k:Nat)=>aL 118 k).map fun s=>[.s (.string s)]:=by rw[b4,vB,oF (by simp;omega)]
 rw[←b4];clear b4;refine qbe (st ?_);refine qbf (fun k=>k≤b.Ng.length∧∀(j:Nat) l,j<k→b.Ng[j]? =some l→∀x∈l,dx p x) (fun k=>b.Ng.length-k) (fun k=>(98,.s (.int .i64 k))::(97,.s (.int .i64 b.Ng.length))::(96,.row 1 24 (b.Ng.map fun l=>[qcz l]) none)::fC c i) (fun k=>hB p c A i [.cells 42 (qaH b),.cells 110 [.s (.string nm),.row 1 16 PS (some 8),.row 3 48 (ip p c b k) (some 9),.s (.int .i64 0)],.tok 9 1 PS.length,.tok 135 3 (ip p c b k).length]) 0 ⟨Nat.zero_le _,fun j l C=>by omega⟩ ⟨rfl,rfl,rfl,rfl,rfl,rfl,rfl,rfl,rfl,rfl,rfl,rfl,trivial⟩ (.inl rfl) ?_;rintro k ⟨e7,b0⟩;refine st ?_;refine qbu (fun h4=>?_) fun h4=>?_
 case refine_2=>(
 obtain rfl:k=b.Ng.length:=by omega
 have c5:lX p b:=⟨by omega,by omega,fun l hl=>by obtain⟨j,C⟩:=cY.1 hl;exact b0 j l (lS.1 C).1 C⟩;refine zx 7 1 ?_;refine zx 7 2 ?_;refine qbe (st ?_);have e1:iF p c (i+1)=iF p c i++[[.s (.string nm),.row 1 16 PS none,.row 3 48 (ip p c b b.Ng.length) none,.s (.int .i64 0)]]:=by rw[iF,iF,tO hb,ic,c9,ip,oF (l:=b.Ng.mapIdx (eh p c.main)) (by simp),b9];rfl
 exact⟨i+1,⟨by omega,fun j b' C c0=>by
  by_cases e:j=i;·subst e;rw[hb] at c0;cases c0;exact c5
  exact R j b' (by omega) c0⟩,by omega,⟨rfl,rfl,rfl,rfl,rfl,rfl,rfl,trivial⟩,.inr ⟨_,by rw[hB,e1,iQ];rfl,Nat.zero_le _,(qkg c _ (Nat.le_of_ble_eq_true rfl)),(qkf p c _ I (Nat.le_of_ble_eq_true rfl) ik)⟩⟩)
 obtain⟨l,hl⟩:∃l,b.Ng[k]? =some l:=⟨_,lG (by omega)⟩;have b1:=mG hl;have e8:=hz.ops b J l b1;have e9:(ip p c b k).length=k:=by simp[ip];omega
 refine st ?_;refine qiT (fun g' w' vs hl hh hv=>qjN 98 (n:=k) (by unfold aV;omega) hv) ?_;refine st ?_;refine zf 10 1 188 9 120 ?_;refine qbf (fun j=>j≤l.length∧∀(m:Nat) x,m<j→l[m]? =some x→dx p x) (fun j=>l.length-j) (fun j=>(108,.s (.int .i64 j))::(107,.s (.int .i64 l.length))::(106,qcz l)::(15,.ptr 10 0)::(98,.s (.int .i64 k))::(97,.s (.int .i64 b.Ng.length))::(96,.row 1 24 (b.Ng.map fun l=>[qcz l]) none)::fC c i) (fun j=>hB p c A i [.cells 42 (qaH b),.cells 110 [.s (.string nm),.row 1 16 PS (some 8),.row 3 48 (ip p c b k) (some 9),.s (.int .i64 0)],.tok 9 1 PS.length,.tok 135 3 (ip p c b k).length,.cells 135 [.s (.string (aL 98 k)),.row 9 120 (zb p c l j) (some 11),.s (.int .i64 0)],.tok 188 9 (zb p c l j).length]) 0 ⟨Nat.zero_le _,fun j l C=>by omega⟩ ⟨rfl,rfl,rfl,rfl,rfl,rfl,rfl,rfl,rfl,rfl,rfl,rfl,rfl,rfl,rfl,rfl,trivial⟩ (.inl rfl) ?_;rintro j ⟨h0,b2⟩;refine st ?_;refine qbu (fun h5=>?_) fun h5=>?_
 case refine_2=>(
 obtain rfl:j=l.length:=by omega
 refine zx 10 1 ?_;refine qbe (st ?_);have e1:ip p c b (k+1)=ip p c b k++[[.s (.string (aL 98 k)),.row 9 120 (zb p c l l.length) none,.s (.int .i64 0)]]:=by rw[ip,ip,tO hl,ic,zb,oF (l:=l.map (jC p c.main)) (by simp)];rfl
 exact⟨k+1,⟨by omega,fun j l' C c1=>by
  by_cases e:j=k;·subst e;rw[hl] at c1;cases c1;intro x hx;obtain⟨m,hm⟩:=cY.1 hx;exact b2 m x (lS.1 hm).1 hm
  exact b0 j l' (by omega) c1⟩,by omega,⟨rfl,rfl,rfl,rfl,rfl,rfl,rfl,rfl,rfl,rfl,rfl,rfl,trivial⟩,.inr ⟨_,by rw[e1,iQ];rfl,Nat.zero_le _,(xz (.s _) (xz (.s _) (xz (qbg _ b _ (by simp[qaH])) (qkh c _ (Nat.le_of_ble_eq_true rfl))))),(qkf p c _ I (Nat.le_of_ble_eq_true rfl) (xz (qbg _ b) (xz (xz (.s _) (xz (ja (c4 _) (by simp)) (xz (ja (FN _ _ _ _ _) (by simp)) (xz (.s _) ik)))) (xz trivial (xz trivial ik)))))⟩⟩)
 obtain⟨x,hx⟩:∃x,l[j]? =some x:=⟨_,lG (by omega)⟩;have b5:=mG hx;have h8:(zb p c l j).length=j:=by simp[zb];omega
 refine st ?_;refine qjZ (qjL p c x) (fun g' w' vs hl hh hv=>qjU hp (c7 l b1 x b5) (hz.op b J l b1 x b5) c6 hh hv) ?_;rintro _ (⟨hr,rfl⟩|⟨hr,a1,a2,a3,a4,a5,a6,a7,a8,a9,rfl,d7⟩)
 case inr=>refine st ?_;refine qeq ?_ (h1:=by simpa [qaq,qbd] using d7);refine st ?_;exact qar (fin rfl rfl rfl rfl (I 0) (jk _ _ _ _) (bad fun h=>hr (h.2.2 l b1 x b5)) (b8 fun h=>hr (h.2.2 l b1 x b5)))
 refine st ?_;have e1:zb p c l (j+1)=zb p c l j++[qiG (jC p c.main x)]:=by
  have:(l.map (jC p c.main))[j]? =some (jC p c.main x):=by rw[cL,hx];rfl
  rw[zb,zb,cU,this,ic];rfl
 exact⟨j+1,⟨by omega,fun m y hm hy=>by
  by_cases e:m=j;·subst e;rw[hx] at hy;cases hy;exact hr
  exact b2 m y (by omega) hy⟩,by omega,⟨rfl,rfl,rfl,rfl,rfl,rfl,rfl,rfl,rfl,rfl,rfl,rfl,rfl,rfl,rfl,rfl,trivial⟩,.inr ⟨_,by rw[e1,iQ];rfl,Nat.zero_le _,(xz (.s _) (xz (.s _) (xz (qjl _ l) (xz (.ptr _ _ (by simp)) (xz (.s _) (xz (.s _) (xz (qbg _ b _ (by simp[qaH])) (qkh c _ (Nat.le_of_ble_eq_true rfl))))))))),(qkf p c _ I (Nat.le_of_ble_eq_true rfl) (xz (qbg _ b) (xz (xz (.s _) (xz (ja (c4 _) (by simp)) (xz (ja (FN _ _ _ _ _) (by simp)) (xz (.s _) ik)))) (xz trivial (xz trivial (xz (xz (.s _) (xz (ja (qjW _ _ _ _ _) (by simp)) (xz (.s _) ik))) (xz trivial ik)))))))⟩⟩)
 obtain⟨ar,ha⟩:∃ar,c.Nd[k]? =some ar:=⟨_,lG (by omega)⟩;have bad:¬(0≤ar.2∧ar.2<p.MZ.length)→false=pB (pi p c):=fun h=>(au fun o=>h (o.1 ar (mG ha))).symm;have b3:¬(0≤ar.2∧ar.2<p.MZ.length)→pi p c→(jn p c k)=(cP p c).Nd.map qiF∧([]:List (List V))=(cP p c).Nf.map qhK:=fun h o=>absurd (o.1 ar (mG ha)) h;refine st ?_;refine qaF (fun h1=>?_) fun h1=>?_
 ·refine st ?_
  exact qar (fin rfl rfl rfl rfl (vF _ _ _ _) (by simp) (bad (by omega)) (b3 (by omega)))
 refine st ?_;refine qbu (fun h2=>?_) fun h2=>?_
 ·refine st ?_
  exact qar (fin rfl rfl rfl rfl (vF _ _ _ _) (by simp) (bad (by omega)) (b3 (by omega)))
 obtain⟨lv,d8⟩:∃lv,p.MZ[ar.2.toNat]? =some lv:=⟨_,lG (by omega)⟩;obtain⟨es,Y⟩:=eQ (jn p c k);have h9:es.length=k:=by rw[Y];exact qjP hk
 rw[←Y];refine st ?_;refine qaW 14 ?_;refine st ?_;refine qiT (fun g' w' vs hl hh hv=>qjN 97 (n:=k) (by unfold aV;omega) hv) ?_;refine st ?_;have e1:jn p c (k+1)=es++[[.s (.string (aL 97 k)),.s (.int .i64 ar.1),.s (.string lv),.s (.int .i64 0)]]:=by rw[Y,jn,jn,tO ha,ic];simp[qiF,sa,d8]
 exact⟨k+1,⟨by omega,fun j b C hb=>by
  by_cases e:j=k;·subst e;rw[ha] at hb;cases hb;exact⟨by omega,by omega⟩
  exact b6 j b (by omega) hb⟩,by omega,⟨rfl,rfl,rfl,rfl,rfl,rfl,rfl,trivial⟩,.inr ⟨_,by rw[e1,iQ];rfl,Nat.zero_le _,xz (.s _) (xz (.s _) (xz (qaA _ c _ (by simp)) (xz (.ptr _ _ (by simp)) (xz (.ptr _ _ (by simp)) (xz (.ptr _ _ (by simp)) (xz (.ptr _ _ (by simp)) ik)))))),xz (qaN _ p) (xz (qaA _ c) (xz (by simp[HLt,LT]) (xz (xz (ja (vF _ _ _ _) (by simp)) (xz (ja (by simp) (by simp)) ik)) (xz trivial (xz trivial ik)))))⟩⟩
theorem qkb {p:aH}{c:aE}(I:qcq c)(j:kj p):qdg (cP p c):=by
 have mp:∀ {α β:Type} {l:List α} {g:Nat→α→β} {y:β},y∈l.mapIdx g→∃(i:Nat) (x:α),x∈l∧y=g i x:=fun {α β l g y} h=>by obtain⟨i,hi⟩:=cY.1 h;rw[jA] at hi;obtain⟨x,o,rfl⟩:=oE.1 hi;exact⟨i,x,mG o,rfl⟩
 have i0:aV 0:=by unfold aV;omega
 have sz:∀c n,(aL c n).size≤140737488355328:=fun c n=>by have:=fa c n;omega
 refine⟨fun a J=>?_,fun f R=>?_⟩;·obtain⟨i,x,o,rfl⟩:=mp J;refine⟨(I.arr x o).1,i0,sz _ _,?_⟩;have:=Da j.MZ x.2.toNat;show(p.MZ.getD x.2.toNat gR).size≤_;omega
 obtain⟨i,b,Y,rfl⟩:=mp R;obtain⟨_,_,h3⟩:=I.fns b Y;refine⟨⟨i0,?_,fun s hs=>?_⟩,fun l hl=>?_⟩
 ·show(qY c.main i).size≤_
  unfold qY;split;·decide
  exact sz _ _
 ·obtain⟨k,_,rfl⟩:=dr.1 hs
  exact sz _ _
 obtain⟨k,l,C,rfl⟩:=mp hl;refine⟨⟨i0,sz _ _⟩,fun x o=>?_⟩;obtain⟨y,hy,rfl⟩:=dr.1 o;exact Lr (h3 l C y hy).1 j
end Q
theorem ng (k:Nat)(w:World):Calls prog 98 #[.int .u8 k] w fun e w'=>e=.returned (.bool (decide (11≤k)))∧w=w':=by
 by_cases h:11≤k
 ·have t:decide ((11:Int)≤(k:Int))=true:=by simp;omega
  rw[bL h];have H:=oH h;clear h;go_enter func98,ntmps98;go_wp2;go_ret;exact⟨rfl,rfl⟩
 have t:decide ((11:Int)≤(k:Int))=false:=by simp;omega
 rw[cI h];have H:=oH h;clear h;go_enter func98,ntmps98;go_wp2;go_ret;exact⟨rfl,rfl⟩
def Ky (l:List cX)(i:Nat)(x:cX):Prop:=(11≤x.kind→i+1=l.length)∧(x.kind=3→i=0∨∃y,l[i-1]? =some y∧y.kind=3)
def vZ (l:List cX):Prop:=∃x,l[l.length-1]? =some x∧11≤x.kind
theorem nz {l:List cX}:mQ (l.map fun x=>x.kind)↔vZ l∧∀(i:Nat) x,l[i]? =some x→Ky l i x:=by
 constructor;·(
 rintro⟨R,h1,h2⟩;have o:0<l.length:=by
  rcases l with _|⟨a,l⟩;·exact absurd rfl R
  simp
 refine⟨?_,fun i x j=>⟨fun h=>?_,fun h=>?_⟩⟩
 ·obtain⟨x,j⟩:∃x,l[l.length-1]? =some x:=⟨_,lG (by omega)⟩
  exact⟨x,j,(h1 (l.length-1) x.kind (by rw[cL,j];rfl)).2 (by rw[ce];omega)⟩
 ·have:=(h1 i x.kind (by rw[cL,j];rfl)).1 h
  rwa [ce] at this
 rcases i with _|i;·exact .inl rfl
 have:=h2 i (by rw[cL,j];exact congrArg some h);rw[cL] at this;obtain⟨y,hy,C⟩:=oE.1 this;exact .inr ⟨y,by simpa using hy,C⟩)
 rintro⟨⟨z,Y,C⟩,h⟩;have o:0<l.length:=by have:=(lS.1 Y).1;omega
 refine⟨fun e=>?_,fun i k hi=>?_,fun i hi=>?_⟩;·rw[List.map_eq_nil_iff] at e;subst e;simp at o
 ·rw[cL] at hi;obtain⟨x,j,rfl⟩:=oE.1 hi;rw[ce];refine⟨(h i x j).1,fun e=>?_⟩;have e':i=l.length-1:=by omega
  subst e';rw[Y] at j;cases j;exact C
 rw[cL] at hi;obtain⟨x,j,I⟩:=oE.1 hi;rcases (h (i+1) x j).2 I with R|⟨y,hy,J⟩;·omega
 rw[cL,show l[i]? =some y by simpa using hy];exact congrArg some J
def Cs (p:aH)(q:dN)(f:cD)(b:eS)(w:World)(e:Ending)(w':World):Prop:=
 ql (mQ (b.code.map fun x=>x.kind)∧∀x∈b.code,mO p q f x) (fun e w'=>aa All w w'∧∃u,e=.returned u∧tZ (fun b=>w.heap.size≤b∧b<w'.heap.size) w' u (b.code.map (pg p q f))) w e w'
theorem FT:(prog.info? 56).map (fun i=>(i.zero,i.size,i.bytes))=some (some (.agg #[.int .u8 0,.int .u8 0,.int .i64 0,.int .i64 0,.int .i64 0,.slice none 0 0,.slice none 0 0,.int .i64 0,.int .i64 0]),9,96):=by kernel_rfl
abbrev Kb:=dR 9 56 KD
theorem CD (S:Nat→Prop)(br:Nat)(p:aH)(q:dN)(f:cD)(b:eS)(b1 b2:Nat)(bv:Value)(w:World)(hr:rV S w br p q)(j2:cK w b1 (cn f))(j3:cK w b2 (bh f))(j4:Im S w bv b.code)(j5:aV b.Nj)
 (hI:∀x∈b.code,aV (dv p q f x)∧aV (dy f x)) (hd:∀x∈b.code,x.dst=gR∨x.dst∈bh f) (hz:∀x∈b.code,x.args.length≤1048576∧x.Nh.length≤1048576) (hv:(bh f).length≤1000000000) (hb:(cn f).length≤1000000000) (hl:b.code.length≤1048576):
 Calls prog 55 #[.pointer (some ⟨br,0,none⟩),.agg #[.map (some b1),.map (some b2)],.agg #[.string b.name,bv,.int .i64 b.Nj]] w (Cs p q f b w):=by
 obtain⟨iO,h2⟩:=iH FT;have hV:=it.la j4;obtain⟨cA,cc,rfl,u1,u2,u3,_⟩:=j4;unfold maxLen at u2;obtain⟨W1,b8⟩:=eQ ((w.alloc (.cells #[.map (some b1),.map (some b2)] 131)).alloc (.cells #[.string b.name,.slice cA b.code.length cc,.int .i64 b.Nj] 135));have j6:=aD2 b8;have j7:=zy b8;have bS:=aA1 b8;have bB:=zo b8 vI;have c1:=bB.cl 1;have HW:=J5 b8 j6 j7 bS bB;have HM:=J8 hr j2 j3 hV j5 hI hd hz;clear b8 j6 j7 bS bB hr j2 j3 hV j5 hI hd hz;go_enter func55,ntmps55;go_upto_region 1 with fail;rw[←HW.1];go_upto_region 2 with fail;go_cut [] (fun wx=>aa All W1 wx∧vZ b.code)
 case first=>(
 have b0:=oH HM.2.2.2.2.1;rcases Nat.eq_zero_or_pos b.code.length with h0|h0
 case' inl=>(
 have J:=oH (show false=true↔vZ b.code from⟨fun h=>(by cases h),fun⟨x,hx,_⟩=>by have:=(lS.1 hx).1;omega⟩);have HB:=oH (show∀wn,aa All W1 wn→wn.cell? ⟨w.heap.size+1,1,none⟩=some (.slice cA b.code.length cc)∧wn.cell? ⟨w.heap.size+1,2,none⟩=some (.int .i64 b.Nj)∧True from fun wn o=>⟨(HW.2.2.2.2.kept o trivial).cell 1,(HW.2.2.2.2.kept o trivial).cell 2,trivial⟩);have t0:decide ((1:Int)≤(b.code.length:Int))=false:=by simp;omega
 clear h0;obtain⟨t,tE⟩:=eQ true;have HE:=oH trivial)
 case' inr=>(
 obtain⟨m,hm⟩:∃m:Nat,b.code.length=m+1:=⟨b.code.length-1,by omega⟩;obtain⟨x,hx⟩:∃x,b.code[m]? =some x:=⟨_,lG (by omega)⟩;obtain⟨xb,xo,l1,rfl,l2,j8,R,xa,xf,rfl,_,_,j9⟩:=aZ (HM.2.2.2.1 W1 HW.2.2.1) hx;have z0:=R 0 _ rfl;rw[dj] at z0;have HB:=oH (show∀wn,aa All W1 wn→wn.cell? ⟨w.heap.size+1,1,none⟩=some (.slice (some ⟨xb,xo,none⟩) b.code.length cc)∧wn.cell? ⟨w.heap.size+1,2,none⟩=some (.int .i64 b.Nj)∧wn.cell? ⟨xb,xo+m*9,none⟩=some (.int .u8 x.kind) from fun wn o=>⟨(HW.2.2.2.2.kept o trivial).cell 1,(HW.2.2.2.2.kept o trivial).cell 2,o.cell trivial z0⟩);clear R z0;have t0:decide ((1:Int)≤(b.code.length:Int))=true:=by simp;omega
 have tm:(if(b.code.length:Int)-1<0 then(0:Int) else(b.code.length:Int)-1)=(m:Int):=by split<;>omega
 have tl:m<b.code.length:=by omega
 have hx:b.code[b.code.length-1]? =some x:=by rw[show b.code.length-1=m by omega];exact hx
 have h4:vZ b.code↔11≤x.kind:=⟨fun⟨y,hy,l3⟩=>by rw[hx] at hy;cases hy;exact l3,fun h=>⟨x,hx,h⟩⟩;have n9:=oH hm;clear hx hm;have HE:=oH (fun wn=>ng x.kind wn);obtain⟨t,ht⟩:=eR (decide (11≤x.kind));rw[ht] at HE;refine Or.elim (Classical.em (11≤x.kind)) (fun o=>?p1) (fun o=>?n1)
 case' p1=>have J:=oH (show true=true↔vZ b.code from⟨fun _=>h4.2 o,fun _=>rfl⟩);have tE:=bL o;rw[ht] at tE;clear o h4 ht
 case' n1=>have J:=oH (show false=true↔vZ b.code from⟨fun h=>(by cases h),fun h=>absurd (h4.1 h) o⟩);have tE:=cI o;rw[ht] at tE;clear o h4 ht)
 all_goals
  refine RN 15 14 W1 (fun i=>if i=14 then some (·=.tuple #[]) else if i=10 then some (·=.bool t) else none) J (fun _ _ _ h hd=>⟨hd,.inr ⟨fun h1=>h.1 (nz.1 h1.1).1,h.stop HW.2.2.1⟩⟩) ?_;repeat first
  |refine O0 ?_
  |refine O2 ?_
  |refine O4 HB.out ?_
  first
  |(refine O8 (C:=fun _=>True) (fun _ _=>trivial) (fun wn o=>(HE.out wn).mono fun e w' h=>⟨h.1,h.2▸o,fun _ h=>by cases h⟩) ?_
    rw[tE];repeat first
    |refine O0 ?_
    |refine O2 ?_
    |refine O4 HB.out ?_)
  |skip
  first
  |refine O9 true (C:=fun _=>True) (fun _ _=>trivial) (fun wn o=>ZR (n:=15) b0.out (by decide) (by unfold aV;omega) J.2 o) ?_
  |refine O9 false (C:=fun _=>True) (fun _ _=>trivial) (fun wn o=>ZR (n:=15) b0.out (by decide) (by unfold aV;omega) J.2 o) ?_
  refine ZS fun hd wt a6 _=>?_;have HT:=J2 a6 (J.1 (by first|(simp;done)|(simp at hd;done)|simpa using hd));clear a6 hd;simp only[dK];go_wp2_with fail;go_meet;exact⟨HT.1,HT.2⟩)
 obtain⟨h6,c4⟩:=hcut;obtain⟨wz,rfl⟩:=eQ wc;have d1:=(HW.2.2.2.2.kept h6 trivial).cl 1;have J:=J2 h6 c4;clear h6 c4 c1;go_wp2_with fail;go_loopg [8,33] b.code.length (fun g s8 l4 wr=>∃j:Nat,j≤b.code.length∧g=b.code.length-j∧l4=.int .i64 j∧Kb wz.heap.size wr s8 ((b.code.map (pg p q f)).take j)∧aa All wz wr∧∀(i:Nat) x,i<j→b.code[i]? =some x→Ky b.code i x∧mO p q f x);·exact⟨0,by omega,by omega,rfl,dR.nil,kR,fun i a h=>by omega⟩
 obtain⟨j,hj,rfl,rfl,a1,b3,b6⟩:=hrel;obtain⟨E,ep,rfl⟩:=a1.form;have h9:((b.code.map (pg p q f)).take j).length=j:=by rw[fN,ce];omega
 rw[h9] at a1⊢;have c5:aa All w wr:=(HW.2.2.1.trans J.1).trans b3;by_cases l5:j<b.code.length;·(
 obtain⟨x,hx⟩:=eG l5;have c6:=mG hx;have hV:=HM.2.2.2.1 wr c5;obtain⟨xb,xo,l1,rfl,l2,j8,R,xa,xf,rfl,k0,k1,j9⟩:=aZ hV hx;have k2:=ax.la k0;have k3:=ax.la k1;obtain⟨ua,uc,rfl,_⟩:=k0;obtain⟨va,vc,rfl,_⟩:=k1;have z0:=R 0 _ rfl;rw[dj] at z0;have z1:=R 1 _ rfl;have z2:=R 2 _ rfl;have z3:=R 3 _ rfl;have z4:=R 4 _ rfl;have z5:=R 5 _ rfl;have z6:=R 6 _ rfl;have z7:=R 7 _ rfl;have z8:=R 8 _ rfl;obtain⟨W2,h5⟩:=eQ (wr.alloc (.cells #[.int .u8 x.kind,.int .u8 x.op,.string x.dst,.string x.ref,.string x.Ni,.slice ua x.args.length uc,.slice va x.Nh.length vc,.int .i64 x.num,.int .i64 x.Nj] 188));have b4:=yf h5;have k4:al W2 wr.heap.size 188 #[.int .u8 x.kind,.int .u8 x.op,.string x.dst,.string x.ref,.string x.Ni,.slice ua x.args.length uc,.slice va x.Nh.length vc,.int .i64 x.num,.int .i64 x.Nj]:=by rw[h5];exact ac rfl
 have l6:=oH (show∀y,0<j→b.code[j-1]? =some y→∀wn,aa All wr wn→wn.cell? ⟨xb,xo+(j-1)*9,none⟩=some (.int .u8 y.kind) from fun y _ hy wn o=>by obtain⟨b',o',o0,he,_,_,l7,a',f',rfl,_⟩:=aZ hV hy;injection he with he;injection he with l8 l9;subst l8 l9;have:=l7 0 _ rfl;rw[dj] at this;exact o.cell trivial this);have I:=oH (show∀wn,aa All W2 wn→∀i,wn.cell? ⟨wr.heap.size,i,none⟩=(#[.int .u8 x.kind,.int .u8 x.op,.string x.dst,.string x.ref,.string x.Ni,.slice ua x.args.length uc,.slice va x.Nh.length vc,.int .i64 x.num,.int .i64 x.Nj]:Array Value)[i]? from fun wn o i=>(k4.kept o trivial).cell i);have c7:=oH (show∀wn,aa All W2 wn→wn.cell? ⟨w.heap.size+1,1,none⟩=some (.slice (some ⟨xb,xo,none⟩) b.code.length cc)∧wn.cell? ⟨w.heap.size,0,none⟩=some (.map (some b1))∧wn.cell? ⟨w.heap.size,1,none⟩=some (.map (some b2)) from fun wn o=>⟨((((HW.2.2.2.2.kept J.1 trivial).kept b3 trivial).kept b4 trivial).kept o trivial).cell 1,((((HW.2.2.2.1.kept J.1 trivial).kept b3 trivial).kept b4 trivial).kept o trivial).cell 0,((((HW.2.2.2.1.kept J.1 trivial).kept b3 trivial).kept b4 trivial).kept o trivial).cell 1⟩);have HR:=J10 a1 b3 b6 c5 hx h5 b4 k2 k3 j9;clear a1 b3 b6 c5 hx h5 b4 k2 k3 hV R k4;go_upto_region 7 with fail;rw[←HR.2.2.2.2.2.1];have b0:=oH HR.2.2.2.2.2.2.2.2.2.Nj;go_cut [] (fun wx=>aa All W2 wx∧(11≤x.kind→j+1=b.code.length))
 case first=>(
 have HB:=oH (show∀wn,aa All W2 wn→wn.cell? ⟨wr.heap.size,0,none⟩=some (.int .u8 x.kind)∧wn.cell? ⟨wr.heap.size,8,none⟩=some (.int .i64 x.Nj)∧wn.cell? ⟨w.heap.size+1,1,none⟩=some (.slice (some ⟨xb,xo,none⟩) b.code.length cc) from fun wn o=>⟨I.out wn o 0,I.out wn o 8,(c7.out wn o).1⟩);have HE:=oH (fun wn=>ng x.kind wn);obtain⟨t,ht⟩:=eR (decide (11≤x.kind));rw[ht] at HE;refine Or.elim (Classical.em (11≤x.kind)) (fun o=>?p2) (fun o=>?n2)
 case' p2=>
  have tE:=bL o;rw[ht] at tE;clear ht;refine Or.elim (Classical.em (j+1=b.code.length)) (fun c0=>?p3) (fun c0=>?n3)
  case' p3=>(
 have te:((j:Int)==(b.code.length:Int)-1)=true:=by rw[cy];omega
 have J:=oH (show true=true↔(11≤x.kind→j+1=b.code.length) from⟨fun _ _=>c0,fun _=>rfl⟩);have o1:=oH c0;clear o c0)
  case' n3=>(
 have te:((j:Int)==(b.code.length:Int)-1)=false:=by rw[bE];omega
 have J:=oH (show false=true↔(11≤x.kind→j+1=b.code.length) from⟨fun h=>(by cases h),fun h=>absurd (h o) c0⟩);clear o c0)
 case' n2=>(have tE:=cI o;rw[ht] at tE;clear ht;have J:=oH (show true=true↔(11≤x.kind→j+1=b.code.length) from⟨fun _ h=>absurd h o,fun _=>rfl⟩);clear o)
 all_goals
  refine RN 12 11 W2 (fun i=>if i=11 then some (·=.tuple #[]) else if i=2 then some (·=.bool t) else none) J (fun _ _ _ h hd=>⟨hd,.inr ⟨fun h1=>h.1 ((nz.1 h1.1).2 j x HR.2.2.2.2.1).1,h.stop (HR.2.2.2.1.trans HR.2.2.2.2.2.2.1)⟩⟩) ?_;repeat first
  |refine O0 ?_
  |refine O2 ?_
  |refine O4 HB.out ?_
  first
  |(refine O8 (C:=fun _=>True) (fun _ _=>trivial) (fun wn o=>(HE.out wn).mono fun e w' h=>⟨h.1,h.2▸o,fun _ h=>by cases h⟩) ?_
    rw[tE];repeat first
    |refine O0 ?_
    |refine O2 ?_
    |refine O4 HB.out ?_)
  |skip
  first
  |refine O9 true (C:=fun _=>True) (fun _ _=>trivial) (fun wn o=>ZR (n:=15) b0.out (by decide) (by unfold aV;omega) J.2 o) ?_
  |refine O9 false (C:=fun _=>True) (fun _ _=>trivial) (fun wn o=>ZR (n:=15) b0.out (by decide) (by unfold aV;omega) J.2 o) ?_
  refine ZS fun hd wt a6 _=>?_;have HT:=J2 a6 (J.1 (by first|(simp;done)|(simp at hd;done)|simpa using hd));clear a6 hd;simp only[dK];go_wp2_with fail;go_meet;exact HT.out)
 obtain⟨k5,h7⟩:=hcut;obtain⟨w7,rfl⟩:=eQ wc;have H7:=J2 k5 h7;clear k5 h7;go_upto_region 8 with fail;go_cut [] (fun wx=>aa All W2 wx∧(x.kind=3→j=0∨∃y,b.code[j-1]? =some y∧y.kind=3))
 case first=>(
 have hC:∀h:x.kind=3,(j=0∨∃y,b.code[j-1]? =some y∧y.kind=3)→(x.kind=3→j=0∨∃y,b.code[j-1]? =some y∧y.kind=3):=fun _ h _=>h;refine Or.elim (Classical.em (x.kind=3)) (fun h3=>?p4) (fun h3=>?n4)
 case' p4=>
  have t3:=wK x.kind 3 (by omega);refine Or.elim (Classical.em (j=0)) (fun c8=>?p5) (fun c8=>?n5)
  case' p5=>(
 have tz:((j:Int)==0)=true:=by rw[cy];omega
 have HB:=oH (show∀wn,aa All w7 wn→wn.cell? ⟨wr.heap.size,0,none⟩=some (.int .u8 x.kind)∧wn.cell? ⟨wr.heap.size,8,none⟩=some (.int .i64 x.Nj)∧wn.cell? ⟨w.heap.size+1,1,none⟩=some (.slice (some ⟨xb,xo,none⟩) b.code.length cc) from fun wn o=>⟨I.out wn (H7.1.trans o) 0,I.out wn (H7.1.trans o) 8,(c7.out wn (H7.1.trans o)).1⟩);have J:=oH (show true=true↔(x.kind=3→j=0∨∃y,b.code[j-1]? =some y∧y.kind=3) from⟨fun _ _=>.inl c8,fun _=>rfl⟩);clear h3 c8 hC)
  case' n5=>(
 obtain⟨y,hy⟩:∃y,b.code[j-1]? =some y:=⟨_,lG (by omega)⟩;have HB:=oH (show∀wn,aa All w7 wn→wn.cell? ⟨wr.heap.size,0,none⟩=some (.int .u8 x.kind)∧wn.cell? ⟨wr.heap.size,8,none⟩=some (.int .i64 x.Nj)∧wn.cell? ⟨w.heap.size+1,1,none⟩=some (.slice (some ⟨xb,xo,none⟩) b.code.length cc)∧wn.cell? ⟨xb,xo+(j-1)*9,none⟩=some (.int .u8 y.kind) from fun wn o=>⟨I.out wn (H7.1.trans o) 0,I.out wn (H7.1.trans o) 8,(c7.out wn (H7.1.trans o)).1,l6.out y (by omega) hy wn (HR.2.2.2.2.2.2.1.trans (H7.1.trans o))⟩);obtain⟨m,rfl⟩:∃m,j=m+1:=⟨j-1,by omega⟩;simp only[Nat.add_sub_cancel] at HB;have tz:((m:Int)+1==0)=false:=by rw[bE];omega
 have tm:m<b.code.length:=by omega
 have o2:m≤1048576:=by omega
 have tw:IntKind.i64.wrap (m:Int)=(m:Int):=by rw[IntKind.wrap_i64];omega
 refine Or.elim (Classical.em (y.kind=3)) (fun hp=>?p6) (fun hp=>?n6)
 case' p6=>have tp:=yK y.kind 3 (by omega);have J:=oH (show true=true↔(x.kind=3→m+1=0∨∃y,b.code[m+1-1]? =some y∧y.kind=3) from⟨fun _ _=>.inr ⟨y,hy,hp⟩,fun _=>rfl⟩);clear h3 hy hp c8 hC
 case' n6=>(
 have tp:=nK y.kind 3 (by omega);have J:=oH (show false=true↔(x.kind=3→m+1=0∨∃y,b.code[m+1-1]? =some y∧y.kind=3) from⟨fun h=>(by cases h),fun h=>by
  rcases h h3 with h0|⟨y2,k6,b4⟩;·omega
  rw[hy] at k6;cases k6;exact absurd b4 hp⟩)
 clear h3 hy hp c8 hC))
 case' n4=>have t3:=mK x.kind 3 (by omega);have HB:=oH (show∀wn,aa All w7 wn→wn.cell? ⟨wr.heap.size,0,none⟩=some (.int .u8 x.kind)∧wn.cell? ⟨wr.heap.size,8,none⟩=some (.int .i64 x.Nj)∧wn.cell? ⟨w.heap.size+1,1,none⟩=some (.slice (some ⟨xb,xo,none⟩) b.code.length cc) from fun wn o=>⟨I.out wn (H7.1.trans o) 0,I.out wn (H7.1.trans o) 8,(c7.out wn (H7.1.trans o)).1⟩);have J:=oH (show true=true↔(x.kind=3→j=0∨∃y,b.code[j-1]? =some y∧y.kind=3) from⟨fun _ h=>absurd h h3,fun _=>rfl⟩);clear h3 hC
 all_goals
  refine RN 20 19 w7 (fun i=>if i=19 then some (·=.tuple #[]) else none) J (fun _ _ _ h hd=>⟨hd,.inr ⟨fun h1=>h.1 ((nz.1 h1.1).2 _ x HR.2.2.2.2.1).2,h.stop ((HR.2.2.2.1.trans HR.2.2.2.2.2.2.1).trans H7.1)⟩⟩) ?_;repeat first
  |refine O0 ?_
  |refine O2 ?_
  |refine O4 HB.out ?_
  first
  |refine O9 true (C:=fun _=>True) (fun _ _=>trivial) (fun wn o=>ZR (n:=18) b0.out (by decide) (by unfold aV;omega) J.2 o) ?_
  |refine O9 false (C:=fun _=>True) (fun _ _=>trivial) (fun wn o=>ZR (n:=18) b0.out (by decide) (by unfold aV;omega) J.2 o) ?_
  refine ZS fun hd wt a6 _=>?_;have HT:=J2 a6 (J.1 (by first|(simp;done)|(simp at hd;done)|simpa using hd));clear a6 hd;simp only[dK];go_wp2_with fail;go_meet;exact⟨H7.1.trans HT.1,HT.2⟩)
 obtain⟨Y,h8⟩:=hcut;obtain⟨w8,rfl⟩:=eQ wc;have j0:=c7.out w8 Y;have s0:=j0.2.1;have s1:=j0.2.2;have e0:=I.out w8 Y 0;have e1:=I.out w8 Y 1;have e2:=I.out w8 Y 2;have e3:=I.out w8 Y 3;have e4:=I.out w8 Y 4;have e5:=I.out w8 Y 5;have e6:=I.out w8 Y 6;have e7:=I.out w8 Y 7;have e8:=I.out w8 Y 8;simp only[gc] at e0 e1 e2 e3 e4 e5 e6 e7 e8;have a7:aa All wr w8:=HR.2.2.2.2.2.2.1.trans Y;have a8:aa All w w8:=HR.2.2.2.1.trans a7;have k7:=Ls S br p q f x b1 b2 _ _ w8 (HM.1.keep a8) (HM.2.1.keep a8 trivial) (HM.2.2.1.keep a8 trivial) (HR.2.2.2.2.2.2.2.1 w8 a7) (HR.2.2.2.2.2.2.2.2.1 w8 a7) HR.2.2.2.2.2.2.2.2.2 (HM.2.2.2.2.2.1 x c6) (HM.2.2.2.2.2.2.1 x c6) (HM.2.2.2.2.2.2.2 x c6) hv hb;have H8:=J5 k7 a7 a8 h8 c6;clear j0 Y h8 k7 a7 a8 c6;go_wp2_with fail;refine H8.1.mono ?_;rintro e w9 (⟨c9,b5,dd,rr,ss,y1,y2,y3,v1,v2,v3,rfl,hE⟩|⟨c9,⟨an,nn,hn,ha,hi,rfl⟩,b5⟩)
 case inr=>have HS:=J5 c9 hn ha hi b5;clear c9 hn ha hi b5;go_wp2_with fail;exact⟨rfl,.inr ⟨fun h=>HS.1 (h.2 x H8.2.2.2.2),⟨an,nn,HS.2.1,HS.2.2.1,HS.2.2.2.1,rfl⟩,H8.2.2.1.trans HS.2.2.2.2⟩⟩
 obtain⟨W9,d7⟩:=eQ (w9.alloc (.cells #[.int .u8 x.kind,.int .u8 x.op,.int .i64 dd,.int .i64 rr,.int .i64 ss,.slice y1 y2 y3,.slice v1 v2 v3,.int .i64 x.num,.int .i64 x.Nj] 56));have b7:=yf d7;have b9:=yv d7;have j1:=aD1 d7;have n7:=eE j1;have n8:=eE j1.symm;have o3:=H8.2.1.size;have o4:=b5.size;have o5:=HR.2.1.size;have d8:Kb wz.heap.size W9 (.slice E j ep) ((b.code.map (pg p q f)).take j):=HR.1.keep sH ((H8.2.1.trans b5).trans b7) fun _ _ _=>trivial;have H9:=J6 d7 b9 d8 (sH.keep b7.all hE) ((H8.2.1.trans b5).trans b7) c9;clear d7 b7 b9 j1 d8 hE c9 b5 e0 e1 e2 e3 e4 e5 e6 e7 e8 s0 s1 z0 z1 z2 z3 z4 z5 z6 z7 z8;go_wp2_with (
  at_builtin;go_loud (
  rw[←H9.1];refine bN (E:=KD) _ sH rfl (.tmp 70) (.tmp 75) 43 rfl iO _ 96 underlying43 h2.1 h2.2.1 h2.2.2.1 h2.2.2.2 rfl (by decide) _ _ rfl H9.2.2.1 w9.heap.size 0 1 rfl [.int .u8 x.kind,.int .u8 x.op,.int .i64 dd,.int .i64 rr,.int .i64 ss,.slice y1 y2 y3,.slice v1 v2 v3,.int .i64 x.num,.int .i64 x.Nj] (pg p q f x) rfl ?_ ?_ (by rw[h9];omega) (by omega) ?_ (fun b=>w8.heap.size≤b∧b<w9.heap.size) ?_ ?_ ?_;·intro j u hu;rw[cN,H9.2.1.cell,List.getElem?_toArray];exact hu
  ·intro u hu;simp only[fX,List.not_mem_nil,or_false] at hu;rcases hu with rfl|rfl|rfl|rfl|rfl|rfl|rfl|rfl|rfl<;>rfl
  ·omega
  ·intro b hb;have o6:w8.heap.size≤b∧b<w9.heap.size:=hb;obtain⟨_,m9⟩:=HR.1.own;exact⟨by omega,by omega,fun e=>by have:=(aD m9 e).2;omega⟩
  ·exact H9.2.2.2.1
  intro D2 o7 w4 d9 k8 k9;have H4:=J3 d9 k8 k9;clear d9 k8 k9))
 go_roundg (b.code.length-(j+1))
 ·refine⟨j+1,by omega,rfl,by go_num,?_,(HR.2.1.trans H9.2.2.2.2.1).grown H4.2.1 fun b hb=>.inr (H4.2.2 b hb),fun i' y hi hy=>?_⟩
  ·have e:(b.code.map (pg p q f)).take (j+1)=(b.code.map (pg p q f)).take j++[pg p q f x]:=by rw[cU,cL,HR.2.2.2.2.1];rfl
   rw[e];have h3:=H4.1;rw[h9] at h3;exact h3
  by_cases e:i'=j;·subst e;rw[HR.2.2.2.2.1] at hy;injection hy with hy;subst hy;exact⟨⟨H7.2,H8.2.2.2.1⟩,H9.2.2.2.2.2⟩
  exact HR.2.2.1 i' y (by omega) hy
 omega)
 obtain rfl:j=b.code.length:=by omega
 rw[oF (by rw[ce];omega)] at a1;have e9:∀(i:Nat) x,b.code[i]? =some x→Ky b.code i x∧mO p q f x:=fun i x hx=>b6 i x (lS.1 hx).1 hx;have hO:=a1.read (bw:=96) sH (by rw[ce];omega);have l0:=J.1.size;have n0:=HW.2.2.1.size;have HQ:=J3 (cT.wide (fun b (hb:wz.heap.size≤b∧b<wr.heap.size)=>show w.heap.size≤b∧b<wr.heap.size by omega) hO) e9 c5;clear a1 b3 b6 e9 hO c5 l0 n0;go_wp2_with fail;go_ret;exact .inl ⟨⟨nz.2 ⟨J.2,fun i x hx=>(HQ.2.1 i x hx).1⟩,fun x hx=>by obtain⟨i,hi⟩:=List.getElem?_of_mem hx;exact(HQ.2.1 i x hi).2⟩,HQ.2.2,_,rfl,HQ.1⟩
end Go.Proofs.YtgdlhckhpolnnaaGreatDoor
