/- Part 16 of the proof (its last part says what is proved). No condition. -/
import Derived.Test.YtgdlhckhpolnnaaGreatDoorK14
namespace Go.Proofs.YtgdlhckhpolnnaaGreatDoor
set_option maxRecDepth 100000
set_option maxHeartbeats 8000000
open Go.RowKit Go.Proofs.Tryz
section
namespace Q
def qbI (x:Int×Int):List V:=[.s (.int .i64 x.1),.s (.int .i64 x.2)]
abbrev qax (c:aE):List V:=[.row 2 16 (c.Nd.map qbI) none,.row 3 40 (c.Nf.map qaH) none,.s (.int .i64 c.main)]
theorem qaA (N:Nat)(c:aE):∀x∈qax c,Lt N x:=by
 have h1:∀e∈c.Nd.map qbI,∀x∈e,Lt N x:=by rintro e he x o;obtain⟨a,_,rfl⟩:=dr.1 he;revert x;simp[LT,qbI]
 have j:∀e∈c.Nf.map qaH,∀x∈e,Lt N x:=by simp only[dr,forall_exists_index,and_imp,forall_apply_eq_imp_iff₂];exact fun b _=>qbg N b
 exact xz (.row _ _ _ _ h1 nofun) (xz (.row _ _ _ _ j nofun) (xz (.s _) ik))
theorem vb {a b:Bool}(h:a=true↔b=true):V.s (.bool a)=V.s (.bool b):=by rw[Bool.eq_iff_iff.2 h]
section
variable {g:Gh} {w:World} {S:Nat→Prop} {c:V} {cs:List V} {vs:List Value} {v:Value}
theorem da.cons_inv (h:da g w (c::cs) vs):∃v us,vs=v::us∧VR g w c v∧da g w cs us:=by
 cases vs with
 |nil=>have:=h.1;simp at this
 |cons v us=>exact⟨v,us,rfl,h.2 0 c v rfl rfl,by simpa using h.1,fun i x u j hu=>h.2 (i+1) x u (by simpa using j) (by simpa using hu)⟩
def qhQ (g:Gh)(w:World):List V→List Value→Prop
 | [],vs=>vs=[]
 |c::cs,vs=>∃v us,vs=v::us∧VR g w c v∧qhQ g w cs us
theorem da.inv:∀ {cs:List V} {vs:List Value},da g w cs vs→qhQ g w cs vs
 | [],vs,h=>by have:=h.1;simpa [qhQ] using this.symm
 |c::cs,vs,h=>by obtain⟨v,us,e,h1,j⟩:=da.cons_inv h;exact⟨v,us,e,h1,j.inv⟩
theorem qdh (h:VR g w (.agg cs) v):∃vs,v=.agg vs.toArray∧da g w cs vs:=by
 cases h with
 |agg _ vs hl h=>exact⟨vs,rfl,hl,h⟩
theorem qbr {α:Type}{n bw:Nat}{E:cO α}{fv:α→List V}{l:List α}{tok:Option Nat}(h0:0<n)(hS:∀b o,g.fz b o→S b)(hE:∀x∈l,∀vs,da g w (fv x) vs→E S w vs x)(h:VR g w (.row n bw (l.map fv) tok) v):rx n bw E S w v l:=by
 cases h with
 |row _ _ _ _ a c f h1 h2 h3 hk ha hr ht=>
  simp only[ce] at h1 h3;rw[ce];refine⟨a,c,rfl,h1,h2,h3,fun i x hx=>?_⟩;have hi:=(lS.1 hx).1;have R:(l.map fv)[i]? =some (fv x):=by simp[hx]
  obtain⟨b,off,rfl,hc⟩:=ha (by simp;omega);skip;have Y:=hc i (by simpa using hi);have a1:=hk (fv x) (mG R);have I:∀(j:Nat) u,((List.range n).map (f i))[j]? =some u→j<n∧u=f i j:=fun j u J=>by(
 have C:j<n:=by simpa using(lS.1 J).1
 rw[cL,ln C] at J;cases J;exact⟨C,rfl⟩)
  refine⟨b,off,(List.range n).map (f i),rfl,hS _ _ (Y 0 h0).1,by simp,fun j u J=>?_,hE x (mG hx) _ ⟨by simp[a1],fun j c u J hu=>?_⟩⟩;·obtain⟨C,rfl⟩:=I j u J;exact(Y j C).2
  obtain⟨C,rfl⟩:=I j u hu;exact hr i _ j c R J
theorem qbU {α:Type}{bw:Nat}{E:bT α}{fv:α→V}{l:List α}{tok:Option Nat}(C:∀b o,g.fz b o→S b)(I:∀x∈l,∀u,VR g w (fv x) u→E S w u x)(h:VR g w (.row 1 bw (l.map fun x=>[fv x]) tok) v):Sl bw E S w v l:=by obtain⟨a,c,e,J,R,Y,k4⟩:=qbr (E:=fun S w cs x=>∃u,cs=[u]∧E S w u x) (by omega) C (fun x j vs hv=>by obtain⟨u,_,rfl,h1,rfl⟩:=hv.inv;exact⟨u,rfl,I x j u h1⟩) h;refine⟨a,c,e,J,R,Y,fun i x j=>?_⟩;obtain⟨b,off,cs,e1,s1,e2,e3,u,rfl,e4⟩:=k4 i x j;exact⟨b,off,u,e1,s1,by simpa using e3 0 u rfl,e4⟩
structure qcq (c:aE):Prop where
 main:aV c.main
 arr:∀x∈c.Nd,aV x.1∧aV x.2
 fns:∀b∈c.Nf,aV b.params∧aV b.vars∧∀l∈b.Ng,∀x∈l,jx x∧(∀a∈x.args,aV a)∧∀a∈x.Nh,aV a
theorem qdW {l:List Int}(j:∀b o,g.fz b o→S b)(hl:∀a∈l,aV a)(h:VR g w (qfd l) v):aK S w v l:=qbU (fv:=fun n=>.s (.int .i64 n)) j (fun x C _ hu=>⟨hu.of_s,WalkArith.wf_i64 (hl x C)⟩) h
theorem qib {x:bz}(C:∀b o,g.fz b o→S b)(j:jx x∧(∀a∈x.args,aV a)∧∀a∈x.Nh,aV a)(h:da g w (Oe x) vs):KD S w vs x:=by obtain⟨_,_,rfl,h1,_,_,rfl,I,_,_,rfl,J,_,_,rfl,R,_,_,rfl,Y,a,_,rfl,ha,f,_,rfl,hf,_,_,rfl,h6,_,_,rfl,h7,rfl⟩:=h.inv;cases h1.of_s;cases I.of_s;cases J.of_s;cases R.of_s;cases Y.of_s;cases h6.of_s;cases h7.of_s;exact⟨a,f,rfl,qdW C j.2.1 ha,qdW C j.2.2 hf,j.1⟩
theorem qct {c:aE}(j:∀b o,g.fz b o→S b)(I:qcq c)(h:VR g w (.agg (qax c)) v):cQ S w v c:=by
 obtain⟨_,rfl,k⟩:=qdh h;obtain⟨a,_,rfl,Y,f,_,rfl,hf,_,_,rfl,h1,rfl⟩:=k.inv;cases h1.of_s;refine⟨a,f,rfl,qbr (by omega) j (fun x J vs C=>?_) Y,qbr (by omega) j (fun b hb vs C=>?_) hf,I.main⟩
 ·obtain⟨_,_,rfl,h1,_,_,rfl,R,rfl⟩:=C.inv
  cases h1.of_s;cases R.of_s;exact⟨rfl,I.arr x J⟩
 obtain⟨h5,h6,h7⟩:=I.fns b hb;obtain⟨_,_,rfl,h1,_,_,rfl,R,r,_,rfl,hr,rfl⟩:=C.inv;cases h1.of_s;cases R.of_s;exact⟨r,rfl,qbU (fv:=qcz) j (fun l hl u hu=>qbr (by omega) j (fun x J vs C=>qib j (h7 l hl x J) C) hu) hr,h5,h6⟩
abbrev qdP (x:ByteArray×Int):List V:=[.s (.string x.1),.s (.int .i64 x.2)]
abbrev qaY (p:aH):List V:=[.row 1 16 (p.MZ.map fun s=>[.s (.string s)]) none,.row 1 8 (p.up.map fun x=>[.s (U x)]) none,.row 2 24 (p.Nb.map qdP) none,.row 2 24 (p.Na.map qdP) none,.s (.int .i64 p.Nc)]
structure qdE (p:aH):Prop where
 Nb:∀c∈p.Nb,aV c.2
 Na:∀c∈p.Na,aV c.2
 Nc:aV p.Nc
theorem qfl {p:aH}(j:∀b o,g.fz b o→S b)(C:qdE p)(h:VR g w (.agg (qaY p)) v):dJ S w v p:=by obtain⟨_,rfl,k⟩:=qdh h;obtain⟨a,_,rfl,I,b,_,rfl,J,c,_,rfl,R,d,_,rfl,Y,_,_,rfl,h1,rfl⟩:=k.inv;cases h1.of_s;have key:∀ {l:List (ByteArray×Int)} {v:Value},(∀c∈l,aV c.2)→VR g w (.row 2 24 (l.map qdP) none) v→kh S w v l:=fun hl h=>qbr (by omega) j (fun x hx vs hv=>by obtain⟨_,_,rfl,h1,_,_,rfl,h2,rfl⟩:=hv.inv;cases h1.of_s;cases h2.of_s;exact⟨rfl,WalkArith.wf_i64 (hl x hx)⟩) h;exact⟨a,b,c,d,rfl,qbU (fv:=fun s=>.s (.string s)) j (fun _ _ _ hu=>hu.of_s) I,qbU (fv:=fun x=>.s (U x)) j (fun _ _ _ hu=>hu.of_s) J,key C.Nb R,key C.Na Y,WalkArith.wf_i64 C.Nc⟩
end
section
variable {g:Gh} {w:World} {S:Nat→Prop} {v:Value} {vs:List Value}
def Fz (g:Gh)(w:World)(S:Nat→Prop):Prop:=∀b o c,S b→w.cell? ⟨b,o,none⟩=some c→g.fz b o
theorem Fz.of {g:Gh}{w:World}{S:Nat→Prop}(h:∀b,S b→∀o,g.fz b o):Fz g w S:=fun b o _ j _=>h b j o
theorem qdG {cs:List V}(h:da g w cs vs):VR g w (.agg cs) (.agg vs.toArray):=.agg _ _ h.1 h.2
theorem qgJ {cs:List V}(h:da g w cs vs):VR g w (.tup cs) (.tuple vs.toArray):=.tup _ _ h.1 h.2
theorem qbs {α:Type}{n bw:Nat}{E:cO α}{fv:α→List V}{l:List α}(hS:Fz g w S)(hn:∀x,(fv x).length=n)(hE:∀x vs,E S w vs x→da g w (fv x) vs)(h:rx n bw E S w v l):VR g w (.row n bw (l.map fv) none) v:=by
 obtain⟨a,cap,rfl,h1,h2,h3,h4⟩:=h;have key:∀i:Nat,∃cs:List Value,∀x,l[i]? =some x→∃b off,a=some ⟨b,off,none⟩∧S b∧cs.length=n∧(∀(j:Nat) c,cs[j]? =some c→w.cell? ⟨b,off+i*n+j,none⟩=some c)∧E S w cs x:=fun i=>by(
 cases I:l[i]? with
 |none=>exact⟨[],nofun⟩
 |some x=>obtain⟨b,off,cs,h⟩:=h4 i x I;exact⟨cs,fun y hy=>by cases hy;exact⟨b,off,h⟩⟩)
 obtain⟨F,J⟩:∃F:Nat→List Value,∀i x,l[i]? =some x→∃b off,a=some ⟨b,off,none⟩∧S b∧(F i).length=n∧(∀(j:Nat) c,(F i)[j]? =some c→w.cell? ⟨b,off+i*n+j,none⟩=some c)∧E S w (F i) x:=⟨fun i=>(key i).choose,fun i=>(key i).choose_spec⟩;have:=VR.row (g:=g) (w:=w) n bw (l.map fv) none a cap (fun i j=>(F i).getD j undef) (by simpa using h1) h2 (by simpa using h3) (fun e he=>by obtain⟨x,_,rfl⟩:=dr.1 he;exact hn x) (fun R=>by
  rw[ce] at R⊢;obtain⟨b,off,e,_⟩:=J 0 _ (lG R);refine⟨b,off,e,fun i hi j hj=>?_⟩;obtain⟨b2,Y,C,s2,l2,c2,_⟩:=J i _ (lG hi);rw[e] at C;cases C;have o:j<(F i).length:=by omega
  exact⟨hS _ _ _ s2 (c2 j _ (lG o)),(c2 j _ (lG o)).trans (by simp[lG o])⟩) (fun i e j x he I=>by
  rw[cL] at he;obtain⟨y,hy,rfl⟩:=oE.1 he;obtain⟨b,off,_,_,_,_,h⟩:=J i y hy;obtain⟨u,e1,C⟩:=(hE y _ h).get I;simpa [iG,e1] using C) nofun
 rwa [ce] at this
theorem qcp {α:Type}{bw:Nat}{E:bT α}{fv:α→V}{l:List α}(C:Fz g w S)(I:∀x u,E S w u x→VR g w (fv x) u)(h:Sl bw E S w v l):VR g w (.row 1 bw (l.map fun x=>[fv x]) none) v:=by
 obtain⟨a,c,e,J,R,Y,k4⟩:=h;refine qbs (E:=fun S w cs x=>∃u,cs=[u]∧E S w u x) C (fun _=>rfl) (fun x vs hv=>?_) ⟨a,c,e,J,R,Y,fun i x hx=>?_⟩
 ·obtain⟨u,rfl,h⟩:=hv
  exact da.cons (I x u h) da.nil
 obtain⟨b,off,u,e1,s1,e2,e3⟩:=k4 i x hx;refine⟨b,off,[u],e1,s1,rfl,fun j c o=>?_,u,rfl,e3⟩;cases j with
 |zero=>simp at o;subst o;simpa using e2
 |succ j=>simp at o
theorem qgh {l:List Int}(j:Fz g w S)(h:aK S w v l):VR g w (qfd l) v:=qcp (fv:=fun n=>.s (.int .i64 n)) j (fun x u hu=>by rw[hu.1];exact .s _) h
theorem qjg {x:bz}(j:Fz g w S)(h:KD S w vs x):da g w (Oe x) vs:=by obtain⟨a,f,rfl,h1,o,_⟩:=h;exact da.cons (.s _) (da.cons (.s _) (da.cons (.s _) (da.cons (.s _) (da.cons (.s _) (da.cons (qgh j h1) (da.cons (qgh j o) (da.cons (.s _) (da.cons (.s _) da.nil))))))))
theorem qdO {l:List aw}(j:Fz g w S)(h:mL S w v l):VR g w (.row 3 40 (l.map qaH) none) v:=qbs j (fun _=>rfl) (fun b vs h=>by obtain⟨r,rfl,o,_⟩:=h;exact da.cons (.s _) (da.cons (.s _) (da.cons (qcp (fv:=qcz) j (fun l u h=>qbs j (fun _=>rfl) (fun x vs h=>qjg j h) h) o) da.nil))) h
theorem qjB {l:List (Int×Int)}(j:Fz g w S)(h:qay S w v l):VR g w (.row 2 16 (l.map qbI) none) v:=qbs j (fun _=>rfl) (fun x vs h=>by obtain⟨rfl,_⟩:=h;exact da.cons (.s _) (da.cons (.s _) da.nil)) h
theorem qjl (N:Nat)(l:List bz):Lt N (qcz l):=by simp[LT,Oe]
theorem qhW {c:aE}(j:Fz g w S)(h:cQ S w v c):VR g w (.agg (qax c)) v:=by obtain⟨a,f,rfl,h1,o,_⟩:=h;refine qdG (da.cons (qjB j h1) (da.cons (qdO j o) (da.cons (.s _) da.nil)))
theorem qdw {l:List ByteArray}(j:Fz g w S)(h:gB S w v l):VR g w (.row 1 16 (l.map fun s=>[.s (.string s)]) none) v:=qcp (fv:=fun s=>.s (.string s)) j (fun x u hu=>by cases (hu:u=.string x);exact .s _) h
theorem qiM {p:aH}(j:Fz g w S)(h:dJ S w v p):VR g w (.agg (qaY p)) v:=by obtain⟨a,b,c,d,rfl,h1,o,C,I,_⟩:=h;have key:∀ {l:List (ByteArray×Int)} {v:Value},kh S w v l→VR g w (.row 2 24 (l.map qdP) none) v:=fun h=>qbs j (fun _=>rfl) (fun x vs h=>by obtain⟨rfl,_⟩:=h;exact da.cons (.s _) (da.cons (.s _) da.nil)) h;exact qdG (da.cons (qdw j h1) (da.cons (qcp (fv:=fun x=>.s (U x)) j (fun x u hu=>by cases (hu:u=U x);exact .s _) o) (da.cons (key C) (da.cons (key I) (da.cons (.s _) da.nil)))))
theorem qaV {α:Type}{n bw:Nat}{E:cO α}{l:List α}(h:rx n bw E S w v l){x:α}(j:x∈l):∃cs,E S w cs x:=by obtain⟨_,_,_,_,_,_,o⟩:=h;obtain⟨i,hi⟩:=cY.1 j;obtain⟨_,_,cs,_,_,_,_,h⟩:=o i x hi;exact⟨cs,h⟩
theorem qeQ {α:Type}{bw:Nat}{E:bT α}{l:List α}(h:Sl bw E S w v l){x:α}(j:x∈l):∃u,E S w u x:=by obtain⟨_,_,_,_,_,_,o⟩:=h;obtain⟨i,hi⟩:=cY.1 j;obtain⟨_,_,u,_,_,_,h⟩:=o i x hi;exact⟨u,h⟩
theorem qfx {c:aE}(h:cQ S w v c):qcq c:=by obtain⟨a,f,rfl,h1,I,J⟩:=h;refine⟨J,fun x j=>(qaV h1 j).choose_spec.2,fun b R=>?_⟩;obtain⟨_,r,rfl,Y,h5,h6⟩:=qaV I R;refine⟨h5,h6,fun l hl x j=>?_⟩;obtain⟨u,h7⟩:=qeQ Y hl;obtain⟨_,_,_,rfl,h8,h9,o⟩:=qaV h7 j;exact⟨o,fun a C=>rs (qeQ h8 C).choose_spec.2,fun a C=>rs (qeQ h9 C).choose_spec.2⟩
theorem qgv {p:aH}(h:dJ S w v p):qdE p:=by obtain⟨a,b,c,d,rfl,_,_,o,C,I⟩:=h;exact⟨fun x j=>rs (qaV o j).choose_spec.2,fun x j=>rs (qaV C j).choose_spec.2,rs I⟩
abbrev qfo (l:List ByteArray):V:=.row 1 16 (l.map fun s=>[.s (.string s)]) none
abbrev qiG (x:cX):List V:=[.s (.int .u8 x.kind),.s (.int .u8 x.op),.s (.string x.dst),.s (.string x.ref),.s (.string x.Ni),qfo x.args,qfo x.Nh,.s (.int .i64 x.num),.s (.int .i64 x.Nj)]
def qgc (b:eS):List V:=[.s (.string b.name),.row 9 120 (b.code.map qiG) none,.s (.int .i64 b.Nj)]
def qhK (f:cD):List V:=[.s (.string f.name),qfo f.params,.row 3 48 (f.Ng.map qgc) none,.s (.int .i64 f.Nj)]
def qiF (a:EL):List V:=[.s (.string a.name),.s (.int .i64 a.size),.s (.string a.level),.s (.int .i64 a.Nj)]
abbrev qej (q:dN):List V:=[.row 4 48 (q.Nd.map qiF) none,.row 4 72 (q.Nf.map qhK) none]
theorem qjY {x:cX}(j:Fz g w S)(h:zH S w vs x):da g w (qiG x) vs:=by obtain⟨a,f,rfl,o,C,_⟩:=h;exact da.cons (.s _) (da.cons (.s _) (da.cons (.s _) (da.cons (.s _) (da.cons (.s _) (da.cons (qdw j o) (da.cons (qdw j C) (da.cons (.s _) (da.cons (.s _) da.nil))))))))
theorem qil {q:dN}(j:Fz g w S)(h:BF S w v q):VR g w (.agg (qej q)) v:=by
 obtain⟨a,f,rfl,h1,o⟩:=h;refine qdG (da.cons (qbs j (fun _=>rfl) (fun x vs h=>?_) h1) (da.cons (qbs j (fun _=>rfl) (fun b vs h=>?_) o) da.nil))
 ·obtain⟨rfl,_⟩:=h
  exact da.cons (.s _) (da.cons (.s _) (da.cons (.s _) (da.cons (.s _) da.nil)))
 obtain⟨p,r,rfl,C,I,_⟩:=h;refine da.cons (.s _) (da.cons (qdw j C) (da.cons (qbs j (fun _=>rfl) (fun b vs h=>?_) I) (da.cons (.s _) da.nil)));obtain⟨r,rfl,J,_⟩:=h;exact da.cons (.s _) (da.cons (qbs j (fun _=>rfl) (fun x vs h=>qjY j h) J) (da.cons (.s _) da.nil))
structure qdg (q:dN):Prop where
 arr:∀a∈q.Nd,aV a.size∧aV a.Nj∧a.name.size≤140737488355328∧a.level.size≤140737488355328
 fns:∀f∈q.Nf,(aV f.Nj∧f.name.size≤140737488355328∧∀s∈f.params,s.size≤140737488355328)∧∀b∈f.Ng,(aV b.Nj∧b.name.size≤140737488355328)∧∀x∈b.code,uB x
theorem qfK {q:dN}(h:BF S w v q):qdg q:=by obtain⟨a,f,rfl,h1,o⟩:=h;refine⟨fun x j=>(qaV h1 j).choose_spec.2,fun b C=>?_⟩;obtain⟨_,p,r,rfl,h3,I,J⟩:=qaV o C;refine⟨J,fun l hl=>?_⟩;obtain⟨_,r,rfl,R,Y⟩:=qaV I hl;refine⟨Y,fun x j=>?_⟩;obtain⟨_,_,_,rfl,_,_,h8⟩:=qaV R j;exact h8
theorem qcE {l:List ByteArray}(j:∀b o,g.fz b o→S b)(h:VR g w (qfo l) v):gB S w v l:=qbU (fv:=fun s=>.s (.string s)) j (fun _ _ _ hu=>hu.of_s) h
theorem qgy {q:dN}(j:∀b o,g.fz b o→S b)(hq:qdg q)(h:VR g w (.agg (qej q)) v):BF S w v q:=by
 obtain⟨_,rfl,k⟩:=qdh h;obtain⟨a,_,rfl,J,f,_,rfl,R,rfl⟩:=k.inv;refine⟨a,f,rfl,qbr (by omega) j (fun x Y vs C=>?_) J,qbr (by omega) j (fun b hb vs C=>?_) R⟩
 ·obtain⟨_,_,rfl,h1,_,_,rfl,I,_,_,rfl,h3,_,_,rfl,h4,rfl⟩:=C.inv
  cases h1.of_s;cases I.of_s;cases h3.of_s;cases h4.of_s;exact⟨rfl,hq.arr x Y⟩
 obtain⟨h5,h6⟩:=hq.fns b hb;obtain⟨_,_,rfl,h1,p,_,rfl,hp,r,_,rfl,hr,_,_,rfl,I,rfl⟩:=C.inv;cases h1.of_s;cases I.of_s;refine⟨p,r,rfl,qcE j hp,qbr (by omega) j (fun l hl vs C=>?_) hr,h5⟩;obtain⟨h7,h8⟩:=h6 l hl;obtain⟨_,_,rfl,h1,r,_,rfl,hr,_,_,rfl,I,rfl⟩:=C.inv;cases h1.of_s;cases I.of_s;refine⟨r,rfl,qbr (by omega) j (fun x Y vs C=>?_) hr,h7⟩;obtain⟨_,_,rfl,h1,_,_,rfl,I,_,_,rfl,h3,_,_,rfl,h4,_,_,rfl,h5,a,_,rfl,J,f,_,rfl,R,_,_,rfl,h6,_,_,rfl,h7,rfl⟩:=C.inv;cases h1.of_s;cases I.of_s;cases h3.of_s;cases h4.of_s;cases h5.of_s;cases h6.of_s;cases h7.of_s;exact⟨a,f,rfl,qcE j J,qcE j R,h8 x Y⟩
end
theorem qdo {L:World→Prop}{P:Program}{f:FuncId}{xs:List V}{x:V}(h:∀w,L w→∀g vs,HR g w []→da g w xs vs→Calls P f vs.toArray w fun e w'=>∃v,e=.returned v∧aa All w w'∧VR (g.frz w.heap.size w') w' x v):VFL L P f xs (·=x):=fun w hw g vs j C=>(h w hw g vs j C).mono fun e w'=>by rintro⟨v,rfl,o,I⟩;exact⟨v,x,_,[],rfl,⟨rfl,rfl⟩,I,Le.frz j o,HR.frz j o⟩
def Gh.top (w:World):Gh:=⟨fun _=>none,fun b _=>b<w.heap.size,fun _=>none⟩
theorem HR.top (w:World):HR (Gh.top w) w []:=⟨fun i o h=>by simp at h,fun i _=>⟨rfl,rfl⟩,fun i j b hi=>by rcases hi with hi|⟨v,n,hi,_⟩<;>simp[Gh.top] at hi,fun b o h=>h⟩
theorem Fz.top {w:World}{S:Nat→Prop}:Fz (Gh.top w) w S:=fun _ _ _ _ h=>jy w _ h
theorem qjJ {P:Program}{f:FuncId}{xs:List V}{v:Value}{w:World}{vs:List Value}(h:VF P f xs (·=.s v))(j:da (Gh.top w) w xs vs):Calls P f vs.toArray w fun e w'=>e=.returned v∧aa All w w':=(h (Gh.top w) w vs (HR.top w) j).mono fun e w'=>by rintro⟨_,x,C,H',rfl,⟨rfl,rfl⟩,o,hle,_⟩;cases o.of_s;exact⟨rfl,hle.all (HR.top w).none⟩
theorem ya {t:Nat}{b c:Bool}{e:Exit}{T:VT}{H:List HO}(he:e=.ret)(h1:Oo T t=some (.s (.bool b)))(j:b=c):qcM [t] (·=.s (.bool c)) e T H:=⟨.inl he,[.s (.bool b)],_,by simp[h1],yc.cons (.lt _ (.s _)) yc.nil,by simp[qeU,j]⟩
theorem qaN (N:Nat)(p:aH):∀x∈qaY p,Lt N x:=by
 have h1:∀(l:List (ByteArray×Int)),∀e∈l.map qdP,∀x∈e,Lt N x:=fun l e he x j=>by obtain⟨a,_,rfl⟩:=dr.1 he;revert x;simp[LT]
 exact xz (.row _ _ _ _ (by simp[LT]) nofun) (xz (.row _ _ _ _ (by simp[LT]) nofun) (xz (.row _ _ _ _ (h1 _) nofun) (xz (.row _ _ _ _ (h1 _) nofun) (xz (.s _) ik))))
theorem ja {N k bw j:Nat}{es:List (List V)}(h:∀e∈es,∀x∈e,Lt N x)(o:j<N):Lt N (.row k bw es (some j)):=.row _ _ _ _ h fun t e=>by cases e;exact o
end Q
end
def XS (W:World)(C:Prop)(j:List PanicEntry)(wn:World):Prop:=¬C∧(∃a n:Int,n≠0∧aV a∧aV n∧j=[{v:=.iface 116 (.agg #[.int .i64 a,.int .i64 n]),recovered:=false}])∧aa All W wn
theorem XS.end_ {W w wn:World}{C:Prop}{j:List PanicEntry}{R:Ending→World→Prop}(h:XS W C j wn)(o:aa All w W):ql C R w (.panicked j) wn:=by obtain⟨h1,⟨a,n,I,J,Y,rfl⟩,h5⟩:=h;exact .inr ⟨h1,⟨a,n,I,J,Y,rfl⟩,o.trans h5⟩
theorem XS.stop {W w wn:World}{C:Prop}{j:List PanicEntry}(h:XS W C j wn)(o:aa All w W):KG (.panicked j)∧aa All w wn:=by obtain⟨h1,⟨a,n,I,J,R,rfl⟩,Y⟩:=h;exact⟨⟨a,n,I,J,R,rfl⟩,o.trans Y⟩
theorem RN {id:Nat}{Q':Exit→Act→World→Prop}{a:Act}{w:World}{l I:List Oper}{b:Bool}{C:Prop}(n nd:Nat)(W:World)(L:Nat→Option (Value→Prop))(_:Hid (b=true↔C))(R:∀j J w,XS W C J w→j.defers=a.defers→Q' (.panic J) j w)(h:oC prog l.toArray (aa All W) [] (fun _ _ _=>True) L (fun i=>i==nd&&!b) (XS W C) (fun j=>∀w',aa All W w'→(∀t∈([]:List Tmp),∀v,j.tmps[t]? =some v→True)→wpList prog l.toArray Q' (l.drop n) j w') I 0 false a)(hm:prog.follows .mixedOrders=true:=by kernel_rfl)(hB:yZ .any l.toArray n=true:=by kernel_rfl)(Y:ns .any l.toArray []=true:=by kernel_rfl)(o:pM l.toArray [] n=true:=by kernel_rfl)(hS:aa All W w.drew:=by exact kR.drew)(ht:l.take n=I:=by conv=>lhs;simp only[tK]):(Code.region id l.toArray true).wp prog Q' a w:=
 R2 n W L (fun i=>i==nd&&!b) (XS W C) R h hm hB Y o hS ht
theorem ql.reg {W w:World}{c C:Prop}[Decidable c]{R:Ending→World→Prop}{G:World→Prop}{f:FuncId}{args:Array Value}{v:Value}(h:Calls prog f args w (ql c R w))(Y:C→c)(I:aa All W w)(o:∀e w',R e w'→e=.returned v∧aa All w w')(hG:∀w',aa All w w'→G w'):
 Calls prog f args w fun e w'=>(decide c=true∧e=.returned v∧aa All W w'∧G w')∨∃J,e=.panicked J∧XS W C J w':=
 h.mono fun e w' h=>by
  rcases h with ⟨h1,j⟩|⟨h1,⟨a,n,j,h3,h4,rfl⟩,h5⟩;·exact .inl ⟨bL h1,(o _ _ j).1,I.trans (o _ _ j).2,hG _ (o _ _ j).2⟩
  exact .inr ⟨_,rfl,fun h=>h1 (Y h),⟨a,n,j,h3,h4,rfl⟩,I.trans h5⟩
theorem ZT {W wn:World}{b:Nat}{l:List ByteArray}{s:ByteArray}{a r:Int}{C:Prop}(hm:cK W b l)(I:s.size≤140737488355328)(J:aV a)(hr:r=aO l s)(R:C→0≤r)(j:aa All W wn):
 Calls prog 157 #[.map (some b),.string s,.int .i64 a] wn fun e w'=>(decide (0≤r)=true∧e=.returned (.int .i64 r)∧aa All W w'∧∀t∈([]:List Tmp),∀_:Value,True→True)∨∃o,e=.panicked o∧XS W C o w':=by
 subst hr;exact ql.reg (lQ b l s a wn (hm.keep j trivial) I J) R j (fun e w' h=>⟨h.1,h.2▸kR⟩) fun _ _ _ _ _ _=>trivial
theorem ZR {W wn:World}{b:Bool}{a n:Int}{C:Prop}(I:aV a)(J:n≠0)(hi:aV n)(R:C→b=true)(j:aa All W wn):
 Calls prog 48 #[.bool b,.int .i64 a,.int .i64 n] wn fun e w'=>(b=true∧e=.returned (.tuple #[])∧aa All W w'∧∀t∈([]:List Tmp),∀_:Value,True→True)∨∃o,e=.panicked o∧XS W C o w':=by
 cases b with
 |true=>exact(dX a n wn).mono fun e w' h=>.inl ⟨rfl,h.1,h.2▸j,fun _ _ _ _=>trivial⟩
 |false=>exact(fP a n wn).mono fun e w' h=>.inr ⟨_,h.1,fun h=>Bool.noConfusion (R h),⟨a,n,J,I,hi,rfl⟩,h.2▸j⟩
theorem qab (r a:Int)(w:World)(j:aV a):Calls prog 50 #[.int .i64 (max r 0),.bool (decide (0≤r)),.int .i64 a] w (ql (0≤r) (fun e w'=>e=.returned (.int .i64 r)∧w=w') w):=by
 by_cases h:0≤r
 ·rw[Int.max_eq_left h,bL h]
  exact(nQ _ _ _).mono fun e w' h'=>.inl ⟨h,h'⟩
 rw[cI h];exact(pK _ _ _ j).mono fun e w' h'=>.inr ⟨h,h'.1,h'.2▸kR⟩
def rV (S:Nat→Prop)(w:World)(br:Nat)(p:aH)(q:dN):Prop:=∃j C vi I J R Y o,al w br 121 #[j,C,vi,I,.int .i64 p.Nc,J,R,.map (some Y),.map (some o)]∧dJ S w (.agg #[j,C,vi,I,.int .i64 p.Nc]) p∧BF S w (.agg #[J,R]) q∧
 cK w Y (dz q)∧cK w o (fh q)
theorem rV.keep {S:Nat→Prop}{w w':World}{C:Nat}{p:aH}{q:dN}(h:rV S w C p q)(k:aa All w w'):rV S w' C p q:=by obtain⟨j,I,vi,J,R,Y,ba,o,h1,h2,h3,h4,h5⟩:=h;exact⟨j,I,vi,J,R,Y,ba,o,h1.kept k trivial,cB.keep k.all h2,sI.keep k.all h3,h4.keep k trivial,h5.keep k trivial⟩
def ML (p:aH)(q:dN)(f:cD)(x:cX)(w:World)(e:Ending)(w':World):Prop:=
 ql (0≤dv p q f x∧0≤dy f x) (fun e w'=>e=.returned (.tuple #[.int .i64 (dv p q f x),.int .i64 (dy f x)])∧aa All w w') w e w'
theorem GO (S:Nat→Prop)(br:Nat)(p:aH)(q:dN)(f:cD)(x:cX)(b1 b2:Nat)(xa xf:Value)(w:World)(hr:rV S w br p q)(a8:cK w b1 (cn f))(b6:gB S w xa x.args)(b7:gB S w xf x.Nh)(hx:uB x):
 Calls prog 156 #[.pointer (some ⟨br,0,none⟩),.agg #[.map (some b1),.map (some b2)],.agg #[.int .u8 x.kind,.int .u8 x.op,.string x.dst,.string x.ref,.string x.Ni,xa,xf,.int .i64 x.num,.int .i64 x.Nj]] w (ML p q f x w):=by
 obtain⟨ua,uc,rfl,_⟩:=b6;obtain⟨va,vc,rfl,_⟩:=b7;obtain⟨c7,vu,vi,vo,pa,pf,ba,b8,h1,h2,h3,h4,h5⟩:=hr;have b9:=h2;obtain⟨P1,P2,P3,P4,a6,c0,c1,c4,c5,c6⟩:=b9;iterate 2 injection a6 with a6
 simp only[List.cons.injEq,and_true] at a6;obtain⟨rfl,rfl,rfl,rfl⟩:=a6;obtain⟨a1,n1,rfl,_⟩:=c0;obtain⟨a2,n2,rfl,_⟩:=c1;obtain⟨a3,n3,rfl,_⟩:=c4;obtain⟨a4,n4,rfl,_⟩:=c5;obtain⟨W1,R⟩:=eQ ((w.alloc (.cells #[.map (some b1),.map (some b2)] 131)).alloc (.cells #[.int .u8 x.kind,.int .u8 x.op,.string x.dst,.string x.ref,.string x.Ni,.slice ua x.args.length uc,.slice va x.Nh.length vc,.int .i64 x.num,.int .i64 x.Nj] 188));have I:=zy R;have bS:=aA1 R;have bX:=zo R vI;have bR:=h1.kept I trivial;have x0:=bX.cl 0;have HM:=oH (show∀wn,aa All W1 wn→wn.cell? ⟨br,0,none⟩=some (.slice a1 p.MZ.length n1)∧wn.cell? ⟨br,1,none⟩=some (.slice a2 p.up.length n2)∧wn.cell? ⟨br,2,none⟩=some (.slice a3 p.Nb.length n3)∧wn.cell? ⟨br,3,none⟩=some (.slice a4 p.Na.length n4)∧wn.cell? ⟨br,4,none⟩=some (.int .i64 p.Nc)∧wn.cell? ⟨br,7,none⟩=some (.map (some ba))∧wn.cell? ⟨br,8,none⟩=some (.map (some b8))∧wn.cell? ⟨w.heap.size+1,3,none⟩=some (.string x.ref)∧wn.cell? ⟨w.heap.size+1,4,none⟩=some (.string x.Ni)∧wn.cell? ⟨w.heap.size+1,8,none⟩=some (.int .i64 x.Nj)∧wn.cell? ⟨w.heap.size,0,none⟩=some (.map (some b1)) from fun wn j=>⟨(bR.kept j trivial).cell 0,(bR.kept j trivial).cell 1,(bR.kept j trivial).cell 2,(bR.kept j trivial).cell 3,(bR.kept j trivial).cell 4,(bR.kept j trivial).cell 7,(bR.kept j trivial).cell 8,(bX.kept j trivial).cell 3,(bX.kept j trivial).cell 4,(bX.kept j trivial).cell 8,(bS.kept j trivial).cell 0⟩);have o:=J3 R I hx;have HC:=J3 (h4.keep I trivial) (h5.keep I trivial) (a8.keep I trivial);have Y:=oH (fun wn (j:aa All W1 wn)=>cB.keep (I.trans j).all h2);clear h1 h2 h3 h4 h5 R I bS bX bR hx a8 c6;go_enter func156,ntmps156;go_upto_region 1 with fail;rw[←o.1];by_cases h4:x.kind=4∨x.kind=5∨x.kind=6∨x.kind=7;·(
 rcases h4 with e|e|e|e
 all_goals
  first
  |go_upto_region 5 with fail
  |go_upto_region 7 with fail
  have HA:=oH (show dy f x=0 by unfold dy;simp[e]);refine R2 10 W1 (fun i=>if i=8 then some (·=.int .i64 (dv p q f x)) else none) (fun i=>i==8&&!decide (0≤dv p q f x)) (XS W1 (0≤dv p q f x∧0≤dy f x)) (fun _ _ _ h hd=>⟨hd,h.end_ o.2.1⟩) ?_;repeat first
  |refine O0 ?_
  |refine O4 HM.out ?_
  refine O9 (decide (0≤dv p q f x)) HM.out (fun wn j=>?_) ?_
  ·first
   |exact ZT HC.1 o.2.2.ref o.2.2.Nj (by unfold dv;simp[e]) (·.1) j
   |exact ZT HC.2.1 o.2.2.ref o.2.2.Nj (by unfold dv;simp[e]) (·.1) j
  refine O0 ?_;refine fun hd wt C _=>?_;have HD:=oH (show 0≤dv p q f x by simpa using hd);have J:=oH C;clear C hd;simp only[dK];go_wp2_with fail;go_ret2;exact .inl ⟨⟨HD.out,by rw[HA.out];omega⟩,by rw[HA.out]<;>rfl,o.2.1.trans J.out⟩)
 by_cases h8:x.kind=8∨x.kind=9∨x.kind=10∨x.kind=11;·(
 have HA:=oH (show dy f x=0 by unfold dy;rcases h8 with h|h|h|h<;>simp[h]);by_cases e:x.kind=11
 case' pos=>(have J:=oH (aa.refl All W1);have HE:=oH (show dv p q f x=aO (cn f) x.ref by unfold dv;simp[e]);go_upto_region 18 with fail;clear e;obtain⟨e0,e1,e2,e3,e4,e5,e6,e7,e8,e9,c8⟩:=HM.out W1 kR;go_wp2_with fail;have a7:=lQ b1 (cn f) x.ref x.Nj W1 HC.2.2 o.2.2.ref o.2.2.Nj;rw[←HE.out] at a7;refine a7.mono ?_;clear a7)
 case' neg=>(
 rcases (show x.kind=8∨x.kind=9∨x.kind=10 by omega) with e|e|e
 all_goals
  first
  |go_upto_region 9 with fail
  |go_upto_region 12 with fail
  |go_upto_region 15 with fail
  refine R0 12 W1 (fun i=>if i=6 then some (·=.tuple #[.int .i64 (max (dv p q f x) 0),.bool (decide (0≤dv p q f x))]) else none) ?_;repeat first
  |refine O0 ?_
  |refine O4 HM.out ?_
  refine O8 HM.out (fun wn j=>?_) ?_;·(
 first
 |(rw[show dv p q f x=fD p.Nb x.ref by unfold dv;simp[e]];exact(Dh S _ p x.ref wn (Y.out wn j)).mono fun e w' h=>⟨h.1,j.trans h.2,fun _ h=>by cases h⟩)
 |(rw[show dv p q f x=fD p.Na x.ref by unfold dv;simp[e]];exact(AJ S _ p x.ref wn (Y.out wn j)).mono fun e w' h=>⟨h.1,j.trans h.2,fun _ h=>by cases h⟩)
 |(rw[show dv p q f x=eZ p x.ref by unfold dv;simp[e]];exact(qB S _ p x.ref wn (Y.out wn j)).mono fun e w' h=>⟨h.1,j.trans h.2,fun _ h=>by cases h⟩))
  repeat refine O0 ?_
  refine aG fun wt C _=>?_;have J:=oH C;have e9:=(HM.out wt C).2.2.2.2.2.2.2.2.2.1;clear C;simp only[dK];go_wp2_with fail;refine(qab _ _ _ o.2.2.Nj).mono ?_)
 all_goals
  rintro e w4 (⟨hf,rfl,rfl⟩|⟨hf,⟨an,nn,b0,b3,b4,rfl⟩,b5⟩);·have HF:=oH hf;clear hf;go_wp2_with fail;go_ret2;exact .inl ⟨⟨HF.out,by rw[HA.out];omega⟩,by rw[HA.out]<;>rfl,o.2.1.trans J.out⟩
  have HS:=J4 hf b0 b3 (And.intro b4 b5);clear hf b0 b3 b4 b5;go_wp2_with fail;exact⟨rfl,.inr ⟨fun h=>by have h1:=h.1;have h2:=HS.1;omega,⟨an,nn,HS.2.1,HS.2.2.1,HS.2.2.2.1,rfl⟩,o.2.1.trans (J.out.trans HS.2.2.2.2)⟩⟩)
 by_cases e:x.kind=12;·(
 go_upto_region 20 with fail;refine R2 16 W1 (fun i=>if i=6 then some (·=.int .i64 (dv p q f x)) else if i=13 then some (·=.int .i64 (dy f x)) else none) (fun i=>if i=6 then !decide (0≤dv p q f x) else if i=13 then !decide (0≤dy f x) else false) (XS W1 (0≤dv p q f x∧0≤dy f x)) (fun _ _ _ h hd=>⟨hd,h.end_ o.2.1⟩) ?_;repeat first
 |refine O0 ?_
 |refine O4 HM.out ?_
 refine O9 (decide (0≤dv p q f x)) HM.out (fun wn j=>ZT HC.2.2 o.2.2.ref o.2.2.Nj (by unfold dv;simp[e]) (·.1) j) ?_;repeat first
 |refine O0 ?_
 |refine O4 HM.out ?_
 refine O9 (decide (0≤dy f x)) HM.out (fun wn j=>ZT HC.2.2 o.2.2.Ni o.2.2.Nj (by unfold dy;simp[e]) (·.2) j) ?_;repeat refine O0 ?_
 refine fun hd wt C _=>?_;have HD:=oH (show 0≤dv p q f x∧0≤dy f x by simpa using hd);have J:=oH C;clear C hd;simp only[dK];go_wp2_with fail;go_ret2;exact .inl ⟨HD.out,by rfl,o.2.1.trans J.out⟩)
 have HR:=oH (show dv p q f x=0∧dy f x=0 by unfold dv dy;constructor<;>repeat rw[ae (by omega)]);obtain⟨t4,t5,t6,t7,t8⟩:=And.intro (nK x.kind 4 (by omega)) (And.intro (nK x.kind 5 (by omega)) (And.intro (nK x.kind 6 (by omega)) (And.intro (nK x.kind 7 (by omega)) (nK x.kind 8 (by omega)))));have t9:=nK x.kind 9 (by omega);have t10:=nK x.kind 10 (by omega);have t11:=nK x.kind 11 (by omega);have t12:=nK x.kind 12 (by omega);clear h4 h8 e;go_wp2_with fail;go_ret2;exact .inl ⟨by rw[HR.1,HR.2];omega,by rw[HR.1,HR.2]<;>rfl,o.2.1⟩
theorem lR (l:List ByteArray)(s:ByteArray): -1≤aO l s∧aO l s<(l.length:Int)+1:=kT _ _
theorem Ca {S:Nat→Prop}{w:World}{v:Value}{l:List Int}(h:aK S w v l):aK (fun b=>S b∧b<w.heap.size) w v l:=by obtain⟨a,cap,o,h1,C,I,h⟩:=h;refine⟨a,cap,o,h1,C,I,fun i x J=>?_⟩;obtain⟨b,off,c,e,R,j,he⟩:=h i x J;exact⟨b,off,c,e,⟨R,jy w _ j⟩,j,he⟩
theorem iw {n:Int}(h:aV n):(Lit.int .i64 n).wf=true:=by unfold aV at h;simp[Lit.wf,IntKind.min,IntKind.max,IntKind.signed,IntKind.bits];omega
theorem Ko {p:aH}{q:dN}{f:cD}{x:cX}{d r s:Int}{S:Nat→Prop}{w:World}{o a2:Option Addr}{C I J c2:Nat}(Y:(if x.dst=gR then-1 else aO (bh f) x.dst)=d)(hr:dv p q f x=r)(hs:dy f x=s)(h1:aK S w (.slice o C I) (x.args.map (aO (bh f))))(h2:aK S w (.slice a2 J c2) (x.Nh.map (aO (cn f))))(j:uB x)(R:aV (dv p q f x)∧aV (dy f x))(hD:aV d):
 KD S w [.int .u8 x.kind,.int .u8 x.op,.int .i64 d,.int .i64 r,.int .i64 s,.slice o C I,.slice a2 J c2,.int .i64 x.num,.int .i64 x.Nj] (pg p q f x):=by
 subst Y hr hs;exact⟨_,_,rfl,h1,h2,j.kind,j.op,hD,R.1,R.2,j.num,j.Nj⟩
def KC (p:aH)(q:dN)(f:cD)(x:cX)(w:World)(e:Ending)(w':World):Prop:=
 ql (mO p q f x) (fun e w'=>aa All w w'∧∃(d r s:Int) (j:Option Addr) (o C:Nat) (a2:Option Addr) (I c2:Nat),e=.returned (.agg #[.int .u8 x.kind,.int .u8 x.op,.int .i64 d,.int .i64 r,.int .i64 s,.slice j o C,.slice a2 I c2,.int .i64 x.num,.int .i64 x.Nj])∧
  KD (fun b=>w.heap.size≤b∧b<w'.heap.size) w' [.int .u8 x.kind,.int .u8 x.op,.int .i64 d,.int .i64 r,.int .i64 s,.slice j o C,.slice a2 I c2,.int .i64 x.num,.int .i64 x.Nj] (pg p q f x)) w e w'
theorem Ls (S:Nat→Prop)(br:Nat)(p:aH)(q:dN)(f:cD)(x:cX)(b1 b2:Nat)(xa xf:Value)(w:World)(hr:rV S w br p q)(l1:cK w b1 (cn f))(l2:cK w b2 (bh f))(l3:gB S w xa x.args)(l4:gB S w xf x.Nh)(hx:uB x)
 (hI:aV (dv p q f x)∧aV (dy f x)) (hd:x.dst=gR∨x.dst∈bh f) (hz:x.args.length≤1048576∧x.Nh.length≤1048576) (hv:(bh f).length≤1000000000) (hb:(cn f).length≤1000000000):
 Calls prog 99 #[.pointer (some ⟨br,0,none⟩),.agg #[.map (some b1),.map (some b2)],.agg #[.int .u8 x.kind,.int .u8 x.op,.string x.dst,.string x.ref,.string x.Ni,xa,xf,.int .i64 x.num,.int .i64 x.Nj]] w (KC p q f x w):=by
 obtain⟨i3,I3⟩:=iH yw;obtain⟨z1,z2⟩:=hz;have l5:=ax.la l3;have l6:=ax.la l4;obtain⟨ua,uc,rfl,u1,u2,u3,_⟩:=l3;obtain⟨va,vc,rfl,v1,v2,v3,_⟩:=l4;unfold maxLen at u2 v2;obtain⟨W2,e2⟩:=eQ ((((w.alloc (.cells #[.map (some b1),.map (some b2)] 131)).alloc (.cells #[.int .u8 x.kind,.int .u8 x.op,.string x.dst,.string x.ref,.string x.Ni,.slice ua x.args.length uc,.slice va x.Nh.length vc,.int .i64 x.num,.int .i64 x.Nj] 188)).alloc (.cells #[.int .u8 0,.int .u8 0,.int .i64 0,.int .i64 0,.int .i64 0,.slice none 0 0,.slice none 0 0,.int .i64 0,.int .i64 0] 56)).alloc (.cells #[.int .u8 x.kind,.int .u8 x.op,.int .i64 (-1),.int .i64 0,.int .i64 0,.slice none 0 0,.slice none 0 0,.int .i64 x.num,.int .i64 x.Nj] 56));have j7:=aD4 e2;have j0:=aC4 e2;have bS:=aA3 e2;have bX:=aB2 e2 vI;have bO:=aB1 e2 aE2;have bY:=zo e2 aE3;have X0:∀i,W2.cell? ⟨w.heap.size+1,i,none⟩=(#[.int .u8 x.kind,.int .u8 x.op,.string x.dst,.string x.ref,.string x.Ni,.slice ua x.args.length uc,.slice va x.Nh.length vc,.int .i64 x.num,.int .i64 x.Nj]:Array Value)[i]?:=fun i=>bX.cell i;have g0:=bX.cl 0;have g1:=bX.cl 1;have g2:=bX.cl 2;have g3:=bX.cl 3;have g4:=bX.cl 4;have g5:=bX.cl 5;have g6:=bX.cl 6;have g7:=bX.cl 7;have g8:=bX.cl 8;have s0:=bS.cl 0;have s1:=bS.cl 1;have HW:=J7 e2 j7 j0 bS bX bO bY;have HM:=J8 hr l1 l2 l5 l6 hx hI hd;clear e2 j7 j0 bS bX bO bY X0 hr l1 l2 l5 l6 hx hI hd;go_enter func99,ntmps99;go_upto_region 2 with fail;rw[←HW.1];go_wp2_with fail;refine(GO S br p q f x b1 b2 _ _ W2 (HM.1.keep HW.2.2.1) (HM.2.1.keep HW.2.2.1 trivial) (HM.2.2.2.1 _ HW.2.2.1) (HM.2.2.2.2.1 _ HW.2.2.1) HM.2.2.2.2.2.1).mono ?_;rintro e w3 (⟨h6,rfl,h4⟩|⟨h6,⟨an,nn,hn,ha,hi,rfl⟩,h4⟩)
 case inr=>have HS:=J5 h6 hn ha hi h4;clear h6 hn ha hi h4;go_wp2_with fail;exact⟨rfl,.inr ⟨fun h=>HS.1 ⟨h.1,h.2.1⟩,⟨an,nn,HS.2.1,HS.2.2.1,HS.2.2.2.1,rfl⟩,HW.2.2.1.trans HS.2.2.2.2⟩⟩
 clear g0 g1 g2 g3 g4 g5 g6 g7 g8 s0 s1;obtain⟨r,hr⟩:=eR (dv p q f x);obtain⟨s,hs⟩:=eR (dy f x);rw[hr,hs];have h5:=HW.2.2.2.2.2.2.kept h4 trivial;have y3:=h5.cl 3;have y4:=h5.cl 4;have f3:=h5.free 3;have f4:=h5.free 4;obtain⟨W4,j1⟩:=eQ ((w3.setCell ⟨w.heap.size+1+1+1,3,none⟩ (.int .i64 r)).setCell ⟨w.heap.size+1+1+1,4,none⟩ (.int .i64 s));have j2:aa (fun b=>b≠w.heap.size+1+1+1) W2 W4:=by rw[j1];exact(h4.all.setCell (.inl fun h=>h rfl) _).setCell (.inl fun h=>h rfl) _
 have b4:al W4 (w.heap.size+1+1+1) 56 #[.int .u8 x.kind,.int .u8 x.op,.int .i64 (-1),.int .i64 r,.int .i64 s,.slice none 0 0,.slice none 0 0,.int .i64 x.num,.int .i64 x.Nj]:=by rw[j1];simpa using(h5.set 3 (.int .i64 r)).set 4 (.int .i64 s)
 have q1:=j2.size;have j7:=eE HW.2.1.symm;have l7:=HW.2.2.2.2.1.kept j2 (by show _≠_;omega);have x5:=l7.cl 5;have H4:=J6 j1 j2 b4 h6 hr hs;clear j1 j2 b4 h6 hr hs l7 h5 h4;go_upto_region 3 with fail;rw[←H4.1];clear y3 y4 f3 f4;go_wp2_with fail;have l8:=oH (show aa All w W4 from am (HW.2.2.1.all.trans (H4.2.1.mono fun b hb=>by show b≠_;omega)));have h0:=oH H4.2.1;go_loopg [33] x.args.length (fun g t wr=>∃(j:Nat) (v5:Value),j≤x.args.length∧g=x.args.length-j∧t=.int .i64 j∧aa (fun b=>b≠w.heap.size+1+1+1) W4 wr∧al wr (w.heap.size+1+1+1) 56 #[.int .u8 x.kind,.int .u8 x.op,.int .i64 (-1),.int .i64 r,.int .i64 s,v5,.slice none 0 0,.int .i64 x.num,.int .i64 x.Nj]∧wr.ownsRow W4.heap.size 3 1 v5 j (aI ((x.args.map (aO (bh f))).take j))∧∀(i:Nat) a,i<j→x.args[i]? =some a→a∈bh f);·exact⟨0,_,by omega,by omega,rfl,kR,H4.2.2.1,⟨rfl,.inl ⟨rfl,rfl⟩⟩,fun i a h=>by omega⟩
 obtain⟨j,v5,hj,rfl,rfl,R,a1,J,b0⟩:=hrel;have l9:=R.size;have b7:aa All w wr:=am ((l8.out).all.trans (R.mono fun b hb=>by show b≠_;omega));obtain⟨E1,d8,rfl⟩:=aU J;by_cases j8:j<x.args.length;·(
 obtain⟨a,ha⟩:=eG j8;obtain⟨bb,o,cc,rfl,o9,p0,rfl⟩:=bn (HM.2.2.2.1 wr b7) ha;have j9:a.size≤140737488355328:=HM.2.2.2.2.2.1.args a (mG ha);have hq:∀wn,aa All wr wn→wn.cell? ⟨w.heap.size+1+1+1,5,none⟩=some (.slice E1 j d8)∧wn.cell? ⟨w.heap.size,1,none⟩=some (.map (some b2))∧wn.cell? ⟨w.heap.size+1,8,none⟩=some (.int .i64 x.Nj):=fun wn hk=>
  ⟨(a1.kept hk trivial).cell 5,(((HW.2.2.2.1.kept h0.out (by show _≠_;omega)).kept R (by show _≠_;omega)).kept hk trivial).cell 1,(((HW.2.2.2.2.1.kept h0.out (by show _≠_;omega)).kept R (by show _≠_;omega)).kept hk trivial).cell 8⟩
 have HL:=oH (fun wn (hk:aa All wr wn)=>lQ b2 (bh f) a x.Nj wn (HM.2.2.1.keep (b7.trans hk) trivial) j9 HM.2.2.2.2.2.1.Nj);have HR:=J7 R a1 J b0 hq ha b7;have h7:=lR (bh f) a;obtain⟨n,hn⟩:=eR (aO (bh f) a);rw[hn] at HL h7;have e6:=oH hn;clear R a1 J b0 hq ha b7 hn;go_wp2_with fail;refine R3 9 wr [45] (fun _ v wn=>∃g,v=.slice (some ⟨g,0,none⟩) 1 1∧wr.heap.size≤g∧al wn g 3 #[.int .i64 n]) (fun i=>if i=7 then some (·=.int .i64 n) else if i=8 then some (fun v=>∃g,v=.slice (some ⟨g,0,none⟩) 1 1) else none) (fun i=>i==7&&!decide (0≤n)) (XS wr (mO p q f x)) (fun _ _ _ h hd=>⟨hd,h.end_ HR.2.2.2.2.2.2⟩) ?_;repeat first
 |refine O0 ?_
 |refine O4 HR.2.2.2.2.1 ?_
 refine O9 (decide (0≤n)) HR.2.2.2.2.1 (fun wn hk=>?_) ?_
 ·refine ql.reg (HL.out wn hk) (fun h=>?_) hk (fun e w' h=>⟨h.1,h.2▸kR⟩) ?_
  ·rw[←e6.out];exact cm.2 (h.2.2.1 a (mG HR.2.2.2.2.2.1))
  rintro w' k t _ v ⟨g,e,h1,h2⟩;exact⟨g,e,h1,h2.kept k trivial⟩
 refine OB fun g wt hd b3 p1 h8=>?_;have HF:=oH (show 0≤n by simpa using hd);have a6:=be HR.2.2.1 b3 (fun _ _=>trivial);have b8:=HR.2.1.kept b3 trivial;have d9:=h8.cl 0;have m9:=b3.size;have HT:=J3 b3 b8 d9;clear b3 b8 h8 hd;go_wp2_with (
  at_builtin;go_loud (
  refine aR _ rfl (.tmp 38) (.tmp 45) 54 rfl W4.heap.size 3 i3 _ 1 8 underlying54 I3.1 I3.2.1 I3.2.2.1 I3.2.2.2 rfl (by decide) _ _ _ rfl a6 (some ⟨g,0,none⟩) 1 1 [.int .i64 n] rfl rfl ?_ ?_ (by unfold maxLen;omega) (by omega) (by omega) ?_;·(
 intro _;exact⟨_,_,rfl,fun j u hu=>by
  rcases j with _|j;·rw[cN,HT.2.2];exact hu
  simp at hu⟩)
  ·intro u hu
   rw[cx.1 hu];rfl
  intro v2 w4 a7 e8 e3;obtain⟨C2,h9,rfl⟩:=aU a7;have b5:=HT.2.1.grown e8 (fun e=>by have:=(aD a6 e.symm).1;omega);have y5:=b5.cl 5;have f5:=b5.free 5;have H2:=J4 b5 a7 e8 e3;clear b5 a7 e8 e3))
 go_roundg (x.args.length-(j+1));·(
 refine⟨j+1,.slice C2 (j+1) h9,by omega,rfl,by go_num,(((HR.1.trans HT.1.all).grown H2.2.2.1 fun b hb=>.inr (aD a6 hb).1).setCell (.inl fun h=>h rfl) _),?_,?_,?_⟩
 ·have:=H2.1.set 5 (.slice C2 (j+1) h9)
  simpa using this
 ·have e:aI ((x.args.map (aO (bh f))).take (j+1))=aI ((x.args.map (aO (bh f))).take j)++[.int .i64 n]:=by rw[cU,cL,HR.2.2.2.2.2.1,←e6.out];simp[aI]
  rw[e];exact be H2.2.1 ((aa.refl (fun b=>b≠w.heap.size+1+1+1) _).setCell (.inl fun h=>h rfl) _) fun b hb=>by have:=(aD H2.2.1 hb).1;show b≠_;omega
 intro i a' hi b9;by_cases e:i=j;·subst e;rw[HR.2.2.2.2.2.1] at b9;injection b9 with b9;subst b9;exact cm.1 (by rw[e6.out];exact HF.out)
 exact HR.2.2.2.1 i a' (by omega) b9)
 omega)
 obtain rfl:j=x.args.length:=by omega
 rw[oF (by rw[ce];omega)] at J;have c9:∀a∈x.args,a∈bh f:=fun a ha=>by obtain⟨i,hi⟩:=List.getElem?_of_mem ha;exact b0 i a (lS.1 hi).1 hi
 have hint:=Ca (jr (S:=fun b=>W4.heap.size≤b) J (by rw[ce]) (by rw[ce];omega) (fun g hg=>(aD J hg).1) fun y hy=>by obtain⟨a,_,rfl⟩:=dr.1 hy;have:=lR (bh f) a;exact iw (by unfold aV;omega));have n0:=(HW.2.2.2.2.1.kept h0.out (by show _≠_;omega)).kept R (by show _≠_;omega);have x6:=n0.cl 6;obtain⟨wo,rfl⟩:=eQ wr;have HO:=J4 R a1 hint c9;have n1:=oH b7;have h3:=oH (h0.out.trans R);clear R a1 J b0 c9 hint b7 n0;go_wp2_with fail;go_loopg [52] x.Nh.length (fun g t wr=>∃(j:Nat) (v5:Value),j≤x.Nh.length∧g=x.Nh.length-j∧t=.int .i64 j∧aa (fun b=>b≠w.heap.size+1+1+1) wo wr∧al wr (w.heap.size+1+1+1) 56 #[.int .u8 x.kind,.int .u8 x.op,.int .i64 (-1),.int .i64 r,.int .i64 s,.slice E1 x.args.length d8,v5,.int .i64 x.num,.int .i64 x.Nj]∧wr.ownsRow wo.heap.size 3 1 v5 j (aI ((x.Nh.map (aO (cn f))).take j))∧∀(i:Nat) a,i<j→x.Nh[i]? =some a→a∈cn f);·exact⟨0,_,by omega,by omega,rfl,kR,HO.2.1,⟨rfl,.inl ⟨rfl,rfl⟩⟩,fun i a h=>by omega⟩
 obtain⟨j,v5,hj,rfl,rfl,R,a1,J,b0⟩:=hrel;have l9:=R.size;have b7:aa All w wr:=am ((n1.out).all.trans (R.mono fun b hb=>by show b≠_;omega));obtain⟨E2,e0,rfl⟩:=aU J;by_cases j8:j<x.Nh.length;·(
 obtain⟨a,ha⟩:=eG j8;obtain⟨bb,o,cc,rfl,o9,p0,rfl⟩:=bn (HM.2.2.2.2.1 wr b7) ha;have j9:a.size≤140737488355328:=HM.2.2.2.2.2.1.Nh a (mG ha);have hq:∀wn,aa All wr wn→wn.cell? ⟨w.heap.size+1+1+1,6,none⟩=some (.slice E2 j e0)∧wn.cell? ⟨w.heap.size,0,none⟩=some (.map (some b1))∧wn.cell? ⟨w.heap.size+1,8,none⟩=some (.int .i64 x.Nj):=fun wn hk=>
  ⟨(a1.kept hk trivial).cell 6,(((HW.2.2.2.1.kept h3.out (by show _≠_;omega)).kept R (by show _≠_;omega)).kept hk trivial).cell 0,(((HW.2.2.2.2.1.kept h3.out (by show _≠_;omega)).kept R (by show _≠_;omega)).kept hk trivial).cell 8⟩
 have HL:=oH (fun wn (hk:aa All wr wn)=>lQ b1 (cn f) a x.Nj wn (HM.2.1.keep (b7.trans hk) trivial) j9 HM.2.2.2.2.2.1.Nj);have HR:=J7 R a1 J b0 hq ha b7;have h7:=lR (cn f) a;obtain⟨n,hn⟩:=eR (aO (cn f) a);rw[hn] at HL h7;have e6:=oH hn;clear R a1 J b0 hq ha b7 hn;go_wp2_with fail;refine R3 9 wr [64] (fun _ v wn=>∃g,v=.slice (some ⟨g,0,none⟩) 1 1∧wr.heap.size≤g∧al wn g 3 #[.int .i64 n]) (fun i=>if i=7 then some (·=.int .i64 n) else if i=8 then some (fun v=>∃g,v=.slice (some ⟨g,0,none⟩) 1 1) else none) (fun i=>i==7&&!decide (0≤n)) (XS wr (mO p q f x)) (fun _ _ _ h hd=>⟨hd,h.end_ HR.2.2.2.2.2.2⟩) ?_;repeat first
 |refine O0 ?_
 |refine O4 HR.2.2.2.2.1 ?_
 refine O9 (decide (0≤n)) HR.2.2.2.2.1 (fun wn hk=>?_) ?_
 ·refine ql.reg (HL.out wn hk) (fun h=>?_) hk (fun e w' h=>⟨h.1,h.2▸kR⟩) ?_
  ·rw[←e6.out];exact cm.2 (h.2.2.2.1 a (mG HR.2.2.2.2.2.1))
  rintro w' k t _ v ⟨g,e,h1,h2⟩;exact⟨g,e,h1,h2.kept k trivial⟩
 refine OB fun g wt hd b3 p1 h8=>?_;have HF:=oH (show 0≤n by simpa using hd);have a6:=be HR.2.2.1 b3 (fun _ _=>trivial);have b8:=HR.2.1.kept b3 trivial;have d9:=h8.cl 0;have m9:=b3.size;have HT:=J3 b3 b8 d9;clear b3 b8 h8 hd;go_wp2_with (
  at_builtin;go_loud (
  refine aR _ rfl (.tmp 57) (.tmp 64) 54 rfl wo.heap.size 3 i3 _ 1 8 underlying54 I3.1 I3.2.1 I3.2.2.1 I3.2.2.2 rfl (by decide) _ _ _ rfl a6 (some ⟨g,0,none⟩) 1 1 [.int .i64 n] rfl rfl ?_ ?_ (by unfold maxLen;omega) (by omega) (by omega) ?_;·(
 intro _;exact⟨_,_,rfl,fun j u hu=>by
  rcases j with _|j;·rw[cN,HT.2.2];exact hu
  simp at hu⟩)
  ·intro u hu
   rw[cx.1 hu];rfl
  intro v2 w4 a7 e8 e3;obtain⟨C2,h9,rfl⟩:=aU a7;have b5:=HT.2.1.grown e8 (fun e=>by have:=(aD a6 e.symm).1;omega);have y5:=b5.cl 6;have f5:=b5.free 6;have H2:=J4 b5 a7 e8 e3;clear b5 a7 e8 e3))
 go_roundg (x.Nh.length-(j+1));·(
 refine⟨j+1,.slice C2 (j+1) h9,by omega,rfl,by go_num,(((HR.1.trans HT.1.all).grown H2.2.2.1 fun b hb=>.inr (aD a6 hb).1).setCell (.inl fun h=>h rfl) _),?_,?_,?_⟩
 ·have:=H2.1.set 6 (.slice C2 (j+1) h9)
  simpa using this
 ·have e:aI ((x.Nh.map (aO (cn f))).take (j+1))=aI ((x.Nh.map (aO (cn f))).take j)++[.int .i64 n]:=by rw[cU,cL,HR.2.2.2.2.2.1,←e6.out];simp[aI]
  rw[e];exact be H2.2.1 ((aa.refl (fun b=>b≠w.heap.size+1+1+1) _).setCell (.inl fun h=>h rfl) _) fun b hb=>by have:=(aD H2.2.1 hb).1;show b≠_;omega
 intro i a' hi b9;by_cases e:i=j;·subst e;rw[HR.2.2.2.2.2.1] at b9;injection b9 with b9;subst b9;exact cm.1 (by rw[e6.out];exact HF.out)
 exact HR.2.2.2.1 i a' (by omega) b9)
 omega)
 obtain rfl:j=x.Nh.length:=by omega
 rw[oF (by rw[ce];omega)] at J;have c9:∀a∈x.Nh,a∈cn f:=fun a ha=>by obtain⟨i,hi⟩:=List.getElem?_of_mem ha;exact b0 i a (lS.1 hi).1 hi
 have hint:=Ca (jr (S:=fun b=>wo.heap.size≤b) J (by rw[ce]) (by rw[ce];omega) (fun g hg=>(aD J hg).1) fun y hy=>by obtain⟨a,_,rfl⟩:=dr.1 hy;have:=lR (cn f) a;exact iw (by unfold aV;omega));have HQ:=J5 R a1 hint c9 b7;have k9:=HW.2.2.2.2.1.kept (h3.out.trans R) (by show _≠_;omega);have x0:=k9.cl 0;have HX:=oH k9;have n2:=oH (h3.out.trans R);clear R a1 J b0 c9 hint b7 k9;clear x6;go_upto_if 70 with fail;go_cut [] (fun wx=>aa All wr wx∧(x.kind=7→∀g,q.Nf[r.toNat]? =some g→x.args.length=g.params.length))
 case first=>(
 by_cases e7:x.kind=7;·(
 have t7:=yK x.kind 7 (by omega);have l0:r=aO (fh q) x.ref:=by rw[←H4.2.2.2.2.1];unfold dv;simp[e7]
 have p2:0≤r:=by rw[←H4.2.2.2.2.1];exact H4.2.2.2.1.1
 have p3:r.toNat<q.Nf.length:=by obtain⟨k,hk,j0⟩:=yS (cm.1 (by rw[←l0];exact p2));have:=(lS.1 j0).1;unfold fh at this;rw[ce] at this;rw[l0,hk];simpa using this
 have q2:r<(q.Nf.length:Int):=by omega
 obtain⟨g,hg⟩:=eG p3;obtain⟨q3,vu,vi,vo,pa,pf,ba,q4,R1,R2,⟨q5,q6,j3,p4,R3⟩,R4,R5⟩:=HM.1.keep HQ.2.2.2.2;iterate 2 injection j3 with j3
 simp only[List.cons.injEq,and_true] at j3;obtain⟨rfl,rfl⟩:=j3;obtain⟨fA,fc,rfl,q7,q8,q9,_⟩:=id R3;obtain⟨gb,go,r0,rfl,r3,q0,n3,gp,gv,rfl,p5,p6,_⟩:=aZ R3 hg;obtain⟨p7,p8,rfl,_⟩:=p5;have j5:=n3 1 _ rfl;have n4:∀wn,aa All wr wn→wn.cell? ⟨br,6,none⟩=some (.slice (some ⟨gb,go,none⟩) q.Nf.length fc)∧wn.cell? ⟨gb,go+r.toNat*4+1,none⟩=some (.slice p7 g.params.length p8)∧wn.cell? ⟨w.heap.size+1+1+1,3,none⟩=some (.int .i64 r)∧wn.cell? ⟨w.heap.size+1,5,none⟩=some (.slice ua x.args.length uc)∧wn.cell? ⟨w.heap.size+1,8,none⟩=some (.int .i64 x.Nj):=fun wn hk=>
  ⟨hk.cell trivial (R1.cell 6),hk.cell trivial j5,(HQ.2.1.kept hk trivial).cell 3,(HX.out.kept hk trivial).cell 5,(HX.out.kept hk trivial).cell 8⟩
 have HY:=J3 n4 hg e7;have p9:=oH HM.2.2.2.2.2.1.Nj;clear n4 R1 R2 p4 R3 R4 R5 n3 j5 p6 hg l0 e7;go_upto_region 14 with fail;obtain⟨b,tn⟩:=eR (((x.args.length:Int)==(g.params.length:Int)));have HB:=oH (show b=true↔x.args.length=g.params.length by rw[←tn,cy];omega);refine R2 18 wr (fun i=>if i=17 then some (·=.tuple #[]) else none) (fun i=>i==17&&!b) (XS wr (mO p q f x)) (fun _ _ _ h hd=>⟨hd,h.end_ HQ.2.2.2.2⟩) ?_;repeat first
 |refine O0 ?_
 |refine O4 HY.1 ?_
 refine O9 b (C:=fun _=>True) (fun _ _=>trivial) (fun wn hk=>ZR (n:=13) p9.out (by decide) (by unfold aV;omega) (fun h=>HB.2 (h.2.2.2.2 HY.2.2 g (by rw[H4.2.2.2.2.1];exact HY.2.1))) hk) ?_;refine ZS fun hd wt b3 _=>?_;have HT:=J2 b3 (HB.1 (by simpa using hd));clear b3 hd;simp only[dK];go_wp2_with fail;go_meet;exact⟨HT.1,fun _ g' n5=>by rw[HY.2.1] at n5;cases n5;exact HT.2⟩)
 have t7:=nK x.kind 7 (by omega);have HN:=oH e7;clear e7;go_wp2_with fail;go_meet;exact⟨kR,fun h=>absurd h HN.out⟩)
 obtain⟨a8,e1⟩:=hcut;have b6:=HQ.2.1.kept a8 trivial;have n7:=HX.out.kept a8 trivial;have j4:=(HW.2.2.2.2.2.1.kept n2.out (by show _≠_;omega)).kept a8 trivial;have n8:=(HW.2.2.2.1.kept n2.out (by show _≠_;omega)).kept a8 trivial;have x2:=n7.cl 2;have s1:=n8.cl 1;have fy:=b6.free 2;have yy:=b6.cl 2;have nr:=jY x.dst;clear n7 n8;by_cases e9:x.dst=gR
 ·rw[bL e9] at nr;have HD:=oH e9;clear e9;have I:=j4;have y0:=b6.cell 0;have y1:=b6.cell 1;have y2:=b6.cell 2;have y3:=b6.cell 3;have y4:=b6.cell 4;have y5:=b6.cell 5;have y6:=b6.cell 6;have y7:=b6.cell 7;have y8:=b6.cell 8;have o0:=I.cell 0;have o1:=I.cell 1;have o2:=I.cell 2;have o3:=I.cell 3;have o4:=I.cell 4;have o5:=I.cell 5;have o6:=I.cell 6;have o7:=I.cell 7;have o8:=I.cell 8;have k0:=I.free 0;have k1:=I.free 1;have k2:=I.free 2;have k3:=I.free 3;have k4:=I.free 4;have k5:=I.free 5;have k6:=I.free 6;have k7:=I.free 7;have k8:=I.free 8;have Y:=(((((((((I.set 0 (.int .u8 x.kind)).set 1 (.int .u8 x.op)).set 2 (.int .i64 (-1))).set 3 (.int .i64 r)).set 4 (.int .i64 s)).set 5 (.slice E1 x.args.length d8)).set 6 (.slice E2 x.Nh.length e0)).set 7 (.int .i64 x.num)).set 8 (.int .i64 x.Nj));have c0:=Y.cell 0;have c1:=Y.cell 1;have c2:=Y.cell 2;have c3:=Y.cell 3;have c4:=Y.cell 4;have c5:=Y.cell 5;have c6:=Y.cell 6;have c7:=Y.cell 7;have c8:=Y.cell 8;have d7:=((((((((((aa.refl (fun b=>b≠w.heap.size+1+1∧b≠w.heap.size+1+1+1) wc).setCell (p:=⟨w.heap.size+1+1,0,none⟩) (.inl fun h=>h.1 rfl) (.int .u8 x.kind)).setCell (p:=⟨w.heap.size+1+1,1,none⟩) (.inl fun h=>h.1 rfl) (.int .u8 x.op)).setCell (p:=⟨w.heap.size+1+1,2,none⟩) (.inl fun h=>h.1 rfl) (.int .i64 (-1))).setCell (p:=⟨w.heap.size+1+1,3,none⟩) (.inl fun h=>h.1 rfl) (.int .i64 r)).setCell (p:=⟨w.heap.size+1+1,4,none⟩) (.inl fun h=>h.1 rfl) (.int .i64 s)).setCell (p:=⟨w.heap.size+1+1,5,none⟩) (.inl fun h=>h.1 rfl) (.slice E1 x.args.length d8)).setCell (p:=⟨w.heap.size+1+1,6,none⟩) (.inl fun h=>h.1 rfl) (.slice E2 x.Nh.length e0)).setCell (p:=⟨w.heap.size+1+1,7,none⟩) (.inl fun h=>h.1 rfl) (.int .i64 x.num)).setCell (p:=⟨w.heap.size+1+1,8,none⟩) (.inl fun h=>h.1 rfl) (.int .i64 x.Nj));simp only[ga,gc] at y0 o0 c0 y1 o1 c1 y2 o2 c2 y3 o3 c3 y4 o4 c4 y5 o5 c5 y6 o6 c6 y7 o7 c7 y8 o8 c8;have h1:=ah.keep (S:=fun b=>w.heap.size≤b∧b<wo.heap.size∧b≠w.heap.size+1+1∧b≠w.heap.size+1+1+1) ((HQ.1.mono fun b hb=>hb.2.2.2).trans (a8.all.trans (d7.mono fun b hb=>⟨hb.2.2.1,hb.2.2.2⟩))) (ah.wide (fun b (hb:W4.heap.size≤b∧b<wo.heap.size)=>by omega) HO.2.2.1);have h2:=ah.keep (S:=fun b=>w.heap.size≤b∧b<wr.heap.size∧b≠w.heap.size+1+1∧b≠w.heap.size+1+1+1) (a8.all.trans (d7.mono fun b hb=>⟨hb.2.2.1,hb.2.2.2⟩)) (ah.wide (fun b (hb:wo.heap.size≤b∧b<wr.heap.size)=>by omega) HQ.2.2.1);have e4:=d7.size;have e5:=a8.size;have HZ:=J5 h1 h2 (am ((HQ.2.2.2.2.trans a8).all.trans (d7.mono fun b hb=>by constructor<;>(show b≠_)<;>omega))) e4 e5;have HA:=oH e1;clear h1 h2 d7 Y I j4 b6 a8 e4 e5 e1;skip;go_wp2_with fail;refine bodyPost_ret (v:=.agg #[.int .u8 x.kind,.int .u8 x.op,.int .i64 (-1),.int .i64 r,.int .i64 s,.slice E1 x.args.length d8,.slice E2 x.Nh.length e0,.int .i64 x.num,.int .i64 x.Nj]) (by simp[results,Tryz.f99,go_sem,c0,c1,c2,c3,c4,c5,c6,c7,c8]) rfl (.inl ⟨⟨H4.2.2.2.1.1,H4.2.2.2.1.2,HO.2.2.2,HQ.2.2.2.1,fun e7 g hg=>HA.out e7 g (by rw[←H4.2.2.2.2.1];exact hg)⟩,HZ.2.2.1,(-1),r,s,E1,_,d8,E2,_,e0,rfl,Ko ?_ H4.2.2.2.2.1 H4.2.2.2.2.2 ?_ ?_ HM.2.2.2.2.2.1 HM.2.2.2.2.2.2.1 ?_⟩);·rw[ap HD.out]
  ·exact ah.wide (fun b hb=>by have:=HZ.2.2.2.1;have:=HZ.2.2.2.2;omega) HZ.1
  ·exact ah.wide (fun b hb=>by have:=HZ.2.2.2.1;have:=HZ.2.2.2.2;omega) HZ.2.1
  unfold aV;omega
 rw[cI e9] at nr;have n9:=(HM.2.2.1.keep (HQ.2.2.2.2.trans a8) trivial).get (s:=x.dst) (by have:=HM.2.2.2.2.2.1.dst;unfold maxLen;omega);have j6:0≤aO (bh f) x.dst:=cm.2 (HM.2.2.2.2.2.2.2.resolve_left e9);have h7:=lR (bh f) x.dst;rw[Int.max_eq_left j6] at n9;obtain⟨n,hn⟩:=eR (aO (bh f) x.dst);rw[hn] at n9 h7;have HD:=J2 e9 hn;clear e9 hn j6;have I:=j4.far (p:=⟨w.heap.size+1+1+1,2,none⟩) (show w.heap.size+1+1≠w.heap.size+1+1+1 by omega) (.int .i64 n);have yz:=b6.set 2 (.int .i64 n);have y0:=yz.cell 0;have y1:=yz.cell 1;have y2:=yz.cell 2;have y3:=yz.cell 3;have y4:=yz.cell 4;have y5:=yz.cell 5;have y6:=yz.cell 6;have y7:=yz.cell 7;have y8:=yz.cell 8;have o0:=I.cell 0;have o1:=I.cell 1;have o2:=I.cell 2;have o3:=I.cell 3;have o4:=I.cell 4;have o5:=I.cell 5;have o6:=I.cell 6;have o7:=I.cell 7;have o8:=I.cell 8;have k0:=I.free 0;have k1:=I.free 1;have k2:=I.free 2;have k3:=I.free 3;have k4:=I.free 4;have k5:=I.free 5;have k6:=I.free 6;have k7:=I.free 7;have k8:=I.free 8;have Y:=(((((((((I.set 0 (.int .u8 x.kind)).set 1 (.int .u8 x.op)).set 2 (.int .i64 n)).set 3 (.int .i64 r)).set 4 (.int .i64 s)).set 5 (.slice E1 x.args.length d8)).set 6 (.slice E2 x.Nh.length e0)).set 7 (.int .i64 x.num)).set 8 (.int .i64 x.Nj));have c0:=Y.cell 0;have c1:=Y.cell 1;have c2:=Y.cell 2;have c3:=Y.cell 3;have c4:=Y.cell 4;have c5:=Y.cell 5;have c6:=Y.cell 6;have c7:=Y.cell 7;have c8:=Y.cell 8;have d7:=(((((((((((aa.refl (fun b=>b≠w.heap.size+1+1∧b≠w.heap.size+1+1+1) wc).setCell (p:=⟨w.heap.size+1+1+1,2,none⟩) (.inl fun h=>h.2 rfl) (.int .i64 n)).setCell (p:=⟨w.heap.size+1+1,0,none⟩) (.inl fun h=>h.1 rfl) (.int .u8 x.kind)).setCell (p:=⟨w.heap.size+1+1,1,none⟩) (.inl fun h=>h.1 rfl) (.int .u8 x.op)).setCell (p:=⟨w.heap.size+1+1,2,none⟩) (.inl fun h=>h.1 rfl) (.int .i64 n)).setCell (p:=⟨w.heap.size+1+1,3,none⟩) (.inl fun h=>h.1 rfl) (.int .i64 r)).setCell (p:=⟨w.heap.size+1+1,4,none⟩) (.inl fun h=>h.1 rfl) (.int .i64 s)).setCell (p:=⟨w.heap.size+1+1,5,none⟩) (.inl fun h=>h.1 rfl) (.slice E1 x.args.length d8)).setCell (p:=⟨w.heap.size+1+1,6,none⟩) (.inl fun h=>h.1 rfl) (.slice E2 x.Nh.length e0)).setCell (p:=⟨w.heap.size+1+1,7,none⟩) (.inl fun h=>h.1 rfl) (.int .i64 x.num)).setCell (p:=⟨w.heap.size+1+1,8,none⟩) (.inl fun h=>h.1 rfl) (.int .i64 x.Nj));simp only[ga,gc] at y0 o0 c0 y1 o1 c1 y2 o2 c2 y3 o3 c3 y4 o4 c4 y5 o5 c5 y6 o6 c6 y7 o7 c7 y8 o8 c8;have h1:=ah.keep (S:=fun b=>w.heap.size≤b∧b<wo.heap.size∧b≠w.heap.size+1+1∧b≠w.heap.size+1+1+1) ((HQ.1.mono fun b hb=>hb.2.2.2).trans (a8.all.trans (d7.mono fun b hb=>⟨hb.2.2.1,hb.2.2.2⟩))) (ah.wide (fun b (hb:W4.heap.size≤b∧b<wo.heap.size)=>by omega) HO.2.2.1);have h2:=ah.keep (S:=fun b=>w.heap.size≤b∧b<wr.heap.size∧b≠w.heap.size+1+1∧b≠w.heap.size+1+1+1) (a8.all.trans (d7.mono fun b hb=>⟨hb.2.2.1,hb.2.2.2⟩)) (ah.wide (fun b (hb:wo.heap.size≤b∧b<wr.heap.size)=>by omega) HQ.2.2.1);have e4:=d7.size;have e5:=a8.size;have HZ:=J5 h1 h2 (am ((HQ.2.2.2.2.trans a8).all.trans (d7.mono fun b hb=>by constructor<;>(show b≠_)<;>omega))) e4 e5;have HA:=oH e1;clear h1 h2 d7 Y I j4 b6 a8 e4 e5 e1;clear yz;go_wp2_with fail;refine bodyPost_ret (v:=.agg #[.int .u8 x.kind,.int .u8 x.op,.int .i64 n,.int .i64 r,.int .i64 s,.slice E1 x.args.length d8,.slice E2 x.Nh.length e0,.int .i64 x.num,.int .i64 x.Nj]) (by simp[results,Tryz.f99,go_sem,c0,c1,c2,c3,c4,c5,c6,c7,c8]) rfl (.inl ⟨⟨H4.2.2.2.1.1,H4.2.2.2.1.2,HO.2.2.2,HQ.2.2.2.1,fun e7 g hg=>HA.out e7 g (by rw[←H4.2.2.2.2.1];exact hg)⟩,HZ.2.2.1,n,r,s,E1,_,d8,E2,_,e0,rfl,Ko ?_ H4.2.2.2.2.1 H4.2.2.2.2.2 ?_ ?_ HM.2.2.2.2.2.1 HM.2.2.2.2.2.2.1 ?_⟩);·rw[ae HD.1,HD.2]
 ·exact ah.wide (fun b hb=>by have:=HZ.2.2.2.1;have:=HZ.2.2.2.2;omega) HZ.1
 ·exact ah.wide (fun b hb=>by have:=HZ.2.2.2.1;have:=HZ.2.2.2.2;omega) HZ.2.1
 unfold aV;omega
end Go.Proofs.YtgdlhckhpolnnaaGreatDoor
