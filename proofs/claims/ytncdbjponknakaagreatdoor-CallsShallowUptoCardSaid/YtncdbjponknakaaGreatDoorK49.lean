/- CallsShallow: for every input of no more than 1048576 values and letters, called in whatever memory in which the two listed variables read as listed, the law's function returns true and leaves its argument as it was; the card ties the variables to the program's text. No other condition. -/
import Derived.ProofKit
import Derived.OpenShut
import Derived.Lib.LaidTab
import Derived.Test.YtncdbjponknakaaGreatDoorCards
import Derived.Test.YtncdbjponknakaaGreatDoorTie
import Derived.Deep.Matrix
import Derived.Deep.DeepHandedRow
import Derived.Test.YtncdbjponknakaaGreatDoorK48
namespace Go.Proofs.YtncdbjponknakaaGreatDoor
set_option maxRecDepth 100000
set_option maxHeartbeats 8000000
open Go.RowKit Go.Proofs.Tryz
section
section
variable {H:Type} {enc:TypeId×Value→H} {w:World}
def jm (w:World)(b:Nat):Prop:=b<w.heap.size
def fB {α:Type}(enc:TypeId×Value→H)(w:World)(t:TypeId)(E:cO α)(Q:α→Prop):Prop:=
 ∀fuel cs d ps,DataW.trod enc prog w 0 (fun _=>true) true fuel t cs=some (d,ps)→Rows.uptoBulk d≤1048576→∃x,E (jm w) w cs x∧Q x
theorem uJ {d:DataW H}{l:List (DataW H)}(h:d∈l):Rows.uptoBulk d≤Rows.uptoBulkAll l:=by
 induction l with
 |nil=>cases h
 |cons x r j=>
  simp only[Rows.uptoBulkAll];cases fX.1 h with
  |inl e=>subst e;omega
  |inr e=>have:=j e;omega
theorem Fc (d:DataW H):1≤Rows.uptoBulk d:=by
 cases d with
 |lit l=>cases l<;>simp[Rows.uptoBulk]
 |nil=>simp[Rows.uptoBulk]
 |ptr d=>simp[Rows.uptoBulk]
 |slice elems spare=>simp[Rows.uptoBulk]
 |agg parts=>simp[Rows.uptoBulk]
 |iface t d=>simp[Rows.uptoBulk]
 |map entries=>simp[Rows.uptoBulk]
 |held h=>simp[Rows.uptoBulk]
theorem Fb (l:List (DataW H)):l.length≤Rows.uptoBulkAll l:=by
 induction l with
 |nil=>simp[Rows.uptoBulkAll]
 |cons x r j=>have:=Fc x;simp only[Rows.uptoBulkAll,kI];omega
theorem Cc {α:Type}{P:Nat→α→Prop}:∀ {n:Nat},(∀i,i<n→∃x,P i x)→∃l:List α,l.length=n∧∀(i:Nat) x,l[i]? =some x→P i x
 |0,_=>⟨[],rfl,fun i x h=>by simp at h⟩
 |n+1,h=>by(
 obtain⟨l,o,C⟩:=Cc (n:=n) fun i hi=>h i (by omega);obtain⟨x,J⟩:=h n (by omega);refine⟨l++[x],by simp[o],fun i y j=>?_⟩;by_cases hi:i<n
 ·rw[ma (by omega)] at j
  exact C i y j
 rw[kH (by omega)] at j;have R:i-l.length=0:=by have:=(lS.1 j).1;simp at this;omega
 rw[R] at j;cases j;obtain rfl:i=n:=by omega
 exact J)
theorem nI (b o r:Nat):(⟨b,o,none⟩:Addr).add r=⟨b,o+r,none⟩:=by
 unfold Addr.add;split;·rename_i h;subst h;rfl
 rfl
theorem fB.mono {α:Type}{t:TypeId}{E:cO α}{Q R:α→Prop}(h:fB enc w t E Q)(j:∀x,Q x→R x):fB enc w t E R:=fun f cs d l o C=>by obtain⟨x,J,Y⟩:=h f cs d l o C;exact⟨x,J,j x Y⟩
theorem fi {α:Type}{t e:TypeId}{n bw:Nat}{E:cO α}{Q:α→Prop}(ht:prog.underlying t=some (.slice e))(hc:prog.cellsOf e=n)(hn:0<n)(b0:bw≤1000000)(o:fB enc w e E Q):
 fB enc w t (eT (rx n bw E)) fun l=>l.length≤1048576∧∀x∈l,Q x:=by
 intro b5 cs d ps h hb;rcases DataW.trod_slice ht h with ⟨rfl,R⟩|⟨a,len,cap,elems,rest,n',rfl,rfl,R,_,hl,hm,b6,Z,_,_⟩;·exact⟨[],⟨_,rfl,rx.nil⟩,by simp,by simp⟩
 injection R with hd _;subst hd;rw[hc] at Z;have b7:Rows.uptoBulkAll (elems.map (·.1))+1≤1048576:=by simp only[Rows.uptoBulk] at hb;omega
 have a1:=Fb (elems.map (·.1));rw[ce] at a1;obtain⟨l,b1,hP⟩:=Cc (n:=len) (P:=fun i x=>(∃ci,w.cells? 0 (a.add (i*n)) n=some ci∧E (jm w) w ci x)∧Q x) fun i hi=>by(
 have h1:=Z i hi;have h2:i<elems.length:=by omega
 rw[lG h2] at h1;obtain⟨ci,C,b2⟩:=Option.bind_eq_some_iff.1 h1;have b8:=uJ (d:=elems[i].1) (l:=elems.map (·.1)) (dr.2 ⟨elems[i],eL h2,rfl⟩);obtain⟨x,R,hq⟩:=o n' ci elems[i].1 elems[i].2 b2 (by omega);exact⟨x,⟨ci,C,R⟩,hq⟩)
 have b3:l.length*bw≤1048576*1000000:=Nat.mul_le_mul (by omega) b0;refine⟨l,⟨_,rfl,some a,cap,by rw[b1],by omega,hm,by omega,fun i x R=>?_⟩,by omega,fun x R=>?_⟩
 ·obtain⟨⟨ci,C,hE⟩,_⟩:=hP i x R;have hi:=(lS.1 R).1;obtain⟨⟨c0,Y,_⟩,_⟩:=hP 0 _ (lG (show 0<l.length by omega));unfold World.cells? at C Y;rw[ap (Nat.zero_le _)] at C Y;obtain⟨b,off,sp⟩:=a;obtain rfl:sp=none:=by obtain⟨c,_,h0⟩:=Lib.mapM_at Y 0 0 (by rw[ln hn]);have:=World.cell?_spot h0;simpa [Addr.add] using this
  have a6:=Lib.mapM_length C;rw[List.length_range] at a6;have a7:b<w.heap.size:=by obtain⟨c,_,h0⟩:=Lib.mapM_at Y 0 0 (by rw[ln hn]);have:=jy w _ h0;rw[nI,nI] at this;exact this
  refine⟨b,off,ci,rfl,a7,a6,fun j c hj=>?_,hE⟩;have b4:j<n:=by have:=(lS.1 hj).1;omega
  obtain⟨c',a8,J⟩:=Lib.mapM_at C j j (by rw[ln b4]);rw[hj] at a8;cases a8;rw[nI,nI] at J;exact J
 obtain⟨i,hi⟩:=cY.1 R;exact(hP i x hi).2
theorem pR {α:Type}{t:TypeId}{bw:Nat}{E:bT α}{Q:List α→Prop}(h:fB enc w t (eT (rx 1 bw (eT E))) Q):fB enc w t (eT (Sl bw E)) Q:=by intro j cs d l o C;obtain⟨x,⟨v,e,J⟩,R⟩:=h j cs d l o C;exact⟨x,⟨v,e,jT J⟩,R⟩
theorem bm {α:Type}{t C:TypeId}{fs:Array Field}{m off:Nat}{E:cO α}{Q:α→Prop}(ht:prog.underlying t=some (.struct fs)){j:Nat}{cs:List Value}{d:DataW H}{ps:List MemPlace}
 (h:DataW.trod enc prog w 0 (fun _=>true) true j t cs=some (d,ps)) (hb:Rows.uptoBulk d≤1048576) (i:Nat) (f:Field) (hf:fs[i]? =some f) (J:f.type=C) (R:f.offset=off) (hm:prog.cellsOf C=m) (o:fB enc w C E Q):∃x,E (jm w) w ((cs.drop off).take m) x∧Q x:=by
 obtain⟨xs,n,rfl,hx,_,Y,Z⟩:=DataW.trod_struct ht h;injection hx with hd _;subst hd;have h1:=Z i f hf;have hi:i<xs.length:=by rw[Y];exact(mV.1 hf).1
 rw[lG hi,J,R,hm] at h1;have a1:=uJ (d:=xs[i].1) (l:=xs.map (·.1)) (dr.2 ⟨xs[i],eL hi,rfl⟩);simp only[Rows.uptoBulk] at hb;exact o n _ xs[i].1 xs[i].2 h1 (by omega)
theorem jV {t:TypeId}{l:Array Field}{m:Nat}(o:prog.underlying t=some (.struct l))(hm:prog.cellsOf t=m){j:Nat}{cs:List Value}{x:DataW H×List MemPlace}(h:DataW.trod enc prog w 0 (fun _=>true) true j t cs=some x):cs.length=m:=by obtain⟨_,_,_,_,C,_⟩:=DataW.trod_struct o h;rw[C,hm]
theorem mA:prog.cellsOf 3=1:=by kernel_rfl
theorem Mg:prog.cellsOf 2=1:=by kernel_rfl
theorem KS:prog.cellsOf 5=1:=by kernel_rfl
theorem Ml:prog.cellsOf 90=1:=by kernel_rfl
theorem Fi:prog.cellsOf 9=1:=by kernel_rfl
theorem Ff:prog.cellsOf 93=2:=by kernel_rfl
theorem Fe:prog.cellsOf 74=2:=by kernel_rfl
theorem Mh:prog.cellsOf 47=9:=by kernel_rfl
theorem Mj:prog.cellsOf 44=1:=by kernel_rfl
theorem Mi:prog.cellsOf 41=1:=by kernel_rfl
theorem Fd:prog.cellsOf 43=3:=by kernel_rfl
theorem KN:prog.cellsOf 28=1:=by kernel_rfl
theorem KO:prog.cellsOf 27=1:=by kernel_rfl
theorem Fh:prog.cellsOf 45=1:=by kernel_rfl
theorem KQ:prog.cellsOf 22=1:=by kernel_rfl
theorem KR:prog.cellsOf 23=1:=by kernel_rfl
theorem Fg:prog.cellsOf 24=1:=by kernel_rfl
theorem Mk:prog.cellsOf 26=5:=by kernel_rfl
theorem KP:prog.cellsOf 30=3:=by kernel_rfl
theorem mB:fB enc w 3 (eT rQ) fun n=>(Lit.int .i64 n).wf=true:=fun j cs d l h _=>by obtain⟨n,rfl,_,hw⟩:=DataW.trod_int underlying3 h;exact⟨n,⟨_,rfl,rfl,hw⟩,hw⟩
theorem Mw:fB enc w 2 (eT rQ) fun n=>(Lit.int .i64 n).wf=true:=fun j cs d l h _=>by obtain⟨n,rfl,_,hw⟩:=DataW.trod_int underlying2 h;exact⟨n,⟨_,rfl,rfl,hw⟩,hw⟩
def MT:cO Nat:=fun _ _ cs n=>cs=[.int .u8 n]
theorem MA:fB enc w 5 MT fun n=>n<256:=fun j cs d o h _=>by obtain⟨n,rfl,_,hw⟩:=DataW.trod_int underlying5 h;obtain⟨l,C⟩:=bounds_u8 hw;exact⟨n.toNat,by unfold MT;rw[Int.toNat_of_nonneg l],by omega⟩
theorem Kn:fB enc w 9 (eT EQ) fun s=>s.size≤1048576:=fun j cs d J h l=>by obtain⟨s,rfl,o,_⟩:=DataW.trod_string underlying9 h;injection o with C _;subst C;simp only[Rows.uptoBulk,Array.length_toList] at l;exact⟨s,⟨_,rfl,rfl⟩,by show s.data.size≤_;omega⟩
theorem Mz:fB enc w 90 (eT Cz) fun _=>True:=fun j cs d o h _=>by obtain⟨n,rfl,_,hw⟩:=DataW.trod_int underlying90 h;obtain⟨l,C⟩:=bounds_u64 hw;refine⟨BitVec.ofNat 64 n.toNat,⟨_,rfl,?_⟩,trivial⟩;show Value.int .u64 n=U (BitVec.ofNat 64 n.toNat);unfold U;rw[BitVec.toNat_ofNat,Nat.mod_eq_of_lt (by omega),Int.toNat_of_nonneg l]
theorem Gr:fB enc w 45 (eT aK) fun l=>l.length≤1048576∧∀x∈l,(Lit.int .i64 x).wf=true:=pR (fi underlying45 mA (by decide) (by decide) mB)
theorem Ln:fB enc w 22 (eT gB) fun l=>l.length≤1048576∧∀s∈l,s.size≤1048576:=pR (fi underlying22 Fi (by decide) (by decide) Kn)
theorem Lo:fB enc w 23 (eT nZ) fun l=>l.length≤1048576∧∀s∈l,True:=pR (fi underlying23 Ml (by decide) (by decide) Mz)
theorem Ms {cs:List Value}(h:cs.length=2):∃a b,cs=[a,b]:=by
 match cs,h with
 | [a,b],_=>exact⟨a,b,rfl⟩
theorem Mt {cs:List Value}(h:cs.length=3):∃a b c,cs=[a,b,c]:=by
 match cs,h with
 | [a,b,c],_=>exact⟨a,b,c,rfl⟩
theorem MO {cs:List Value}(h:cs.length=5):∃a b c d e,cs=[a,b,c,d,e]:=by
 match cs,h with
 | [a,b,c,d,e],_=>exact⟨a,b,c,d,e,rfl⟩
theorem MP {cs:List Value}(h:cs.length=9):∃a b c d e f g i j,cs=[a,b,c,d,e,f,g,i,j]:=by
 match cs,h with
 | [a,b,c,d,e,f,g,i,j],_=>exact⟨a,b,c,d,e,f,g,i,j,rfl⟩
theorem el {α:Type}{E:bT α}{c:Value}{x:α}(h:eT E (jm w) w [c] x):E (jm w) w c x:=by obtain⟨v,e,h⟩:=h;cases e;exact h
theorem Lm:fB enc w 93 uy fun x=>x.1.size≤1048576:=fun j cs d ps h l=>by obtain⟨a,b,rfl⟩:=Ms (jV underlying93 Ff h);obtain⟨s,o,C⟩:=bm underlying93 h l 0 _ rfl rfl rfl Fi Kn;obtain⟨n,J,R⟩:=bm underlying93 h l 1 _ rfl rfl rfl mA mB;have Y:a=.string s:=el (c:=a) o;have Z:b=.int .i64 n:=(el (c:=b) J).1;subst Y;subst Z;exact⟨(s,n),⟨rfl,R⟩,C⟩
theorem Ci:fB enc w 24 (eT kh) fun l=>l.length≤1048576∧∀x∈l,x.1.size≤1048576:=fi underlying24 Ff (by decide) (by decide) Lm
theorem gC {n:Int}(h:(Lit.int .i64 n).wf=true):aV n:=bounds_i64 h
theorem Lk:fB enc w 74 rI fun _=>True:=fun j cs d ps h l=>by obtain⟨a,b,rfl⟩:=Ms (jV underlying74 Fe h);obtain⟨m,o,C⟩:=bm underlying74 h l 0 _ rfl rfl rfl mA mB;obtain⟨n,J,R⟩:=bm underlying74 h l 1 _ rfl rfl rfl mA mB;have Y:a=.int .i64 m:=(el (c:=a) o).1;have Z:b=.int .i64 n:=(el (c:=b) J).1;subst Y;subst Z;exact⟨(m,n),⟨rfl,gC C,gC R⟩,trivial⟩
theorem MQ:fB enc w 47 KD fun x=>Cv x∧iM x:=fun J cs d ps h j=>by obtain⟨c0,c1,R,Y,Z,l,o,c7,c8,rfl⟩:=MP (jV underlying47 Mh h);obtain⟨k,h0,q0⟩:=bm underlying47 h j 0 _ rfl rfl rfl KS MA;obtain⟨op,h1,q1⟩:=bm underlying47 h j 1 _ rfl rfl rfl KS MA;obtain⟨dst,h2,q2⟩:=bm underlying47 h j 2 _ rfl rfl rfl mA mB;obtain⟨ref,h3,q3⟩:=bm underlying47 h j 3 _ rfl rfl rfl mA mB;obtain⟨Ni,h4,q4⟩:=bm underlying47 h j 4 _ rfl rfl rfl mA mB;obtain⟨ar,h5,q5⟩:=bm underlying47 h j 5 _ rfl rfl rfl Fh Gr;obtain⟨fr,h6,q6⟩:=bm underlying47 h j 6 _ rfl rfl rfl Fh Gr;obtain⟨nm,h7,q7⟩:=bm underlying47 h j 7 _ rfl rfl rfl Mg Mw;obtain⟨pl,h8,q8⟩:=bm underlying47 h j 8 _ rfl rfl rfl mA mB;have e0:[c0]=[.int .u8 k]:=h0;have e1:[c1]=[.int .u8 op]:=h1;have e2:R=.int .i64 dst:=(el (c:=R) h2).1;have e3:Y=.int .i64 ref:=(el (c:=Y) h3).1;have e4:Z=.int .i64 Ni:=(el (c:=Z) h4).1;have e5:aK (jm w) w l ar:=el (c:=l) h5;have e6:aK (jm w) w o fr:=el (c:=o) h6;have e7:c7=.int .i64 nm:=(el (c:=c7) h7).1;have e8:c8=.int .i64 pl:=(el (c:=c8) h8).1;cases e0;cases e1;subst e2;subst e3;subst e4;subst e7;subst e8;exact⟨⟨k,op,dst,ref,Ni,ar,fr,nm,pl⟩,⟨l,o,rfl,e5,e6,⟨q0,q1,gC q2,gC q3,gC q4,gC q7,gC q8⟩⟩,⟨q5.1,q6.1⟩,⟨gC q2,gC q3,gC q4,fun a C=>gC (q5.2 a C),fun a C=>gC (q6.2 a C)⟩⟩
theorem My:fB enc w 44 (eT tZ) fun l=>l.length≤1048576∧∀x∈l,Cv x∧iM x:=fi underlying44 Mh (by decide) (by decide) MQ
theorem Mx:fB enc w 41 (eT bW) fun l=>l.length≤1048576∧∀x∈l,x.length≤1048576∧∀y∈x,Cv y∧iM y:=pR (fi underlying41 Mj (by decide) (by decide) My)
def LS (b:aw):Prop:=b.Ng.length≤1048576∧∀x∈b.Ng,x.length≤1048576∧∀y∈x,Cv y∧iM y
theorem Lj:fB enc w 43 qO LS:=fun o cs d ps h j=>by obtain⟨a,b,c,rfl⟩:=Mt (jV underlying43 Fd h);obtain⟨m,C,J⟩:=bm underlying43 h j 0 _ rfl rfl rfl mA mB;obtain⟨n,R,Y⟩:=bm underlying43 h j 1 _ rfl rfl rfl mA mB;obtain⟨l,Z,q2⟩:=bm underlying43 h j 2 _ rfl rfl rfl Mi Mx;have e0:a=.int .i64 m:=(el (c:=a) C).1;have e1:b=.int .i64 n:=(el (c:=b) R).1;have e2:bW (jm w) w c l:=el (c:=c) Z;subst e0;subst e1;exact⟨⟨m,n,l⟩,⟨c,rfl,e2,gC J,gC Y⟩,q2⟩
theorem Li:fB enc w 28 (eT mL) fun l=>l.length≤1048576∧∀b∈l,LS b:=fi underlying28 Fd (by decide) (by decide) Lj
theorem Ll:fB enc w 27 (eT ev) fun l=>l.length≤1048576∧∀b∈l,True:=fi underlying27 Fe (by decide) (by decide) Lk
theorem Gu {j:Nat}{xs:Array Value}{d:DataW H}{Z:List MemPlace}(h:DataW.trod enc prog w 0 (fun _=>true) true j 26 xs.toList=some (d,Z))(l:Rows.uptoBulk d≤1048576):∃p,dJ (jm w) w (.agg xs) p∧kj p:=by obtain⟨a,b,c,e,f,o⟩:=MO (jV underlying26 Mk h);rw[o] at h;obtain⟨C,h0,q0⟩:=bm underlying26 h l 0 _ rfl rfl rfl KQ Ln;obtain⟨J,h1,q1⟩:=bm underlying26 h l 1 _ rfl rfl rfl KR Lo;obtain⟨R,h2,q2⟩:=bm underlying26 h l 2 _ rfl rfl rfl Fg Ci;obtain⟨Y,h3,q3⟩:=bm underlying26 h l 3 _ rfl rfl rfl Fg Ci;obtain⟨n,h4,q4⟩:=bm underlying26 h l 4 _ rfl rfl rfl mA mB;have e0:gB (jm w) w a C:=el (c:=a) h0;have e1:nZ (jm w) w b J:=el (c:=b) h1;have e2:kh (jm w) w c R:=el (c:=c) h2;have e3:kh (jm w) w e Y:=el (c:=e) h3;have e4:f=.int .i64 n:=(el (c:=f) h4).1;subst e4;exact⟨⟨C,J,R,Y,n⟩,⟨a,b,c,e,by rw[←Array.toArray_toList (xs:=xs),o],e0,e1,e2,e3,q4⟩,⟨q0.2,q2.2,q3.2⟩⟩
theorem DA {o:Nat}{xs:Array Value}{d:DataW H}{ps:List MemPlace}(h:DataW.trod enc prog w 0 (fun _=>true) true o 30 xs.toList=some (d,ps))(j:Rows.uptoBulk d≤1048576):∃c,cQ (jm w) w (.agg xs) c∧lY c∧rK c:=by obtain⟨a,b,c,C⟩:=Mt (jV underlying30 KP h);rw[C] at h;obtain⟨Z,h0,q0⟩:=bm underlying30 h j 0 _ rfl rfl rfl KO Ll;obtain⟨l1,h1,J⟩:=bm underlying30 h j 1 _ rfl rfl rfl KN Li;obtain⟨n,h2,q2⟩:=bm underlying30 h j 2 _ rfl rfl rfl mA mB;have e0:ev (jm w) w a Z:=el (c:=a) h0;have e1:mL (jm w) w b l1:=el (c:=b) h1;have e2:c=.int .i64 n:=(el (c:=c) h2).1;subst e2;refine⟨⟨Z,l1,n⟩,⟨a,b,by rw[←Array.toArray_toList (xs:=xs),C],e0,e1,gC q2⟩,⟨q0.1,J.1,fun b j=>(J.2 b j).1,fun b j l R=>((J.2 b j).2 l R).1,fun b j l R x Y=>(((J.2 b j).2 l R).2 x Y).1⟩,⟨gC q2,fun b j x Y=>?_⟩⟩;obtain⟨l,R,Y⟩:=List.mem_flatten.1 Y;exact(((J.2 b j).2 l R).2 x Y).2
end
end
section
open Go.ChangeShapes Go.WideShapes Go.ChangeAt Go.RowKit
theorem MR:ownKnob prog.godebug=none:=by kernel_rfl
theorem FZ:laidOutB prog=true:=by kernel_rfl
theorem MV:prog.globalNamed "interdict/arith.names" =some 1:=by kernel_rfl
theorem Jd:(prog.globals[1]?).map (·.type)=some 304:=by kernel_rfl
theorem MY:prog.cellsOf 304=13:=by kernel_rfl
theorem MU:prog.globalNamed "math/bits.deBruijn64tab" =some 0:=by kernel_rfl
theorem Jc:(prog.globals[0]?).map (·.type)=some 280:=by kernel_rfl
theorem MX:prog.cellsOf 280=64:=by kernel_rfl
theorem aa.keptBut {w j:World}(h:aa All w j)(may:MemPlace→Prop):w.keptBut j may:=by refine⟨h.os,h.output,fun i hi=>?_⟩;rw[h.block i hi trivial];split<;>simp_all
theorem aa.same {w j:World}(h:aa All w j){p:MemPlace}(l:p.block<w.heap.size):w.sameAt j p:=by
 cases p with
 |cell b o=>exact World.cell?_of_block (w:=w) (h.block b l trivial)
 |map b=>exact h.block b l trivial
theorem aa.trod {H:Type}{enc:TypeId×Value→H}{t:TypeId}(R:prog.readableRec t=true)(j:t<prog.types.size){W J:World}{v:Value}{d:DataW H}{o:List MemPlace}
 (h:DataW.Trod enc prog W 0 (fun _=>true) true t v d o) (Y:aa All W J) (l:∀x∈o,x.block<W.heap.size):
 DataW.Trod enc prog J 0 (fun b=>decide (b<W.heap.size)) true t v d o:=
 WideElems.Trod_stays FZ R j h (fun x C=>Y.same (l x C)) (fun x C=>by simpa using l x C)
theorem ug {H:Type}{enc:TypeId×Value→H}{P:Program}{w:World}{base:Nat}{Z:Nat→Bool}{held:Bool}{j:Nat}{t e:TypeId}{n:Nat}{cs:List Value}{ss:List (List UInt8)}{p:List MemPlace}
 (ht:P.underlying t=some (.array n e)) (he:P.underlying e=some .string) (o:P.cellsOf e=1) (C:P.cellsOf t=n)
 (h:DataW.trod enc P w base Z held j t cs=some (.agg (ss.map fun s=>.lit (.string s)),p)):cs=ss.map fun s=>Value.string ⟨s.toArray⟩:=by
 cases j with
 |zero=>simp[DataW.trod] at h
 |succ j=>
  simp only[DataW.trod,ht,o,C,Nat.mul_one] at h;split at h;·(
 rename_i hl;obtain⟨xs,hm,hx⟩:=oE.1 h;have l:xs.map (·.1)=ss.map fun s=>(DataW.lit (.string s):DataW H):=by have:=congrArg Prod.fst hx;simpa using this
 have a1:xs.length=n:=by simpa using Lib.mapM_length hm
 have a6:ss.length=n:=by have:=congrArg List.length l;simp at this;omega
 apply List.ext_getElem?;intro i;by_cases hi:i<n
 ·obtain⟨b,hb,hf⟩:=Lib.mapM_at hm i i (by simp[hi]);obtain⟨z,hc,rfl,_⟩:=DataW.trod_string he hf;have h1:cs[i]? =some (.string z):=by have:=congrArg (·[0]?) hc;simpa [List.getElem?_take,List.getElem?_drop] using this
  have J:(xs.map (·.1))[i]? =some (DataW.lit (.string z.data.toList):DataW H):=by simp[hb]
  rw[l] at J;simp only[cL,oE,DataW.lit.injEq,Lit.string.injEq] at J;obtain⟨z',R,Y⟩:=J;simp[h1,R,Y]
 rw[jz (by omega),jz (by simp;omega)])
  cases h
def Ch:List (List UInt8):=(List.range 13).map fun i=>(nt i).data.toList
def Fo:List Int:=(List.range 64).map fun i=>(Fp i:Int)
theorem Jt {W:World}(h:laidMetH prog Rows.callsShallowUptoRow.laid W):gz W:=by
 obtain⟨ps,⟨g1,t1,a1,f1,p1,q1,j,l,o,C,⟨g2,t2,a6,f2,p2,q2,J,R,Y,Z,_,_⟩,_⟩,_⟩:=h;obtain rfl:=kJ (MV.symm.trans j);obtain rfl:=kJ (Jd.symm.trans l);obtain rfl:=kJ (MU.symm.trans J);obtain rfl:=kJ (Jc.symm.trans R);have e1:=ug (ss:=Ch) underlying304 underlying9 Fi MY C;have e2:=Lib.cells_of_tab (zs:=Fo) underlying280 underlying5 KS MX Z;refine⟨fun i hi=>?_,fun i hi=>?_⟩
 ·rw[World.var?_cell MU Y i,←Array.getElem?_toList,e2]
  simp[Fo,hi]
 rw[World.var?_cell MV o i,←Array.getElem?_toList,e1];simp[Ch,hi]
section
variable {H:Type} {enc:TypeId×Value→H} {w:World}
theorem Su {cs:List Value}(h:cs.length=10):∃a b c d e f g i j k,cs=[a,b,c,d,e,f,g,i,j,k]:=by
 match cs,h with
 | [a,b,c,d,e,f,g,i,j,k],_=>exact⟨a,b,c,d,e,f,g,i,j,k,rfl⟩
theorem RN:prog.cellsOf 35=1:=by kernel_rfl
theorem RO:prog.cellsOf 31=1:=by kernel_rfl
theorem Sm:prog.cellsOf 33=10:=by kernel_rfl
theorem RS:fB enc w 35 (eT aK) fun _=>True:=(pR (fi underlying35 Mg (by decide) (by decide) Mw)).mono fun _ _=>trivial
theorem RT:fB enc w 31 (eT Rows) fun _=>True:=(pR (fi underlying31 RN (by decide) (by decide) RS)).mono fun _ _=>trivial
def SB:cO aH:=fun S w cs p=>dJ S w (.agg cs.toArray) p
def RX:cO aE:=fun S w cs c=>cQ S w (.agg cs.toArray) c
theorem Sv:fB enc w 26 SB kj:=fun _ cs _ _ h j=>Gu (xs:=cs.toArray) (by simpa using h) j
theorem RR:fB enc w 30 RX fun c=>lY c∧rK c:=fun _ cs _ _ h j=>DA (xs:=cs.toArray) (by simpa using h) j
theorem QD {o:Nat}{xs:Array Value}{d:DataW H}{R:List MemPlace}(h:DataW.trod enc prog w 0 (fun _=>true) true o 33 xs.toList=some (d,R))(J:Rows.uptoBulk d≤1048576):∃p c ins f,RY (jm w) w (.agg xs) p c ins f∧kj p∧lY c∧rK c:=by obtain⟨a,b,c,e,f,g,i,j,k,l,C⟩:=Su (jV underlying33 Sm h);rw[C] at h;obtain⟨p,Y,Z⟩:=bm underlying33 h J 0 _ rfl rfl rfl Mk Sv;obtain⟨q,h1,q1,q2⟩:=bm underlying33 h J 1 _ rfl rfl rfl KP RR;obtain⟨ins,h2,_⟩:=bm underlying33 h J 2 _ rfl rfl rfl RO RT;obtain⟨n,h3,_⟩:=bm underlying33 h J 3 _ rfl rfl rfl mA mB;have e2:Rows (jm w) w k ins:=el (c:=k) h2;have e3:l=.int .i64 n:=(el (c:=l) h3).1;subst e3;exact⟨p,q,ins,n,⟨a,b,c,e,f,g,i,j,k,by rw[←Array.toArray_toList (xs:=xs),C],Y,h1,e2⟩,Z,q1,q2⟩
end
namespace callsShallow
theorem contract (H:Type)(enc:TypeId×Value→H)(W:World)(base:Nat)(args:Array Value)(R gs:List (DataW H))(before:List MemPlace)
 (l:∀(j:Nat) t v,Tryz.f3.params[j]? =some t→args[j]? =some v→Value.okWide prog W .any base t v)
 (hW:DataW.Whole enc prog Tryz.f3.params.toList Rows.callsShallowSpec.vars false W args.toList R gs before) (hk:Rows.uptoSmall H (R++gs)=true) (hL:laidMetH prog Rows.callsShallowUptoRow.laid W):
 Calls prog 3 args W fun e W'=>∃v,e=.returned v∧Rows.callsShallowSpec.post enc prog Tryz.f3 false true false false W args v W':=by
 have Y:=hW;obtain⟨p,q,o,hV,rfl,b1,b2⟩:=hW;have hA:DataW.TrodAll enc prog W 0 (fun _=>true) true Tryz.f3.params.toList args.toList R p:=o;rw[Tryz.params3] at hA l;obtain⟨v0,b3,d0,b4,p0,q0,Z,rfl,rfl,h0,r0⟩:=trodAll_cons hA;obtain⟨rfl,rfl,rfl⟩:=trodAll_nil r0;obtain rfl:args= #[v0]:=by cases args;simp_all
 obtain⟨rfl,rfl⟩:=trodVars_none hV;obtain⟨x0,rfl,_⟩:=okWide_struct underlying33 (l 0 33 v0 rfl rfl);have hb:=of_decide_eq_true hk;simp only[Rows.uptoBulkAll,List.cons_append,mF] at hb;have k0:=h0;have a1:∀x∈p0,x.block<W.heap.size:=by obtain⟨m,hm⟩:=k0;exact DataW.trod_lt m _ _ _ hm
 obtain⟨m0,a6⟩:=h0;obtain⟨p,c,ins,C,hj,a7,a8,b0⟩:=QD (xs:=x0) a6 (by omega);clear o;refine(Pe (jm W) _ p c ins C W hj (Jt hL) (fun b hb=>hb) a7 a8 b0).mono fun e W' ⟨he,J⟩=>?_;subst he;exact⟨_,rfl,_,_,_,[],_,[],Y,trodAll_mk1 (shut_bool underlying4 _),(trodAll_cons_mk (aa.trod (by kernel_rfl) (of_decide_eq_true (by kernel_rfl)) k0 J a1) trodAll_mk0),rfl,J.keptBut _,fun h=>by cases h⟩
def lay (cs:Array Value):Obj→Obj
 |.cells _ t frozen=>.cells cs t frozen
 |o=>o
noncomputable def laidWorld (os:Os):World:=
 {World.holding prog os ⟨#[],#[],[]⟩ with heap:=((World.holding prog os ⟨#[],#[],[]⟩).heap.modify 0 (lay #[.int .u8 0,.int .u8 1,.int .u8 56,.int .u8 2,.int .u8 57,.int .u8 49,.int .u8 28,.int .u8 3,.int .u8 61,.int .u8 58,.int .u8 42,.int .u8 50,.int .u8 38,.int .u8 29,.int .u8 17,.int .u8 4,.int .u8 62,.int .u8 47,.int .u8 59,.int .u8 36,.int .u8 45,.int .u8 43,.int .u8 51,.int .u8 22,.int .u8 53,.int .u8 39,.int .u8 33,.int .u8 30,.int .u8 24,.int .u8 18,.int .u8 12,.int .u8 5,.int .u8 63,.int .u8 55,.int .u8 48,.int .u8 27,.int .u8 60,.int .u8 41,.int .u8 37,.int .u8 16,.int .u8 46,.int .u8 35,.int .u8 44,.int .u8 21,.int .u8 52,.int .u8 32,.int .u8 23,.int .u8 11,.int .u8 54,.int .u8 26,.int .u8 40,.int .u8 15,.int .u8 34,.int .u8 20,.int .u8 31,.int .u8 10,.int .u8 25,.int .u8 14,.int .u8 19,.int .u8 9,.int .u8 13,.int .u8 8,.int .u8 7,.int .u8 6])).modify 1 (lay #[.string (nt 0),.string (nt 1),.string (nt 2),.string (nt 3),.string (nt 4),.string (nt 5),.string (nt 6),.string (nt 7),.string (nt 8),.string (nt 9),.string (nt 10),.string (nt 11),.string (nt 12)])}
theorem Ga (os:Os):laidMet prog Rows.callsShallowUptoRow.laid ((laidWorld os).forCall (fun _ _=>0) ⟨#[],#[.agg #[.slice none 0 0,.slice none 0 0,.slice none 0 0,.slice none 0 0,.int .i64 0,.slice none 0 0,.slice none 0 0,.int .i64 0,.slice none 0 0,.int .i64 0]],[]⟩).memory:=
 laidMet_of_run' 8 (by kernel_rfl) (by kernel_rfl)
theorem reads (os:Os){H:Type}(enc:TypeId×Value→H):∃places,DataW.whole enc prog ((laidWorld os).forCall (fun _ _=>0) ⟨#[],#[.agg #[.slice none 0 0,.slice none 0 0,.slice none 0 0,.slice none 0 0,.int .i64 0,.slice none 0 0,.slice none 0 0,.int .i64 0,.slice none 0 0,.int .i64 0]],[]⟩).memory Tryz.f3.params.toList Rows.callsShallowSpec.vars false (#[.agg #[.slice none 0 0,.slice none 0 0,.slice none 0 0,.slice none 0 0,.int .i64 0,.slice none 0 0,.slice none 0 0,.int .i64 0,.slice none 0 0,.int .i64 0]]:Array Value).toList 8=some ([.agg [.agg [.nil,.nil,.nil,.nil,.lit (.int .i64 0)],.agg [.nil,.nil,.lit (.int .i64 0)],.nil,.lit (.int .i64 0)]],[],places):=
 ⟨[],by kernel_rfl⟩
theorem lifted (os:Os)(started:os.Started)(H:Type)(enc:TypeId×Value→H)(F:Stop.Interp):
 ReturnsInHanded {} Tryz.checked os 3 .any ((Rows.OpenSpec.upto Rows.callsShallowSpec).preRow enc prog Tryz.f3 Rows.callsShallowUptoRow.domain false Rows.callsShallowUptoRow.laid) (((Rows.OpenSpec.upto Rows.callsShallowSpec).at F).post enc prog Tryz.f3 false true false false):=by
 obtain⟨places,o⟩:=reads os enc
 refine returnsInHanded_of_row (C:=Tryz.checked) (s:=Rows.OpenSpec.upto Rows.callsShallowSpec) MR started (by kernel_rfl) func3
  (witness_row_at (enc:=enc) (C:=Tryz.checked) false (laidWorld os) #[.agg #[.slice none 0 0,.slice none 0 0,.slice none 0 0,.slice none 0 0,.int .i64 0,.slice none 0 0,.slice none 0 0,.int .i64 0,.slice none 0 0,.int .i64 0]] rfl (by kernel_rfl) (by kernel_rfl) (by kernel_rfl)
   (OpenSpec.preRow_of_cond 8 o (by kernel_rfl) (fun k J=>by cases J;kernel_rfl) (by kernel_rfl) (Ga os))) ?_
 intro W base args R gs before l Y _ j _ Z _ _;exact contract H enc W base args R gs before l Y (j _ rfl) Z
theorem said:Rows.CallsShallowUptoSaid:=
 OpenClaim.holds_of_cond 3 Tryz.f3 rfl rfl rfl rfl rfl rfl rfl ⟨rfl,rfl,rfl,rfl,rfl⟩ rfl rfl rfl rfl rfl (by kernel_rfl) func3 (by kernel_rfl)
  (of_decide_eq_true (by kernel_rfl)) (by unfold Func.isWrapper;first|(rw[ap (by decide+kernel)];kernel_rfl)|(rw[ae (by decide+kernel)];exact⟨rfl,rfl⟩))
  (fun os started H enc _ F=>by rw[OpenClaim.pre_eq_preRow];exact lifted os started H enc F)
theorem plain (f:FuncId)(fn:Func)(R:Tryz.pinned.checked.prog.funcNamed "interdict/interdictlaw18.CallsShallow" =some f)(l:Tryz.pinned.checked.prog.funcs[f]? =some fn):
 true=Tryz.pinned.checked.prog.looks []∧∀(j:Nat) t,fn.params[j]? =some t→Tryz.pinned.checked.prog.wantsStandIn t=false:=by
 obtain rfl:f=3:=kJ ((show prog.funcNamed "interdict/interdictlaw18.CallsShallow" =some 3 by kernel_rfl).symm.trans R)|>.symm;obtain rfl:fn=Tryz.f3:=(kJ (func3.symm.trans l)).symm;refine⟨by kernel_rfl,fun j t J=>?_⟩;rw[Tryz.params3] at J;have o:=Array.mem_of_getElem? J;have C:t=33:=by simpa using o
 subst C;exact(show prog.wantsStandIn 33=false by kernel_rfl)
theorem card:Rows.CallsShallowUptoCardSaid:=
 Claim7.holds_tied_plain_at .later [] _ _ _ _ said (fun _ h=>by cases h) (by kernel_rfl) (fun _ h=>by cases h) callsShallowUpto_row_tie rfl ⟨rfl,rfl⟩ (by kernel_rfl) rfl plain (by kernel_rfl)
#print axioms card
end callsShallow
end
end Go.Proofs.YtncdbjponknakaaGreatDoor
