/- SsaPaths: for every input of no more than 1048576 values and letters, called in whatever memory in which the listed variables read as listed, the law's function returns true and leaves its arguments as they were; the card ties the variables to the program's text. No other condition. -/
import Derived.ProofKit
import Derived.OpenShut
import Derived.Test.YtccbbkopmlnkpaaGreatDoorCards
import Derived.Test.YtccbbkopmlnkpaaGreatDoorTie
import Derived.Deep.Matrix
import Derived.Deep.DeepHandedRow
import Derived.Test.YtccbbkopmlnkpaaGreatDoorK41
namespace Go.Proofs.YtccbbkopmlnkpaaGreatDoor
set_option maxRecDepth 100000
set_option maxHeartbeats 8000000
open Go.RowKit Go.Proofs.Tryz
section
section
variable {H:Type} {enc:TypeId×Value→H} {w:World}
def iq (w:World)(b:Nat):Prop:=b<w.heap.size
def eC {α:Type}(enc:TypeId×Value→H)(w:World)(t:TypeId)(E:aT α)(Q:α→Prop):Prop:=
 ∀fuel cs d ps,DataW.trod enc prog w 0 (fun _=>true) true fuel t cs=some (d,ps)→Rows.uptoBulk d≤1048576→∃x,E (iq w) w cs x∧Q x
theorem uH {d:DataW H}{l:List (DataW H)}(h:d∈l):Rows.uptoBulk d≤Rows.uptoBulkAll l:=by
 induction l with
 |nil=>cases h
 |cons x r j=>
  simp only[Rows.uptoBulkAll];cases fV.1 h with
  |inl e=>subst e;omega
  |inr e=>have:=j e;omega
theorem Fd (d:DataW H):1≤Rows.uptoBulk d:=by
 cases d with
 |lit l=>cases l<;>simp[Rows.uptoBulk]
 |nil=>simp[Rows.uptoBulk]
 |ptr d=>simp[Rows.uptoBulk]
 |slice elems spare=>simp[Rows.uptoBulk]
 |agg parts=>simp[Rows.uptoBulk]
 |iface t d=>simp[Rows.uptoBulk]
 |map entries=>simp[Rows.uptoBulk]
 |held h=>simp[Rows.uptoBulk]
theorem Fc (l:List (DataW H)):l.length≤Rows.uptoBulkAll l:=by
 induction l with
 |nil=>simp[Rows.uptoBulkAll]
 |cons x r j=>have:=Fd x;simp only[Rows.uptoBulkAll,lD];omega
theorem BV {α:Type}{P:Nat→α→Prop}:∀ {n:Nat},(∀i,i<n→∃x,P i x)→∃l:List α,l.length=n∧∀(i:Nat) x,l[i]? =some x→P i x
 |0,_=>⟨[],rfl,fun i x h=>by simp at h⟩
 |n+1,h=>by(
 obtain⟨l,o,C⟩:=BV (n:=n) fun i hi=>h i (by omega);obtain⟨x,I⟩:=h n (by omega);refine⟨l++[x],by simp[o],fun i y j=>?_⟩;by_cases hi:i<n
 ·rw[lC (by omega)] at j
  exact C i y j
 rw[jQ (by omega)] at j;have J:i-l.length=0:=by have:=(lS.1 j).1;simp at this;omega
 rw[J] at j;cases j;obtain rfl:i=n:=by omega
 exact I)
theorem nz (b o r:Nat):(⟨b,o,none⟩:Addr).add r=⟨b,o+r,none⟩:=by
 unfold Addr.add;split;·rename_i h;subst h;rfl
 rfl
theorem eC.mono {α:Type}{t:TypeId}{E:aT α}{Q R:α→Prop}(h:eC enc w t E Q)(j:∀x,Q x→R x):eC enc w t E R:=fun f cs d ps o C=>by obtain⟨x,I,J⟩:=h f cs d ps o C;exact⟨x,I,j x J⟩
theorem eh {α:Type}{t e:TypeId}{n bw:Nat}{E:aT α}{Q:α→Prop}(ht:prog.underlying t=some (.slice e))(hc:prog.cellsOf e=n)(hn:0<n)(b0:bw≤1000000)(o:eC enc w e E Q):
 eC enc w t (io (qT n bw E)) fun l=>l.length≤1048576∧∀x∈l,Q x:=by
 intro b5 cs d ps h hb;rcases DataW.trod_slice ht h with ⟨rfl,J⟩|⟨a,len,cap,elems,rest,n',rfl,rfl,J,_,hl,hm,b6,Y,_,_⟩;·exact⟨[],⟨_,rfl,qT.nil⟩,by simp,by simp⟩
 injection J with hd _;subst hd;rw[hc] at Y;have b7:Rows.uptoBulkAll (elems.map (·.1))+1≤1048576:=by simp only[Rows.uptoBulk] at hb;omega
 have a1:=Fc (elems.map (·.1));rw[aZ] at a1;obtain⟨l,b1,hP⟩:=BV (n:=len) (P:=fun i x=>(∃ci,w.cells? 0 (a.add (i*n)) n=some ci∧E (iq w) w ci x)∧Q x) fun i hi=>by(
 have h1:=Y i hi;have h2:i<elems.length:=by omega
 rw[lG h2] at h1;obtain⟨ci,C,b2⟩:=Option.bind_eq_some_iff.1 h1;have b8:=uH (d:=elems[i].1) (l:=elems.map (·.1)) (dt.2 ⟨elems[i],jy h2,rfl⟩);obtain⟨x,J,hq⟩:=o n' ci elems[i].1 elems[i].2 b2 (by omega);exact⟨x,⟨ci,C,J⟩,hq⟩)
 have b3:l.length*bw≤1048576*1000000:=Nat.mul_le_mul (by omega) b0;refine⟨l,⟨_,rfl,some a,cap,by rw[b1],by omega,hm,by omega,fun i x J=>?_⟩,by omega,fun x J=>?_⟩
 ·obtain⟨⟨ci,C,hE⟩,_⟩:=hP i x J;have hi:=(lS.1 J).1;obtain⟨⟨c0,R,_⟩,_⟩:=hP 0 _ (lG (show 0<l.length by omega));unfold World.cells? at C R;rw[am (Nat.zero_le _)] at C R;obtain⟨b,off,sp⟩:=a;obtain rfl:sp=none:=by obtain⟨c,_,h0⟩:=Lib.mapM_at R 0 0 (by rw[nZ hn]);have:=World.cell?_spot h0;simpa [Addr.add] using this
  have a6:=Lib.mapM_length C;rw[List.length_range] at a6;have a7:b<w.heap.size:=by obtain⟨c,_,h0⟩:=Lib.mapM_at R 0 0 (by rw[nZ hn]);have:=gx w _ h0;rw[nz,nz] at this;exact this
  refine⟨b,off,ci,rfl,a7,a6,fun j c hj=>?_,hE⟩;have b4:j<n:=by have:=(lS.1 hj).1;omega
  obtain⟨c',a8,I⟩:=Lib.mapM_at C j j (by rw[nZ b4]);rw[hj] at a8;cases a8;rw[nz,nz] at I;exact I
 obtain⟨i,hi⟩:=fB.1 J;exact(hP i x hi).2
theorem pU {α:Type}{t:TypeId}{bw:Nat}{E:cM α}{Q:List α→Prop}(h:eC enc w t (io (qT 1 bw (io E))) Q):eC enc w t (io (Sl bw E)) Q:=by intro j cs d ps o C;obtain⟨x,⟨v,e,I⟩,J⟩:=h j cs d ps o C;exact⟨x,⟨v,e,wY I⟩,J⟩
theorem aP {α:Type}{t C:TypeId}{fs:Array Field}{m off:Nat}{E:aT α}{Q:α→Prop}(ht:prog.underlying t=some (.struct fs)){j:Nat}{cs:List Value}{d:DataW H}{ps:List MemPlace}
 (h:DataW.trod enc prog w 0 (fun _=>true) true j t cs=some (d,ps)) (hb:Rows.uptoBulk d≤1048576) (i:Nat) (f:Field) (hf:fs[i]? =some f) (I:f.type=C) (J:f.offset=off) (hm:prog.cellsOf C=m) (o:eC enc w C E Q):∃x,E (iq w) w ((cs.drop off).take m) x∧Q x:=by
 obtain⟨xs,n,rfl,hx,_,R,Y⟩:=DataW.trod_struct ht h;injection hx with hd _;subst hd;have h1:=Y i f hf;have hi:i<xs.length:=by rw[R];exact(kT.1 hf).1
 rw[lG hi,I,J,hm] at h1;have a1:=uH (d:=xs[i].1) (l:=xs.map (·.1)) (dt.2 ⟨xs[i],jy hi,rfl⟩);simp only[Rows.uptoBulk] at hb;exact o n _ xs[i].1 xs[i].2 h1 (by omega)
theorem jh {t:TypeId}{o:Array Field}{m:Nat}(C:prog.underlying t=some (.struct o))(hm:prog.cellsOf t=m){j:Nat}{cs:List Value}{x:DataW H×List MemPlace}(h:DataW.trod enc prog w 0 (fun _=>true) true j t cs=some x):cs.length=m:=by obtain⟨_,_,_,_,I,_⟩:=DataW.trod_struct C h;rw[I,hm]
theorem mh:prog.cellsOf 3=1:=by kernel_rfl
theorem LV:prog.cellsOf 2=1:=by kernel_rfl
theorem KJ:prog.cellsOf 5=1:=by kernel_rfl
theorem Ma:prog.cellsOf 52=1:=by kernel_rfl
theorem Fj:prog.cellsOf 9=1:=by kernel_rfl
theorem Fg:prog.cellsOf 228=2:=by kernel_rfl
theorem Ff:prog.cellsOf 99=2:=by kernel_rfl
theorem LW:prog.cellsOf 40=9:=by kernel_rfl
theorem LY:prog.cellsOf 36=1:=by kernel_rfl
theorem LX:prog.cellsOf 33=1:=by kernel_rfl
theorem Fe:prog.cellsOf 35=3:=by kernel_rfl
theorem KE:prog.cellsOf 28=1:=by kernel_rfl
theorem KF:prog.cellsOf 27=1:=by kernel_rfl
theorem Fi:prog.cellsOf 38=1:=by kernel_rfl
theorem KH:prog.cellsOf 22=1:=by kernel_rfl
theorem KI:prog.cellsOf 23=1:=by kernel_rfl
theorem Fh:prog.cellsOf 24=1:=by kernel_rfl
theorem LZ:prog.cellsOf 26=5:=by kernel_rfl
theorem KG:prog.cellsOf 30=3:=by kernel_rfl
theorem mo:eC enc w 3 (io zq) fun n=>(Lit.int .i64 n).wf=true:=fun j cs d ps h _=>by obtain⟨n,rfl,_,hw⟩:=DataW.trod_int underlying3 h;exact⟨n,⟨_,rfl,rfl,hw⟩,hw⟩
theorem Mm:eC enc w 2 (io zq) fun n=>(Lit.int .i64 n).wf=true:=fun j cs d ps h _=>by obtain⟨n,rfl,_,hw⟩:=DataW.trod_int underlying2 h;exact⟨n,⟨_,rfl,rfl,hw⟩,hw⟩
def MV:aT Nat:=fun _ _ cs n=>cs=[.int .u8 n]
theorem Mq:eC enc w 5 MV fun n=>n<256:=fun j cs d ps h _=>by obtain⟨n,rfl,_,hw⟩:=DataW.trod_int underlying5 h;obtain⟨o,C⟩:=bounds_u8 hw;exact⟨n.toNat,by unfold MV;rw[Int.toNat_of_nonneg o],by omega⟩
theorem Ki:eC enc w 9 (io Kz) fun s=>s.size≤1048576:=fun j cs d ps h o=>by obtain⟨s,rfl,C,_⟩:=DataW.trod_string underlying9 h;injection C with I _;subst I;simp only[Rows.uptoBulk,Array.length_toList] at o;exact⟨s,⟨_,rfl,rfl⟩,by show s.data.size≤_;omega⟩
theorem Mp:eC enc w 52 (io Ir) fun _=>True:=fun j cs d ps h _=>by obtain⟨n,rfl,_,hw⟩:=DataW.trod_int underlying52 h;obtain⟨o,C⟩:=bounds_u64 hw;refine⟨BitVec.ofNat 64 n.toNat,⟨_,rfl,?_⟩,trivial⟩;show Value.int .u64 n=U (BitVec.ofNat 64 n.toNat);unfold U;rw[BitVec.toNat_ofNat,Nat.mod_eq_of_lt (by omega),Int.toNat_of_nonneg o]
theorem Gq:eC enc w 38 (io bu) fun l=>l.length≤1048576∧∀x∈l,(Lit.int .i64 x).wf=true:=pU (eh underlying38 mh (by decide) (by decide) mo)
theorem Lb:eC enc w 22 (io cC) fun l=>l.length≤1048576∧∀s∈l,s.size≤1048576:=pU (eh underlying22 Fj (by decide) (by decide) Ki)
theorem Lc:eC enc w 23 (io rt) fun l=>l.length≤1048576∧∀s∈l,True:=pU (eh underlying23 Ma (by decide) (by decide) Mp)
theorem Mj {cs:List Value}(h:cs.length=2):∃a b,cs=[a,b]:=by
 match cs,h with
 | [a,b],_=>exact⟨a,b,rfl⟩
theorem Mk {cs:List Value}(h:cs.length=3):∃a b c,cs=[a,b,c]:=by
 match cs,h with
 | [a,b,c],_=>exact⟨a,b,c,rfl⟩
theorem MP {cs:List Value}(h:cs.length=5):∃a b c d e,cs=[a,b,c,d,e]:=by
 match cs,h with
 | [a,b,c,d,e],_=>exact⟨a,b,c,d,e,rfl⟩
theorem MQ {cs:List Value}(h:cs.length=9):∃a b c d e f g i j,cs=[a,b,c,d,e,f,g,i,j]:=by
 match cs,h with
 | [a,b,c,d,e,f,g,i,j],_=>exact⟨a,b,c,d,e,f,g,i,j,rfl⟩
theorem dv {α:Type}{E:cM α}{c:Value}{x:α}(h:io E (iq w) w [c] x):E (iq w) w c x:=by obtain⟨v,e,h⟩:=h;cases e;exact h
theorem La:eC enc w 228 qP fun x=>x.1.size≤1048576:=fun j cs d ps h o=>by obtain⟨a,b,rfl⟩:=Mj (jh underlying228 Fg h);obtain⟨s,C,I⟩:=aP underlying228 h o 0 _ rfl rfl rfl Fj Ki;obtain⟨n,J,R⟩:=aP underlying228 h o 1 _ rfl rfl rfl mh mo;have Y:a=.string s:=dv (c:=a) C;have e1:b=.int .i64 n:=(dv (c:=b) J).1;subst Y;subst e1;exact⟨(s,n),⟨rfl,R⟩,I⟩
theorem Cd:eC enc w 24 (io mc) fun l=>l.length≤1048576∧∀x∈l,x.1.size≤1048576:=eh underlying24 Fg (by decide) (by decide) La
theorem fE {n:Int}(h:(Lit.int .i64 n).wf=true):aS n:=bounds_i64 h
theorem KY:eC enc w 99 xt fun _=>True:=fun j cs d ps h o=>by obtain⟨a,b,rfl⟩:=Mj (jh underlying99 Ff h);obtain⟨m,C,I⟩:=aP underlying99 h o 0 _ rfl rfl rfl mh mo;obtain⟨n,J,R⟩:=aP underlying99 h o 1 _ rfl rfl rfl mh mo;have Y:a=.int .i64 m:=(dv (c:=a) C).1;have e1:b=.int .i64 n:=(dv (c:=b) J).1;subst Y;subst e1;exact⟨(m,n),⟨rfl,fE I,fE R⟩,trivial⟩
theorem MR:eC enc w 40 Kw fun x=>Co x∧fw x:=fun J cs d ps h j=>by obtain⟨c0,c1,R,Y,c4,o,C,c7,c8,rfl⟩:=MQ (jh underlying40 LW h);obtain⟨k,h0,q0⟩:=aP underlying40 h j 0 _ rfl rfl rfl KJ Mq;obtain⟨op,h1,q1⟩:=aP underlying40 h j 1 _ rfl rfl rfl KJ Mq;obtain⟨dst,h2,q2⟩:=aP underlying40 h j 2 _ rfl rfl rfl mh mo;obtain⟨ref,h3,q3⟩:=aP underlying40 h j 3 _ rfl rfl rfl mh mo;obtain⟨No,h4,q4⟩:=aP underlying40 h j 4 _ rfl rfl rfl mh mo;obtain⟨ar,h5,q5⟩:=aP underlying40 h j 5 _ rfl rfl rfl Fi Gq;obtain⟨fr,h6,q6⟩:=aP underlying40 h j 6 _ rfl rfl rfl Fi Gq;obtain⟨nm,h7,q7⟩:=aP underlying40 h j 7 _ rfl rfl rfl LV Mm;obtain⟨pl,h8,q8⟩:=aP underlying40 h j 8 _ rfl rfl rfl mh mo;have e0:[c0]=[.int .u8 k]:=h0;have e1:[c1]=[.int .u8 op]:=h1;have e2:R=.int .i64 dst:=(dv (c:=R) h2).1;have e3:Y=.int .i64 ref:=(dv (c:=Y) h3).1;have e4:c4=.int .i64 No:=(dv (c:=c4) h4).1;have e5:bu (iq w) w o ar:=dv (c:=o) h5;have e6:bu (iq w) w C fr:=dv (c:=C) h6;have e7:c7=.int .i64 nm:=(dv (c:=c7) h7).1;have e8:c8=.int .i64 pl:=(dv (c:=c8) h8).1;cases e0;cases e1;subst e2;subst e3;subst e4;subst e7;subst e8;exact⟨⟨k,op,dst,ref,No,ar,fr,nm,pl⟩,⟨o,C,rfl,e5,e6,⟨q0,q1,fE q2,fE q3,fE q4,fE q7,fE q8⟩⟩,⟨q5.1,q6.1⟩,⟨fE q2,fE q3,fE q4,fun a I=>fE (q5.2 a I),fun a I=>fE (q6.2 a I)⟩⟩
theorem Mo:eC enc w 36 (io xn) fun l=>l.length≤1048576∧∀x∈l,Co x∧fw x:=eh underlying36 LW (by decide) (by decide) MR
theorem Mn:eC enc w 33 (io fz) fun l=>l.length≤1048576∧∀x∈l,x.length≤1048576∧∀y∈x,Co y∧fw y:=pU (eh underlying33 LY (by decide) (by decide) Mo)
def LD (b:av):Prop:=b.Nm.length≤1048576∧∀x∈b.Nm,x.length≤1048576∧∀y∈x,Co y∧fw y
theorem KX:eC enc w 35 uz LD:=fun o cs d ps h j=>by obtain⟨a,b,c,rfl⟩:=Mk (jh underlying35 Fe h);obtain⟨m,C,I⟩:=aP underlying35 h j 0 _ rfl rfl rfl mh mo;obtain⟨n,J,R⟩:=aP underlying35 h j 1 _ rfl rfl rfl mh mo;obtain⟨l,Y,q2⟩:=aP underlying35 h j 2 _ rfl rfl rfl LX Mn;have e0:a=.int .i64 m:=(dv (c:=a) C).1;have e1:b=.int .i64 n:=(dv (c:=b) J).1;have e2:fz (iq w) w c l:=dv (c:=c) Y;subst e0;subst e1;exact⟨⟨m,n,l⟩,⟨c,rfl,e2,fE I,fE R⟩,q2⟩
theorem KW:eC enc w 28 (io qd) fun l=>l.length≤1048576∧∀b∈l,LD b:=eh underlying28 Fe (by decide) (by decide) KX
theorem KZ:eC enc w 27 (io dJ) fun l=>l.length≤1048576∧∀b∈l,True:=eh underlying27 Ff (by decide) (by decide) KY
theorem Gt {j:Nat}{xs:Array Value}{d:DataW H}{ps:List MemPlace}(h:DataW.trod enc prog w 0 (fun _=>true) true j 26 xs.toList=some (d,ps))(o:Rows.uptoBulk d≤1048576):∃p,gR (iq w) w (.agg xs) p∧jU p:=by obtain⟨a,b,c,e,f,C⟩:=MP (jh underlying26 LZ h);rw[C] at h;obtain⟨I,h0,q0⟩:=aP underlying26 h o 0 _ rfl rfl rfl KH Lb;obtain⟨J,h1,q1⟩:=aP underlying26 h o 1 _ rfl rfl rfl KI Lc;obtain⟨R,h2,q2⟩:=aP underlying26 h o 2 _ rfl rfl rfl Fh Cd;obtain⟨Y,h3,q3⟩:=aP underlying26 h o 3 _ rfl rfl rfl Fh Cd;obtain⟨n,h4,q4⟩:=aP underlying26 h o 4 _ rfl rfl rfl mh mo;have e0:cC (iq w) w a I:=dv (c:=a) h0;have e1:rt (iq w) w b J:=dv (c:=b) h1;have e2:mc (iq w) w c R:=dv (c:=c) h2;have e3:mc (iq w) w e Y:=dv (c:=e) h3;have e4:f=.int .i64 n:=(dv (c:=f) h4).1;subst e4;exact⟨⟨I,J,R,Y,n⟩,⟨a,b,c,e,by rw[←Array.toArray_toList (xs:=xs),C],e0,e1,e2,e3,q4⟩,⟨q0.2,q2.2,q3.2⟩⟩
theorem Dw {o:Nat}{xs:Array Value}{d:DataW H}{ps:List MemPlace}(h:DataW.trod enc prog w 0 (fun _=>true) true o 30 xs.toList=some (d,ps))(j:Rows.uptoBulk d≤1048576):∃c,mu (iq w) w (.agg xs) c∧iH c∧il c:=by obtain⟨a,b,c,C⟩:=Mk (jh underlying30 KG h);rw[C] at h;obtain⟨Y,h0,q0⟩:=aP underlying30 h j 0 _ rfl rfl rfl KF KZ;obtain⟨l1,h1,I⟩:=aP underlying30 h j 1 _ rfl rfl rfl KE KW;obtain⟨n,h2,q2⟩:=aP underlying30 h j 2 _ rfl rfl rfl mh mo;have e0:dJ (iq w) w a Y:=dv (c:=a) h0;have e1:qd (iq w) w b l1:=dv (c:=b) h1;have e2:c=.int .i64 n:=(dv (c:=c) h2).1;subst e2;refine⟨⟨Y,l1,n⟩,⟨a,b,by rw[←Array.toArray_toList (xs:=xs),C],e0,e1,fE q2⟩,⟨q0.1,I.1,fun b j=>(I.2 b j).1,fun b j l J=>((I.2 b j).2 l J).1,fun b j l J x R=>(((I.2 b j).2 l J).2 x R).1⟩,⟨fE q2,fun b j x R=>?_⟩⟩;obtain⟨l,J,R⟩:=List.mem_flatten.1 R;exact(((I.2 b j).2 l J).2 x R).2
end
end
section
open Go.ChangeShapes Go.WideShapes Go.ChangeAt Go.RowKit
theorem MS:ownKnob prog.godebug=none:=by kernel_rfl
theorem Gb:laidOutB prog=true:=by kernel_rfl
theorem MZ:prog.globalNamed "interdict/arith.names" =some 3:=by kernel_rfl
theorem IW:(prog.globals[3]?).map (·.type)=some 307:=by kernel_rfl
theorem Nf:prog.cellsOf 307=13:=by kernel_rfl
theorem MY:prog.globalNamed "math/bits.deBruijn64tab" =some 4:=by kernel_rfl
theorem IV:(prog.globals[4]?).map (·.type)=some 308:=by kernel_rfl
theorem Nd:prog.cellsOf 308=64:=by kernel_rfl
theorem aa.keptBut {w j:World}(h:aa All w j)(may:MemPlace→Prop):w.keptBut j may:=by refine⟨h.os,h.output,fun i hi=>?_⟩;rw[h.block i hi trivial];split<;>simp_all
theorem aa.same {w j:World}(h:aa All w j){p:MemPlace}(C:p.block<w.heap.size):w.sameAt j p:=by
 cases p with
 |cell b o=>exact World.cell?_of_block (w:=w) (h.block b C trivial)
 |map b=>exact h.block b C trivial
theorem aa.trod {H:Type}{enc:TypeId×Value→H}{t:TypeId}(J:prog.readableRec t=true)(j:t<prog.types.size){W I:World}{v:Value}{d:DataW H}{ps:List MemPlace}
 (h:DataW.Trod enc prog W 0 (fun _=>true) true t v d ps) (R:aa All W I) (o:∀x∈ps,x.block<W.heap.size):
 DataW.Trod enc prog I 0 (fun b=>decide (b<W.heap.size)) true t v d ps:=
 WideElems.Trod_stays Gb J j h (fun x C=>R.same (o x C)) (fun x C=>by simpa using o x C)
theorem uo {H:Type}{enc:TypeId×Value→H}{P:Program}{w:World}{base:Nat}{sp:Nat→Bool}{held:Bool}{j:Nat}{t e:TypeId}{n:Nat}{cs:List Value}{ss:List (List UInt8)}{p:List MemPlace}
 (ht:P.underlying t=some (.array n e)) (he:P.underlying e=some .string) (C:P.cellsOf e=1) (I:P.cellsOf t=n)
 (h:DataW.trod enc P w base sp held j t cs=some (.agg (ss.map fun s=>.lit (.string s)),p)):cs=ss.map fun s=>Value.string ⟨s.toArray⟩:=by
 cases j with
 |zero=>simp[DataW.trod] at h
 |succ j=>
  simp only[DataW.trod,ht,C,I,Nat.mul_one] at h;split at h;·(
 rename_i hl;obtain⟨xs,hm,hx⟩:=um.1 h;have o:xs.map (·.1)=ss.map fun s=>(DataW.lit (.string s):DataW H):=by have:=congrArg Prod.fst hx;simpa using this
 have a1:xs.length=n:=by simpa using Lib.mapM_length hm
 have a6:ss.length=n:=by have:=congrArg List.length o;simp at this;omega
 apply List.ext_getElem?;intro i;by_cases hi:i<n
 ·obtain⟨b,hb,hf⟩:=Lib.mapM_at hm i i (by simp[hi]);obtain⟨z,hc,rfl,_⟩:=DataW.trod_string he hf;have h1:cs[i]? =some (.string z):=by have:=congrArg (·[0]?) hc;simpa [List.getElem?_take,List.getElem?_drop] using this
  have J:(xs.map (·.1))[i]? =some (DataW.lit (.string z.data.toList):DataW H):=by simp[hb]
  rw[o] at J;simp only[cy,um,DataW.lit.injEq,Lit.string.injEq] at J;obtain⟨z',R,Y⟩:=J;simp[h1,R,Y]
 rw[kS (by omega),kS (by simp;omega)])
  cases h
def Cb:List (List UInt8):=(List.range 13).map fun i=>(lT i).data.toList
def Fo:List Int:=(List.range 64).map fun i=>(Fp i:Int)
theorem Jo {W:World}(h:laidMetH prog Rows.ssaPathsUptoRow.laid W):cP W:=by
 obtain⟨ps,⟨g1,t1,a6,f1,p1,q1,j,o,C,I,⟨g2,t2,a7,f2,p2,q2,J,R,Y,a1,_,_⟩,_⟩,_⟩:=h;obtain rfl:=mB (MZ.symm.trans j);obtain rfl:=mB (IW.symm.trans o);obtain rfl:=mB (MY.symm.trans J);obtain rfl:=mB (IV.symm.trans R);have e1:=uo (ss:=Cb) underlying307 underlying9 Fj Nf I;have e2:=Lib.cells_of_tab (zs:=Fo) underlying308 underlying5 KJ Nd a1;refine⟨fun i hi=>?_,fun i hi=>?_⟩
 ·rw[World.var?_cell MY Y i,←Array.getElem?_toList,e2]
  simp[Fo,hi]
 rw[World.var?_cell MZ C i,←Array.getElem?_toList,e1];simp[Cb,hi]
theorem KV {W:World}(h:W.ShapedOpen prog):pk W:=
 Go.Proofs.cell_of_shapedOpen_int (zero:=#[.int .i64 0]) (t:=3) h (of_decide_eq_true (by kernel_rfl)) (by kernel_rfl) rfl (by kernel_rfl) (by kernel_rfl) underlying3
section
variable {H:Type} {enc:TypeId×Value→H} {w:World}
theorem NX {cs:List Value}(h:cs.length=10):∃a b c d e f g i j k,cs=[a,b,c,d,e,f,g,i,j,k]:=by
 match cs,h with
 | [a,b,c,d,e,f,g,i,j,k],_=>exact⟨a,b,c,d,e,f,g,i,j,k,rfl⟩
theorem NS:prog.cellsOf 4=1:=by kernel_rfl
theorem NK:prog.cellsOf 49=1:=by kernel_rfl
theorem NT:prog.cellsOf 51=10:=by kernel_rfl
theorem NU:eC enc w 4 (io EC) fun _=>True:=fun j cs d ps h _=>by obtain⟨b,rfl,_⟩:=DataW.trod_bool underlying4 h;exact⟨b,⟨_,rfl,rfl⟩,trivial⟩
theorem NN:eC enc w 49 (io qO) fun _=>True:=(pU (eh underlying49 NS (by decide) (by decide) NU)).mono fun _ _=>trivial
def NZ:aT aI:=fun S w cs p=>gR S w (.agg cs.toArray) p
def NW:aT aU:=fun S w cs c=>mu S w (.agg cs.toArray) c
theorem NY:eC enc w 26 NZ jU:=fun _ cs _ _ h j=>Gt (xs:=cs.toArray) (by simpa using h) j
theorem NV:eC enc w 30 NW fun c=>iH c∧il c:=fun _ cs _ _ h j=>Dw (xs:=cs.toArray) (by simpa using h) j
theorem NE {o:Nat}{xs:Array Value}{d:DataW H}{ps:List MemPlace}(h:DataW.trod enc prog w 0 (fun _=>true) true o 51 xs.toList=some (d,ps))(I:Rows.uptoBulk d≤1048576):∃p c fn J,NP (iq w) w (.agg xs) p c fn J∧jU p∧iH c∧il c:=by obtain⟨a,b,c,e,f,g,i,j,k,l,C⟩:=NX (jh underlying51 NT h);rw[C] at h;obtain⟨p,R,Y⟩:=aP underlying51 h I 0 _ rfl rfl rfl LZ NY;obtain⟨q,h1,q1,q2⟩:=aP underlying51 h I 1 _ rfl rfl rfl KG NV;obtain⟨n,h2,q3⟩:=aP underlying51 h I 2 _ rfl rfl rfl mh mo;obtain⟨J,h3,_⟩:=aP underlying51 h I 3 _ rfl rfl rfl NK NN;have e2:k=.int .i64 n:=(dv (c:=k) h2).1;have e3:qO (iq w) w l J:=dv (c:=l) h3;subst e2;exact⟨p,q,n,J,⟨a,b,c,e,f,g,i,j,l,by rw[←Array.toArray_toList (xs:=xs),C],R,h1,zk q3,e3⟩,Y,q1,q2⟩
end
namespace ssaPaths
theorem contract (H:Type)(enc:TypeId×Value→H)(W:World)(base:Nat)(args:Array Value)(J gs:List (DataW H))(before:List MemPlace)
 (o:∀(j:Nat) t v,Tryz.f5.params[j]? =some t→args[j]? =some v→Value.okWide prog W .any base t v)
 (hW:DataW.Whole enc prog Tryz.f5.params.toList Rows.ssaPathsSpec.vars false W args.toList J gs before) (hk:Rows.uptoSmall H (J++gs)=true) (hL:laidMetH prog Rows.ssaPathsUptoRow.laid W) (hM:W.ShapedOpen prog):
 Calls prog 5 args W fun e W'=>∃v,e=.returned v∧Rows.ssaPathsSpec.post enc prog Tryz.f5 false true false false W args v W':=by
 have R:=hW;obtain⟨p,q,C,hV,rfl,b1,b2⟩:=hW;have hA:DataW.TrodAll enc prog W 0 (fun _=>true) true Tryz.f5.params.toList args.toList J p:=C;rw[Tryz.params5] at hA o;obtain⟨v0,b3,d0,b4,p0,q0,Y,rfl,rfl,h0,r0⟩:=trodAll_cons hA;obtain⟨rfl,rfl,rfl⟩:=trodAll_nil r0;obtain rfl:args= #[v0]:=by cases args;simp_all
 obtain⟨rfl,rfl⟩:=trodVars_none hV;obtain⟨x0,rfl,_⟩:=okWide_struct underlying51 (o 0 51 v0 rfl rfl);have hb:=of_decide_eq_true hk;simp only[Rows.uptoBulkAll,List.cons_append,si] at hb;have k0:=h0;have a1:∀x∈p0,x.block<W.heap.size:=by obtain⟨m,hm⟩:=k0;exact DataW.trod_lt m _ _ _ hm
 obtain⟨m0,a6⟩:=h0;obtain⟨p,c,fn,tl,hj,a7,a8,b0⟩:=NE (xs:=x0) a6 (by omega);clear C;refine(NF (iq W) _ p c fn tl W hj (Jo hL) (KV hM) (fun b hb=>hb) a7 a8 b0).mono fun e W' ⟨he,I⟩=>?_;subst he;exact⟨_,rfl,_,_,_,[],_,[],R,trodAll_mk1 (shut_bool underlying4 _),(trodAll_cons_mk (aa.trod (by kernel_rfl) (of_decide_eq_true (by kernel_rfl)) k0 I a1) trodAll_mk0),rfl,I.keptBut _,fun h=>by cases h⟩
def lay (cs:Array Value):Obj→Obj
 |.cells _ t frozen=>.cells cs t frozen
 |o=>o
noncomputable def laidWorld (os:Os):World:=
 {World.holding prog os ⟨#[],#[],[]⟩ with heap:=((((World.holding prog os ⟨#[],#[],[]⟩).heap.modify 4 (lay #[.int .u8 0,.int .u8 1,.int .u8 56,.int .u8 2,.int .u8 57,.int .u8 49,.int .u8 28,.int .u8 3,.int .u8 61,.int .u8 58,.int .u8 42,.int .u8 50,.int .u8 38,.int .u8 29,.int .u8 17,.int .u8 4,.int .u8 62,.int .u8 47,.int .u8 59,.int .u8 36,.int .u8 45,.int .u8 43,.int .u8 51,.int .u8 22,.int .u8 53,.int .u8 39,.int .u8 33,.int .u8 30,.int .u8 24,.int .u8 18,.int .u8 12,.int .u8 5,.int .u8 63,.int .u8 55,.int .u8 48,.int .u8 27,.int .u8 60,.int .u8 41,.int .u8 37,.int .u8 16,.int .u8 46,.int .u8 35,.int .u8 44,.int .u8 21,.int .u8 52,.int .u8 32,.int .u8 23,.int .u8 11,.int .u8 54,.int .u8 26,.int .u8 40,.int .u8 15,.int .u8 34,.int .u8 20,.int .u8 31,.int .u8 10,.int .u8 25,.int .u8 14,.int .u8 19,.int .u8 9,.int .u8 13,.int .u8 8,.int .u8 7,.int .u8 6])).modify 3 (lay #[.string (lT 0),.string (lT 1),.string (lT 2),.string (lT 3),.string (lT 4),.string (lT 5),.string (lT 6),.string (lT 7),.string (lT 8),.string (lT 9),.string (lT 10),.string (lT 11),.string (lT 12)])).modify 2 (lay #[.int .u8 128,.int .u8 191,.int .u8 160,.int .u8 191,.int .u8 128,.int .u8 159,.int .u8 144,.int .u8 191,.int .u8 128,.int .u8 143,.int .u8 0,.int .u8 0,.int .u8 0,.int .u8 0,.int .u8 0,.int .u8 0,.int .u8 0,.int .u8 0,.int .u8 0,.int .u8 0,.int .u8 0,.int .u8 0,.int .u8 0,.int .u8 0,.int .u8 0,.int .u8 0,.int .u8 0,.int .u8 0,.int .u8 0,.int .u8 0,.int .u8 0,.int .u8 0])).modify 1 (lay (Go.Pinned.utf8FirstZ.map fun n:Nat=>Value.int .u8 n).toArray)}
theorem Gc (os:Os):laidMet prog Rows.ssaPathsUptoRow.laid ((laidWorld os).forCall (fun _ _=>0) ⟨#[],#[.agg #[.slice none 0 0,.slice none 0 0,.slice none 0 0,.slice none 0 0,.int .i64 0,.slice none 0 0,.slice none 0 0,.int .i64 0,.int .i64 0,.slice none 0 0]],[]⟩).memory:=
 laidMet_of_run' 8 (by kernel_rfl) (by kernel_rfl)
theorem reads (os:Os){H:Type}(enc:TypeId×Value→H):∃places,DataW.whole enc prog ((laidWorld os).forCall (fun _ _=>0) ⟨#[],#[.agg #[.slice none 0 0,.slice none 0 0,.slice none 0 0,.slice none 0 0,.int .i64 0,.slice none 0 0,.slice none 0 0,.int .i64 0,.int .i64 0,.slice none 0 0]],[]⟩).memory Tryz.f5.params.toList Rows.ssaPathsSpec.vars false (#[.agg #[.slice none 0 0,.slice none 0 0,.slice none 0 0,.slice none 0 0,.int .i64 0,.slice none 0 0,.slice none 0 0,.int .i64 0,.int .i64 0,.slice none 0 0]]:Array Value).toList 8=some ([.agg [.agg [.nil,.nil,.nil,.nil,.lit (.int .i64 0)],.agg [.nil,.nil,.lit (.int .i64 0)],.lit (.int .i64 0),.nil]],[],places):=
 ⟨[],by kernel_rfl⟩
theorem lifted (os:Os)(started:os.Started)(H:Type)(enc:TypeId×Value→H)(F:Stop.Interp):
 ReturnsInHanded {} Tryz.checked os 5 .any ((Rows.OpenSpec.upto Rows.ssaPathsSpec).preRow enc prog Tryz.f5 Rows.ssaPathsUptoRow.domain false Rows.ssaPathsUptoRow.laid) (((Rows.OpenSpec.upto Rows.ssaPathsSpec).at F).post enc prog Tryz.f5 false true false false):=by
 obtain⟨places,I⟩:=reads os enc
 refine returnsInHanded_of_row (C:=Tryz.checked) (s:=Rows.OpenSpec.upto Rows.ssaPathsSpec) MS started (by kernel_rfl) func5
  (witness_row_at (enc:=enc) (C:=Tryz.checked) false (laidWorld os) #[.agg #[.slice none 0 0,.slice none 0 0,.slice none 0 0,.slice none 0 0,.int .i64 0,.slice none 0 0,.slice none 0 0,.int .i64 0,.int .i64 0,.slice none 0 0]] rfl (by kernel_rfl) (by kernel_rfl) (by kernel_rfl)
   (OpenSpec.preRow_of_cond 8 I (by kernel_rfl) (fun k J=>by cases J;kernel_rfl) (by kernel_rfl) (Gc os))) ?_
 intro W base args R gs before o Y _ j _ hL hM _;exact contract H enc W base args R gs before o Y (j _ rfl) hL hM
theorem said:Rows.SsaPathsUptoSaid:=
 OpenClaim.holds_of_cond 5 Tryz.f5 rfl rfl rfl rfl rfl rfl rfl ⟨rfl,rfl,rfl,rfl,rfl⟩ rfl rfl rfl rfl rfl (by kernel_rfl) func5 (by kernel_rfl)
  (of_decide_eq_true (by kernel_rfl)) (by unfold Func.isWrapper;first|(rw[am (by decide+kernel)];kernel_rfl)|(rw[ah (by decide+kernel)];exact⟨rfl,rfl⟩))
  (fun os started H enc _ F=>by rw[OpenClaim.pre_eq_preRow];exact lifted os started H enc F)
theorem plain (f:FuncId)(fn:Func)(R:Tryz.pinned.checked.prog.funcNamed "interdict/interdictlaw13.SsaPaths" =some f)(o:Tryz.pinned.checked.prog.funcs[f]? =some fn):
 true=Tryz.pinned.checked.prog.looks []∧∀(j:Nat) t,fn.params[j]? =some t→Tryz.pinned.checked.prog.wantsStandIn t=false:=by
 obtain rfl:f=5:=mB ((show prog.funcNamed "interdict/interdictlaw13.SsaPaths" =some 5 by kernel_rfl).symm.trans R)|>.symm;obtain rfl:fn=Tryz.f5:=(mB (func5.symm.trans o)).symm;refine⟨by kernel_rfl,fun j t J=>?_⟩;rw[Tryz.params5] at J;have C:=Array.mem_of_getElem? J;have I:t=51:=by simpa using C
 subst I;exact(show prog.wantsStandIn 51=false by kernel_rfl)
theorem card:Rows.SsaPathsUptoCardSaid:=
 Claim7.holds_tied_plain_at .later [] _ _ _ _ said (fun _ h=>by cases h) (by kernel_rfl) (fun _ h=>by cases h) ssaPathsUpto_row_tie rfl ⟨rfl,rfl⟩ (by kernel_rfl) rfl plain (by kernel_rfl)
#print axioms card
end ssaPaths
end
end Go.Proofs.YtccbbkopmlnkpaaGreatDoor
