/- Part 44 of the proof of CallsShallow (its last part says what is proved). No condition. -/
import Derived.Test.YtncdbjponknakaaGreatDoorK41
import Derived.Test.YtncdbjponknakaaGreatDoorK42
namespace Go.Proofs.YtncdbjponknakaaGreatDoor
set_option maxRecDepth 100000
set_option maxHeartbeats 8000000
open Go.RowKit Go.Proofs.Tryz
section
open Go.RowKit Go.WideMaps Go.Maps
theorem Qt:(prog.info? 107).map (fun i=>(i.zero,i.size,i.bytes))=some (some (.agg #[.slice none 0 0,.slice none 0 0]),2,48):=by kernel_rfl
theorem Qw:(prog.info? 111).map (fun i=>(i.zero,i.size,i.bytes))=some (some (.agg #[.int .i64 0,.map none]),2,16):=by kernel_rfl
theorem Qs:(prog.info? 20).map (fun i=>(i.zero,i.size,i.bytes))=some (some .nilIface,1,16):=by kernel_rfl
theorem PQ (n:Nat)(Y:n≤100000)(w:World):(Instr.makeSlice 71 (.int .i64 n) (.int .i64 n)).run prog w=.ok (.slice (some ⟨w.heap.size,0,none⟩) n n) (w.alloc (.cells (dM (n*2) fun _=>.slice none 0 0) 107)):=by
 obtain⟨i3,hi,C,J,R⟩:=info_parts Qt;rw[run_make (P:=prog) w 71 107 i3 (.agg #[.slice none 0 0,.slice none 0 0]) underlying71 hi C .i64 .i64 n n (by omega) (by omega) (by rw[R];omega) (by omega)];have e:madeCells (Value.agg #[.slice none 0 0,.slice none 0 0]).cells ((n:Int).toNat*i3.size)=dM (n*2) fun _=>.slice none 0 0:=by(
 rw[J,dP];apply Array.ext_getElem?;intro j;by_cases o:j<n*2
 ·rw[cq o]
  have l:j%2=0∨j%2=1:=by omega
  rcases l with l|l<;>simp[madeCells,o,Value.cells,l]
 rw[jK (by rw[size_madeCells];omega),jK (by rw[ew];omega)])
 rw[e,dP]
structure OV (B:Nat)(w:World)(u v:Value)(lp lo:List bz):Prop where
 phi:∃css:List (List Value),w.ownsRow B 111 2 u lp.length css.flatten∧css.length=lp.length∧∀(i:Nat) x,lp[i]? =some x→∃g,css[i]? =some [.int .i64 x.dst,.map (some g)]∧B≤g∧nq w g x.args
 op:∃vs:List Value,w.ownsRow B 20 1 v lo.length vs∧∀(i:Nat) x,lo[i]? =some x→∃a,vs[i]? =some (ct x a)∧aK (fun b=>B≤b∧b<w.heap.size∧u.ownBlock≠some b∧v.ownBlock≠some b) w a (if x.kind=7 then x.args else [])∧jx x
section
variable {B:Nat} {w w':World} {u v:Value} {lp lo:List bz}
theorem OV.nil:OV B w (.slice none 0 0) (.slice none 0 0) [] []:=
 ⟨⟨[],⟨rfl,.inl ⟨rfl,rfl⟩⟩,rfl,fun i x h=>by simp at h⟩,⟨[],⟨rfl,.inl ⟨rfl,rfl⟩⟩,fun i x h=>by simp at h⟩⟩
theorem OV.keep {S:Nat→Prop}(h:OV B w u v lp lo)(k:aa S w w')(l:∀b,B≤b→S b):OV B w' u v lp lo:=by
 obtain⟨⟨C,Z,h2,h3⟩,vs,h4,h5⟩:=h;refine⟨⟨C,be Z k fun b j=>l b (aD Z j).1,h2,fun i x J=>?_⟩,vs,be h4 k fun b j=>l b (aD h4 j).1,fun i x J=>?_⟩
 ·obtain⟨g,R,o,Y⟩:=h3 i x J
  exact⟨g,R,o,Y.keep k (l g o)⟩
 obtain⟨a,R,o,Y⟩:=h5 i x J;exact⟨a,R,ah.wide (fun b (j:B≤b∧b<w.heap.size∧u.ownBlock≠some b∧v.ownBlock≠some b)=>⟨j.1,Nat.lt_of_lt_of_le j.2.1 k.size,j.2.2⟩) (ah.keep (k.mono fun b j=>l b j.1) o),Y⟩
theorem OV.forms (h:OV B w u v lp lo):(∃A c,u=.slice A lp.length c)∧∃A c,v=.slice A lo.length c:=by obtain⟨⟨j,l,_⟩,C,o,_⟩:=h;exact⟨aU l,aU o⟩
theorem QC {t J:TypeId}{size j n R:Nat}{xs o:List Value}(h:w.ownsRow B t size u n xs)(h':w.ownsRow B J j v R o)(Y:t≠J){b:Nat}(Z:u.ownBlock=some b):v.ownBlock≠some b:=by intro C;obtain⟨_,c1,f1,e1⟩:=Nu h Z;obtain⟨_,c2,f2,l⟩:=Nu h' C;rw[e1] at l;injection l with l;injection l with _ l;exact Y l
theorem OP {t:TypeId}{size n g:Nat}{xs:List Value}{l:List Int}(h:w.ownsRow B t size v n xs)(hm:nq w g l):v.ownBlock≠some g:=by intro j;obtain⟨_,cs,C,e⟩:=Nu h j;obtain⟨D,m,⟨es,clock,o,_⟩,_⟩:=hm;rw[o] at e;cases e
theorem OV.addOp {x:bz}{l y a:Value}{C:List Value}(h:OV B w u v lp lo)(Z:∀(i:Nat) x,lo[i]? =some x→∃a,C[i]? =some (ct x a)∧aK (fun b=>B≤b∧b<w.heap.size∧u.ownBlock≠some b∧v.ownBlock≠some b) w a (if x.kind=7 then x.args else [])∧jx x)(hv:w.ownsRow B 20 1 v lo.length C)
 (k:aa (fun b=>v.ownBlock≠some b) w w') (J:w'.ownsRow B 20 1 l (lo.length+1) (C++[y])) (hy:y=ct x a) (ha:aK (fun b=>w.heap.size≤b∧b<w'.heap.size∧l.ownBlock≠some b) w' a (if x.kind=7 then x.args else [])) (hw:jx x) (hB:B≤w.heap.size)
 (a1:l.ownBlock=v.ownBlock∨∀g,l.ownBlock=some g→w.heap.size≤g):OV B w' u l lp (lo++[x]):=by
 obtain⟨⟨a6,h1,h2,h3⟩,_⟩:=h;have hu:∀b,u.ownBlock=some b→v.ownBlock≠some b:=fun b hb=>QC h1 hv (by decide) hb;refine⟨⟨a6,be h1 k hu,h2,fun i x hx=>?_⟩,C++[y],by rw[iQ];exact J,fun i z o=>?_⟩
 ·obtain⟨g,q1,q2,Y⟩:=h3 i x hx
  exact⟨g,q1,q2,Y.keep k (OP hv Y)⟩
 have R:C.length=lo.length:=by have:=hv.1;omega
 by_cases hi:i<lo.length
 ·rw[ma hi] at o;obtain⟨b,q1,q2,Y⟩:=Z i z o;refine⟨b,by rw[ma (by omega)];exact q1,ah.wide (fun c (j:B≤c∧c<w.heap.size∧u.ownBlock≠some c∧v.ownBlock≠some c)=>⟨j.1,Nat.lt_of_lt_of_le j.2.1 k.size,j.2.2.1,?_⟩) (ah.keep (k.mono fun c j=>j.2.2.2) q2),Y⟩;rcases a1 with e|e;·rw[e];exact j.2.2.2
  intro e2;have:=e c e2;have:=j.2.1;omega
 rw[kH (by omega)] at o;have h0:i-lo.length=0:=by have:=(lS.1 o).1;simp at this;omega
 rw[h0] at o;cases o;refine⟨a,by rw[kH (by omega),R,h0,hy];rfl,ah.wide (fun c (j:w.heap.size≤c∧c<w'.heap.size∧l.ownBlock≠some c)=>⟨by omega,j.2.1,fun e=>?_,j.2.2⟩) ha,hw⟩;have:=(aD h1 e).2;have:=j.1;omega
theorem OV.addPhi {x:bz}{J:Value}{g:Nat}{j:List (List Value)}(h:OV B w u v lp lo)(l:j.length=lp.length)(Y:∀(i:Nat) x,lp[i]? =some x→∃g,j[i]? =some [.int .i64 x.dst,.map (some g)]∧B≤g∧nq w g x.args)(hu:w.ownsRow B 111 2 u lp.length j.flatten)
 (k:aa (fun b=>u.ownBlock≠some b) w w') (C:w'.ownsRow B 111 2 J (lp.length+1) (j.flatten++[.int .i64 x.dst,.map (some g)])) (hg:B≤g) (hm:nq w g x.args) (Z:J.ownBlock=u.ownBlock∨∀g,J.ownBlock=some g→w.heap.size≤g):OV B w' J v (lp++[x]) lo:=by
 obtain⟨_,vs,h4,h5⟩:=h;have hv:∀b,v.ownBlock=some b→u.ownBlock≠some b:=fun b hb=>QC h4 hu (by decide) hb;refine⟨⟨j++[[.int .i64 x.dst,.map (some g)]],by rw[iQ,List.flatten_append,List.flatten_singleton];exact C,by simp[l],fun i z o=>?_⟩,vs,be h4 k hv,fun i z o=>?_⟩
 ·by_cases hi:i<lp.length
  ·rw[ma hi] at o
   obtain⟨g2,q1,q2,R⟩:=Y i z o;exact⟨g2,by rw[ma (by omega)];exact q1,q2,R.keep k (OP hu R)⟩
  rw[kH (by omega)] at o;have h0:i-lp.length=0:=by have:=(lS.1 o).1;simp at this;omega
  rw[h0] at o;cases o;exact⟨g,by rw[kH (by omega),l,h0];rfl,hg,hm.keep k (OP hu hm)⟩
 obtain⟨a,q1,q2,R⟩:=h5 i z o;refine⟨a,q1,ah.wide (fun c (l:B≤c∧c<w.heap.size∧u.ownBlock≠some c∧v.ownBlock≠some c)=>⟨l.1,Nat.lt_of_lt_of_le l.2.1 k.size,?_,l.2.2.2⟩) (ah.keep (k.mono fun c l=>l.2.2.1) q2),R⟩;rcases Z with e|e;·rw[e];exact l.2.2.1
 intro e2;have:=e c e2;have:=l.2.1;omega
theorem OV.read {l:List bz}{ob:Nat}(h:OV B w u v (NF l) (Nv l))(a1:ob<B)(h1:l.length≤100000):QS (fun b=>B≤b∧b<w.heap.size∧b≠ob) w [u,v] l:=by
 obtain⟨⟨o,Z,h3,h4⟩,vs,C,h6⟩:=h;have a6:(NF l).length≤l.length:=List.length_filter_le _ _;have a7:(Nv l).length≤l.length:=List.length_filter_le _ _;refine⟨u,v,rfl,?_,?_⟩
 ·obtain⟨hl,Z⟩:=Z;rcases Z with ⟨rfl,h0⟩|⟨g,cap,cur,rfl,J,hh,hc,hm,hs,ht⟩
  ·have:NF l=[]:=oD h0
   rw[this];exact rx.nil
  refine⟨_,_,rfl,hc,hm,by omega,fun i x R=>?_⟩;obtain⟨g2,q1,q2,Y⟩:=h4 i x R;refine⟨g,0,_,rfl,⟨J,al.lt (w:=w) (t:=111) (cs:=cur) hh,by omega⟩,rfl,fun j c hj=>?_,g2,rfl,⟨q2,Y.lt,by omega⟩,Y⟩;have hn:∀c∈o,c.length=2:=fun c hc=>by obtain⟨m,hm⟩:=cY.1 hc;have a8:=(lS.1 hm).1;obtain⟨g3,r1,_⟩:=h4 m _ (lG (by omega));rw[hm] at r1;cases r1;rfl
  have hf:=wN o hn i _ q1 j c hj;have b0:j<2:=(lS.1 hj).1;have b1:=(lS.1 R).1;rw[←ht,rY (by omega)] at hf;rw[cN,al.cell (w:=w) (t:=111) (cs:=cur) hh,←Array.getElem?_toList];exact hf
 refine Sl.of_own C (by omega) (fun g hg=>⟨(aD C hg).1,(aD C hg).2,by have:=(aD C hg).1;omega⟩) fun i x R=>?_;obtain⟨a,q1,q2,Y⟩:=h6 i x R;exact⟨_,q1,a,rfl,ah.wide (fun b (J:B≤b∧b<w.heap.size∧u.ownBlock≠some b∧v.ownBlock≠some b)=>⟨J.1,J.2.1,by omega⟩) q2,Y⟩
end
theorem nq.new (w:World)(l:List Int):nq (w.alloc (.map #[] 0)) w.heap.size l:=⟨_,0,World.ownsMap_made _ _ _ _,tidy_empty,Nat.zero_le _,fun _=>⟨0,rfl,.inl rfl⟩⟩
end
theorem dR.push {α:Type}{e:TypeId}{E:cO α}{B:Nat}{w J:World}{v R y:Value}{l:List α}{j:List (List Value)}{P Q:Nat→Prop}{x:α}(g:cO.Good E)(h2:j.length=l.length)(h3:∀cs∈j,cs.length=1)(h4:∀b,P b→B≤b∧b<w.heap.size∧v.ownBlock≠some b)(h5:∀(i:Nat) x,l[i]? =some x→∃cs,j[i]? =some cs∧E P w cs x)
 (k:aa (fun b=>v.ownBlock≠some b) w J) (Y:J.ownsRow B e 1 R (l.length+1) (j.flatten++[y])) (hQ:∀b,Q b→B≤b∧b<J.heap.size∧R.ownBlock≠some b) (hE:E Q J [y] x) (a1:R.ownBlock=v.ownBlock∨∀g,R.ownBlock=some g→w.heap.size≤g):dR 1 e E B J R (l++[x]):=by
 refine⟨j++[[y]],fun b=>P b∨Q b,by rw[iQ,List.flatten_append,List.flatten_singleton];exact Y,by simp[h2],fun c Z=>?_,fun b o=>?_,fun i z C=>?_⟩
 ·rcases eD.1 Z with Z|Z
  ·exact h3 c Z
  rw[cx.1 Z];rfl
 ·rcases o with o|o
  ·have:=h4 b o;refine⟨this.1,Nat.lt_of_lt_of_le this.2.1 k.size,fun e2=>?_⟩;rcases a1 with e3|e3;·exact this.2.2 (e3.symm.trans e2)
   have:=e3 b e2;omega
  exact hQ b o
 by_cases hi:i<l.length
 ·rw[ma hi] at C
  obtain⟨cs,q1,q2⟩:=h5 i z C;exact⟨cs,by rw[ma (by omega)];exact q1,g.wide (fun b o=>.inl o) (g.keep (k.mono fun b o=>(h4 b o).2.2) q2)⟩
 rw[kH (by omega)] at C;have h0:i-l.length=0:=by have:=(lS.1 C).1;simp at this;omega
 rw[h0] at C;cases C;exact⟨[y],by rw[kH (by omega),h2,h0];rfl,g.wide (fun b o=>.inr o) hE⟩
theorem Pq (S:Nat→Prop)(cv:Value)(c:aE)(w:World)(h:cQ S w cv c):Calls prog 15 #[cv] w fun e w'=>∃r:Bool,e=.returned (.bool r)∧aa All w w'∧(r=true→Pj c):=by
 obtain⟨ka,kf,rfl,b8,a8,b9⟩:=h;have hF:=bV.la a8;obtain⟨A1,c1,rfl,_⟩:=b8;obtain⟨A2,c2,rfl,_,_,c0,_⟩:=id a8;obtain⟨n,hn⟩:=eQ c.Nf.length;obtain⟨na,b2⟩:=eQ c.Nd.length;have d7:n≤c.Nf.length:=eE hn;have c5:c.Nf.length≤n:=eE hn.symm;rw[←hn] at hF c0;rw[←hn,←b2];obtain⟨W1,a1⟩:=eQ (w.alloc (.cells #[.slice A1 na c1,.slice A2 n c2,.int .i64 c.main] 30));have b3:aa All w W1:=by rw[a1];exact kR.alloc _
 have k1:W1.cell? ⟨w.heap.size,1,none⟩=some (.slice A2 n c2):=by rw[a1];exact(al.new _ _ _).cell 1
 have HW:=J3 a1 b3 hF;clear a1 b3 hF a8 b9 hn b2;go_enter func15,ntmps15;go_upto_region 1 with fail;rw[←HW.1];go_upto_region 2 with fail;clear k1;go_loopg [10] n (fun gg c6 wr=>∃k:Nat,k≤n∧gg=n-k∧c6=.int .i64 k∧aa All W1 wr∧∀b∈c.Nf.take k,∀l∈b.Ng,∀x∈l,0≤x.Nj);·exact⟨0,by omega,by omega,rfl,kR,fun x hx=>by simp at hx⟩
 obtain⟨k,hk,rfl,rfl,J,R⟩:=hrel;by_cases d8:k<n;·(
 obtain⟨b,hb⟩:∃b,c.Nf[k]? =some b:=⟨_,lG (by omega)⟩;obtain⟨wo,c7⟩:=eQ wr;subst c7;obtain⟨fb,fo,d9,rfl,_,_,a6,u,rfl,o,_⟩:=aZ (HW.2.2 wo (HW.2.1.trans J)) hb;have f0:=a6 0 _ rfl;have f1:=a6 1 _ rfl;have f2:=a6 2 _ rfl;rw[dj] at f0;have b0:=bg.la o;obtain⟨A3,c3,rfl,_,_,b4,_⟩:=id o;obtain⟨m,hm⟩:=eQ b.Ng.length;have e0:m≤b.Ng.length:=eE hm;have c8:b.Ng.length≤m:=eE hm.symm;rw[←hm] at f2 b0 b4;obtain⟨W5,a7⟩:=eQ (wo.alloc (.cells #[.int .i64 b.params,.int .i64 b.vars,.slice A3 m c3] 43));have b5:aa All wo W5:=by rw[a7];exact kR.alloc _
 have g2:W5.cell? ⟨wo.heap.size,2,none⟩=some (.slice A3 m c3):=by rw[a7];exact(al.new _ _ _).cell 2
 have HR:=J6 J R hb b0 a7 b5;clear J R hb b0 a7 b5 hm o a6;go_upto_region 4 with fail;rw[←HR.2.2.2.2.1];clear f0 f1 f2;go_upto_region 5 with fail;clear g2;go_loopg [17] m (fun gg c9 wr=>∃j:Nat,j≤m∧gg=m-j∧c9=.int .i64 j∧aa All W5 wr∧∀l∈b.Ng.take j,∀x∈l,0≤x.Nj);·exact⟨0,by omega,by omega,rfl,kR,fun x hx=>by simp at hx⟩
 obtain⟨j,hj,rfl,rfl,Y,Z⟩:=hrel;by_cases e1:j<m;·(
 obtain⟨l,hl⟩:∃l,b.Ng[j]? =some l:=⟨_,lG (by omega)⟩;obtain⟨rb,ro,rv,rfl,_,b6,b1⟩:=bn (HR.2.2.2.1 wr (HR.2.2.2.2.2.trans Y)) hl;have HC:=oH (OY _ rv l wr b1);obtain⟨A4,c4,rfl,_⟩:=id (show tZ _ wr rv l from b1);obtain⟨q,hq⟩:=eQ l.length;rw[←hq] at b6 HC;have HJ:=J3 Y Z hl;clear Y Z hl b1 hq;go_wp2_with fail;refine HC.out.mono ?_;rintro e w2 ⟨r,rfl,b7,hr⟩;have HK:=J2 b7 hr;clear b7 hr b6;cases r with
 |true=>go_wp2_with fail;go_ret;exact⟨false,rfl,((HW.2.1.trans HR.1).trans (HR.2.2.2.2.2.trans HJ.1)).trans HK.1,fun h=>by cases h⟩
 |false=>
  go_wp2_with fail;go_roundg (m-(j+1))
  case measure=>omega
  case rel=>exact⟨j+1,by omega,rfl,by go_num,HJ.1.trans HK.1,fun z C=>by
   rw[cU,HJ.2.2] at C;rcases eD.1 C with C|C;·exact HJ.2.1 z C
   rw[show z=l by simpa using C];exact HK.2 (by simp)⟩)
 obtain rfl:j=m:=by omega
 rw[oF c8] at Z;have HJ:=J2 Y Z;clear Y Z;go_wp2_with fail;go_roundg (n-(k+1))
 case measure=>omega
 case rel=>exact⟨k+1,by omega,rfl,by go_num,HR.1.trans (HR.2.2.2.2.2.trans HJ.1),fun z C=>by
  rw[cU,HR.2.2.1] at C;rcases eD.1 C with C|C;·exact HR.2.1 z C
  rw[show z=b by simpa using C];exact HJ.2⟩)
 obtain rfl:k=n:=by omega
 rw[oF c5] at R;have HZ:=J2 J R;clear J R;go_wp2_with fail;go_ret;exact⟨true,rfl,HW.2.1.trans HZ.1,fun _=>HZ.2⟩
theorem Rw (S:Nat→Prop)(v:Value)(l:List (List Int))(w:World)(k:Nat)(h:Rows S w v l):∃A n c,aK S w (.slice A n c) (l.getD k [])∧∀wn,aa S w wn→Calls prog 33 #[v,.int .i64 (k:Nat)] wn fun e w'=>e=.returned (.slice A n c)∧aa All wn w':=by
 obtain⟨A,c,rfl,_⟩:=id h;obtain⟨n,C⟩:=eQ l.length;by_cases a1:k<n
 ·obtain⟨x,J⟩:∃x,l[k]? =some x:=⟨_,lG (by omega)⟩;obtain⟨xb,xo,xv,rfl,R,o,j⟩:=bn h J;have Z:l.getD k []=x:=by rw[iG,J];rfl
  obtain⟨xa,ca,rfl,_⟩:=id j;refine⟨xa,x.length,ca,by rw[Z];exact j,fun wn hk=>?_⟩;have Y:=hk.cell (p:=⟨xb,xo+k,none⟩) R o;obtain⟨m,hm⟩:=eQ x.length;rw[←hm] at Y⊢;rw[←C];clear o J j Z hm C h hk;go_enter func33,ntmps33;go_wp2_with fail;go_ret;exact⟨rfl,kR⟩
 refine⟨none,0,0,?_,fun wn _=>?_⟩
 ·rw[iG,jz (by omega)]
  exact Av
 rw[←C];clear C h;go_enter func33,ntmps33;go_wp2_with fail;go_ret;exact⟨rfl,kR⟩
theorem Pr (S:Nat→Prop)(pv iv:Value)(p:aH)(Nb:List (List Int))(w:World)(hp:dJ S w pv p)(hi:Rows S w iv Nb)(hl:gz w)(a7:dD p):Calls prog 28 #[pv,iv] w fun e w'=>∃r:Bool,e=.returned (.bool r)∧aa All w w'∧(r=true→Nb.length≤p.Nb.length):=by
 have J:=cB.la hp;have R:=aq.la hi;obtain⟨b7,vu,vi,vo,rfl,b1,b2,b3,b4,b5⟩:=hp;obtain⟨a1,c1,rfl,_⟩:=b1;obtain⟨a2,c2,rfl,_⟩:=b2;obtain⟨a3,c3,rfl,_⟩:=b3;obtain⟨a4,c4,rfl,_⟩:=b4;obtain⟨ai,ci,rfl,_⟩:=hi;obtain⟨n1,Y⟩:=eQ p.MZ.length;obtain⟨n2,Z⟩:=eQ p.up.length;obtain⟨n3,l⟩:=eQ p.Nb.length;obtain⟨n4,a6⟩:=eQ p.Na.length;rw[←Y,←Z,←l,←a6] at J;rw[←Y,←Z,←l,←a6];obtain⟨ni,o⟩:=eQ Nb.length;rw[←o] at R;rw[←o];obtain⟨W1,C⟩:=eQ (w.alloc (.cells #[.slice a1 n1 c1,.slice a2 n2 c2,.slice a3 n3 c3,.slice a4 n4 c4,.int .i64 p.Nc] 26));have j:aa All w W1:=by rw[C];exact kR.alloc _
 have bP:al W1 w.heap.size 26 #[.slice a1 n1 c1,.slice a2 n2 c2,.slice a3 n3 c3,.slice a4 n4 c4,.int .i64 p.Nc]:=by rw[C];exact al.new _ _ _
 obtain⟨p0,p1,p2,p3,p4⟩:=bP.c5;have hR:=mo S _ p W1 (J W1 j) (hl.keep j);rw[av a7] at hR;have HR:=oH hR;have HI:=oH (fun wn (hk:aa All W1 wn)=>OX S _ Nb wn (R wn (j.trans hk)));have HW:=J5 C j bP l o;clear C j bP J R hR b5 o hl a7 Y Z l a6;go_enter func28,ntmps28;go_upto_region 1 with fail;rw[←HW.1];go_wp2_with fail;refine HR.out.mono ?_;rintro e w1 ⟨rfl,j⟩;have a8:=HW.2.2.1.kept j trivial;have q2:=a8.cell 2;simp only[gc] at q2;have HK:=oH j;clear j a8 p0 p1 p2 p3 p4;by_cases b8:ni≤n3
 ·have t1:decide ((ni:Int)≤(n3:Int))=true:=by simp;omega
  have t2:decide (ni≤n3)=true:=by simp;omega
  go_wp2_with fail;refine(HI.out w1 HK.out).mono ?_;rintro e w2 ⟨r,rfl,b0,_⟩;have b6:=oH b0;clear b0;go_wp2_with fail;go_ret;exact⟨!r,rfl,HW.2.1.trans (HK.out.trans b6.out),fun _=>by have h1:=HW.2.2.2.1;have h2:=HW.2.2.2.2;omega⟩
 have t1:decide ((ni:Int)≤(n3:Int))=false:=by simp;omega
 have t2:decide (ni≤n3)=false:=by simp;omega
 go_wp2_with fail;go_ret;exact⟨false,rfl,HW.2.1.trans HK.out,fun h=>by cases h⟩
def NC (n:Nat)(u:Value):Prop:=∃A c,u=.slice A n c
theorem OZ:(prog.info? 35).map (fun i=>(i.zero,i.size,i.bytes))=some (some (.slice none 0 0),1,24):=by kernel_rfl
def QU (p:aH)(Nb:List (List Int))(w:World)(e:Ending)(w':World):Prop:=(e=.returned (.tuple #[.pointer none,.int .i64 1])∧aa All w w')∨(Nb.length≤p.Nb.length∧∃(bb tb:Nat) (av lv uv iv ov:Value) (L:List (List Int)),e=.returned (.tuple #[.pointer (some ⟨bb,0,none⟩),.int .i64 0])∧aa All w w'∧w.heap.size≤bb∧w.heap.size≤tb∧
 al w' bb 97 #[av,.slice (some ⟨tb,0,none⟩) p.Nb.length p.Nb.length,lv,uv,iv,ov,.int .i64 p.Nc,.slice none 0 0]∧al w' tb 3 (aN p.Nb.length fun _=>0)∧Rows (fun b=>w.heap.size≤b∧b<w'.heap.size∧b≠bb∧b≠tb) w' av L∧L.length=p.Nb.length∧(∃a c,lv=.slice a p.MZ.length c)∧∃a c,ov=.slice a p.Na.length c)
def Ow (W:World)(xs:List Int)(y:Value)(w:World):Prop:=(∃A c,y=.slice A xs.length c)∧aK (fun b=>W.heap.size≤b∧b<w.heap.size) w y xs
theorem Ow.keep {W:World}{xs:List Int}{v y:Value}{w o:World}(j:∀b,v.ownBlock=some b→b<W.heap.size)(k:aa (fun b=>v.ownBlock≠some b) w o)(h:Ow W xs y w):Ow W xs y o:=
 ⟨h.1,ah.wide (fun b (l:W.heap.size≤b∧b<w.heap.size)=>⟨l.1,Nat.lt_of_lt_of_le l.2 k.size⟩) (ah.keep (k.mono fun b l e=>by have:=j b e;omega) h.2)⟩
theorem Rj (S:Nat→Prop)(pv iv:Value)(p:aH)(R:List (List Int))(w:World)(hp:dJ S w pv p)(hi:Rows S w iv R)(hl:gz w)(i2:dD p)(hS:∀b,S b→b<w.heap.size):Calls prog 13 #[pv,iv] w (QU p R w):=by
 obtain⟨iN,k0,k1,k2,k3⟩:=info_parts OZ;have IN:=J4 k0 k1 k2 k3;clear k0 k1 k2 k3;have i4:=cB.la hp;have e4:=fun wn (j:aa S w wn)=>aq.keep j hi;obtain⟨o4,vu,vi,vo,rfl,k4,k5,k6,k7,m8⟩:=hp;have i5:=fun wn (j:aa All w wn)=>rB (ax.keep j.all k4);have i6:=fun wn (j:aa All w wn)=>rB (dU.keep j.all k5);have i7:=aX.la k6;have j0:=aX.la k7;obtain⟨a1,c1,rfl,_⟩:=k4;obtain⟨a2,c2,rfl,_⟩:=k5;obtain⟨a3,c3,rfl,_,_,m9,_⟩:=k6;obtain⟨a4,c4,rfl,_⟩:=k7;obtain⟨ai,ci,rfl,_⟩:=id hi;obtain⟨n1,c6⟩:=eQ p.MZ.length;obtain⟨n2,c7⟩:=eQ p.up.length;obtain⟨o,a7⟩:=eQ p.Nb.length;obtain⟨n4,c8⟩:=eQ p.Na.length;rw[←c6,←c7,←a7,←c8] at i4;rw[←c6] at i5;rw[←c7] at i6;rw[←a7] at i7;rw[←c8] at j0;rw[←c6,←c7,←a7,←c8];obtain⟨ni,e5⟩:=eQ R.length;rw[←e5] at e4;rw[←e5];rw[←a7] at m9;have o0:o≤32:=by rw[a7];exact i2.2.2.2.2.2.1.1
 obtain⟨W1,e6⟩:=eQ (w.alloc (.cells #[.slice a1 n1 c1,.slice a2 n2 c2,.slice a3 o c3,.slice a4 n4 c4,.int .i64 p.Nc] 26));have J:aa All w W1:=by rw[e6];exact kR.alloc _
 have bP:al W1 w.heap.size 26 #[.slice a1 n1 c1,.slice a2 n2 c2,.slice a3 o c3,.slice a4 n4 c4,.int .i64 p.Nc]:=by rw[e6];exact al.new _ _ _
 obtain⟨p0,p1,p2,p3,p4⟩:=bP.c5;have hR:=Pr S _ _ p R W1 (i4 W1 J) (e4 W1 J.all) (hl.keep J) i2;have HR:=oH hR;have HQ:=J6 i5 i6 i7 j0 e4 hS;have HL:=J5 c6 c7 a7 c8 e5;have HW:=J3 e6 J bP;clear e6 J bP i4 e4 hR m8 e5 hl i2 i5 i6 i7 j0 hi hS c6 c7 a7 c8;go_enter func13,ntmps13;go_upto_region 1 with fail;rw[←HW.1];go_wp2_with fail;refine HR.out.mono ?_;rintro e w1 ⟨r,rfl,J,hr⟩;have h0:=HW.2.1.trans J;have k8:=HW.2.2.kept J trivial;have H1:=J3 h0 k8 hr;clear J hr h0 k8 p0 p1 p2 p3 p4;cases r with
 |false=>go_wp2_with fail;exact bodyPost_ret (v:=.tuple #[.pointer none,.int .i64 1]) (by simp[results,Tryz.f13]) rfl (.inl ⟨rfl,H1.1⟩)
 |true=>
  go_wp2_with fail;have HF:=oH (show∀wn,aa All w1 wn→wn.cell? ⟨w.heap.size,0,none⟩=some (.slice a1 n1 c1)∧wn.cell? ⟨w.heap.size,1,none⟩=some (.slice a2 n2 c2)∧wn.cell? ⟨w.heap.size,2,none⟩=some (.slice a3 o c3)∧wn.cell? ⟨w.heap.size,3,none⟩=some (.slice a4 n4 c4)∧wn.cell? ⟨w.heap.size,4,none⟩=some (.int .i64 p.Nc) from fun wn j=>⟨(H1.2.1.kept j trivial).cell 0,(H1.2.1.kept j trivial).cell 1,(H1.2.1.kept j trivial).cell 2,(H1.2.1.kept j trivial).cell 3,(H1.2.1.kept j trivial).cell 4⟩);refine R0 7 w1 (fun i=>if i=2 then some (NC n1) else if i=5 then some (NC n2) else none) ?_;refine O0 ?_;refine O4 HF.out ?_;refine O6 (fun wn j hp=>?_) (fun wn j hp=>?_) ?_;·go_simp;refine(OB _ p.MZ wn (HQ.1 wn (H1.1.trans j))).mono ?_;rintro en wq ⟨A,c,rfl,l,_⟩;exact .inl ⟨rfl,_,rfl,(show NC n1 (.slice A p.MZ.length c) from⟨A,c,by rw[HL.1]⟩),j.trans l,fun _ _ _ h=>h,fun d C Y=>(by cases Y)⟩
  ·obtain⟨en,wq,_,⟨A,c,rfl,l,_⟩,_⟩:=(OB _ p.MZ wn (HQ.1 wn (H1.1.trans j))) []
   exact⟨_,wq,(show NC n1 (.slice A p.MZ.length c) from⟨A,c,by rw[HL.1]⟩),j.trans l,fun _ _ _ h=>h,fun d C Y=>(by cases Y)⟩
  rintro v ⟨b1,d1,rfl⟩;simp only[PS];refine O0 ?_;refine O4 HF.out ?_;refine O6 (fun wn j hp=>?_) (fun wn j hp=>?_) ?_;·go_simp;refine(OC _ p.up wn (HQ.2.1 wn (H1.1.trans j))).mono ?_;rintro en wq ⟨A,c,rfl,l,_⟩;exact .inl ⟨rfl,_,rfl,(show NC n2 (.slice A p.up.length c) from⟨A,c,by rw[HL.2.1]⟩),j.trans l,fun _ _ _ h=>h,fun d C Y=>(by cases Y)⟩
  ·obtain⟨en,wq,_,⟨A,c,rfl,l,_⟩,_⟩:=(OC _ p.up wn (HQ.2.1 wn (H1.1.trans j))) []
   exact⟨_,wq,(show NC n2 (.slice A p.up.length c) from⟨A,c,by rw[HL.2.1]⟩),j.trans l,fun _ _ _ h=>h,fun d C Y=>(by cases Y)⟩
  rintro v ⟨b2,d2,rfl⟩;simp only[PS];refine O0 ?_;refine aG fun w2 c9 _=>?_;have H2:=oH c9;clear c9;simp only[dK];have d7:=H1.2.1.kept H2.out trivial;obtain⟨q0,q1,q2,q3,q4⟩:=d7.c5;have f0:=d7.free 0;have f1:=d7.free 1;have k9:=J2 d7 (H1.1.trans H2.out);clear d7;go_wp2_with fail;have d8:=(k9.1.set 0 (.slice b1 n1 d1)).set 1 (.slice b2 n2 d2);have l0:aa All w _:=(k9.2.setCell (p:=⟨w.heap.size,0,none⟩) (.inr (cf _)) (.slice b1 n1 d1)).setCell (p:=⟨w.heap.size,1,none⟩) (.inr (cf _)) (.slice b2 n2 d2);simp only[ga] at d8;generalize (w2.setCell _ _).setCell _ _=W3 at*;have H3:=J2 d8 l0;clear d8 l0 q0 q1 q2 q3 q4 f0 f1;have l1:=oH (show∀wn,aa All W3 wn→wn.cell? ⟨w.heap.size,0,none⟩=some (.slice b1 n1 d1)∧wn.cell? ⟨w.heap.size,1,none⟩=some (.slice b2 n2 d2)∧wn.cell? ⟨w.heap.size,2,none⟩=some (.slice a3 o c3)∧wn.cell? ⟨w.heap.size,3,none⟩=some (.slice a4 n4 c4)∧wn.cell? ⟨w.heap.size,4,none⟩=some (.int .i64 p.Nc) from fun wn j=>⟨(H3.1.kept j trivial).cell 0,(H3.1.kept j trivial).cell 1,(H3.1.kept j trivial).cell 2,(H3.1.kept j trivial).cell 3,(H3.1.kept j trivial).cell 4⟩);refine R0 7 W3 (fun i=>if i=2 then some (NC o) else if i=5 then some (NC n4) else none) ?_;refine O0 ?_;refine O4 l1.out ?_;refine O6 (fun wn j hp=>?_) (fun wn j hp=>?_) ?_;·go_simp;refine(NK _ p.Nb wn (HQ.2.2.1 wn (H3.2.trans j))).mono ?_;rintro en wq ⟨A,c,rfl,l,_⟩;exact .inl ⟨rfl,_,rfl,(show NC o (.slice A p.Nb.length c) from⟨A,c,by rw[HL.2.2.1]⟩),j.trans l,fun _ _ _ h=>h,fun d C Y=>(by cases Y)⟩
  ·obtain⟨en,wq,_,⟨A,c,rfl,l,_⟩,_⟩:=(NK _ p.Nb wn (HQ.2.2.1 wn (H3.2.trans j))) []
   exact⟨_,wq,(show NC o (.slice A p.Nb.length c) from⟨A,c,by rw[HL.2.2.1]⟩),j.trans l,fun _ _ _ h=>h,fun d C Y=>(by cases Y)⟩
  rintro v ⟨b3,d3,rfl⟩;simp only[PS];refine O0 ?_;refine O4 l1.out ?_;refine O6 (fun wn j hp=>?_) (fun wn j hp=>?_) ?_;·go_simp;refine(NK _ p.Na wn (HQ.2.2.2.1 wn (H3.2.trans j))).mono ?_;rintro en wq ⟨A,c,rfl,l,_⟩;exact .inl ⟨rfl,_,rfl,(show NC n4 (.slice A p.Na.length c) from⟨A,c,by rw[HL.2.2.2.1]⟩),j.trans l,fun _ _ _ h=>h,fun d C Y=>(by cases Y)⟩
  ·obtain⟨en,wq,_,⟨A,c,rfl,l,_⟩,_⟩:=(NK _ p.Na wn (HQ.2.2.2.1 wn (H3.2.trans j))) []
   exact⟨_,wq,(show NC n4 (.slice A p.Na.length c) from⟨A,c,by rw[HL.2.2.2.1]⟩),j.trans l,fun _ _ _ h=>h,fun d C Y=>(by cases Y)⟩
  rintro v ⟨b4,d4,rfl⟩;simp only[PS];refine O0 ?_;refine aG fun w4 c9 _=>?_;have H4:=oH c9;clear c9;simp only[dK];have d9:=H3.1.kept H4.out trivial;obtain⟨q0,q1,q2,q3,q4⟩:=d9.c5;have f2:=d9.free 2;have f3:=d9.free 3;have l2:=J2 d9 (H3.2.trans H4.out);clear d9;go_wp2_with fail;have j1:=(l2.1.set 2 (.slice b3 o d3)).set 3 (.slice b4 n4 d4);have l3:aa All w _:=(l2.2.setCell (p:=⟨w.heap.size,2,none⟩) (.inr (cf _)) (.slice b3 o d3)).setCell (p:=⟨w.heap.size,3,none⟩) (.inr (cf _)) (.slice b4 n4 d4);simp only[ga] at j1;generalize (w4.setCell _ _).setCell _ _=W5 at*;have H5:=J2 j1 l3;clear j1 l3 q0 q1 q2 q3 q4 f2 f3;have l4:=oH (show∀wn,aa All W5 wn→wn.cell? ⟨w.heap.size,0,none⟩=some (.slice b1 n1 d1)∧wn.cell? ⟨w.heap.size,1,none⟩=some (.slice b2 n2 d2)∧wn.cell? ⟨w.heap.size,2,none⟩=some (.slice b3 o d3)∧wn.cell? ⟨w.heap.size,3,none⟩=some (.slice b4 n4 d4)∧wn.cell? ⟨w.heap.size,4,none⟩=some (.int .i64 p.Nc) from fun wn j=>⟨(H5.1.kept j trivial).cell 0,(H5.1.kept j trivial).cell 1,(H5.1.kept j trivial).cell 2,(H5.1.kept j trivial).cell 3,(H5.1.kept j trivial).cell 4⟩);have n0:=fun w=>wX o (by omega) w;refine R1 7 W5 [31] (fun _ v wn=>∃g,v=.slice (some ⟨g,0,none⟩) o o∧W5.heap.size≤g∧al wn g 3 (aN o fun _=>0)) (fun i=>if i=3 then some (fun v=>∃g,v=.slice (some ⟨g,0,none⟩) o o) else none) ?_;refine O0 ?_;refine O4 l4.out ?_;refine O0 ?_;refine O6 (fun wn j hp=>?_) (fun wn j hp=>?_) ?_
  ·go_simp
   exact⟨rfl,⟨_,rfl⟩,j.alloc _,fun t _ v ⟨g,e,h1,h2⟩=>⟨g,e,h1,h2.alloc _⟩,fun d C Y=>⟨_,rfl,j.size,al.new _ _ _⟩⟩
  ·exact⟨.slice (some ⟨wn.heap.size,0,none⟩) o o,wn.alloc (.cells (aN o fun _=>0) 3),⟨_,rfl⟩,j.alloc _,fun t _ v ⟨g,e,h1,h2⟩=>⟨g,e,h1,h2.alloc _⟩,fun d C Y=>⟨_,rfl,j.size,al.new _ _ _⟩⟩
  rintro v ⟨g,rfl⟩;simp only[PS];refine O0 ?_;refine O4 l4.out ?_;refine O0 ?_;refine aG fun w6 l5 hF=>?_;obtain⟨g',e,j2,l6⟩:=hF 31 (by simp) _ rfl;iterate 3 injection e with e
  subst e;have H6:=oH l5;have j3:=J2 j2 l6;clear l5 hF j2 l6;simp only[dK];go_upto_region 6 with fail;obtain⟨bb,e7⟩:=eQ w6.heap.size;obtain⟨W7,e8⟩:=eQ (w6.alloc (.cells #[.slice none 0 0,.slice (some ⟨g,0,none⟩) o o,.slice b1 n1 d1,.slice b2 n2 d2,.slice b3 o d3,.slice b4 n4 d4,.int .i64 p.Nc,.slice none 0 0] 97));have e9:aa All w6 W7:=by rw[e8];exact kR.alloc _
  have bB:al W7 bb 97 #[.slice none 0 0,.slice (some ⟨g,0,none⟩) o o,.slice b1 n1 d1,.slice b2 n2 d2,.slice b3 o d3,.slice b4 n4 d4,.int .i64 p.Nc,.slice none 0 0]:=by rw[e8,e7];exact al.new _ _ _
  have bT:al W7 g 3 (aN o fun _=>0):=j3.2.kept e9 trivial;have h6:aa All w W7:=(H5.2.trans H6.out).trans e9;have j2:=j3.1;have l7:g<W7.heap.size:=bT.lt;have o5:=H5.2.size;have o6:=H6.out.size;have n5:g≠bb:=by have:=j3.2.lt;omega
  have o1:w6.heap.size≤bb:=eE e7.symm;have o2:bb<W7.heap.size:=bB.lt;have p2:=(H5.1.kept (H6.out.trans e9) trivial).cell 2;simp only[gc] at p2;have H7:=J5 e8 e7 bB bT h6;clear e8 e7 e9 bB bT h6 n0;rw[←H7.2.1,←H7.1];go_upto_region 7 with fail;clear p2;go_loopg [39] o (fun gg n6 wr=>∃(k:Nat) (av:Value),k≤o∧gg=o-k∧n6=.int .i64 k∧aa (fun d=>d≠bb) W7 wr∧al wr bb 97 #[av,.slice (some ⟨g,0,none⟩) o o,.slice b1 n1 d1,.slice b2 n2 d2,.slice b3 o d3,.slice b4 n4 d4,.int .i64 p.Nc,.slice none 0 0]∧dR 1 35 (eT aK) W7.heap.size wr av ((List.range k).map fun i=>R.getD i []));·exact⟨0,.slice none 0 0,by omega,by omega,rfl,kR,H7.2.2.1,dR.nil⟩
  obtain⟨k,av,j,rfl,rfl,Z,hB,a8⟩:=hrel;obtain⟨wo,n7⟩:=eQ wr;subst n7;by_cases o7:k<o;·(
 obtain⟨A0,c0,rfl⟩:=a8.form;rw[show((List.range k).map fun i=>R.getD i []).length=k by simp] at*;obtain⟨l8,P,h1,h2,h3,h4,h5⟩:=a8;rw[show((List.range k).map fun i=>R.getD i []).length=k by simp] at h1 h2;have e0:∀d,(Value.slice A0 k c0).ownBlock=some d→W7.heap.size≤d∧d<wo.heap.size:=fun d C=>aD h1 C;have b0:∀d,(Value.slice A0 k c0).ownBlock=some d→d<wo.heap.size:=fun d C=>(e0 d C).2;have j4:∀d,S d→(Value.slice A0 k c0).ownBlock≠some d:=fun d C h=>by have h8:=HQ.2.2.2.2.2 d C;have h9:=(e0 d h).1;have:=H7.2.2.2.2.size;omega
 have l9:aa S w wo:=H7.2.2.2.2.all.trans (Z.mono fun d C=>by have h8:=HQ.2.2.2.2.2 d C;show d≠bb;omega);obtain⟨rA,rn,rc,m0,b5⟩:=Rw S _ R wo k (HQ.2.2.2.2.1 wo l9);have hC:∀y w w',aa (fun d=>(Value.slice A0 k c0).ownBlock≠some d) w w'→Ow wo (R.getD k []) y w→Ow wo (R.getD k []) y w':=fun y w w' kk h=>h.keep b0 kk;have HV:=oH (show∀wn,aa (fun d=>(Value.slice A0 k c0).ownBlock≠some d) wo wn→wn.cell? ⟨bb,0,none⟩=some (.slice A0 k c0) from fun wn j=>j.cell (p:=⟨bb,0,none⟩) (fun h=>by have h9:W7.heap.size≤bb:=(e0 _ h).1;omega) (hB.cell 0));have m1:=oH (fun wn (j:aa (fun d=>(Value.slice A0 k c0).ownBlock≠some d) wo wn)=>b5 wn (j.mono j4));have j5:=oH (fun wn (j:aa (fun d=>(Value.slice A0 k c0).ownBlock≠some d) wo wn)=>Oz _ (R.getD k []) wn (rB (ah.keep (j.mono j4) m0)));have j6:=h1;have HO:=J8 Z hB h1 h2 h3 h4 h5 e0;have o3:=Z.size;clear Z hB h1 h2 h3 h4 h5 e0 j4 l9 m0 b5;go_upto_region 9 with fail;refine bq 12 (DL wo W7.heap.size 35 1 (.slice A0 k c0) k l8.flatten) [51,52,53] (Nn wo W7.heap.size 35 (.slice A0 k c0) k l8.flatten (Ow wo (R.getD k [])) 52 51) (fun i=>if i=8 then some (·=.slice rA rn rc) else if i=9 then some (NC (R.getD k []).length) else if i=10 then some Oa else if i=11 then some (NT k) else none) (fun _=>false) (fun _ _=>False) (by kernel_rfl) (by kernel_rfl) (by kernel_rfl) (by kernel_rfl) (DL.first j6) (fun _ _ _ h=>h.elim) ?_;simp only[tK];iterate 5 refine O0 ?_
 refine O3 (fun wn j hp=>by(have v0:=HV.out wn j.1;go_simp;with_reducible rfl)) ?_;iterate 2 refine O0 ?_
 refine O5 (v:=.slice rA rn rc) (fun wn j hp=>⟨_,_,by(skip;go_simp<;>with_reducible rfl),((m1.out wn j.1).mono fun e w' h=>⟨h.1,j.keep h.2,fun t _ v hv=>hv.keep hC h.2 t v⟩)⟩) ?_;refine O6 (fun wn j hp=>?_) (fun wn j hp=>?_) ?_
 ·go_simp
  refine(j5.out wn j.1).mono ?_;rintro en wq ⟨A,c,rfl,l,hq⟩;exact .inl ⟨rfl,_,rfl,⟨A,c,rfl⟩,j.keep l,fun t _ u hu=>hu.keep hC l t u,fun d C _=>by cases C;unfold Nn;rw[ae (by decide),ap rfl];exact⟨⟨A,c,rfl⟩,ah.wide (fun b (hb:wn.heap.size≤b∧b<wq.heap.size)=>⟨fR j.1.size hb.1,hb.2⟩) (jT hq)⟩⟩
 ·obtain⟨en,wq,_,⟨A,c,rfl,l,hq⟩,_⟩:=(j5.out wn j.1) []
  exact⟨_,wq,⟨A,c,rfl⟩,j.keep l,fun t _ u hu=>hu.keep hC l t u,fun d C _=>by cases C;unfold Nn;rw[ae (by decide),ap rfl];exact⟨⟨A,c,rfl⟩,ah.wide (fun b (hb:wn.heap.size≤b∧b<wq.heap.size)=>⟨fR j.1.size hb.1,hb.2⟩) (jT hq)⟩⟩
 rintro yv ⟨yA,yc,rfl⟩;simp only[PS];refine NX (by rfl) (by rfl) (by rfl) rfl (by decide) hC (.slice yA (R.getD k []).length yc) rfl (by decide) (fun wn j=>by(go_simp<;>with_reducible rfl)) ?_;intro g2;simp only[PS];refine NG (by rfl) (by rfl) (by rfl) rfl (by decide) (by decide) hC (.tmp 47) 31 rfl iN _ 24 underlying31 IN.1 IN.2.1 IN.2.2.1 IN.2.2.2 rfl rfl g2 rfl (by decide) (fun y w h=>by obtain⟨⟨t,q,rfl⟩,_⟩:=h;rfl) (by unfold maxLen;omega) (by omega) (by omega) b0 ?_;intro A5 c5;simp only[PS];refine aG fun e1 a6 h7=>?_;have j7:=h7 53 (by simp) _ rfl;unfold Nn at j7;rw[ae (by decide),ae (by decide)] at j7;obtain⟨y6,wz,m2,⟨_,m3⟩,n8,j8,j9⟩:=j7;simp only[dK];have b6:=HO.2.1.kept a6.1 (fun h=>by have h9:W7.heap.size≤bb:=(HO.2.2.2.2.2.2.2 _ h).1;omega);have z0:=b6.cell 0;have zf:=b6.free 0;simp only[gc] at z0;have n9:=a6.1.size;have b7:=dR.push (Q:=fun d=>wo.heap.size≤d∧d<wz.heap.size) (aS ah) (by rw[HO.2.2.2.1];simp) HO.2.2.2.2.1 HO.2.2.2.2.2.1 HO.2.2.2.2.2.2.1 a6.1 (by rw[show((List.range k).map fun i=>R.getD i []).length=k by simp];exact m2) (fun d C=>⟨by omega,Nat.lt_of_lt_of_le C.2 j8.size,fun e=>by
  rcases j9 with e2|e2;·have:=b0 d (e2.symm.trans e);omega
  ·have:=e2 d e;omega⟩) (show eT aK _ e1 [y6] (R.getD k []) from⟨y6,rfl,ah.keep (j8.mono fun d C e=>by have:=b0 d e;have:=C.1;omega) m3⟩) (by
  rcases j9 with e|e;·exact .inl e
  exact .inr fun g3 l7=>by have:=e g3 l7;omega)
 have b8:=J3 a6.1 b6 b7;clear a6 h7 m2 m3 n8 j8 j9 b6 b7 HV m1 j5;go_wp2_with fail;have e3:=b8.2.1.set 0 (.slice A5 (k+1) c5);simp only[ga] at e3;have b9:aa (fun d=>d≠bb) e1 (e1.setCell ⟨bb,0,none⟩ (.slice A5 (k+1) c5)):=(aa.refl _ e1).setCell (p:=⟨bb,0,none⟩) (.inl fun h=>h rfl) _;have i0:=b8.2.2.keep (aS ah) b9 (fun d C _=>by show d≠bb;omega);have i1:aa (fun d=>d≠bb) W7 (e1.setCell ⟨bb,0,none⟩ (.slice A5 (k+1) c5)):=⟨b9.os.trans (b8.1.os.trans HO.1.os),b9.output.trans (b8.1.output.trans HO.1.output),fR HO.1.size (fR b8.1.size b9.size),fun d C m4=>(b9.block d (by omega) m4).trans ((b8.1.block d (by omega) (fun e=>by have:=(HO.2.2.2.2.2.2.2 d e).1;omega)).trans (HO.1.block d C m4))⟩;have HZ:=J3 i1 e3 i0;clear e3 b9 i0 i1;go_roundg (o-(k+1));·exact⟨k+1,.slice A5 (k+1) c5,by omega,rfl,by go_num,HZ.1,HZ.2.1,by rw[List.range_succ,ic];exact HZ.2.2⟩
 omega)
  obtain rfl:k=o:=by omega
  have m5:=a8.read (bw:=24) (aS ah) (by simp;omega);have m6:=H7.2.2.2.1.kept Z n5;have o8:=Z.size;have o9:=H7.2.2.2.2.size;have m7:aa All w wo:=am ((H7.2.2.2.2.all (S:=fun d=>d<w.heap.size)).trans (Z.mono fun d C=>by show d≠bb;omega));have HZ:=J4 m5 m6 m7 hB;clear a8 m5 m6 m7 hB Z;go_wp2_with fail;exact bodyPost_ret (v:=.tuple #[.pointer (some ⟨bb,0,none⟩),.int .i64 0]) (by simp[results,Tryz.f13]) rfl (.inr ⟨H1.2.2 (by simp),bb,g,av,_,_,_,_,(List.range k).map fun i=>R.getD i [],rfl,HZ.2.2.1,by omega,by omega,by rw[←HL.2.2.1];exact HZ.2.2.2,by rw[←HL.2.2.1];exact HZ.2.1,aq.wide (fun d (C:W7.heap.size≤d∧d<wo.heap.size)=>⟨by omega,C.2,by omega,by omega⟩) (jT HZ.1),by rw[←HL.2.2.1];simp,⟨b1,d1,by rw[←HL.1]⟩,⟨b4,d4,by rw[←HL.2.2.2.1]⟩⟩)
end Go.Proofs.YtncdbjponknakaaGreatDoor
