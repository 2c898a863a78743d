/- Part 17 of the proof (its last part says what is proved). No condition. -/
import Derived.Test.YtccbbkopmlnkpaaGreatDoorK15
namespace Go.Proofs.YtccbbkopmlnkpaaGreatDoor
set_option maxRecDepth 100000
set_option maxHeartbeats 8000000
open Go.RowKit Go.Proofs.Tryz
theorem Ap (S:Nat→Prop)(Y:Value)(j:List Int)(x:Int)(w:World)(ha:aK S w Y j):
 Calls prog 221 #[Y,.int .i64 x] w fun e w'=>(∃r:Int,e=.returned (.int .i64 r)∧decide (0≤r)=pB (x∈j))∧w=w':=by
 obtain⟨a,cap,rfl,h1,h2,_,h⟩:=ha;have H:=oH h;clear h;go_enter func221,ntmps221;go_wp2;go_loopg [8] j.length (fun g s wr=>∃k:Nat,k≤j.length∧g=j.length-k∧s=.int .i64 k∧wr=w∧x∉j.take k);·exact⟨0,by omega,by omega,rfl,rfl,by simp⟩
 obtain⟨k,hk,rfl,rfl,rfl,o⟩:=hrel;by_cases C:k<j.length;·(
 obtain⟨b,off,c,rfl,hs,hc,rfl,hw⟩:=H.out k j[k] (lG C);obtain⟨y,J⟩:=eR (j[k]);rw[J] at hc;have hm:y∈j:=J▸eL C;have I:j.take (k+1)=j.take k++[y]:=by rw[cU,lG C,J];rfl
 by_cases e:x=y
 ·have te:(x==y)=true:=by rw[cy];exact e
  have R:=oH (show pB (x∈j)=true from av (e▸hm));clear J hm o e I;go_wp2_with fail;go_ret;exact⟨⟨k,rfl,by rw[R.out];simp⟩,rfl⟩
 have te:(x==y)=false:=by rw[bE];exact e
 have R:=oH (show x∉j.take (k+1) by rw[I];simp[o,e]);clear J hm o e I;go_wp2_with fail;go_roundg (j.length-(k+1));·exact⟨k+1,by omega,rfl,by go_num,rfl,R.out⟩
 omega)
 obtain rfl:k=j.length:=by omega
 rw[dZ] at o;have R:=oH (show pB (x∈j)=false from au o);clear o;go_wp2_with fail;go_ret;exact⟨⟨-1,rfl,by rw[R.out];decide⟩,rfl⟩
theorem ui (S:Nat→Prop)(o:Value)(j:List Int)(x:Int)(w:World)(J:aK S w o j):
 Calls prog 172 #[o,.int .i64 x] w fun e R=>e=.returned (.bool (pB (x∈j)))∧w=R:=by
 have H:=oH (Ap S o j x w J);obtain⟨a,cap,rfl,h1,h2,_,h⟩:=J;clear h;go_enter func172,ntmps172;go_wp2_with fail;refine H.out.mono ?_;rintro e R ⟨⟨r,rfl,Y⟩,hw⟩;have C:=hw.symm;subst C;obtain⟨p,I⟩:=eR (pB (x∈j));rw[I] at Y;have HP:=oH I;clear I;have a1:decide (r≥0)=p:=Y;go_wp2_with fail;go_ret;exact⟨by rw[HP.out];rfl,rfl⟩
theorem Dl (S:Nat→Prop)(ll:List (List Int))(Y:Value)(t:Nat→Int)(pl:Nat→Nat)(i:Nat)(w:World)(ha:aK S w Y (lV ll.length t))(T:mz ll t pl)(hl:ll.length≤256)(hi:i<ll.length):
 Calls prog 222 #[Y,.int .i64 i] w fun e w'=>e=.returned (.bool true)∧w=w':=by
 obtain⟨a,cap,rfl,h1,h2,h3,h⟩:=ha;rw[nW] at h1 h3⊢;have H:=J2 h T;have t0:=T.good.zero;have C:=T.ord.lt i hi;clear h T;obtain⟨b0,o0,c0,rfl,_,I,rfl,_⟩:=H.1 0 (t 0) (tQ (by omega));rw[t0,dj] at I;clear t0;go_enter func222,ntmps222;go_wp2;go_loopg [1,5] ll.length (fun g x s wr=>∃m j:Nat,m<ll.length∧g=ll.length-m∧s=.int .i64 m∧x=.int .i64 j∧wr=w∧j<ll.length∧pl j+m<ll.length);·exact⟨0,i,by omega,by omega,rfl,rfl,rfl,hi,by omega⟩
 obtain⟨m,j,hm,rfl,rfl,rfl,rfl,hj,a1⟩:=hrel;by_cases o:j=0
 ·have te:((j:Int)==0)=true:=by rw[cy];omega
  clear o;go_wp2_with fail;go_ret;exact⟨rfl,rfl⟩
 have te:((j:Int)==0)=false:=by rw[bE];omega
 obtain⟨p,C,J,a6⟩:=H.2.up hj o;obtain⟨b1,o1,c1,e1,_,R,rfl,_⟩:=H.1 j (t j) (tQ hj);cases e1;rw[C] at R;have tp:decide ((p:Int)<0)=false:=by simp
 clear C o;go_wp2_with fail;go_roundg (ll.length-(m+1));·exact⟨m+1,p,by omega,rfl,by go_num,rfl,rfl,J,by omega⟩
 omega
theorem CI (S:Nat→Prop)(ll:List (List Int))(va:Value)(t:Nat→Int)(pl:Nat→Nat)(i:Nat)(w:World)(ha:aK S w va (lV ll.length t))(T:mz ll t pl)(hl:ll.length≤256)(hi:i<ll.length):
 Calls prog 173 #[va,.int .i64 i] w fun e w'=>∃u,e=.returned u∧aa All w w'∧aK (fun b=>w.heap.size≤b) w' u ((oJ ll.length t i).map fun(n:Nat)=>(n:Int)):=by
 obtain⟨i3,I3⟩:=iH kt;have a1:=fun k (hk:k<ll.length)=>Dl S ll va t pl k w ha T hl hk;have a6:=ah.la ha;obtain⟨a,cap,rfl,h1,h2,h3,h⟩:=ha;rw[nW] at h1 h3 a1 a6⊢;have hp:=T.ord.lt i hi;obtain⟨C,hC⟩:=eR (oJ ll.length t i);have b3:C.length≤ll.length+1:=by rw[←hC];exact uL t _ _
 have b2:∀x∈C,x<ll.length:=fun x hx=>by rw[←hC,oJ,uM T.good x _ i hi (Nat.le_of_lt (T.ord.lt i hi))] at hx;exact(oL T.good hi hx).1
 rw[hC];have H:=J5 a1 T a6 hC b2;clear h T a1 a6 hC b2;have tl:decide ((ll.length:Int)<1)=false:=by simp;omega
 have b4:decide ((ll.length:Int)>256)=false:=by simp;omega
 have ti:decide ((i:Int)<0)=false:=by simp
 have b5:decide (ll.length≤i)=false:=by simp;omega
 have b6:decide ((i:Int)≥(ll.length:Int))=false:=by simp;omega
 go_enter func173,ntmps173;go_wp2_with fail;clear tl b4 ti b6 b5;go_loopg [27] ll.length (fun g s wr=>∃k:Nat,k≤ll.length∧g=ll.length-k∧s=.int .i64 k∧wr=w);·exact⟨0,by omega,by omega,rfl,rfl⟩
 obtain⟨k,hk,rfl,rfl,hw⟩:=hrel;have a7:=hw.symm;subst a7;by_cases b7:k<ll.length
 ·have HL:=oH (H.1 k b7);go_wp2_with fail;refine HL.out.mono ?_;rintro e w' ⟨rfl,hw⟩;have a7:=hw.symm;subst a7;go_wp2_with fail;go_roundg (ll.length-(k+1));·exact⟨k+1,by omega,rfl,by go_num,rfl⟩
  omega
 obtain rfl:k=ll.length:=by omega
 go_wp2_with fail;go_loopg [1,6] (ll.length+1) (fun g x o wr=>∃L:List Nat,((∃j f:Nat,x=.int .i64 j∧j<ll.length∧pl j≤f∧f≤ll.length∧L++kp t f j=C∧g=f+1)∨(x=.int .i64 (-1)∧L=C∧g=0))∧aa All w wr∧wr.ownsRow w.heap.size 3 1 o L.length (aI (L.map fun(n:Nat)=>(n:Int))));·exact⟨[],.inl ⟨i,ll.length,rfl,hi,by omega,cf _,H.2.2.2.1,rfl⟩,kR,rfl,.inl ⟨rfl,rfl⟩⟩
 obtain⟨L,b8,R,J⟩:=hrel;rcases b8 with ⟨j,f,rfl,hj,c4,hf,hL,rfl⟩|⟨rfl,rfl,rfl⟩;·(
 have c5:L.length≤1000:=by have:=congrArg List.length hL;rw[iQ] at this;omega
 obtain⟨b1,o1,c1,rfl,_,a8,rfl,_⟩:=bn (i:=j) (x:=t j) (H.2.2.1 w kR) (tQ hj);have b9:=jy w _ a8;have b0:(wr.alloc (.cells #[.int .i64 j] 3)).ownsRow w.heap.size 3 1 u6 L.length (aI (L.map fun(n:Nat)=>(n:Int))):=be J ((aa.refl All wr).alloc _) (fun _ _=>trivial);have hB:=R.size;have tj:decide ((j:Int)≥0)=true:=by simp
 have c6:decide ((0:Int)≤(j:Int))=true:=by simp
 obtain⟨y,hy⟩:=eR (t j);rw[hy] at a8;have HT:=J3 R hL hy;clear hL hy;go_wp2_with (
  at_builtin;refine aR _ rfl (.tmp 41) (.tmp 43) 38 rfl w.heap.size 3 i3 _ 1 8 underlying38 I3.1 I3.2.1 I3.2.2.1 I3.2.2.2 rfl (by decide) _ _ _ rfl b0 (some ⟨wr.heap.size,0,none⟩) 1 1 [.int .i64 j] rfl rfl ?_ ?_ (by unfold maxLen;omega) (by omega) (by simp;omega) ?_;·intro _;exact⟨_,_,rfl,fun j u hu=>by rw[cN,al.cell (al.new _ _ _)];simpa using hu⟩
  ·intro u hu
   rw[cx.1 hu];rfl
  intro v2 w2 I c0 c3;have Y:aa (fun b=>b<w.heap.size) w w2:=((R.alloc _).all).grown c0 fun g hg=>.inl (by have:=(aD J hg).1;show¬(g<w.heap.size);omega);have c7:=Y.cell (p:=⟨b1,o1+j,none⟩) b9 a8)
 by_cases c8:y<0;·(
 have e1:y= -1:=by have:=H.2.1.good.neg j hj;have:=HT.2.2;omega
 subst e1;have HE:=J2 Y I;clear Y I;go_wp2_with fail;go_roundg 0
 ·refine⟨L++[j],.inr ⟨rfl,?_,rfl⟩,am HE.1,?_⟩
  ·rw[←HT.2.1];cases f with
   |zero=>rfl
   |succ f=>rw[kp,HT.2.2,ap (by decide)]
  simpa [aI] using HE.2
 omega)
 obtain⟨p,hp,c2,c9,_⟩:=H.2.1.good.low j hj (by have:=HT.2.2;omega);rw[HT.2.2] at hp;subst hp;obtain⟨f',rfl⟩:∃f',f=f'+1:=⟨f-1,by omega⟩;have HE:=J2 Y I;clear Y I;go_wp2_with fail;go_roundg (f'+1)
 ·refine⟨L++[j],.inl ⟨p,f',rfl,c2,by omega,by omega,?_,rfl⟩,am HE.1,?_⟩
  ·rw[←HT.2.1,kp,HT.2.2,ae (by omega),dP,jM];rfl
  simpa [aI] using HE.2
 omega)
 have HE:=J2 R J;have d7:L.length≤ll.length+1:=b3;clear R J;go_wp2_with fail;go_ret;refine⟨_,rfl,HE.1,jr HE.2 (by rw[ce]) (by rw[ce];omega) (fun g hg=>(aD HE.2 hg).1) fun x hx=>?_⟩;obtain⟨n,hn,rfl⟩:=dr.1 hx;exact tT (by have:=H.2.2.2.2 n hn;omega)
theorem uk (S:Nat→Prop)(ll:List (List Int))(C:Value)(t:Nat→Int)(pl:Nat→Nat)(a i:Nat)(w:World)(Y:aK S w C (lV ll.length t))(T:mz ll t pl)(hl:ll.length≤256)(hi:i<ll.length):
 Calls prog 112 #[C,.int .i64 a,.int .i64 i] w fun e w'=>e=.returned (.bool (pB (¬gA (dH ll) a i)))∧aa All w w':=by
 have H:=oH (CI S ll C t pl i w Y T hl hi);have j:=zP T (x:=a) hi;have e:pB ((a:Int)∈(oJ ll.length t i).map fun(n:Nat)=>(n:Int))=pB (¬gA (dH ll) a i):=by congr 1;rw[eq_iff_iff,←j,dr];exact⟨fun⟨n,hn,e⟩=>Int.ofNat.inj e▸hn,fun h=>⟨a,h,rfl⟩⟩
 have HE:=oH e;obtain⟨A,cap,rfl,h1,h2,_,h⟩:=Y;clear h j e T;go_enter func112,ntmps112;go_wp2_with fail;refine H.out.mono ?_;rintro e w1 ⟨u,rfl,o,hu⟩;have I:=ui _ u _ a w1 hu;obtain⟨q,J⟩:=eR (pB ((a:Int)∈(oJ ll.length t i).map fun(n:Nat)=>(n:Int)));rw[J] at I;have HC:=oH I;have HQ:=oH J;clear I J;have HK:=oH o;clear o hu;go_wp2_with fail;refine HC.out.mono ?_;rintro e w2 ⟨rfl,hw⟩;have R:=hw.symm;subst R;go_wp2_with fail;go_ret;exact⟨by rw[←HE.out,HQ.out];rfl,HK.out⟩
section
open Go.RowKit Go.Shelf
attribute [local go_sem] Oper.semAt_some
def Cj (x:bz)(a f:Value):List Value:=[.int .u8 x.kind,.int .u8 x.op,.int .i64 x.dst,.int .i64 x.ref,.int .i64 x.Ni,a,f,.int .i64 x.num,.int .i64 x.Nj]
structure BE (S:Nat→Prop)(w0:World)(B1:Option Addr)(L:List (List bz))(A F:Nat→Nat→Value):Prop where
 row:∀(k:Nat) l,L[k]? =some l→∃rb ro Ak ck,B1=some ⟨rb,ro,none⟩∧S rb∧w0.cell? ⟨rb,ro+k,none⟩=some (.slice Ak l.length ck)∧l.length≤maxLen∧
  ∀(i:Nat) x,l[i]? =some x→∃xb xo,Ak=some ⟨xb,xo,none⟩∧S xb∧∀(j:Nat) c,(Cj x (A k i) (F k i))[j]? =some c→w0.cell? ⟨xb,xo+i*9+j,none⟩=some c
 ints:∀(k:Nat) l,L[k]? =some l→∀(i:Nat) x,l[i]? =some x→aK S w0 (A k i) x.args∧aK S w0 (F k i) x.Nh∧jx x
theorem vw {S:Nat→Prop}{w:World}{B1:Option Addr}{n d:Nat}{L:List (List bz)}(h:bW S w (.slice B1 n d) L):∃A F,BE S w B1 L A F:=by
 have hc:∀k i:Nat,∃af:Value×Value,∀l x,L[k]? =some l→l[i]? =some x→aK S w af.1 x.args∧aK S w af.2 x.Nh∧jx x∧
  ∃rb ro Ak ck,B1=some ⟨rb,ro,none⟩∧w.cell? ⟨rb,ro+k,none⟩=some (.slice Ak l.length ck)∧∃J xo,Ak=some ⟨J,xo,none⟩∧S J∧∀(j:Nat) c,(Cj x af.1 af.2)[j]? =some c→w.cell? ⟨J,xo+i*9+j,none⟩=some c:=by
  intro k i;cases hk:L[k]? with
  |none=>exact⟨(.nilFunc,.nilFunc),fun l x h=>by cases h⟩
  |some l=>
   cases hi:l[i]? with
   |none=>refine⟨(.nilFunc,.nilFunc),fun l' x h R=>?_⟩;cases h;rw[hi] at R;cases R
   |some x=>obtain⟨rb,ro,rv,e,_,o,C⟩:=bn h hk;obtain⟨Ak,ck,rfl,_⟩:=id C;obtain⟨J,xo,cs,e2,Y,_,a1,a,f,rfl,h1,R,h3⟩:=aZ C hi;refine⟨(a,f),fun l' x' h h'=>?_⟩;cases h;rw[hi] at h';cases h';exact⟨h1,R,h3,rb,ro,Ak,ck,e,o,J,xo,e2,Y,a1⟩
 obtain⟨g,hg⟩:=Classical.axiomOfChoice fun k=>Classical.axiomOfChoice (hc k);refine⟨fun k i=>(g k i).1,fun k i=>(g k i).2,⟨fun k l hk=>?_,fun k l hk i x hi=>?_⟩⟩;·obtain⟨rb,ro,rv,e,hS,o,C⟩:=bn h hk;obtain⟨Ak,ck,rfl,h1,R,_⟩:=id C;refine⟨rb,ro,Ak,ck,e,hS,o,by omega,fun i x hi=>?_⟩;obtain⟨_,_,_,a6,a7,a8,b0,e',I,J,xo,e2,Y,a1⟩:=hg k i l x hk hi;rw[e] at e';cases e';rw[o] at I;cases I;exact⟨J,xo,e2,Y,a1⟩
 obtain⟨h1,R,h3,_⟩:=hg k i l x hk hi;exact⟨h1,R,h3⟩
def iJ (S:Nat→Prop)(j W:World):Prop:=∀(b i:Nat) v,S b→j.cell? ⟨b,i,none⟩=some v→W.cell? ⟨b,i,none⟩=some v
def jU (S:Nat→Prop)(j A B:World):Prop:=iJ S j A→iJ S j B
section
variable {S:Nat→Prop} {w0 W W':World}
theorem iJ.refl (S:Nat→Prop)(w0:World):iJ S w0 w0:=fun _ _ _ _ h=>h
theorem iJ.kept (h:iJ S w0 W)(k:aa S W W'):iJ S w0 W':=fun b i v j o=>k.cell (p:=⟨b,i,none⟩) j (h b i v j o)
theorem iJ.below {w:World}(h:iJ S w0 w)(o:Below w.heap.size w W):iJ S w0 W:=fun b i v C I=>by have j:=h b i v C I;exact(o.cell (p:=⟨b,i,none⟩) (jy w _ j)).trans j
theorem Dd {l:Nat}{o I:Obj}(J:W.heap[l]? =some o)(R:o.isCells=false):jU S w0 W (W.putObj l I):=by
 intro h b i v Y hv;have j:=h b i v Y hv;have C:b≠l:=by rintro rfl;unfold World.cell? at j;simp only[J] at j;cases o<;>first|(simp[Obj.isCells] at R;done)|(simp at j)
 rw[World.cell?_of_block (World.putObj_heap_other C)];exact j
theorem BY {A B C:World}(h:jU S w0 A B)(k:jU S w0 B C):jU S w0 A C:=fun j=>k (h j)
theorem BX (B:Nat):∀(W:World) (l:Nat) (o j:Obj),B≤l→W.heap[l]? =some o→o.isCells=false→o.isWalk=false→jU S w0 W (W.putObj l j):=fun _ _ _ _ _ C I _=>Dd C I
end
abbrev EK (L:List (List bz)):= {t:iL//∃l,L[t.1]? =some l∧l[t.2.1]? =some t.2.2}
theorem zk (par vars:Int)(j:Option Addr)(n d1:Nat)(w:World):Calls prog 31 #[.agg #[.int .i64 par,.int .i64 vars,.slice j n d1]] w fun e o=>
 e=.returned (.func (.func 51) #[] #[.pointer (some ⟨w.heap.size,0,none⟩)])∧o=w.alloc (.cells #[.int .i64 par,.int .i64 vars,.slice j n d1] 35):=by
 have C:∀(fn:Fn) (first cap:Array Value) (w:World),(Instr.makeFunc fn first cap).run prog w=.ok (.func fn first cap) w:=fun _ _ _ _=>rfl;go_enter func31,ntmps31;go_wp2;go_ret;exact⟨rfl,rfl⟩
theorem tM (n:Nat)(hn:1≤n)(S:Nat→Prop)(w0:World)(par vars:Int)(B1:Option Addr)(d1:Nat)(L:List (List bz))(A F:Nat→Nat→Value)(hI:BE S w0 B1 L A F)(hL:L.length≤64)(Bn:Nat)(w:World)(hh:iJ S w0 w)(hc:al w Bn 35 #[.int .i64 par,.int .i64 vars,.slice B1 L.length d1]):
 SeqStopsK Fence.wide n prog 51 #[.pointer (some ⟨Bn,0,none⟩)]
  (fun x:EK L=>#[Value.agg #[.int .i64 (x.1.1:Nat),.int .i64 (x.1.2.1:Nat)],Value.agg #[.int .u8 x.1.2.2.kind,.int .u8 x.1.2.2.op,.int .i64 x.1.2.2.dst,.int .i64 x.1.2.2.ref,.int .i64 x.1.2.2.Ni,A x.1.1 x.1.2.1,F x.1.1 x.1.2.1,.int .i64 x.1.2.2.num,.int .i64 x.1.2.2.Nj]])
  (jU S w0) (fun xs=>xs.map Subtype.val=(cd L).flatten) (fun pre=>pre.map Subtype.val<+:(cd L).flatten) (cd L).flatten.length w:=fun l J Jx W hW Y _ hY h0=>by
 have b8:W.cell? ⟨Bn,2,none⟩=some (.slice B1 L.length d1):=(hW.cell (p:=⟨Bn,2,none⟩) hc.lt).trans (hc.cell 2);have a6:=hh.below hW;have HL:=J4 a6 hY hI Y;clear a6 hY hW hh hc hI Y;refine callsIn_of_wp func51 rfl trivial ?_ rfl;simp only[ntmps51,List.size_toArray,kI,List.length_nil,Nat.reduceAdd,Nat.reduceSub,Array.replicate_succ,Array.replicate_zero,List.push_toArray,List.append_toArray,mF,List.cons_append];gi_wp2
 gi_loopw [10] (fun r wr=>∃(k:Nat) (pre:List (EK L)),k≤L.length∧r=.int .i64 k∧pre.map Subtype.val=fe (cd L) k 0∧J pre wr∧iJ S w0 wr) (fun r _=>L.length-(intOf r).toNat)
 ·exact⟨0,[],by omega,rfl,by simp[fe],h0,HL.1⟩
 obtain⟨k,pre,hk,rfl,o,Y,C⟩:=hrel;by_cases b9:k<L.length;·(
 obtain⟨row,I⟩:=eG b9;obtain⟨rb,ro,Ak,ck,rfl,a7,a8,c0,b0⟩:=HL.2.2.1.row k row I;have c4:=C rb (ro+k) _ a7 a8;unfold maxLen at c0;have R:=J5 I b0 o Y C;clear I b0 a8 a7 o Y C;gi_wp2
 gi_loopw [17] (fun r wr=>∃(i:Nat) (pre:List (EK L)),i≤row.length∧r=.int .i64 i∧pre.map Subtype.val=fe (cd L) k i∧J pre wr∧iJ S w0 wr) (fun r _=>row.length-(intOf r).toNat)
 ·exact⟨0,pre,by omega,rfl,R.2.2.1,R.2.2.2.1,R.2.2.2.2⟩
 obtain⟨i,pre,hi,rfl,o,Y,C⟩:=hrel;by_cases b1:i<row.length;·(
 obtain⟨x,hx⟩:=eG b1;obtain⟨xb,xo,rfl,b2,b3⟩:=R.2.1 i x hx;have hz:=fun j c hj=>C xb (xo+i*9+j) c b2 (b3 j c hj);have a1:=Ep (nP R.1) (wT hx);rw[←o] at a1;have b4:pre.length<(cd L).flatten.length:=by have:=a1.length_le;rw[iQ,ce,List.length_singleton] at this;omega
 have z0:=hz 0 _ rfl;have z1:=hz 1 _ rfl;have z2:=hz 2 _ rfl;have z3:=hz 3 _ rfl;have z4:=hz 4 _ rfl;have z5:=hz 5 _ rfl;have z6:=hz 6 _ rfl;have z7:=hz 7 _ rfl;have z8:=hz 8 _ rfl;rw[dj] at z0;obtain⟨i1,i2,_⟩:=HL.2.2.1.ints k row R.1 i x hx;obtain⟨aA,cA,eA,_⟩:=i1;obtain⟨aF,cF,eF,_⟩:=i2;rw[eA] at z5;rw[eF] at z6;have b5:aa All wr (wr.alloc (.cells #[.int .u8 x.kind,.int .u8 x.op,.int .i64 x.dst,.int .i64 x.ref,.int .i64 x.Ni,.slice aA x.args.length cA,.slice aF x.Nh.length cF,.int .i64 x.num,.int .i64 x.Nj] 40)):=kR.alloc _;have b6:J pre (wr.alloc (.cells #[.int .u8 x.kind,.int .u8 x.op,.int .i64 x.dst,.int .i64 x.ref,.int .i64 x.Ni,.slice aA x.args.length cA,.slice aF x.Nh.length cF,.int .i64 x.num,.int .i64 x.Nj] 40)):=HL.2.2.2 _ _ _ none Y (World.grownBy_alloc wr _ none) (fun r e=>by cases e);obtain⟨fn,tmps,assign,body,hy,hR⟩:=HL.2.1 pre ⟨(k,i,x),row,R.1,hx⟩ _ b6 b4;dsimp only at hy;rw[eA,eF] at hy;have HX:=J4 (C.kept b5.all) o a1 hx;clear b6 b5 hz b3 b2 o a1 Y eA eF;gi_wp2;refine hR.mono ?_;rintro e W3 (⟨rfl,c1,c2⟩|⟨rfl,b7⟩)
 ·have c3:=c2 HX.1;gi_wp2
  go_roundw
  case rel=>exact⟨i+1,pre++[⟨(k,i,x),row,R.1,hx⟩],by omega,by simp,by rw[mt (nP R.1) (wT hx),ic,HX.2.1];rfl,c1,c3⟩
  case measure=>simp[intOf];omega
 gi_wp2;refine bodyPost_ret (results_none rfl _ _ _) rfl ?_;exact⟨⟨_,rfl⟩,.inr ⟨pre++[⟨(k,i,x),row,R.1,hx⟩],by rw[ic];exact HX.2.2.1,b7⟩⟩)
 obtain rfl:i=row.length:=by omega
 have HE:=oH (show pre.map Subtype.val=fe (cd L) (k+1) 0 by rw[o,←qK (nP R.1),List.length_mapIdx]);clear o;gi_wp2
 go_roundw
 case rel=>exact⟨k+1,pre,by omega,by simp,HE.out,Y,C⟩
 case measure=>simp[intOf];omega)
 obtain rfl:k=L.length:=by omega
 have HE:=oH (show pre.map Subtype.val=(cd L).flatten by rw[o,←Aq L,qJ]);clear o;gi_wp2
 go_end0
 exact⟨⟨_,rfl⟩,.inl ⟨pre,HE.out,Y⟩⟩
end
section
open Go.RowKit Go.Shelf
attribute [local go_sem] Oper.semAt_some
theorem lW {F:Fence}{n:Nat}{P:Program}{α:Type}{g:Operand}{ps:Array Tmp}{assign body:Code}{Q:Exit→Act→World→Prop}{a:Act}{w:World}
 (b5:F.round=none) (h1:1≤n) {gf:Nat} {lb:Array Value} (hg:a.eval g=.func (.func gf) #[] lb) (b6:F.fn gf) (eg:∀args w,(callFunc gf args).run P w=.ok (.enter gf args) w)
 {j:α→Array Value} {Kp:World→World→Prop} {S Sp:List α→Prop} {N:Nat} {w0:World} (a8:SeqStopsK F (n-1) P gf lb j Kp S Sp N w0)
 (b0:∀ {A B C:World},Kp A B→Kp B C→Kp A C) (b7:∀(W:World) (l:Nat) (o o':Obj),w.heap.size≤l→W.heap[l]? =some o→o.isCells=false→o.isWalk=false→Kp W (W.putObj l o')) (b3:∀(W:World) (o:Obj),Kp W (W.alloc o)) (b8:Below w0.heap.size w0 w) (b9:∀x,(j x).size=ps.size)
 (I:List α→World→Prop) (Ix:Code→List α→World→Prop) (hI:OwnFrom w.heap.size I) (c0:∀c,OwnFrom w.heap.size (Ix c)) (b4:∀pre W,I pre W→w.heap.size≤W.heap.size) (h0:I [] w) (q1 q2:Nat) (t1 t2:TypeId) (c1 c2:α→Array Value)
 (Y:∀(l:Nat) (x:α) (W:World) (K:Act→World→Prop),
  K {tmps:=(((ps.zip (j x)).foldl (fun t (p,v)=>t.setIfInBounds p v) a.tmps).setIfInBounds q1 (.pointer (some ⟨W.heap.size,0,none⟩))).setIfInBounds q2 (.pointer (some ⟨W.heap.size+1,0,none⟩)),defers:=[]} ((W.alloc (.cells (c1 x) t1)).alloc (.cells (c2 x) t2))→
  assign.wpIn (F.inRound l) (n-1-1) P (Exit.then K (fun _ _ _=>False)) {tmps:=(ps.zip (j x)).foldl (fun t (p,v)=>t.setIfInBounds p v) a.tmps,defers:=[]} W)
 (a1:∀(l:Nat) (pre:List α) (x:α) (J R:Nat) (W:World),J≠R→w.heap.size≤J→w.heap.size≤R→al W J t1 (c1 x)→al W R t2 (c2 x)→I pre W→pre.length<N→
  body.wpIn (F.inRound l) (n-1-1) P (ownPostG w.heap.size Kp I Ix (pre++[x]) W)
   {tmps:=(((ps.zip (j x)).foldl (fun t (p,v)=>t.setIfInBounds p v) a.tmps).setIfInBounds q1 (.pointer (some ⟨J,0,none⟩))).setIfInBounds q2 (.pointer (some ⟨R,0,none⟩)),defers:=[]} W)
 (a6:∀(D:Nat) (xs:List α) (W:World),w.heap.size≤D→S xs→I xs W→W.heap[D]? =some (.deferred (some []))→Q .normal {a with defers:= {target:=.collected D,args:=#[]}::a.defers} W)
 (a7:∀(D:Nat) (c:Code) (pre:List α) (W:World),w.heap.size≤D→Sp pre→Ix c pre W→W.heap[D]? =some (.deferred (some []))→c.wpIn F n P Q {a with defers:= {target:=.collected D,args:=#[]}::a.defers} W):
 (Code.rangeFunc g ps assign body).wpIn F n P Q a w:=
 wpIn_rangeFunc_ownH b5 h1 hg b6 eg a8 b0 b7 b8 b9 I Ix hI c0 h0
  (fun x a' W=>(∃J R,(J≠R∧w.heap.size≤J∧w.heap.size≤R∧a'= {tmps:=(((ps.zip (j x)).foldl (fun t (p,v)=>t.setIfInBounds p v) a.tmps).setIfInBounds q1 (.pointer (some ⟨J,0,none⟩))).setIfInBounds q2 (.pointer (some ⟨R,0,none⟩)),defers:=[]})∧al W J t1 (c1 x)∧al W R t2 (c2 x)))
  (fun x a' s A B row h hg hr=>by obtain⟨J,R,h1,h2,h3⟩:=h;exact⟨J,R,h1,iz (B:=w.heap.size) (cs:=fun _:Unit=>c1 x) s A B row h2 hg hr,iz (B:=w.heap.size) (cs:=fun _:Unit=>c2 x) s A B row h3 hg hr⟩)
  (fun l pre x W K hi hK=>Y l x W K (hK _ _ (((KeepsOthers.alloc _ _).trans (KeepsOthers.alloc _ _)).from _) (b0 (b3 _ _) (b3 _ _)) (hI.alloc _ (hI.alloc _ hi))
   ⟨W.heap.size,W.heap.size+1,⟨by omega,b4 _ _ hi,by have:=b4 _ _ hi;omega,rfl⟩,(al.new _ _ _).alloc _,ac (by simp)⟩))
  (fun l pre x a' W _ _ hi ⟨J,R,⟨h1,h2,h3,e⟩,h4,h5⟩ c3=>by rw[e];exact a1 l pre x J R W h1 h2 h3 h4 h5 hi c3)
  a6 a7
theorem Lt {S:Nat→Prop}{w:World}{v:Value}{l:List bz}(h:tZ S w v l):tZ (fun b=>b<w.heap.size) w v l:=by obtain⟨a,cap,o,C,I,J,h⟩:=h;refine⟨a,cap,o,C,I,J,fun i x R=>?_⟩;obtain⟨b,off,cs,e,hs,Y,j,af,ff,rfl,h4,h5,h6⟩:=h i x R;exact⟨b,off,_,e,jy w _ (j 0 _ rfl),Y,j,af,ff,rfl,kV h4,kV h5,h6⟩
theorem vJ {S:Nat→Prop}{w:World}{v:Value}{l:List (List bz)}(h:bW S w v l):bW (fun b=>b<w.heap.size) w v l:=by obtain⟨a,cap,o,C,I,J,h⟩:=h;refine⟨a,cap,o,C,I,J,fun i x R=>?_⟩;obtain⟨b,off,c,e,hs,j,Y⟩:=h i x R;exact⟨b,off,c,e,jy w _ j,j,Lt Y⟩
def AM (f:Nat→Int×Int)(j:Nat):Int:=if j%2=0 then(f (j/2)).1 else(f (j/2)).2
theorem GI (f:Nat→Int×Int)(v:Nat):AM f (v*2)=(f v).1:=by unfold AM;rw[ap (by omega),Nat.mul_div_cancel _ (by omega)]
theorem GJ (f:Nat→Int×Int)(v:Nat):AM f (v*2+1)=(f v).2:=by unfold AM;rw[ae (by omega),show(v*2+1)/2=v by omega]
theorem Lw {f g:Nat→Int×Int}{v j:Nat}(h:∀u,u≠v→f u=g u)(o:j≠v*2)(C:j≠v*2+1):AM f j=AM g j:=by unfold AM;rw[h (j/2) (by omega)]
theorem JE {n v:Nat}{f g:Nat→Int×Int}(h:∀u,u≠v→g u=f u):((aN (n*2) (AM f)).setIfInBounds (v*2) (.int .i64 (g v).1)).setIfInBounds (v*2+1) (.int .i64 (g v).2)=aN (n*2) (AM g):=by
 rw[fZ,fZ];refine ex fun j _=>?_;unfold lu;by_cases o:j=v*2+1;·rw[ap o,o,GJ]
 rw[ae o];by_cases C:j=v*2;·rw[ap C,C,GI]
 rw[ae C];exact Lw (fun u hu=>(h u hu).symm) C o
theorem FU:(prog.info? 74).map (fun i=>(i.zero,i.size,i.bytes))=some (some (.agg #[.int .i64 0,.int .i64 0]),2,16):=by kernel_rfl
theorem Gi (n:Nat)(R:n≤1048576)(w:World):(Instr.makeSlice 60 (.int .i64 n) (.int .i64 n)).run prog w=.ok (.slice (some ⟨w.heap.size,0,none⟩) n n) (w.alloc (.cells (aN (n*2) fun _=>0) 74)):=by
 obtain⟨i3,hi,C,I,J⟩:=info_parts FU;rw[run_make (P:=prog) w 60 74 i3 _ underlying60 hi C .i64 .i64 n n (by omega) (by omega) (by rw[J];omega) (by omega)];have e:madeCells (Value.agg #[.int .i64 0,.int .i64 0]).cells ((n:Int).toNat*i3.size)=aN (n*2) fun _=>0:=by(
 rw[I,dP];apply Array.ext_getElem?;intro j;by_cases o:j<n*2
 ·rw[bI o]
  rcases Nat.mod_two_eq_zero_or_one j with h|h<;>simp[madeCells,o,Value.cells,h]
 rw[jK (by rw[size_madeCells];omega),jK (by rw[kU];omega)])
 rw[e,dP]
end
section
open Go.RowKit Go.Shelf
attribute [local go_sem] Oper.semAt_some
theorem GK (n:Nat):aN n (AM fun v=>if v<0 then(-1,-1) else(0,0))=aN n fun _=>0:=ex fun j _=>by unfold AM;split<;>rfl
structure rN (w:World)(np nv:Nat)(B1:Option Addr)(n d1:Nat)(f:Nat→Int×Int)(W:World):Prop where
 kept:aa All w W
 size:w.heap.size+5≤W.heap.size
 body:al W w.heap.size 35 #[.int .i64 np,.int .i64 nv,.slice B1 n d1]
 r1:al W (w.heap.size+1) 60 #[.slice none 0 0]
 r2:al W (w.heap.size+1+1) 4 #[.bool false]
 tab:al W (w.heap.size+1+1+1) 74 (aN (nv*2) (AM f))
 out:al W (w.heap.size+1+1+1+1) 60 #[.slice (some ⟨w.heap.size+1+1+1,0,none⟩) nv nv]
section
variable {w W W':World} {np nv n d1:Nat} {B1:Option Addr} {f g:Nat→Int×Int}
theorem rN.keep (h:rN w np nv B1 n d1 f W)(k:aa (fun b=>b<w.heap.size+5) W W'):rN w np nv B1 n d1 f W':=
 ⟨am (h.kept.all.trans (k.mono fun b (j:b<w.heap.size)=>by omega)),fR h.size k.size,h.body.kept k (by omega),h.r1.kept k (by omega),h.r2.kept k (by omega),h.tab.kept k (by omega),h.out.kept k (by omega)⟩
theorem rN.congr (h:rN w np nv B1 n d1 f W)(e:∀v,v<nv→f v=g v):rN w np nv B1 n d1 g W:=by refine⟨h.kept,h.size,h.body,h.r1,h.r2,?_,h.out⟩;rw[ex (g:=AM f) fun j o=>by unfold AM;rw[e (j/2) (by omega)]];exact h.tab
theorem rN.set (h:rN w np nv B1 n d1 f W){v:Nat}(j:∀u,u≠v→g u=f u){x y:Int}(o:g v=(x,y)):rN w np nv B1 n d1 g ((W.setCell ⟨w.heap.size+1+1+1,v*2,none⟩ (.int .i64 x)).setCell ⟨w.heap.size+1+1+1,v*2+1,none⟩ (.int .i64 y)):=by
 refine⟨(h.kept.setCell (.inr (by simp;omega)) _).setCell (.inr (by simp;omega)) _,by simpa using h.size,?_,?_,?_,?_,?_⟩;·exact(h.body.far (by simp;omega) _).far (by simp;omega) _
 ·exact(h.r1.far (by simp) _).far (by simp) _
 ·exact(h.r2.far (by simp) _).far (by simp) _
 ·rw[←JE (n:=nv) j,o]
  exact(h.tab.set _ _).set _ _
 exact(h.out.far (by simp) _).far (by simp) _
end
def ED (L:List (List bz))(w:World)(np nv:Nat)(B1:Option Addr)(n d1 N j:Nat)(pre:List (EK L))(W:World):Prop:=
 rN w np nv B1 n d1 (fun v=>iV (pre.map Subtype.val) v) W∧al W N 3 #[.int .i64 (np+og ((pre.map Subtype.val).map fun t=>t.2.2):Nat)]∧j≤W.heap.size∧w.heap.size+5≤N∧N<j
theorem zV {L:List (List bz)}{w:World}{np nv n d1 N j:Nat}{B1:Option Addr}(o:N<j)(_:w.heap.size+5≤j):OwnFrom j (ED L w np nv B1 n d1 N j):=by
 rintro s W W' row ⟨C,I,J,R,Y⟩ hg hr;have k:aa (fun b=>b<j) W W':=(aa.refl _ W).grown hg fun k hk=>.inl fun h=>by have:=(hr k hk).1;have h:k<j:=h;omega
 exact⟨C.keep (k.mono fun b hb=>by omega),I.kept k o,fR J k.size,R,Y⟩
def rM (L:List (List bz))(pre:List (EK L)):Prop:=∃j x,pre=j++[x]∧x.1.2.2.dst≠-1∧0≤(iV (j.map Subtype.val) x.1.2.2.dst).1
theorem wF {b:aw}(I:gY b){pre:List (EK b.Ng)}(h:rM b.Ng pre)(o:pre.map Subtype.val<+:(cd b.Ng).flatten):False:=by
 obtain⟨j,x,rfl,J,C⟩:=h;rw[ic] at o;rcases rA (j.map Subtype.val) x.1.2.2.dst with ⟨e,_⟩|⟨u,hu,he,_⟩;·rw[e] at C;exact absurd C (by decide)
 exact As I o hu J he
def Ik (b:aw)(w:World)(e:Ending)(j:World):Prop:=∃u,e=.returned (.tuple #[u,.bool true])∧aa All w j∧ev (fun g=>w.heap.size≤g) j u (jp b)
theorem Fs {b:aw}(C:b.Ng.length≤64)(j:b.Ng.flatten.length≤4096)(v:Int):aV (iV (cd b.Ng).flatten v).1∧aV (iV (cd b.Ng).flatten v).2:=by
 unfold aV;rcases rA (cd b.Ng).flatten v with ⟨e,_⟩|⟨t,I,_,e⟩;·rw[e];exact⟨by decide,by decide⟩
 obtain⟨l,o,J⟩:=nR.1 I;have R:=(lS.1 o).1;have Y:=(lS.1 J).1;have l3:l.length≤b.Ng.flatten.length:=by rw[List.length_flatten];exact qz (dr.2 ⟨l,mG o,rfl⟩)
 rw[e];simp only;omega
theorem Fu {b:aw}(Y:gY b){nv:Nat}(I:b.vars=nv)(o:b.Ng.flatten.length≤4096)(a1:nv≤4102){S:Nat→Prop}{w:World}{g:Nat}{t:TypeId}(h:al w g t (aN (nv*2) (AM fun v=>iV (cd b.Ng).flatten v)))(hS:S g):ev S w (.slice (some ⟨g,0,none⟩) nv nv) (jp b):=by
 have R:(jp b).length=nv:=by simp[jp,I]
 refine⟨some ⟨g,0,none⟩,nv,by rw[R],by omega,by unfold maxLen;omega,by omega,fun i x C=>?_⟩;have hi:i<nv:=by rw[←R];exact(lS.1 C).1
 unfold jp at C;rw[cL,ln (by omega)] at C;cases C;have hw:=Fs Y.blk.2 o i;refine⟨g,0,[.int .i64 (iV (cd b.Ng).flatten i).1,.int .i64 (iV (cd b.Ng).flatten i).2],rfl,hS,rfl,fun j c J=>?_,rfl,hw⟩;rcases j with _|_|j
 ·cases J
  rw[dj,cN,h.cell,bI (by omega),GI]
 ·cases J
  rw[cN,h.cell,bI (by omega),GJ]
 simp at J
theorem Ed (S:Nat→Prop)(bv:Value)(b:aw)(w:World)(hb:bW S w bv b.Ng)(hG:gY b)(d8:b.Ng.flatten.length≤4096):
 Calls prog 19 #[.agg #[.int .i64 b.params,.int .i64 b.vars,bv]] w (Ik b w):=by
 have d9:=vJ hb;obtain⟨B1,d1,rfl,m5,m6,m7,_⟩:=hb;obtain⟨A,F,hI⟩:=vw d9;unfold maxLen at m6;have e9:=hG.blk.2;have b8:=hG.num;have e0:=hG.par;have h0:og b.Ng.flatten≤b.Ng.flatten.length:=List.length_filter_le _ _;obtain⟨np,b9⟩:∃np:Nat,b.params=np:=⟨b.params.toNat,by omega⟩;obtain⟨nv,c3⟩:∃nv:Nat,b.vars=nv:=⟨b.vars.toNat,by omega⟩;have j3:np≤nv:=by omega
 have h3:nv≤4102:=by omega
 have j4:np≤6:=by omega
 rw[b9,c3];have HG:=J5 hG hI b9 c3 b8;clear hG hI b9 c3 b8 d9 h0 e0 m5 m6 m7;have t1:decide ((np:Int)<0)=false:=by simp
 have t2:decide ((np:Int)>(nv:Int))=false:=by simp;omega
 have h6:decide (nv<np)=false:=by simp;omega
 have t3:decide ((nv:Int)>4102)=false:=by simp;omega
 have h7:decide (4102<nv)=false:=by simp;omega
 have h8:=fun w=>Gi nv (by omega) w;refine(callsIn_wide (n:=8)).1 ?_;refine callsIn_of_wp_marks func19 rfl trivial ?_ rfl;simp only[ntmps19,List.size_toArray,kI,List.length_nil,Nat.reduceAdd,Nat.reduceSub,Array.replicate_succ,Array.replicate_zero,List.push_toArray,List.append_toArray,mF,List.cons_append];rw[wpIn_wide];go_wp2_with fail;clear t1 t2 h6 t3 h7 h8;go_loopg [29] nv (fun g s wr=>∃k:Nat,k≤nv∧g=nv-k∧s=.int .i64 k∧rN w np nv B1 b.Ng.length d1 (fun v=>if v<k then(-1,-1) else(0,0)) wr)
 case atStart=>refine⟨0,by omega,by omega,rfl,((((kR.alloc _).alloc _).alloc _).alloc _).alloc _,by simp,((((al.new _ _ _).alloc _).alloc _).alloc _).alloc _,(((ac (by simp)).alloc _).alloc _).alloc _,((ac (by simp)).alloc _).alloc _,?_,ac (by simp)⟩;rw[GK];exact(ac (by simp)).alloc _
 obtain⟨k,hk,rfl,rfl,R⟩:=hrel;have c0:=R.out.cl 0;by_cases j5:k<nv;·(
 have c1:=R.tab.cell (k*2);have c2:=R.tab.cell (k*2+1);have f1:=R.tab.free (k*2);have f2:=R.tab.free (k*2+1);rw[bI (by omega)] at c1 c2;have a1:=R.set (g:=fun v=>if v<k+1 then(-1,-1) else(0,0)) (v:=k) (fun u hu=>by
  by_cases h:u<k;·rw[ap h,ap (by omega)]
  rw[ae h,ae (by omega)]) (x:= -1) (y:= -1) (ap (by omega))
 have HN:=oH a1;clear R a1;go_wp2_with fail;go_roundg (nv-(k+1));·exact⟨k+1,by omega,rfl,by go_num,HN.out⟩
 omega)
 have e:nv=k:=by omega
 subst e;obtain⟨W5,b4⟩:=eQ (wr.alloc (.cells #[.int .i64 np] 3));have c4:=aC1 b4;have e3:=aA0 b4;have a6:=R.keep c4.all;have g0:=R.body.cl 0;have g1:=R.body.cl 1;have g2:=R.body.cl 2;have b0:=a6.body.cl 0;have b1:=a6.body.cl 1;have b2:=a6.body.cl 2;have HW:=J4 b4 c4 e3 a6;have j6:=R.size;clear b4 c4 e3 a6 R;go_upto_region 10 with fail;rw[←HW.1];clear g0 g1 g2;go_wp2_with fail;refine(zk _ _ _ _ _ _).mono ?_;rintro e w' ⟨rfl,rfl⟩;obtain⟨wl,b5⟩:=eQ (W5.alloc (.cells #[.int .i64 np,.int .i64 nv,.slice B1 b.Ng.length d1] 35));have b6:=aC1 b5;have e4:=aA0 b5;have c5:=HW.2.2.2.keep b6.all;have e5:=HW.2.2.1.kept b6 trivial;have e6:iJ (fun g=>g<w.heap.size) w wl:=(iJ.refl _ _).kept c5.kept.all;have j1:=HW.2.2.1.lt;have j2:=b6.size;rw[←b5];have HL:=J4 c5 e5 e4 e6;clear b5 c5 e5 b6 e4 b0 b1 b2 e6;go_wp2_with fail
 refine wpIn_wide.1 (lW (F:=Fence.wide) (n:=8) rfl (by omega) (gf:=51) (lb:=#[.pointer (some ⟨W5.heap.size,0,none⟩)]) rfl trivial (enters_of func51 (by kernel_rfl) rfl)
  (tM 7 (by omega) (fun g=>g<w.heap.size) w np nv B1 d1 b.Ng A F HG.2.1 e9 _ wl HL.2.2.2 HL.2.2.1) BY (BX _) (fun W o h=>h.kept (kR.alloc _)) (Below.refl _ _) (fun _=>rfl)
  (ED b.Ng w np nv B1 b.Ng.length d1 wr.heap.size wl.heap.size) (fun c pre _=>c=.ret∧rM b.Ng pre) (zV (by omega) (by omega)) (fun c s W W' row h _ _=>h) (fun pre W h=>h.2.2.1) ⟨?_,HL.2.1,cf _,by omega,by omega⟩
  7 8 74 40 (fun x=>#[.int .i64 (x.1.1:Nat),.int .i64 (x.1.2.1:Nat)]) (fun x=>#[.int .u8 x.1.2.2.kind,.int .u8 x.1.2.2.op,.int .i64 x.1.2.2.dst,.int .i64 x.1.2.2.ref,.int .i64 x.1.2.2.Ni,A x.1.1 x.1.2.1,F x.1.1 x.1.2.1,.int .i64 x.1.2.2.num,.int .i64 x.1.2.2.Nj]) ?assign ?body ?done ?stop)
 case assign=>(intro l x W K hK;obtain⟨⟨i,k,x⟩,row,C,hx⟩:=x;obtain⟨⟨aA,cA,eA,_⟩,⟨aF,cF,eF,_⟩,_⟩:=HG.2.1.ints i row C k x hx;dsimp only at hK⊢;rw[eA,eF] at hK⊢;simp only[List.zip_toArray,List.zip_cons_cons,List.zip_nil_right,List.foldl_toArray',List.size_toArray,kI,List.length_nil,List.foldl_cons,List.foldl_nil,ga] at hK;gi_wp2;exact hK)
 case body=>(
 rintro l pre x b1 b2 W j7 j8 j9 c6 c7 ⟨I,Y,hs,h4,h5⟩ h9;obtain⟨⟨i,k,x⟩,row,C,hx⟩:=x;obtain⟨⟨aA,cA,eA,_⟩,⟨aF,cF,eF,_⟩,_⟩:=HG.2.1.ints i row C k x hx;dsimp only at c6 c7⊢;rw[eA,eF] at c7⊢;have a7:((pre.map Subtype.val)++[((i,k,x):iL)])=(pre++[(⟨(i,k,x),row,C,hx⟩:EK b.Ng)]).map Subtype.val:=by rw[ic];rfl
 have x0:=c6.cl 0;have x1:=c6.cl 1;have y2:=c7.cl 2;have z0:=I.body.cl 0;have z1:=I.body.cl 1;have z4:=I.out.cl 0;have zn:=Y.cl 0;have fn:=Y.free 0;by_cases hd:x.dst= -1;·(
 have j:=J4 I Y hs a7;have td:(x.dst== -1)=true:=by rw[cy];exact hd
 clear I Y hs a7;gi_wp2;refine⟨KeepsFrom.refl _ _,fun h=>h,?_,?_,j.2.2.1,h4,h5⟩
 ·rw[←j.2.2.2];have e:(fun v:Nat=>iV (pre.map Subtype.val++[((i,k,x):iL)]) v)=fun v:Nat=>iV (pre.map Subtype.val) v:=by funext v;exact BO (by show x.dst≠_;omega)
  rw[e];exact j.1
 rw[←j.2.2.2,ic,xY];have e:og ([((i,k,x):iL)].map fun t=>t.2.2)=0:=by rw[List.map_cons,List.map_nil,xZ,ap hd]
 rw[e,dj];exact j.2.1)
 obtain⟨h1,h2⟩:=(HG.1.dst row (mG C) x (mG hx)).resolve_left hd;rw[HG.2.2.1] at h1;rw[HG.2.2.2.1] at h2;obtain⟨v,hv⟩:∃v:Nat,x.dst=v:=⟨x.dst.toNat,by omega⟩;rw[hv] at y2 h1 h2;have c8:=I.tab.cell (v*2);have c9:=I.tab.cell (v*2+1);have k0:=I.tab.free (v*2);have k1:=I.tab.free (v*2+1);rw[bI (by omega),GI] at c8;rw[bI (by omega),GJ] at c9;have a8:=I.set (g:=fun u:Nat=>iV (pre.map Subtype.val++[((i,k,x):iL)]) u) (v:=v) (fun u hu=>BO (by show x.dst≠_;omega)) (x:=i) (y:=k);have b7:og ((pre.map Subtype.val++[((i,k,x):iL)]).map fun t=>t.2.2)=og ((pre.map Subtype.val).map fun t=>t.2.2)+1:=by rw[ic,xY,List.map_cons,List.map_nil,xZ,ae hd]
 obtain⟨m,hm⟩:=eR (og ((pre.map Subtype.val).map fun t=>t.2.2));rw[hm] at zn Y b7;have k2:m≤5000:=by(
 have e1:m≤((pre.map Subtype.val).map fun t=>t.2.2).length:=by rw[←hm];exact List.length_filter_le _ _
 have e2:=congrArg List.length (vt b.Ng);rw[ce] at e2;rw[ce,ce] at e1;omega)
 have k5:v<nv:=by omega
 rcases rA (pre.map Subtype.val) (v:Int) with ⟨e,e7⟩|⟨u,hu,he,e⟩;·(
 have b3:=a8 (by show iV _ _=_;rw[←hv];exact Ft fun u hu=>by rw[show((i,k,x):iL).2.2.dst=(v:Int) from hv];exact e7 u hu);have j:=J5 b3 Y hs a7 b7;rw[e] at c8 c9;have td:((v:Int)== -1)=false:=by rw[bE];omega
 have te:decide ((v:Int)<(np:Int))=false:=by simp;omega
 have i1:decide (v<np)=false:=by simp;omega
 have tf:decide ((v:Int)≥(nv:Int))=false:=by simp;omega
 have i6:decide (nv≤v)=false:=by simp;omega
 clear I Y hs a7 a8 b3 hv hd e7 e h1 h2 b7 hm;gi_wp2;refine⟨(((KeepsOthers.setCell _ _ _).trans (KeepsOthers.setCell _ _ _)).trans (KeepsOthers.setCell _ _ _)).from _,fun h=>h.kept (((aa.refl _ W).setCell (p:=⟨w.heap.size+1+1+1,_,none⟩) (.inl (by simp;omega)) _).setCell (p:=⟨w.heap.size+1+1+1,_,none⟩) (.inl (by simp;omega)) _|>.setCell (p:=⟨wr.heap.size,0,none⟩) (.inl (by simp;omega)) _),?_,?_,by simpa using j.2.2.1,h4,h5⟩
 ·rw[←j.2.2.2.1]
  exact j.1.keep (kR.setCell (p:=⟨wr.heap.size,0,none⟩) (.inl (by simp;omega)) _)
 rw[←j.2.2.2.1,j.2.2.2.2];have:=((j.2.1.far (p:=⟨w.heap.size+1+1+1,v*2,none⟩) (by simp;omega) (.int .i64 i)).far (p:=⟨w.heap.size+1+1+1,v*2+1,none⟩) (by simp;omega) (.int .i64 k)).set 0 (.int .i64 (np+(m+1):Nat));simpa [Int.add_assoc] using this)
 have j:=J2 hs (show rM b.Ng (pre++[(⟨(i,k,x),row,C,hx⟩:EK b.Ng)]) from⟨pre,_,rfl,hd,by show 0≤(iV _ x.dst).1;rw[hv,e];simp⟩);rw[e] at c8 c9;have td:((v:Int)== -1)=false:=by rw[bE];omega
 have te:decide ((v:Int)<(np:Int))=false:=by simp;omega
 have i1:decide (v<np)=false:=by simp;omega
 have tf:decide ((v:Int)≥(nv:Int))=false:=by simp;omega
 have i6:decide (nv≤v)=false:=by simp;omega
 have tu:decide ((u.1:Int)≥0)=true:=by simp
 have r1:=I.r1.cell 0;have r2:=I.r2.cell 0;have i7:=I.r1.free 0;have j0:=I.r2.free 0;simp only[gc] at r1 r2;clear I Y hs a7 a8 hv hd hu he e h1 h2 b7 hm;gi_wp2;exact⟨((KeepsOthers.setCell _ _ _).trans (KeepsOthers.setCell _ _ _)).from _,rfl,j.2⟩)
 case done=>(
 rintro D xs W I hS ⟨J,Y,hs,h4,h5⟩ hK;have e8:(xs.map Subtype.val).map (fun t=>t.2.2)=b.Ng.flatten:=by rw[hS];exact vt _
 rw[e8] at Y;rw[show np+og b.Ng.flatten=nv by have:=HG.2.2.2.2;have:=HG.2.2.1;have:=HG.2.2.2.1;omega] at Y;have zn:=Y.cell 0;have z1:=J.body.cell 1;have z4:=J.out.cell 0;have r1:=J.r1.cell 0;have r2:=J.r2.cell 0;have i7:=J.r1.free 0;have j0:=J.r2.free 0;simp only[gc] at zn z1 z4 r1 r2;have j:=J3 J hS hK;clear J hS hK Y;go_wp2;have d7:=((KeepsOthers.setCell W ⟨w.heap.size+1,0,none⟩ (.slice (some ⟨w.heap.size+1+1+1,0,none⟩) nv nv)).trans (KeepsOthers.setCell _ ⟨w.heap.size+1+1,0,none⟩ (.bool true))).same D _ j.2.2 rfl;refine⟨by simp,.inl ⟨_,_,rfl,run_takeDeferred d7,?_⟩⟩;have q1:=((j.1.r1.set 0 (.slice (some ⟨w.heap.size+1+1+1,0,none⟩) nv nv)).far (p:=⟨w.heap.size+1+1,0,none⟩) (by simp) (.bool true)).cell 0;have q2:=((j.1.r2.far (p:=⟨w.heap.size+1,0,none⟩) (by simp) (.slice (some ⟨w.heap.size+1+1+1,0,none⟩) nv nv)).set 0 (.bool true)).cell 0;have q3:=cell_kept q1 (grownBy_putObj' _ D (.deferred none)) (fun r e=>by cases e;exact⟨_,d7,rfl⟩);have q4:=cell_kept q2 (grownBy_putObj' _ D (.deferred none)) (fun r e=>by cases e;exact⟨_,d7,rfl⟩)
 have k3:aa (fun g=>g≠w.heap.size+1∧g≠w.heap.size+1+1∧g<wl.heap.size) W (((W.setCell ⟨w.heap.size+1,0,none⟩ (.slice (some ⟨w.heap.size+1+1+1,0,none⟩) nv nv)).setCell ⟨w.heap.size+1+1,0,none⟩ (.bool true)).putObj D (.deferred none)):=
  aa.put (((aa.refl _ W).setCell (p:=⟨w.heap.size+1,0,none⟩) (.inl (by simp)) _).setCell (p:=⟨w.heap.size+1+1,0,none⟩) (.inl (by simp)) _) (.inl (by simp;omega)) _
 have k4:=am (j.1.kept.all.trans (k3.mono fun b (hb:b<w.heap.size)=>by refine⟨?_,?_,?_⟩<;>omega));have tb:=j.1.tab.kept k3 ⟨by omega,by omega,by omega⟩;rw[j.2.1] at tb;refine⟨.tuple #[.slice (some ⟨w.heap.size+1+1+1,0,none⟩) nv nv,.bool true],?_,_,rfl,k4,?_⟩
 ·simp at q3 q4
  simp[results,Tryz.f19,go_sem,q3,q4]
 exact Fu HG.1 HG.2.2.2.1 d8 h3 tb (by omega))
 case stop=>rintro D c pre W I hS ⟨_,h⟩ hK;exact(wF HG.1 h hS).elim
 exact HL.1.congr fun v hv=>ap hv
end
theorem xV {b:aw}(o:gY b){v:Nat}(J:(v:Int)<b.vars):((v:Int)<b.params∧iV (cd b.Ng).flatten v=(-1,-1))∨(¬(v:Int)<b.params∧∃i k:Nat,jF b v i k∧iV (cd b.Ng).flatten v=((i:Int),(k:Int))):=by
 rcases rA (cd b.Ng).flatten (v:Int) with ⟨e,R⟩|⟨u,hu,he,e⟩
 ·by_cases Y:(v:Int)<b.params;·exact .inl ⟨Y,e⟩
  obtain⟨i,k,j⟩:=o.all v (by omega) J;obtain⟨x,hx,j⟩:=qr.1 j;exact absurd j (R _ hx)
 obtain⟨l,C,I⟩:=nR.1 hu;have j:=o.dst l (mG C) u.2.2 (mG I);refine .inr ⟨by omega,u.1,u.2.1,⟨l,u.2.2,C,I,he⟩,e⟩
def rJ (S:Nat→Prop)(w:World)(Y:Nat)(b:aw)(t:Nat→Int):Prop:=∃bv j o C I J R,al w Y 88 #[.int .i64 b.params,.int .i64 b.vars,bv,.slice j b.Ng.length o,.slice C b.Ng.length I,.slice J b.vars.toNat R]∧
 aK S w (.slice j b.Ng.length o) (lV b.Ng.length t)∧Rows S w (.slice C b.Ng.length I) (gF (bM b))∧ev S w (.slice J b.vars.toNat R) (jp b)
theorem rJ.keep {S R:Nat→Prop}{w C:World}{j:Nat}{b:aw}{t:Nat→Int}(h:rJ S w j b t)(k:aa R w C)(o:∀g,S g→R g)(I:R j):rJ S C j b t:=by obtain⟨J,Y,c3,A4,c4,A5,c5,h1,h2,h3,h4⟩:=h;exact⟨J,Y,c3,A4,c4,A5,c5,h1.kept k I,ah.keep (k.mono o) h2,aq.keep (k.mono o) h3,bu.keep (k.mono o) h4⟩
theorem uR {b:aw}{v:Nat}(j:(v:Int)<b.vars):(jp b)[v]? =some (iV (cd b.Ng).flatten v):=by unfold jp;rw[cL,ln (by omega)];rfl
theorem vU (S:Nat→Prop)(kb:Nat)(b:aw)(pl:Nat→Nat)(t:Nat→Int)(v blk:Nat)(w:World)(hC:rJ S w kb b t)(hG:gY b)(T:mz (bM b) t pl)(hv:(v:Int)<b.vars)(C:blk<b.Ng.length):
 Calls prog 66 #[.pointer (some ⟨kb,0,none⟩),.int .i64 v,.int .i64 blk] w fun e w'=>e=.returned (.bool (pB (jl b v blk)))∧aa All w w':=by
 have a8:=cS b;have I:=fun wn (C:aa All w wn)=>hC.keep C (fun _ _=>trivial) trivial;obtain⟨bv,A3,c3,A4,c4,A5,c5,h1,h2,h3,h4⟩:=hC;obtain⟨db,dO,cs,rfl,_,_,a1,rfl,_⟩:=aZ h4 (uR hv);have J:=xV hG hv;obtain⟨⟨d0,d1⟩,R⟩:∃d,iV (cd b.Ng).flatten v=d:=⟨_,rfl⟩;rw[R] at J a1;simp only[Prod.mk.injEq] at J;have q0:=a1 0 _ rfl;have q1:=a1 1 _ rfl;rw[dj] at q0;have k3:=h1.cl 3;have k5:=h1.cl 5;obtain⟨nv,b0⟩:∃nv:Nat,b.vars=nv:=⟨b.vars.toNat,by omega⟩;have b2:v<nv:=by omega
 rw[b0,dP] at k5;have b1:=C;obtain⟨W0,a6⟩:=eQ (w.alloc (.cells #[.int .i64 d0,.int .i64 d1] 74));have a7:=aC1 a6;have bD:=aA0 a6;have HF:=oH (show∀wn,aa All W0 wn→wn.cell? ⟨w.heap.size,0,none⟩=some (.int .i64 d0)∧wn.cell? ⟨w.heap.size,1,none⟩=some (.int .i64 d1)∧wn.cell? ⟨kb,3,none⟩=some (.slice A3 b.Ng.length c3) from fun wn C=>⟨(bD.kept C trivial).cell 0,(bD.kept C trivial).cell 1,(h1.kept (a7.trans C) trivial).cell 3⟩);have HG:=J3 hG T h2;have HW:=J4 a6 a7 R I;clear hG T h1 h2 h3 h4 a1 a6 a7 bD R I a8;go_enter func66,ntmps66;go_upto_region 2 with fail;rw[←HW.1];clear k3 k5 q0 q1;rcases J with ⟨hp,rfl,rfl⟩|⟨hp,i,j,hd,rfl,rfl⟩
 ·have HY:=oH (show jl b v blk from .inl hp);clear hp;refine R0 14 W0 (fun _=>none) ?_;iterate 4 first|refine O4 HF.out ?_|refine O0 ?_
  iterate 8 refine O2 ?_
  iterate 2 refine O0 ?_
  refine aG fun wt Y hF=>?_;have HT:=oH Y;clear Y hF;simp only[dK];go_wp2_with fail;go_ret;exact⟨by rw[av HY.out]<;>rfl,HW.2.1.trans HT.out⟩
 have he:=kC (qs (blk:=blk) HG.1 (by omega) hp hd);obtain⟨q,hq⟩:=eR (pB (jl b v blk));have o:=fun wn (C:aa All W0 wn)=>uk S (bM b) (.slice A3 b.Ng.length c3) t pl i blk wn (by rw[cS];exact ah.keep (HW.2.1.trans C).all HG.2.2) HG.2.1 (by rw[cS];have:=HG.1.blk.2;omega) (by rw[cS];exact b1);rw[←he,hq] at o;have HC:=J2 o hq;clear he o hq hd hp;refine R0 14 W0 (fun i=>if i=11 then some (·=.bool q) else none) ?_;iterate 11 first|refine O4 HF.out ?_|refine O0 ?_
 refine O5 (v:=.bool q) (fun wn C hp=>⟨_,_,by(skip;go_simp<;>with_reducible rfl),((HC.1 wn C).mono fun e w' h=>⟨h.1,C.trans h.2,fun _ h=>by cases h⟩)⟩) ?_;iterate 2 refine O0 ?_
 refine aG fun wt Y hF=>?_;have HT:=oH Y;clear Y hF;simp only[dK];go_wp2_with fail;go_ret;exact⟨by rw[HC.2]<;>rfl,HW.2.1.trans HT.out⟩
theorem Br (S:Nat→Prop)(kb:Nat)(b:aw)(pl:Nat→Nat)(t:Nat→Int)(v blk n:Nat)(w:World)(hC:rJ S w kb b t)(hG:gY b)(T:mz (bM b) t pl)(hv:(v:Int)<b.vars)(hk:blk<b.Ng.length):
 Calls prog 36 #[.pointer (some ⟨kb,0,none⟩),.int .i64 v,.agg #[.int .i64 blk,.int .i64 n]] w fun e w'=>e=.returned (.bool (pB (iP b v blk n)))∧aa All w w':=by
 have b1:=cS b;have o:=fun wn (hk:aa All w wn)=>hC.keep hk (fun _ _=>trivial) trivial;obtain⟨bv,A3,c3,A4,c4,A5,c5,h1,h2,h3,h4⟩:=hC;obtain⟨db,dO,cs,rfl,_,_,a6,rfl,_⟩:=aZ h4 (uR hv);have C:=xV hG hv;obtain⟨⟨d0,d1⟩,I⟩:∃d,iV (cd b.Ng).flatten v=d:=⟨_,rfl⟩;rw[I] at C a6;simp only[Prod.mk.injEq] at C;have q0:=a6 0 _ rfl;have q1:=a6 1 _ rfl;rw[dj] at q0;have k3:=h1.cl 3;have k5:=h1.cl 5;obtain⟨nv,b2⟩:∃nv:Nat,b.vars=nv:=⟨b.vars.toNat,by omega⟩;have b3:v<nv:=by omega
 rw[b2,dP] at k5;have b4:=hk;have kw:aa All w (w.alloc (.cells #[.int .i64 blk,.int .i64 n] 74)):=kR.alloc _;have q0:=kw.cell trivial q0;have q1:=kw.cell trivial q1;have k5:=kw.cell trivial k5;obtain⟨W0,J⟩:=eQ ((w.alloc (.cells #[.int .i64 blk,.int .i64 n] 74)).alloc (.cells #[.int .i64 d0,.int .i64 d1] 74));have b0:=aC2 J;have bA:=aA1 J;have bD:=aB0 J aE1;have a0:=bA.cl 0;have a1:=bA.cl 1;have r0:=bD.cl 0;have r1:=bD.cl 1;have R:=vU S kb b pl t v blk W0 (o W0 b0) hG T (by omega) hk;have HG:=J3 hG R T;have HW:=J4 J b0 I o;clear hG T h1 h2 h3 h4 a6 J b0 bD bA I o b1 R;go_enter func36,ntmps36;go_upto_region 2 with fail;rw[←HW.1];clear k3 k5 q0 q1;rcases C with ⟨hp,rfl,rfl⟩|⟨hp,i,j,hd,rfl,rfl⟩
 ·have HY:=J2 (show jl b v blk from .inl hp) (show iP b v blk n from .inl hp);clear hp;have te:((-1:Int)==(blk:Int))=false:=by rw[bE];omega
  have hc:=HG.2.1;rw[av HY.1] at hc;have HC:=oH hc;clear hc;go_wp2_with fail;refine HC.out.mono ?_;rintro e w2 ⟨rfl,Y⟩;have HK:=oH Y;clear Y;go_wp2_with fail;go_ret;exact⟨by rw[av HY.2]<;>rfl,HW.2.1.trans HK.out⟩
 have ht:=tP (n:=n) (blk:=blk) HG.1 (by omega) hp hd;by_cases a7:i=blk
 ·have te:((i:Int)==(blk:Int))=true:=by rw[cy];omega
  rw[ap a7] at ht;have HT:=oH (kC ht);clear ht a7 hp hd;go_wp2_with fail;go_ret;refine⟨?_,HW.2.1⟩;rw[HT.out];by_cases a8:j<n;·rw[av a8];simp[a8]
  rw[au a8];simp[a8]
 have te:((i:Int)==(blk:Int))=false:=by rw[bE];omega
 rw[ae a7] at ht;have he:=qs (blk:=blk) HG.1 (by omega) hp hd;obtain⟨q,hq⟩:=eR (pB (jl b v blk));have hc:=HG.2.1;rw[hq] at hc;have HC:=J2 hc ((kC (ht.trans he.symm)).trans hq);clear ht he a7 hp hd hc hq;go_wp2_with fail;refine HC.1.mono ?_;rintro e w2 ⟨rfl,Y⟩;have HK:=oH Y;clear Y;go_wp2_with fail;go_ret;exact⟨by rw[HC.2]<;>rfl,HW.2.1.trans HK.out⟩
section
structure zG {α:Type}(E:cO α):Prop where
 any:∀ {S T:Nat→Prop} {w w':World} {cs:List Value} {x:α},E S w cs x→E T w' cs x
 one:∀ {S:Nat→Prop} {w:World} {cs:List Value} {x:α},E S w cs x→∀u∈cs,u.oneCell'=true
section
variable {α:Type} {n bw:Nat} {E:cO α}
theorem BT:∀(o:List (List Value)),(∀c∈o,c.length=n)→∀(j:Nat) u,o.flatten[j]? =some u→∃i r cs,o[i]? =some cs∧cs[r]? =some u∧j=i*n+r
 | [],_,j,u,h=>by simp at h
 |c::o,C,j,u,h=>by(
 rw[List.flatten_cons] at h;have hc:=C c (List.mem_cons_self ..);by_cases I:j<c.length
 ·rw[ma I] at h
  exact⟨0,j,c,rfl,h,by omega⟩
 rw[kH (by omega)] at h;obtain⟨i,r,cs,J,R,h3⟩:=BT o (fun d Y=>C d (List.mem_cons_of_mem _ Y)) _ u h;exact⟨i+1,r,cs,by simpa using J,R,by rw[Nat.succ_mul];omega⟩)
theorem xn {S:Nat→Prop}{w:World}{A:Option Addr}{m c:Nat}{l:List α}(h:rx n bw E S w (.slice A m c) l):m=l.length∧m≤maxLen∧l.length*bw≤140737488355328∧∃C:List (List Value),C.length=l.length∧(∀cs∈C,cs.length=n)∧(∀(i:Nat) x,l[i]? =some x→∃cs,C[i]? =some cs∧E S w cs x)∧
 (0<m→∃b off,A=some ⟨b,off,none⟩∧∀(j:Nat) u,C.flatten[j]? =some u→w.cell? ⟨b,off+j,none⟩=some u):=by
 obtain⟨a,cap,hv,h1,h2,h3,h⟩:=h;injection hv with e1 e2 e3;subst e1;subst e2;subst e3;have hc:∀i:Nat,∃cs:List Value,∀x,l[i]? =some x→cs.length=n∧E S w cs x∧∃b off,A=some ⟨b,off,none⟩∧∀(j:Nat) u,cs[j]? =some u→w.cell? ⟨b,off+i*n+j,none⟩=some u:=by(
 intro i;cases hi:l[i]? with
 |none=>exact⟨[],fun x hx=>by cases hx⟩
 |some x=>obtain⟨b,off,cs,ha,_,hl,o,hE⟩:=h i x hi;exact⟨cs,fun y hy=>by cases hy;exact⟨hl,hE,b,off,ha,o⟩⟩)
 obtain⟨f,J⟩:=Classical.axiomOfChoice hc;refine⟨rfl,by omega,h3,(List.range l.length).map f,by simp,fun cs I=>?_,fun i x hx=>?_,fun hp=>?_⟩
 ·obtain⟨i,hi,rfl⟩:=dr.1 I
  exact(J i _ (lG (fg.1 hi))).1
 ·have hi:=(lS.1 hx).1
  exact⟨f i,by rw[cL,ln hi];rfl,(J i x hx).2.1⟩
 obtain⟨b,off,ha,_⟩:=(J 0 _ (lG hp)).2.2;refine⟨b,off,ha,fun j u hu=>?_⟩;obtain⟨i,r,cs,h4,h5,rfl⟩:=BT _ (fun cs I=>by obtain⟨i,hi,rfl⟩:=dr.1 I;exact(J i _ (lG (fg.1 hi))).1) j u hu;rw[cL] at h4;obtain⟨k,hk,rfl⟩:=oE.1 h4;have R:i<l.length:=by have:=(lS.1 hk).1;simpa using this
 rw[ln R] at hk;cases hk;obtain⟨b',a1,Y,o⟩:=(J i _ (lG R)).2.2;rw[ha] at Y;cases Y;have:=o r u h5;rwa [Nat.add_assoc] at this
theorem rB {E:bT α}{S:Nat→Prop}{w:World}{v:Value}{l:List α}(h:Sl bw E S w v l):rx 1 bw (eT E) S w v l:=by
 obtain⟨a,cap,rfl,C,I,J,h⟩:=h;refine⟨a,cap,rfl,C,I,J,fun i x R=>?_⟩;obtain⟨b,off,u,e,Y,hc,hE⟩:=h i x R;exact⟨b,off,[u],e,Y,rfl,fun j c o=>by
  rcases j with _|j;·cases o;rw[Nat.mul_one,dj];exact hc
  simp at o,u,rfl,hE⟩
theorem gx {P:Program}(w:World){ops:Array Oper}{rest:List Oper}{o:Oper}{a:Act}{Q:Exit→Act→World→Prop}(g:zG E)(a7:o.guard=none)(s x:Operand)(t:TypeId)
 (ho:o.op=.call {callee:=.builtin .append,args:=#[s,x],argTypes:=#[t,t]})
 (e:TypeId) (i:TypeInfo) (z:Value) (ht:P.underlying t=some (.slice e)) (hi:P.info? e=some i) (hz:i.zero=some z)
 (C:i.size=n) (a8:i.bytes=bw) (b0:z.cells.size=n) (b1:0<n)
 (B J:Nat) (hs:a.eval s=.slice (some ⟨J,0,none⟩) 0 0) (hg:al w J e #[]) (hB:B≤J) {S:Nat→Prop} {A:Option Addr} {m c:Nat} {l:List α} (hx:a.eval x=.slice A m c) (b2:rx n bw E S w (.slice A m c) l)
 (h:∀A' c' R,rx n bw E (fun b=>B≤b∧b<R.heap.size) R (.slice A' l.length c') l→w.grownBy R (some J)→wpList P ops Q rest (a.put o.dst (.slice A' l.length c')) R):wpList P ops Q (o::rest) a w:=by
 obtain⟨hm,b7,Y,j,h1,h2,h3,h4⟩:=xn b2;have b3:j.flatten.length=m*n:=by
  have:∀L:List (List Value),(∀c∈L,c.length=n)→L.flatten.length=L.length*n:=by(
 intro L;induction L with
 |nil=>intro _;simp
 |cons c L ih=>intro hL;rw[List.flatten_cons,iQ,kI,Nat.succ_mul,ih fun d hd=>hL d (List.mem_cons_of_mem _ hd),hL c (List.mem_cons_self ..)];omega)
  rw[this j h2,h1,hm]
 have b4:∀u∈j.flatten,u.oneCell'=true:=by intro u hu;obtain⟨cs,b5,hu⟩:=List.mem_flatten.1 hu;obtain⟨k,hk⟩:=cY.1 b5;have b8:=(lS.1 hk).1;obtain⟨b9,a1,hE⟩:=h3 k _ (lG (by omega));rw[hk] at a1;cases a1;exact g.one hE u hu
 have a6:w.ownsRow B e n (.slice (some ⟨J,0,none⟩) 0 0) 0 []:=⟨by simp,.inr ⟨J,0,#[],rfl,hB,hg,cf _,Nat.zero_le _,by simp,by simp⟩⟩;have c0:=hg.lt;refine aR w a7 s x t ho B e i z n bw ht hi hz C a8 b0 b1 _ 0 [] hs a6 A m c j.flatten hx b3 h4 b4 (by omega) (by rw[cN,hm];exact Y) (by omega) fun v' R I b6 _=>?_;rw[cN,mF,hm] at I;obtain⟨A',c',rfl⟩:=aU I;refine h A' c' R (dR.read (E:=E) (B:=B) (e:=e) ?_ ?_ Y) b6;·exact⟨fun _ hh=>g.any hh,fun _ hh=>g.any hh⟩
 exact⟨j,fun _=>False,I,h1,h2,fun _ hh=>hh.elim,fun k y hy=>by obtain⟨cs,hc,hE⟩:=h3 k y hy;exact⟨cs,hc,g.any hE⟩⟩
end
theorem IL:zG (eT EQ):=⟨fun⟨v,e,h⟩=>⟨v,e,h⟩,fun⟨v,e,h⟩ u hu=>by subst e;rw[cx.1 hu,h];rfl⟩
theorem IM:zG (eT Cz):=⟨fun⟨v,e,h⟩=>⟨v,e,h⟩,fun⟨v,e,h⟩ u hu=>by subst e;rw[cx.1 hu,h];rfl⟩
theorem BR:zG (eT rQ):=⟨fun⟨v,e,h⟩=>⟨v,e,h⟩,fun⟨v,e,h⟩ u hu=>by subst e;rw[cx.1 hu,h.1];rfl⟩
theorem yl:zG uy:=⟨fun h=>h,fun h u hu=>by rw[h.1] at hu;simp only[fX,List.not_mem_nil,or_false] at hu;rcases hu with rfl|rfl<;>rfl⟩
theorem FF:zG rI:=⟨fun h=>h,fun h u hu=>by rw[h.1] at hu;simp only[fX,List.not_mem_nil,or_false] at hu;rcases hu with rfl|rfl<;>rfl⟩
end
theorem FW:(prog.info? 9).map (fun i=>(i.zero,i.size,i.bytes))=some (some (.string ⟨#[]⟩),1,16):=by kernel_rfl
theorem Jn:(prog.info? 228).map (fun i=>(i.zero,i.size,i.bytes))=some (some (.agg #[.string ⟨#[]⟩,.int .i64 0]),2,24):=by kernel_rfl
def Cx (p:aH)(w:World)(e:Ending)(j:World):Prop:=∃u,e=.returned u∧aa All w j∧dJ (fun b=>w.heap.size≤b∧b<j.heap.size) j u p
theorem yR (S:Nat→Prop)(pv:Value)(p:aH)(w:World)(hp:dJ S w pv p):
 Calls prog 12 #[pv] w (Cx p w):=by
 obtain⟨iS,IS⟩:=iH FW;obtain⟨iU,IU⟩:=iH Km;obtain⟨iC,IC⟩:=iH Jn;obtain⟨j9,vu,vi,vo,rfl,h4,h5,h6,h7,h8⟩:=hp;have b0:=fun wn (hk:aa All w wn)=>rB (ax.keep hk.all h4);have b1:=fun wn (hk:aa All w wn)=>rB (dU.keep hk.all h5);have b2:=aX.la h6;have b3:=aX.la h7;obtain⟨a1,n1,rfl,_⟩:=h4;obtain⟨a2,n2,rfl,_⟩:=h5;obtain⟨a3,n3,rfl,_⟩:=h6;obtain⟨a4,n4,rfl,_⟩:=h7;have HS:=J5 b0 b1 b2 b3 h8;clear b0 b1 b2 b3 h8;obtain⟨o,a7⟩:=eQ ((w.alloc (.cells #[.slice a1 p.MZ.length n1,.slice a2 p.up.length n2,.slice a3 p.Nb.length n3,.slice a4 p.Na.length n4,.int .i64 p.Nc] 26)).alloc (.cells #[.slice none 0 0,.slice none 0 0,.slice none 0 0,.slice none 0 0,.int .i64 0] 26));have j4:w.heap.size+2≤o.heap.size:=by rw[a7];simp
 have h9:=aC2 a7;have i1:=aA1 a7;have i6:=aB0 a7 aE1;have HW:=oH a7;have H0:=J3 h9 i1 i6;clear a7 h9 i1 i6;go_enter func12,ntmps12;go_upto_region 1 with fail;rw[←HW.out];obtain⟨X0,b4⟩:∃X,X=o.alloc (.cells #[] 9):=⟨_,rfl⟩;have R:=aC1 b4;have bX:=aA0 b4;have e8:o.heap.size+1≤X0.heap.size:=by rw[b4];simp
 have y:=(H0.2.1.alloc (.cells #[] 9)).cl 0;have b5:=J3 b4 R bX;clear b4 R bX
 go_upto_region 2 with (at_builtin
                        go_loud (rw[←b5.1];refine gx (E:=(eT EQ)) X0 IL rfl (.tmp 3) (.tmp 5) 22 rfl 9 iS _ underlying22 IS.1 IS.2.1 IS.2.2.1 IS.2.2.2 rfl (by decide) o.heap.size o.heap.size rfl b5.2.2 (cf _) rfl (HS.1 X0 (H0.1.trans b5.2.1)) ?_;intro C0 e0 v0 b0 i7;have I:aa (fun b=>b≠o.heap.size) X0 v0:=kR.grown i7 fun b j=>.inl fun h=>h (by injection j with j;exact j.symm);have bb:=(H0.2.1.kept b5.2.1 trivial).kept I (by show _≠_;omega);have f:=bb.free 0;have y2:=bb.cl 0;have e9:=J3 b0 I bb;clear b0 i7 I bb))
 have J:=e9.2.2.set 0 (.slice C0 p.MZ.length e0);have C:=(aa.refl (fun b=>b≠w.heap.size) v0).setCell (p:=⟨w.heap.size,0,none⟩) (.inl fun h=>h rfl) (.slice C0 p.MZ.length e0);simp only[ga] at J;have d9:=J2 J C;clear J C y f y2;generalize v0.setCell _ _=W1 at*;have b6:aa (fun b=>b<o.heap.size∧b≠w.heap.size) o W1:=(b5.2.1.all.trans (e9.2.1.mono fun b j=>by show b≠_;omega)).trans (d9.2.mono fun b j=>j.2);have e4:aa (fun b=>b≠w.heap.size) o W1:=⟨b6.os,b6.output,b6.size,fun k hk j=>b6.block k hk ⟨hk,j⟩⟩;have j5:o.heap.size≤W1.heap.size:=e4.size;have H1:=J4 (am (H0.1.all.trans (e4.mono fun b j=>by show b≠_;omega))) (d9.1) (H0.2.2.kept e4 (by show _≠_;omega)) (bT.Good.wide (cH (aS iu)) (fun b (j:o.heap.size≤b∧b<v0.heap.size)=>show o.heap.size≤b∧b<W1.heap.size by have:=d9.2.size;omega) (bT.Good.keep (cH (aS iu)) (d9.2.mono fun b (j:o.heap.size≤b∧b<v0.heap.size)=>by show b≠_;omega) e9.1));clear b6 e4;obtain⟨X1,b7⟩:∃X,X=W1.alloc (.cells #[] 52):=⟨_,rfl⟩;have R:=aC1 b7;have bX:=aA0 b7;have e8:W1.heap.size+1≤X1.heap.size:=by rw[b7];simp
 have y:=(H1.2.1.alloc (.cells #[] 52)).cl 1;have b8:=J3 b7 R bX;clear b7 R bX
 go_upto_region 3 with (at_builtin
                        go_loud (rw[←b8.1];refine gx (E:=(eT Cz)) X1 IM rfl (.tmp 8) (.tmp 10) 23 rfl 52 iU _ underlying23 IU.1 IU.2.1 IU.2.2.1 IU.2.2.2 rfl (by decide) W1.heap.size W1.heap.size rfl b8.2.2 (cf _) rfl (HS.2.1 X1 (H1.1.trans b8.2.1)) ?_;intro C1 e1 v1 b1 j0;have I:aa (fun b=>b≠W1.heap.size) X1 v1:=kR.grown j0 fun b j=>.inl fun h=>h (by injection j with j;exact j.symm);have bb:=(H1.2.1.kept b8.2.1 trivial).kept I (by show _≠_;omega);have f:=bb.free 1;have y2:=bb.cl 1;have h0:=J3 b1 I bb;clear b1 j0 I bb))
 have J:=h0.2.2.set 1 (.slice C1 p.up.length e1);have C:=(aa.refl (fun b=>b≠w.heap.size) v1).setCell (p:=⟨w.heap.size,1,none⟩) (.inl fun h=>h rfl) (.slice C1 p.up.length e1);simp only[ga] at J;have e5:=J2 J C;clear J C y f y2;generalize v1.setCell _ _=W2 at*;have b9:aa (fun b=>b<W1.heap.size∧b≠w.heap.size) W1 W2:=(b8.2.1.all.trans (h0.2.1.mono fun b j=>by show b≠_;omega)).trans (e5.2.mono fun b j=>j.2);have c5:aa (fun b=>b≠w.heap.size) W1 W2:=⟨b9.os,b9.output,b9.size,fun k hk j=>b9.block k hk ⟨hk,j⟩⟩;have j6:W1.heap.size≤W2.heap.size:=c5.size;have H2:=J5 (am (H1.1.all.trans (c5.mono fun b j=>by show b≠_;omega))) (e5.1) (H1.2.2.1.kept c5 (by show _≠_;omega)) ((bT.Good.wide (cH (aS iu)) (fun b (j:o.heap.size≤b∧b<W1.heap.size)=>show o.heap.size≤b∧b<W2.heap.size by omega) (bT.Good.keep (cH (aS iu)) (c5.mono fun b (j:o.heap.size≤b∧b<W1.heap.size)=>by show b≠_;omega) H1.2.2.2))) (bT.Good.wide (cH (aS jO)) (fun b (j:W1.heap.size≤b∧b<v1.heap.size)=>show o.heap.size≤b∧b<W2.heap.size by have:=e5.2.size;omega) (bT.Good.keep (cH (aS jO)) (e5.2.mono fun b (j:W1.heap.size≤b∧b<v1.heap.size)=>by show b≠_;omega) h0.1));clear b9 c5;obtain⟨X2,c6⟩:∃X,X=W2.alloc (.cells #[] 228):=⟨_,rfl⟩;have R:=aC1 c6;have bX:=aA0 c6;have e8:W2.heap.size+1≤X2.heap.size:=by rw[c6];simp
 have y:=(H2.2.1.alloc (.cells #[] 228)).cl 2;have c7:=J3 c6 R bX;clear c6 R bX
 go_upto_region 4 with (at_builtin
                        go_loud (rw[←c7.1];refine gx (E:=uy) X2 yl rfl (.tmp 13) (.tmp 15) 24 rfl 228 iC _ underlying24 IC.1 IC.2.1 IC.2.2.1 IC.2.2.2 rfl (by decide) W2.heap.size W2.heap.size rfl c7.2.2 (cf _) rfl (HS.2.2.1 X2 (H2.1.trans c7.2.1)) ?_;intro C2 e2 v2 b2 j1;have I:aa (fun b=>b≠W2.heap.size) X2 v2:=kR.grown j1 fun b j=>.inl fun h=>h (by injection j with j;exact j.symm);have bb:=(H2.2.1.kept c7.2.1 trivial).kept I (by show _≠_;omega);have f:=bb.free 2;have y2:=bb.cl 2;have h1:=J3 b2 I bb;clear b2 j1 I bb))
 have J:=h1.2.2.set 2 (.slice C2 p.Nb.length e2);have C:=(aa.refl (fun b=>b≠w.heap.size) v2).setCell (p:=⟨w.heap.size,2,none⟩) (.inl fun h=>h rfl) (.slice C2 p.Nb.length e2);simp only[ga] at J;have e6:=J2 J C;clear J C y f y2;generalize v2.setCell _ _=Y at*;have c8:aa (fun b=>b<W2.heap.size∧b≠w.heap.size) W2 Y:=(c7.2.1.all.trans (h1.2.1.mono fun b j=>by show b≠_;omega)).trans (e6.2.mono fun b j=>j.2);have a8:aa (fun b=>b≠w.heap.size) W2 Y:=⟨c8.os,c8.output,c8.size,fun k hk j=>c8.block k hk ⟨hk,j⟩⟩;have j7:W2.heap.size≤Y.heap.size:=a8.size;have H3:=J6 (am (H2.1.all.trans (a8.mono fun b j=>by show b≠_;omega))) (e6.1) (H2.2.2.1.kept a8 (by show _≠_;omega)) ((bT.Good.wide (cH (aS iu)) (fun b (j:o.heap.size≤b∧b<W2.heap.size)=>show o.heap.size≤b∧b<Y.heap.size by omega) (bT.Good.keep (cH (aS iu)) (a8.mono fun b (j:o.heap.size≤b∧b<W2.heap.size)=>by show b≠_;omega) H2.2.2.2.1))) ((bT.Good.wide (cH (aS jO)) (fun b (j:o.heap.size≤b∧b<W2.heap.size)=>show o.heap.size≤b∧b<Y.heap.size by omega) (bT.Good.keep (cH (aS jO)) (a8.mono fun b (j:o.heap.size≤b∧b<W2.heap.size)=>by show b≠_;omega) H2.2.2.2.2))) (bT.Good.wide aX (fun b (j:W2.heap.size≤b∧b<v2.heap.size)=>show o.heap.size≤b∧b<Y.heap.size by have:=e6.2.size;omega) (bT.Good.keep aX (e6.2.mono fun b (j:W2.heap.size≤b∧b<v2.heap.size)=>by show b≠_;omega) h1.1));clear c8 a8;obtain⟨X3,c9⟩:∃X,X=Y.alloc (.cells #[] 228):=⟨_,rfl⟩;have R:=aC1 c9;have bX:=aA0 c9;have e8:Y.heap.size+1≤X3.heap.size:=by rw[c9];simp
 have y:=(H3.2.1.alloc (.cells #[] 228)).cl 3;have d7:=J3 c9 R bX;clear c9 R bX
 go_upto_region 5 with (at_builtin
                        go_loud (rw[←d7.1];refine gx (E:=uy) X3 yl rfl (.tmp 18) (.tmp 20) 24 rfl 228 iC _ underlying24 IC.1 IC.2.1 IC.2.2.1 IC.2.2.2 rfl (by decide) Y.heap.size Y.heap.size rfl d7.2.2 (cf _) rfl (HS.2.2.2.1 X3 (H3.1.trans d7.2.1)) ?_;intro C3 e3 v3 b3 j2;have I:aa (fun b=>b≠Y.heap.size) X3 v3:=kR.grown j2 fun b j=>.inl fun h=>h (by injection j with j;exact j.symm);have bb:=(H3.2.1.kept d7.2.1 trivial).kept I (by show _≠_;omega);have f:=bb.free 3;have y2:=bb.cl 3;have h2:=J3 b3 I bb;clear b3 j2 I bb))
 have J:=h2.2.2.set 3 (.slice C3 p.Na.length e3);have C:=(aa.refl (fun b=>b≠w.heap.size) v3).setCell (p:=⟨w.heap.size,3,none⟩) (.inl fun h=>h rfl) (.slice C3 p.Na.length e3);simp only[ga] at J;have e7:=J2 J C;clear J C y f y2;generalize v3.setCell _ _=W4 at*;have d8:aa (fun b=>b<Y.heap.size∧b≠w.heap.size) Y W4:=(d7.2.1.all.trans (h2.2.1.mono fun b j=>by show b≠_;omega)).trans (e7.2.mono fun b j=>j.2);have a6:aa (fun b=>b≠w.heap.size) Y W4:=⟨d8.os,d8.output,d8.size,fun k hk j=>d8.block k hk ⟨hk,j⟩⟩;have j8:Y.heap.size≤W4.heap.size:=a6.size;have H4:=J7 (am (H3.1.all.trans (a6.mono fun b j=>by show b≠_;omega))) (e7.1) (H3.2.2.1.kept a6 (by show _≠_;omega)) ((bT.Good.wide (cH (aS iu)) (fun b (j:o.heap.size≤b∧b<Y.heap.size)=>show o.heap.size≤b∧b<W4.heap.size by omega) (bT.Good.keep (cH (aS iu)) (a6.mono fun b (j:o.heap.size≤b∧b<Y.heap.size)=>by show b≠_;omega) H3.2.2.2.1))) ((bT.Good.wide (cH (aS jO)) (fun b (j:o.heap.size≤b∧b<Y.heap.size)=>show o.heap.size≤b∧b<W4.heap.size by omega) (bT.Good.keep (cH (aS jO)) (a6.mono fun b (j:o.heap.size≤b∧b<Y.heap.size)=>by show b≠_;omega) H3.2.2.2.2.1))) ((bT.Good.wide aX (fun b (j:o.heap.size≤b∧b<Y.heap.size)=>show o.heap.size≤b∧b<W4.heap.size by omega) (bT.Good.keep aX (a6.mono fun b (j:o.heap.size≤b∧b<Y.heap.size)=>by show b≠_;omega) H3.2.2.2.2.2))) (bT.Good.wide aX (fun b (j:Y.heap.size≤b∧b<v3.heap.size)=>show o.heap.size≤b∧b<W4.heap.size by have:=e7.2.size;omega) (bT.Good.keep aX (e7.2.mono fun b (j:Y.heap.size≤b∧b<v3.heap.size)=>by show b≠_;omega) h2.1));clear d8 a6;obtain⟨p0,p1,p2,p3,p4⟩:=H4.2.1.c5;obtain⟨z0,z1,z2,z3,z4⟩:=H4.2.2.1.c5;have f0:=H4.2.2.1.free 0;have f1:=H4.2.2.1.free 1;have f2:=H4.2.2.1.free 2;have f3:=H4.2.2.1.free 3;have f4:=H4.2.2.1.free 4;have h3:=(((((H4.2.2.1.set 0 (.slice C0 p.MZ.length e0)).set 1 (.slice C1 p.up.length e1)).set 2 (.slice C2 p.Nb.length e2)).set 3 (.slice C3 p.Na.length e3)).set 4 (.int .i64 p.Nc));have j3:=((((((aa.refl (fun b=>b≠w.heap.size+1) W4).setCell (p:=⟨w.heap.size+1,0,none⟩) (.inl fun h=>h rfl) (.slice C0 p.MZ.length e0)).setCell (p:=⟨w.heap.size+1,1,none⟩) (.inl fun h=>h rfl) (.slice C1 p.up.length e1)).setCell (p:=⟨w.heap.size+1,2,none⟩) (.inl fun h=>h rfl) (.slice C2 p.Nb.length e2)).setCell (p:=⟨w.heap.size+1,3,none⟩) (.inl fun h=>h rfl) (.slice C3 p.Na.length e3)).setCell (p:=⟨w.heap.size+1,4,none⟩) (.inl fun h=>h rfl) (.int .i64 p.Nc));simp only[ga] at h3;obtain⟨c0,c1,c2,c3,c4⟩:=h3.c5;have HF:=oH j3;clear h3 j3;go_wp2_with fail;generalize ((((W4.setCell _ _).setCell _ _).setCell _ _).setCell _ _).setCell _ _=WF at*;have k0:=HF.out.size;refine bodyPost_ret (v:=.agg #[.slice C0 p.MZ.length e0,.slice C1 p.up.length e1,.slice C2 p.Nb.length e2,.slice C3 p.Na.length e3,.int .i64 p.Nc]) (by simp[results,Tryz.f12,go_sem,c0,c1,c2,c3,c4]) rfl ⟨_,rfl,am (H4.1.all.trans (HF.out.mono fun b j=>by show b≠_;omega)),_,_,_,_,rfl,?_,?_,?_,?_,HS.2.2.2.2⟩;·exact jT (bT.Good.wide (cH (aS iu)) (fun b (j:o.heap.size≤b∧b<W4.heap.size)=>show w.heap.size≤b∧b<WF.heap.size by omega) (bT.Good.keep (cH (aS iu)) (HF.out.mono fun b (j:o.heap.size≤b∧b<W4.heap.size)=>by show b≠_;omega) H4.2.2.2.1))
 ·exact jT (bT.Good.wide (cH (aS jO)) (fun b (j:o.heap.size≤b∧b<W4.heap.size)=>show w.heap.size≤b∧b<WF.heap.size by omega) (bT.Good.keep (cH (aS jO)) (HF.out.mono fun b (j:o.heap.size≤b∧b<W4.heap.size)=>by show b≠_;omega) H4.2.2.2.2.1))
 ·exact(bT.Good.wide aX (fun b (j:o.heap.size≤b∧b<W4.heap.size)=>show w.heap.size≤b∧b<WF.heap.size by omega) (bT.Good.keep aX (HF.out.mono fun b (j:o.heap.size≤b∧b<W4.heap.size)=>by show b≠_;omega) H4.2.2.2.2.2.1))
 exact(bT.Good.wide aX (fun b (j:o.heap.size≤b∧b<W4.heap.size)=>show w.heap.size≤b∧b<WF.heap.size by omega) (bT.Good.keep aX (HF.out.mono fun b (j:o.heap.size≤b∧b<W4.heap.size)=>by show b≠_;omega) H4.2.2.2.2.2.2))
end Go.Proofs.YtccbbkopmlnkpaaGreatDoor
