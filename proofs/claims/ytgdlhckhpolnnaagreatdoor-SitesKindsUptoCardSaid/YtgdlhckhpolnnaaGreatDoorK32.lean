/- Part 33 of the proof (its last part says what is proved). No condition. -/
import Derived.Test.YtgdlhckhpolnnaaGreatDoorK31
namespace Go.Proofs.YtgdlhckhpolnnaaGreatDoor
set_option maxRecDepth 100000
set_option maxHeartbeats 8000000
open Go.RowKit Go.Proofs.Tryz
section
open Go.RowKit Go.Shelf
attribute [local go_sem] Oper.semAt_some
def Cj (x:bz)(a f:Value):List Value:=[.int .u8 x.kind,.int .u8 x.op,.int .i64 x.dst,.int .i64 x.ref,.int .i64 x.Ni,a,f,.int .i64 x.num,.int .i64 x.Nj]
structure BE (S:Nat→Prop)(w0:World)(B1:Option Addr)(L:List (List bz))(A F:Nat→Nat→Value):Prop where
 row:∀(k:Nat) l,L[k]? =some l→∃rb ro Ak ck,B1=some ⟨rb,ro,none⟩∧S rb∧w0.cell? ⟨rb,ro+k,none⟩=some (.slice Ak l.length ck)∧l.length≤maxLen∧
  ∀(i:Nat) x,l[i]? =some x→∃xb xo,Ak=some ⟨xb,xo,none⟩∧S xb∧∀(j:Nat) c,(Cj x (A k i) (F k i))[j]? =some c→w0.cell? ⟨xb,xo+i*9+j,none⟩=some c
 ints:∀(k:Nat) l,L[k]? =some l→∀(i:Nat) x,l[i]? =some x→aK S w0 (A k i) x.args∧aK S w0 (F k i) x.Nh∧jx x
theorem vw {S:Nat→Prop}{w:World}{B1:Option Addr}{n d:Nat}{L:List (List bz)}(h:bW S w (.slice B1 n d) L):∃A F,BE S w B1 L A F:=by
 have hc:∀k i:Nat,∃af:Value×Value,∀l x,L[k]? =some l→l[i]? =some x→aK S w af.1 x.args∧aK S w af.2 x.Nh∧jx x∧
  ∃rb ro Ak ck,B1=some ⟨rb,ro,none⟩∧w.cell? ⟨rb,ro+k,none⟩=some (.slice Ak l.length ck)∧∃J xo,Ak=some ⟨J,xo,none⟩∧S J∧∀(j:Nat) c,(Cj x af.1 af.2)[j]? =some c→w.cell? ⟨J,xo+i*9+j,none⟩=some c:=by
  intro k i;cases hk:L[k]? with
  |none=>exact⟨(.nilFunc,.nilFunc),fun l x h=>by cases h⟩
  |some l=>
   cases hi:l[i]? with
   |none=>refine⟨(.nilFunc,.nilFunc),fun l' x h R=>?_⟩;cases h;rw[hi] at R;cases R
   |some x=>obtain⟨rb,ro,rv,e,_,o,C⟩:=bn h hk;obtain⟨Ak,ck,rfl,_⟩:=id C;obtain⟨J,xo,cs,e2,Y,_,a1,a,f,rfl,h1,R,h3⟩:=aZ C hi;refine⟨(a,f),fun l' x' h h'=>?_⟩;cases h;rw[hi] at h';cases h';exact⟨h1,R,h3,rb,ro,Ak,ck,e,o,J,xo,e2,Y,a1⟩
 obtain⟨g,hg⟩:=Classical.axiomOfChoice fun k=>Classical.axiomOfChoice (hc k);refine⟨fun k i=>(g k i).1,fun k i=>(g k i).2,⟨fun k l hk=>?_,fun k l hk i x hi=>?_⟩⟩;·obtain⟨rb,ro,rv,e,hS,o,C⟩:=bn h hk;obtain⟨Ak,ck,rfl,h1,R,_⟩:=id C;refine⟨rb,ro,Ak,ck,e,hS,o,by omega,fun i x hi=>?_⟩;obtain⟨_,_,_,a6,a7,a8,b0,e',I,J,xo,e2,Y,a1⟩:=hg k i l x hk hi;rw[e] at e';cases e';rw[o] at I;cases I;exact⟨J,xo,e2,Y,a1⟩
 obtain⟨h1,R,h3,_⟩:=hg k i l x hk hi;exact⟨h1,R,h3⟩
def iJ (S:Nat→Prop)(j W:World):Prop:=∀(b i:Nat) v,S b→j.cell? ⟨b,i,none⟩=some v→W.cell? ⟨b,i,none⟩=some v
def jU (S:Nat→Prop)(j A B:World):Prop:=iJ S j A→iJ S j B
section
variable {S:Nat→Prop} {w0 W W':World}
theorem iJ.refl (S:Nat→Prop)(w0:World):iJ S w0 w0:=fun _ _ _ _ h=>h
theorem iJ.kept (h:iJ S w0 W)(k:aa S W W'):iJ S w0 W':=fun b i v j o=>k.cell (p:=⟨b,i,none⟩) j (h b i v j o)
theorem iJ.below {w:World}(h:iJ S w0 w)(o:Below w.heap.size w W):iJ S w0 W:=fun b i v C I=>by have j:=h b i v C I;exact(o.cell (p:=⟨b,i,none⟩) (jy w _ j)).trans j
theorem Dd {l:Nat}{o I:Obj}(J:W.heap[l]? =some o)(R:o.isCells=false):jU S w0 W (W.putObj l I):=by
 intro h b i v Y hv;have j:=h b i v Y hv;have C:b≠l:=by rintro rfl;unfold World.cell? at j;simp only[J] at j;cases o<;>first|(simp[Obj.isCells] at R;done)|(simp at j)
 rw[World.cell?_of_block (World.putObj_heap_other C)];exact j
theorem BY {A B C:World}(h:jU S w0 A B)(k:jU S w0 B C):jU S w0 A C:=fun hl=>k (h hl)
theorem BX (B:Nat):∀(W:World) (l:Nat) (o j:Obj),B≤l→W.heap[l]? =some o→o.isCells=false→o.isWalk=false→jU S w0 W (W.putObj l j):=fun _ _ _ _ _ C I _=>Dd C I
end
abbrev EK (L:List (List bz)):= {t:iL//∃l,L[t.1]? =some l∧l[t.2.1]? =some t.2.2}
theorem zk (par vars:Int)(j:Option Addr)(n d1:Nat)(w:World):Calls prog 108 #[.agg #[.int .i64 par,.int .i64 vars,.slice j n d1]] w fun e w'=>
 e=.returned (.func (.func 174) #[] #[.pointer (some ⟨w.heap.size,0,none⟩)])∧w'=w.alloc (.cells #[.int .i64 par,.int .i64 vars,.slice j n d1] 42):=by
 have o:∀(fn:Fn) (first cap:Array Value) (w:World),(Instr.makeFunc fn first cap).run prog w=.ok (.func fn first cap) w:=fun _ _ _ _=>rfl;go_enter func108,ntmps108;go_wp2;go_ret;exact⟨rfl,rfl⟩
theorem tM (n:Nat)(hn:1≤n)(S:Nat→Prop)(w0:World)(par vars:Int)(B1:Option Addr)(d1:Nat)(L:List (List bz))(A F:Nat→Nat→Value)(hI:BE S w0 B1 L A F)(hL:L.length≤64)(Bn:Nat)(w:World)(hh:iJ S w0 w)(hc:al w Bn 42 #[.int .i64 par,.int .i64 vars,.slice B1 L.length d1]):
 SeqStopsK Fence.wide n prog 174 #[.pointer (some ⟨Bn,0,none⟩)]
  (fun x:EK L=>#[Value.agg #[.int .i64 (x.1.1:Nat),.int .i64 (x.1.2.1:Nat)],Value.agg #[.int .u8 x.1.2.2.kind,.int .u8 x.1.2.2.op,.int .i64 x.1.2.2.dst,.int .i64 x.1.2.2.ref,.int .i64 x.1.2.2.Ni,A x.1.1 x.1.2.1,F x.1.1 x.1.2.1,.int .i64 x.1.2.2.num,.int .i64 x.1.2.2.Nj]])
  (jU S w0) (fun xs=>xs.map Subtype.val=(cd L).flatten) (fun pre=>pre.map Subtype.val<+:(cd L).flatten) (cd L).flatten.length w:=fun l J Jx W hW R _ hY h0=>by
 have b7:W.cell? ⟨Bn,2,none⟩=some (.slice B1 L.length d1):=(hW.cell (p:=⟨Bn,2,none⟩) hc.lt).trans (hc.cell 2);have a6:=hh.below hW;have HL:=J4 a6 hY hI R;clear a6 hY hW hh hc hI R;refine callsIn_of_wp func174 rfl trivial ?_ rfl;simp only[ntmps174,List.size_toArray,kI,List.length_nil,Nat.reduceAdd,Nat.reduceSub,Array.replicate_succ,Array.replicate_zero,List.push_toArray,List.append_toArray,mF,List.cons_append];gi_wp2
 gi_loopw [10] (fun r wr=>∃(k:Nat) (pre:List (EK L)),k≤L.length∧r=.int .i64 k∧pre.map Subtype.val=fe (cd L) k 0∧J pre wr∧iJ S w0 wr) (fun r _=>L.length-(intOf r).toNat)
 ·exact⟨0,[],by omega,rfl,by simp[fe],h0,HL.1⟩
 obtain⟨k,pre,hk,rfl,o,R,C⟩:=hrel;by_cases b8:k<L.length;·(
 obtain⟨row,I⟩:=eG b8;obtain⟨rb,ro,Ak,ck,rfl,a7,a8,b9,b0⟩:=HL.2.2.1.row k row I;have c5:=C rb (ro+k) _ a7 a8;unfold maxLen at b9;have HR:=J5 I b0 o R C;clear I b0 a8 a7 o R C;gi_wp2
 gi_loopw [17] (fun r wr=>∃(i:Nat) (pre:List (EK L)),i≤row.length∧r=.int .i64 i∧pre.map Subtype.val=fe (cd L) k i∧J pre wr∧iJ S w0 wr) (fun r _=>row.length-(intOf r).toNat)
 ·exact⟨0,pre,by omega,rfl,HR.2.2.1,HR.2.2.2.1,HR.2.2.2.2⟩
 obtain⟨i,pre,hi,rfl,o,R,C⟩:=hrel;by_cases b1:i<row.length;·(
 obtain⟨x,hx⟩:=eG b1;obtain⟨xb,xo,rfl,b2,b3⟩:=HR.2.1 i x hx;have Y:=fun j c hj=>C xb (xo+i*9+j) c b2 (b3 j c hj);have a1:=Ep (nP HR.1) (wT hx);rw[←o] at a1;have hlen:pre.length<(cd L).flatten.length:=by have:=a1.length_le;rw[iQ,ce,List.length_singleton] at this;omega
 have z0:=Y 0 _ rfl;have z1:=Y 1 _ rfl;have z2:=Y 2 _ rfl;have z3:=Y 3 _ rfl;have z4:=Y 4 _ rfl;have z5:=Y 5 _ rfl;have z6:=Y 6 _ rfl;have z7:=Y 7 _ rfl;have z8:=Y 8 _ rfl;rw[dj] at z0;obtain⟨i1,i2,_⟩:=HL.2.2.1.ints k row HR.1 i x hx;obtain⟨aA,cA,eA,_⟩:=i1;obtain⟨aF,cF,eF,_⟩:=i2;rw[eA] at z5;rw[eF] at z6;have b4:aa All wr (wr.alloc (.cells #[.int .u8 x.kind,.int .u8 x.op,.int .i64 x.dst,.int .i64 x.ref,.int .i64 x.Ni,.slice aA x.args.length cA,.slice aF x.Nh.length cF,.int .i64 x.num,.int .i64 x.Nj] 56)):=kR.alloc _;have b5:J pre (wr.alloc (.cells #[.int .u8 x.kind,.int .u8 x.op,.int .i64 x.dst,.int .i64 x.ref,.int .i64 x.Ni,.slice aA x.args.length cA,.slice aF x.Nh.length cF,.int .i64 x.num,.int .i64 x.Nj] 56)):=HL.2.2.2 _ _ _ none R (World.grownBy_alloc wr _ none) (fun r e=>by cases e);obtain⟨fn,tmps,assign,body,hy,hR⟩:=HL.2.1 pre ⟨(k,i,x),row,HR.1,hx⟩ _ b5 hlen;dsimp only at hy;rw[eA,eF] at hy;have HX:=J4 (C.kept b4.all) o a1 hx;clear b5 b4 Y b3 b2 o a1 R eA eF;gi_wp2;refine hR.mono ?_;rintro e W3 (⟨rfl,c0,c1⟩|⟨rfl,b6⟩)
 ·have c4:=c1 HX.1;gi_wp2
  go_roundw
  case rel=>exact⟨i+1,pre++[⟨(k,i,x),row,HR.1,hx⟩],by omega,by simp,by rw[mt (nP HR.1) (wT hx),ic,HX.2.1];rfl,c0,c4⟩
  case measure=>simp[intOf];omega
 gi_wp2;refine bodyPost_ret (results_none rfl _ _ _) rfl ?_;exact⟨⟨_,rfl⟩,.inr ⟨pre++[⟨(k,i,x),row,HR.1,hx⟩],by rw[ic];exact HX.2.2.1,b6⟩⟩)
 obtain rfl:i=row.length:=by omega
 have HE:=oH (show pre.map Subtype.val=fe (cd L) (k+1) 0 by rw[o,←qK (nP HR.1),List.length_mapIdx]);clear o;gi_wp2
 go_roundw
 case rel=>exact⟨k+1,pre,by omega,by simp,HE.out,R,C⟩
 case measure=>simp[intOf];omega)
 obtain rfl:k=L.length:=by omega
 have HE:=oH (show pre.map Subtype.val=(cd L).flatten by rw[o,←Aq L,qJ]);clear o;gi_wp2
 go_end0
 exact⟨⟨_,rfl⟩,.inl ⟨pre,HE.out,R⟩⟩
end
section
open Go.RowKit Go.Shelf
attribute [local go_sem] Oper.semAt_some
theorem lW {F:Fence}{n:Nat}{P:Program}{α:Type}{g:Operand}{ps:Array Tmp}{assign body:Code}{Q:Exit→Act→World→Prop}{a:Act}{w:World}
 (b5:F.round=none) (h1:1≤n) {gf:Nat} {lb:Array Value} (hg:a.eval g=.func (.func gf) #[] lb) (b6:F.fn gf) (eg:∀args w,(callFunc gf args).run P w=.ok (.enter gf args) w)
 {j:α→Array Value} {Kp:World→World→Prop} {S Sp:List α→Prop} {N:Nat} {w0:World} (a8:SeqStopsK F (n-1) P gf lb j Kp S Sp N w0)
 (b0:∀ {A B C:World},Kp A B→Kp B C→Kp A C) (b7:∀(W:World) (l:Nat) (o o':Obj),w.heap.size≤l→W.heap[l]? =some o→o.isCells=false→o.isWalk=false→Kp W (W.putObj l o')) (b3:∀(W:World) (o:Obj),Kp W (W.alloc o)) (b8:Below w0.heap.size w0 w) (b9:∀x,(j x).size=ps.size)
 (I:List α→World→Prop) (Ix:Code→List α→World→Prop) (hI:OwnFrom w.heap.size I) (c0:∀c,OwnFrom w.heap.size (Ix c)) (b4:∀pre W,I pre W→w.heap.size≤W.heap.size) (h0:I [] w) (q1 q2:Nat) (t1 t2:TypeId) (c1 c2:α→Array Value)
 (Y:∀(l:Nat) (x:α) (W:World) (K:Act→World→Prop),
  K {tmps:=(((ps.zip (j x)).foldl (fun t (p,v)=>t.setIfInBounds p v) a.tmps).setIfInBounds q1 (.pointer (some ⟨W.heap.size,0,none⟩))).setIfInBounds q2 (.pointer (some ⟨W.heap.size+1,0,none⟩)),defers:=[]} ((W.alloc (.cells (c1 x) t1)).alloc (.cells (c2 x) t2))→
  assign.wpIn (F.inRound l) (n-1-1) P (Exit.then K (fun _ _ _=>False)) {tmps:=(ps.zip (j x)).foldl (fun t (p,v)=>t.setIfInBounds p v) a.tmps,defers:=[]} W)
 (a1:∀(l:Nat) (pre:List α) (x:α) (J R:Nat) (W:World),J≠R→w.heap.size≤J→w.heap.size≤R→al W J t1 (c1 x)→al W R t2 (c2 x)→I pre W→pre.length<N→
  body.wpIn (F.inRound l) (n-1-1) P (ownPostG w.heap.size Kp I Ix (pre++[x]) W)
   {tmps:=(((ps.zip (j x)).foldl (fun t (p,v)=>t.setIfInBounds p v) a.tmps).setIfInBounds q1 (.pointer (some ⟨J,0,none⟩))).setIfInBounds q2 (.pointer (some ⟨R,0,none⟩)),defers:=[]} W)
 (a6:∀(D:Nat) (xs:List α) (W:World),w.heap.size≤D→S xs→I xs W→W.heap[D]? =some (.deferred (some []))→Q .normal {a with defers:= {target:=.collected D,args:=#[]}::a.defers} W)
 (a7:∀(D:Nat) (c:Code) (pre:List α) (W:World),w.heap.size≤D→Sp pre→Ix c pre W→W.heap[D]? =some (.deferred (some []))→c.wpIn F n P Q {a with defers:= {target:=.collected D,args:=#[]}::a.defers} W):
 (Code.rangeFunc g ps assign body).wpIn F n P Q a w:=
 wpIn_rangeFunc_ownH b5 h1 hg b6 eg a8 b0 b7 b8 b9 I Ix hI c0 h0
  (fun x a' W=>(∃J R,(J≠R∧w.heap.size≤J∧w.heap.size≤R∧a'= {tmps:=(((ps.zip (j x)).foldl (fun t (p,v)=>t.setIfInBounds p v) a.tmps).setIfInBounds q1 (.pointer (some ⟨J,0,none⟩))).setIfInBounds q2 (.pointer (some ⟨R,0,none⟩)),defers:=[]})∧al W J t1 (c1 x)∧al W R t2 (c2 x)))
  (fun x a' s A B row h hg hr=>by obtain⟨J,R,h1,h2,h3⟩:=h;exact⟨J,R,h1,iz (B:=w.heap.size) (cs:=fun _:Unit=>c1 x) s A B row h2 hg hr,iz (B:=w.heap.size) (cs:=fun _:Unit=>c2 x) s A B row h3 hg hr⟩)
  (fun l pre x W K hi hK=>Y l x W K (hK _ _ (((KeepsOthers.alloc _ _).trans (KeepsOthers.alloc _ _)).from _) (b0 (b3 _ _) (b3 _ _)) (hI.alloc _ (hI.alloc _ hi))
   ⟨W.heap.size,W.heap.size+1,⟨by omega,b4 _ _ hi,by have:=b4 _ _ hi;omega,rfl⟩,(al.new _ _ _).alloc _,ac (by simp)⟩))
  (fun l pre x a' W _ _ hi ⟨J,R,⟨h1,h2,h3,e⟩,h4,h5⟩ c4=>by rw[e];exact a1 l pre x J R W h1 h2 h3 h4 h5 hi c4)
  a6 a7
theorem qhL {S:Nat→Prop}{w:World}{v:Value}{l:List bz}(h:tZ S w v l):tZ (fun b=>b<w.heap.size) w v l:=by obtain⟨a,cap,o,C,I,J,h⟩:=h;refine⟨a,cap,o,C,I,J,fun i x R=>?_⟩;obtain⟨b,off,cs,e,hs,hl,j,Y,ff,rfl,h4,h5,h6⟩:=h i x R;exact⟨b,off,_,e,jy w _ (j 0 _ rfl),hl,j,Y,ff,rfl,kV h4,kV h5,h6⟩
theorem vJ {S:Nat→Prop}{w:World}{v:Value}{l:List (List bz)}(h:bW S w v l):bW (fun b=>b<w.heap.size) w v l:=by obtain⟨a,cap,o,C,I,J,h⟩:=h;refine⟨a,cap,o,C,I,J,fun i x R=>?_⟩;obtain⟨b,off,c,e,hs,j,Y⟩:=h i x R;exact⟨b,off,c,e,jy w _ j,j,qhL Y⟩
def AM (f:Nat→Int×Int)(j:Nat):Int:=if j%2=0 then(f (j/2)).1 else(f (j/2)).2
theorem GI (f:Nat→Int×Int)(v:Nat):AM f (v*2)=(f v).1:=by unfold AM;rw[ap (by omega),Nat.mul_div_cancel _ (by omega)]
theorem GJ (f:Nat→Int×Int)(v:Nat):AM f (v*2+1)=(f v).2:=by unfold AM;rw[ae (by omega),show(v*2+1)/2=v by omega]
theorem Lw {f g:Nat→Int×Int}{v j:Nat}(h:∀u,u≠v→f u=g u)(o:j≠v*2)(C:j≠v*2+1):AM f j=AM g j:=by unfold AM;rw[h (j/2) (by omega)]
theorem JE {n v:Nat}{f g:Nat→Int×Int}(h:∀u,u≠v→g u=f u):((aN (n*2) (AM f)).setIfInBounds (v*2) (.int .i64 (g v).1)).setIfInBounds (v*2+1) (.int .i64 (g v).2)=aN (n*2) (AM g):=by
 rw[fZ,fZ];refine ex fun j _=>?_;unfold lu;by_cases o:j=v*2+1;·rw[ap o,o,GJ]
 rw[ae o];by_cases C:j=v*2;·rw[ap C,C,GI]
 rw[ae C];exact Lw (fun u hu=>(h u hu).symm) C o
theorem FU:(prog.info? 165).map (fun i=>(i.zero,i.size,i.bytes))=some (some (.agg #[.int .i64 0,.int .i64 0]),2,16):=by kernel_rfl
theorem Gi (n:Nat)(R:n≤1048576)(w:World):(Instr.makeSlice 84 (.int .i64 n) (.int .i64 n)).run prog w=.ok (.slice (some ⟨w.heap.size,0,none⟩) n n) (w.alloc (.cells (aN (n*2) fun _=>0) 165)):=by
 obtain⟨i3,hi,C,I,J⟩:=info_parts FU;rw[run_make (P:=prog) w 84 165 i3 _ underlying84 hi C .i64 .i64 n n (by omega) (by omega) (by rw[J];omega) (by omega)];have e:madeCells (Value.agg #[.int .i64 0,.int .i64 0]).cells ((n:Int).toNat*i3.size)=aN (n*2) fun _=>0:=by(
 rw[I,dP];apply Array.ext_getElem?;intro j;by_cases o:j<n*2
 ·rw[bI o]
  rcases Nat.mod_two_eq_zero_or_one j with h|h<;>simp[madeCells,o,Value.cells,h]
 rw[jK (by rw[size_madeCells];omega),jK (by rw[kU];omega)])
 rw[e,dP]
end
section
open Go.RowKit Go.Shelf
attribute [local go_sem] Oper.semAt_some
theorem GK (n:Nat):aN n (AM fun v=>if v<0 then(-1,-1) else(0,0))=aN n fun _=>0:=ex fun j _=>by unfold AM;split<;>rfl
structure rN (w:World)(np nv:Nat)(B1:Option Addr)(n d1:Nat)(f:Nat→Int×Int)(W:World):Prop where
 kept:aa All w W
 size:w.heap.size+5≤W.heap.size
 body:al W w.heap.size 42 #[.int .i64 np,.int .i64 nv,.slice B1 n d1]
 r1:al W (w.heap.size+1) 84 #[.slice none 0 0]
 r2:al W (w.heap.size+1+1) 4 #[.bool false]
 tab:al W (w.heap.size+1+1+1) 165 (aN (nv*2) (AM f))
 out:al W (w.heap.size+1+1+1+1) 84 #[.slice (some ⟨w.heap.size+1+1+1,0,none⟩) nv nv]
section
variable {w W W':World} {np nv n d1:Nat} {B1:Option Addr} {f g:Nat→Int×Int}
theorem rN.keep (h:rN w np nv B1 n d1 f W)(k:aa (fun b=>b<w.heap.size+5) W W'):rN w np nv B1 n d1 f W':=
 ⟨am (h.kept.all.trans (k.mono fun b (j:b<w.heap.size)=>by omega)),fR h.size k.size,h.body.kept k (by omega),h.r1.kept k (by omega),h.r2.kept k (by omega),h.tab.kept k (by omega),h.out.kept k (by omega)⟩
theorem rN.congr (h:rN w np nv B1 n d1 f W)(e:∀v,v<nv→f v=g v):rN w np nv B1 n d1 g W:=by refine⟨h.kept,h.size,h.body,h.r1,h.r2,?_,h.out⟩;rw[ex (g:=AM f) fun j o=>by unfold AM;rw[e (j/2) (by omega)]];exact h.tab
theorem rN.set (h:rN w np nv B1 n d1 f W){v:Nat}(j:∀u,u≠v→g u=f u){x y:Int}(o:g v=(x,y)):rN w np nv B1 n d1 g ((W.setCell ⟨w.heap.size+1+1+1,v*2,none⟩ (.int .i64 x)).setCell ⟨w.heap.size+1+1+1,v*2+1,none⟩ (.int .i64 y)):=by
 refine⟨(h.kept.setCell (.inr (by simp;omega)) _).setCell (.inr (by simp;omega)) _,by simpa using h.size,?_,?_,?_,?_,?_⟩;·exact(h.body.far (by simp;omega) _).far (by simp;omega) _
 ·exact(h.r1.far (by simp) _).far (by simp) _
 ·exact(h.r2.far (by simp) _).far (by simp) _
 ·rw[←JE (n:=nv) j,o]
  exact(h.tab.set _ _).set _ _
 exact(h.out.far (by simp) _).far (by simp) _
end
def ED (L:List (List bz))(w:World)(np nv:Nat)(B1:Option Addr)(n d1 N sz:Nat)(pre:List (EK L))(W:World):Prop:=
 rN w np nv B1 n d1 (fun v=>iV (pre.map Subtype.val) v) W∧al W N 3 #[.int .i64 (np+og ((pre.map Subtype.val).map fun t=>t.2.2):Nat)]∧sz≤W.heap.size∧w.heap.size+5≤N∧N<sz
theorem zV {L:List (List bz)}{w:World}{np nv n d1 N sz:Nat}{B1:Option Addr}(j:N<sz)(_:w.heap.size+5≤sz):OwnFrom sz (ED L w np nv B1 n d1 N sz):=by
 rintro s W W' row ⟨o,C,I,J,R⟩ Y hr;have k:aa (fun b=>b<sz) W W':=(aa.refl _ W).grown Y fun k hk=>.inl fun h=>by have:=(hr k hk).1;have h:k<sz:=h;omega
 exact⟨o.keep (k.mono fun b hb=>by omega),C.kept k j,fR I k.size,J,R⟩
def rM (L:List (List bz))(pre:List (EK L)):Prop:=∃j x,pre=j++[x]∧x.1.2.2.dst≠-1∧0≤(iV (j.map Subtype.val) x.1.2.2.dst).1
theorem wF {b:aw}(I:gY b){pre:List (EK b.Ng)}(h:rM b.Ng pre)(o:pre.map Subtype.val<+:(cd b.Ng).flatten):False:=by
 obtain⟨j,x,rfl,J,C⟩:=h;rw[ic] at o;rcases rA (j.map Subtype.val) x.1.2.2.dst with ⟨e,_⟩|⟨u,hu,he,_⟩;·rw[e] at C;exact absurd C (by decide)
 exact As I o hu J he
def Ik (b:aw)(w:World)(e:Ending)(w':World):Prop:=∃u,e=.returned (.tuple #[u,.bool true])∧aa All w w'∧qaC (fun g=>w.heap.size≤g) w' u (jp b)
theorem Fs {b:aw}(o:b.Ng.length≤64)(hlen:b.Ng.flatten.length≤4096)(v:Int):aV (iV (cd b.Ng).flatten v).1∧aV (iV (cd b.Ng).flatten v).2:=by
 unfold aV;rcases rA (cd b.Ng).flatten v with ⟨e,_⟩|⟨t,C,_,e⟩;·rw[e];exact⟨by decide,by decide⟩
 obtain⟨l,j,I⟩:=nR.1 C;have J:=(lS.1 j).1;have R:=(lS.1 I).1;have Y:l.length≤b.Ng.flatten.length:=by rw[List.length_flatten];exact qz (dr.2 ⟨l,mG j,rfl⟩)
 rw[e];simp only;omega
theorem Fu {b:aw}(J:gY b){nv:Nat}(C:b.vars=nv)(hlen:b.Ng.flatten.length≤4096)(R:nv≤4102){S:Nat→Prop}{w:World}{g:Nat}{t:TypeId}(h:al w g t (aN (nv*2) (AM fun v=>iV (cd b.Ng).flatten v)))(Y:S g):qaC S w (.slice (some ⟨g,0,none⟩) nv nv) (jp b):=by
 have hl:(jp b).length=nv:=by simp[jp,C]
 refine⟨some ⟨g,0,none⟩,nv,by rw[hl],by omega,by unfold maxLen;omega,by omega,fun i x o=>?_⟩;have hi:i<nv:=by rw[←hl];exact(lS.1 o).1
 unfold jp at o;rw[cL,ln (by omega)] at o;cases o;have hw:=Fs J.blk.2 hlen i;refine⟨g,0,[.int .i64 (iV (cd b.Ng).flatten i).1,.int .i64 (iV (cd b.Ng).flatten i).2],rfl,Y,rfl,fun j c I=>?_,rfl,hw⟩;rcases j with _|_|j
 ·cases I
  rw[dj,cN,h.cell,bI (by omega),GI]
 ·cases I
  rw[cN,h.cell,bI (by omega),GJ]
 simp at I
theorem Ed (S:Nat→Prop)(bv:Value)(b:aw)(w:World)(hb:bW S w bv b.Ng)(hG:gY b)(hlen:b.Ng.flatten.length≤4096):
 Calls prog 107 #[.agg #[.int .i64 b.params,.int .i64 b.vars,bv]] w (Ik b w):=by
 have d9:=vJ hb;obtain⟨B1,d1,rfl,m5,m6,m7,_⟩:=hb;obtain⟨A,F,hI⟩:=vw d9;unfold maxLen at m6;have e9:=hG.blk.2;have b8:=hG.num;have e0:=hG.par;have h0:og b.Ng.flatten≤b.Ng.flatten.length:=List.length_filter_le _ _;obtain⟨np,b9⟩:∃np:Nat,b.params=np:=⟨b.params.toNat,by omega⟩;obtain⟨nv,c4⟩:∃nv:Nat,b.vars=nv:=⟨b.vars.toNat,by omega⟩;have j6:np≤nv:=by omega
 have h3:nv≤4102:=by omega
 have j7:np≤6:=by omega
 rw[b9,c4];have HG:=J5 hG hI b9 c4 b8;clear hG hI b9 c4 b8 d9 h0 e0 m5 m6 m7;have t1:decide ((np:Int)<0)=false:=by simp
 have t2:decide ((np:Int)>(nv:Int))=false:=by simp;omega
 have h6:decide (nv<np)=false:=by simp;omega
 have t3:decide ((nv:Int)>4102)=false:=by simp;omega
 have h7:decide (4102<nv)=false:=by simp;omega
 have h8:=fun w=>Gi nv (by omega) w;refine(callsIn_wide (n:=8)).1 ?_;refine callsIn_of_wp_marks func107 rfl trivial ?_ rfl;simp only[ntmps107,List.size_toArray,kI,List.length_nil,Nat.reduceAdd,Nat.reduceSub,Array.replicate_succ,Array.replicate_zero,List.push_toArray,List.append_toArray,mF,List.cons_append];rw[wpIn_wide];go_wp2_with fail;clear t1 t2 h6 t3 h7 h8;go_loopg [29] nv (fun g s wr=>∃k:Nat,k≤nv∧g=nv-k∧s=.int .i64 k∧rN w np nv B1 b.Ng.length d1 (fun v=>if v<k then(-1,-1) else(0,0)) wr)
 case atStart=>refine⟨0,by omega,by omega,rfl,((((kR.alloc _).alloc _).alloc _).alloc _).alloc _,by simp,((((al.new _ _ _).alloc _).alloc _).alloc _).alloc _,(((ac (by simp)).alloc _).alloc _).alloc _,((ac (by simp)).alloc _).alloc _,?_,ac (by simp)⟩;rw[GK];exact(ac (by simp)).alloc _
 obtain⟨k,hk,rfl,rfl,R⟩:=hrel;have c0:=R.out.cl 0;by_cases j8:k<nv;·(
 have c1:=R.tab.cell (k*2);have c2:=R.tab.cell (k*2+1);have f1:=R.tab.free (k*2);have f2:=R.tab.free (k*2+1);rw[bI (by omega)] at c1 c2;have a1:=R.set (g:=fun v=>if v<k+1 then(-1,-1) else(0,0)) (v:=k) (fun u hu=>by
  by_cases h:u<k;·rw[ap h,ap (by omega)]
  rw[ae h,ae (by omega)]) (x:= -1) (y:= -1) (ap (by omega))
 have HN:=oH a1;clear R a1;go_wp2_with fail;go_roundg (nv-(k+1));·exact⟨k+1,by omega,rfl,by go_num,HN.out⟩
 omega)
 have e:nv=k:=by omega
 subst e;obtain⟨W5,b4⟩:=eQ (wr.alloc (.cells #[.int .i64 np] 3));have c5:=aC1 b4;have e3:=aA0 b4;have a6:=R.keep c5.all;have g0:=R.body.cl 0;have g1:=R.body.cl 1;have g2:=R.body.cl 2;have b0:=a6.body.cl 0;have b1:=a6.body.cl 1;have b2:=a6.body.cl 2;have HW:=J4 b4 c5 e3 a6;have j9:=R.size;clear b4 c5 e3 a6 R;go_upto_region 10 with fail;rw[←HW.1];clear g0 g1 g2;go_wp2_with fail;refine(zk _ _ _ _ _ _).mono ?_;rintro e w' ⟨rfl,rfl⟩;obtain⟨wl,b5⟩:=eQ (W5.alloc (.cells #[.int .i64 np,.int .i64 nv,.slice B1 b.Ng.length d1] 42));have b6:=aC1 b5;have e4:=aA0 b5;have c6:=HW.2.2.2.keep b6.all;have e5:=HW.2.2.1.kept b6 trivial;have e6:iJ (fun g=>g<w.heap.size) w wl:=(iJ.refl _ _).kept c6.kept.all;have j4:=HW.2.2.1.lt;have j5:=b6.size;rw[←b5];have HL:=J4 c6 e5 e4 e6;clear b5 c6 e5 b6 e4 b0 b1 b2 e6;go_wp2_with fail
 refine wpIn_wide.1 (lW (F:=Fence.wide) (n:=8) rfl (by omega) (gf:=174) (lb:=#[.pointer (some ⟨W5.heap.size,0,none⟩)]) rfl trivial (enters_of func174 (by kernel_rfl) rfl)
  (tM 7 (by omega) (fun g=>g<w.heap.size) w np nv B1 d1 b.Ng A F HG.2.1 e9 _ wl HL.2.2.2 HL.2.2.1) BY (BX _) (fun W o h=>h.kept (kR.alloc _)) (Below.refl _ _) (fun _=>rfl)
  (ED b.Ng w np nv B1 b.Ng.length d1 wr.heap.size wl.heap.size) (fun c pre _=>c=.ret∧rM b.Ng pre) (zV (by omega) (by omega)) (fun c s W W' row h _ _=>h) (fun pre W h=>h.2.2.1) ⟨?_,HL.2.1,cf _,by omega,by omega⟩
  7 8 165 56 (fun x=>#[.int .i64 (x.1.1:Nat),.int .i64 (x.1.2.1:Nat)]) (fun x=>#[.int .u8 x.1.2.2.kind,.int .u8 x.1.2.2.op,.int .i64 x.1.2.2.dst,.int .i64 x.1.2.2.ref,.int .i64 x.1.2.2.Ni,A x.1.1 x.1.2.1,F x.1.1 x.1.2.1,.int .i64 x.1.2.2.num,.int .i64 x.1.2.2.Nj]) ?assign ?body ?done ?stop)
 case assign=>(intro l x W K hK;obtain⟨⟨i,k,x⟩,row,C,hx⟩:=x;obtain⟨⟨aA,cA,eA,_⟩,⟨aF,cF,eF,_⟩,_⟩:=HG.2.1.ints i row C k x hx;dsimp only at hK⊢;rw[eA,eF] at hK⊢;simp only[List.zip_toArray,List.zip_cons_cons,List.zip_nil_right,List.foldl_toArray',List.size_toArray,kI,List.length_nil,List.foldl_cons,List.foldl_nil,ga] at hK;gi_wp2;exact hK)
 case body=>(
 rintro l pre x b1 b2 W k0 k1 k2 c7 c8 ⟨I,Y,hs,h4,h5⟩ h9;obtain⟨⟨i,k,x⟩,row,C,hx⟩:=x;obtain⟨⟨aA,cA,eA,_⟩,⟨aF,cF,eF,_⟩,_⟩:=HG.2.1.ints i row C k x hx;dsimp only at c7 c8⊢;rw[eA,eF] at c8⊢;have a7:((pre.map Subtype.val)++[((i,k,x):iL)])=(pre++[(⟨(i,k,x),row,C,hx⟩:EK b.Ng)]).map Subtype.val:=by rw[ic];rfl
 have x0:=c7.cl 0;have x1:=c7.cl 1;have y2:=c8.cl 2;have z0:=I.body.cl 0;have z1:=I.body.cl 1;have z4:=I.out.cl 0;have zn:=Y.cl 0;have fn:=Y.free 0;by_cases hd:x.dst= -1;·(
 have j:=J4 I Y hs a7;have td:(x.dst== -1)=true:=by rw[cy];exact hd
 clear I Y hs a7;gi_wp2;refine⟨KeepsFrom.refl _ _,fun h=>h,?_,?_,j.2.2.1,h4,h5⟩
 ·rw[←j.2.2.2];have e:(fun v:Nat=>iV (pre.map Subtype.val++[((i,k,x):iL)]) v)=fun v:Nat=>iV (pre.map Subtype.val) v:=by funext v;exact BO (by show x.dst≠_;omega)
  rw[e];exact j.1
 rw[←j.2.2.2,ic,xY];have e:og ([((i,k,x):iL)].map fun t=>t.2.2)=0:=by rw[List.map_cons,List.map_nil,xZ,ap hd]
 rw[e,dj];exact j.2.1)
 obtain⟨h1,h2⟩:=(HG.1.dst row (mG C) x (mG hx)).resolve_left hd;rw[HG.2.2.1] at h1;rw[HG.2.2.2.1] at h2;obtain⟨v,hv⟩:∃v:Nat,x.dst=v:=⟨x.dst.toNat,by omega⟩;rw[hv] at y2 h1 h2;have c9:=I.tab.cell (v*2);have d7:=I.tab.cell (v*2+1);have k5:=I.tab.free (v*2);have k6:=I.tab.free (v*2+1);rw[bI (by omega),GI] at c9;rw[bI (by omega),GJ] at d7;have a8:=I.set (g:=fun u:Nat=>iV (pre.map Subtype.val++[((i,k,x):iL)]) u) (v:=v) (fun u hu=>BO (by show x.dst≠_;omega)) (x:=i) (y:=k);have b7:og ((pre.map Subtype.val++[((i,k,x):iL)]).map fun t=>t.2.2)=og ((pre.map Subtype.val).map fun t=>t.2.2)+1:=by rw[ic,xY,List.map_cons,List.map_nil,xZ,ae hd]
 obtain⟨m,hm⟩:=eR (og ((pre.map Subtype.val).map fun t=>t.2.2));rw[hm] at zn Y b7;have k7:m≤5000:=by(
 have e1:m≤((pre.map Subtype.val).map fun t=>t.2.2).length:=by rw[←hm];exact List.length_filter_le _ _
 have e2:=congrArg List.length (vt b.Ng);rw[ce] at e2;rw[ce,ce] at e1;omega)
 have k8:v<nv:=by omega
 rcases rA (pre.map Subtype.val) (v:Int) with ⟨e,e7⟩|⟨u,hu,he,e⟩;·(
 have b3:=a8 (by show iV _ _=_;rw[←hv];exact Ft fun u hu=>by rw[show((i,k,x):iL).2.2.dst=(v:Int) from hv];exact e7 u hu);have j:=J5 b3 Y hs a7 b7;rw[e] at c9 d7;have td:((v:Int)== -1)=false:=by rw[bE];omega
 have te:decide ((v:Int)<(np:Int))=false:=by simp;omega
 have j0:decide (v<np)=false:=by simp;omega
 have tf:decide ((v:Int)≥(nv:Int))=false:=by simp;omega
 have j1:decide (nv≤v)=false:=by simp;omega
 clear I Y hs a7 a8 b3 hv hd e7 e h1 h2 b7 hm;gi_wp2;refine⟨(((KeepsOthers.setCell _ _ _).trans (KeepsOthers.setCell _ _ _)).trans (KeepsOthers.setCell _ _ _)).from _,fun h=>h.kept (((aa.refl _ W).setCell (p:=⟨w.heap.size+1+1+1,_,none⟩) (.inl (by simp;omega)) _).setCell (p:=⟨w.heap.size+1+1+1,_,none⟩) (.inl (by simp;omega)) _|>.setCell (p:=⟨wr.heap.size,0,none⟩) (.inl (by simp;omega)) _),?_,?_,by simpa using j.2.2.1,h4,h5⟩
 ·rw[←j.2.2.2.1]
  exact j.1.keep (kR.setCell (p:=⟨wr.heap.size,0,none⟩) (.inl (by simp;omega)) _)
 rw[←j.2.2.2.1,j.2.2.2.2];have:=((j.2.1.far (p:=⟨w.heap.size+1+1+1,v*2,none⟩) (by simp;omega) (.int .i64 i)).far (p:=⟨w.heap.size+1+1+1,v*2+1,none⟩) (by simp;omega) (.int .i64 k)).set 0 (.int .i64 (np+(m+1):Nat));simpa [Int.add_assoc] using this)
 have j:=J2 hs (show rM b.Ng (pre++[(⟨(i,k,x),row,C,hx⟩:EK b.Ng)]) from⟨pre,_,rfl,hd,by show 0≤(iV _ x.dst).1;rw[hv,e];simp⟩);rw[e] at c9 d7;have td:((v:Int)== -1)=false:=by rw[bE];omega
 have te:decide ((v:Int)<(np:Int))=false:=by simp;omega
 have j0:decide (v<np)=false:=by simp;omega
 have tf:decide ((v:Int)≥(nv:Int))=false:=by simp;omega
 have j1:decide (nv≤v)=false:=by simp;omega
 have tu:decide ((u.1:Int)≥0)=true:=by simp
 have r1:=I.r1.cell 0;have r2:=I.r2.cell 0;have j2:=I.r1.free 0;have j3:=I.r2.free 0;simp only[gc] at r1 r2;clear I Y hs a7 a8 hv hd hu he e h1 h2 b7 hm;gi_wp2;exact⟨((KeepsOthers.setCell _ _ _).trans (KeepsOthers.setCell _ _ _)).from _,rfl,j.2⟩)
 case done=>(
 rintro D xs W I hS ⟨J,Y,hs,h4,h5⟩ hK;have e8:(xs.map Subtype.val).map (fun t=>t.2.2)=b.Ng.flatten:=by rw[hS];exact vt _
 rw[e8] at Y;rw[show np+og b.Ng.flatten=nv by have:=HG.2.2.2.2;have:=HG.2.2.1;have:=HG.2.2.2.1;omega] at Y;have zn:=Y.cell 0;have z1:=J.body.cell 1;have z4:=J.out.cell 0;have r1:=J.r1.cell 0;have r2:=J.r2.cell 0;have j2:=J.r1.free 0;have j3:=J.r2.free 0;simp only[gc] at zn z1 z4 r1 r2;have j:=J3 J hS hK;clear J hS hK Y;go_wp2;have d8:=((KeepsOthers.setCell W ⟨w.heap.size+1,0,none⟩ (.slice (some ⟨w.heap.size+1+1+1,0,none⟩) nv nv)).trans (KeepsOthers.setCell _ ⟨w.heap.size+1+1,0,none⟩ (.bool true))).same D _ j.2.2 rfl;refine⟨by simp,.inl ⟨_,_,rfl,run_takeDeferred d8,?_⟩⟩;have q1:=((j.1.r1.set 0 (.slice (some ⟨w.heap.size+1+1+1,0,none⟩) nv nv)).far (p:=⟨w.heap.size+1+1,0,none⟩) (by simp) (.bool true)).cell 0;have q2:=((j.1.r2.far (p:=⟨w.heap.size+1,0,none⟩) (by simp) (.slice (some ⟨w.heap.size+1+1+1,0,none⟩) nv nv)).set 0 (.bool true)).cell 0;have q3:=cell_kept q1 (grownBy_putObj' _ D (.deferred none)) (fun r e=>by cases e;exact⟨_,d8,rfl⟩);have q4:=cell_kept q2 (grownBy_putObj' _ D (.deferred none)) (fun r e=>by cases e;exact⟨_,d8,rfl⟩)
 have k3:aa (fun g=>g≠w.heap.size+1∧g≠w.heap.size+1+1∧g<wl.heap.size) W (((W.setCell ⟨w.heap.size+1,0,none⟩ (.slice (some ⟨w.heap.size+1+1+1,0,none⟩) nv nv)).setCell ⟨w.heap.size+1+1,0,none⟩ (.bool true)).putObj D (.deferred none)):=
  aa.put (((aa.refl _ W).setCell (p:=⟨w.heap.size+1,0,none⟩) (.inl (by simp)) _).setCell (p:=⟨w.heap.size+1+1,0,none⟩) (.inl (by simp)) _) (.inl (by simp;omega)) _
 have k4:=am (j.1.kept.all.trans (k3.mono fun b (hb:b<w.heap.size)=>by refine⟨?_,?_,?_⟩<;>omega));have tb:=j.1.tab.kept k3 ⟨by omega,by omega,by omega⟩;rw[j.2.1] at tb;refine⟨.tuple #[.slice (some ⟨w.heap.size+1+1+1,0,none⟩) nv nv,.bool true],?_,_,rfl,k4,?_⟩
 ·simp at q3 q4
  simp[results,Tryz.f107,go_sem,q3,q4]
 exact Fu HG.1 HG.2.2.2.1 hlen h3 tb (by omega))
 case stop=>rintro D c pre W I hS ⟨_,h⟩ hK;exact(wF HG.1 h hS).elim
 exact HL.1.congr fun v hv=>ap hv
end
theorem xV {b:aw}(o:gY b){v:Nat}(J:(v:Int)<b.vars):((v:Int)<b.params∧iV (cd b.Ng).flatten v=(-1,-1))∨(¬(v:Int)<b.params∧∃i k:Nat,jF b v i k∧iV (cd b.Ng).flatten v=((i:Int),(k:Int))):=by
 rcases rA (cd b.Ng).flatten (v:Int) with ⟨e,R⟩|⟨u,hu,he,e⟩
 ·by_cases Y:(v:Int)<b.params;·exact .inl ⟨Y,e⟩
  obtain⟨i,k,j⟩:=o.all v (by omega) J;obtain⟨x,hx,j⟩:=qr.1 j;exact absurd j (R _ hx)
 obtain⟨l,C,I⟩:=nR.1 hu;have j:=o.dst l (mG C) u.2.2 (mG I);refine .inr ⟨by omega,u.1,u.2.1,⟨l,u.2.2,C,I,he⟩,e⟩
def rJ (S:Nat→Prop)(w:World)(R:Nat)(b:aw)(t:Nat→Int):Prop:=∃bv j c3 o C I J,al w R 198 #[.int .i64 b.params,.int .i64 b.vars,bv,.slice j b.Ng.length c3,.slice o b.Ng.length C,.slice I b.vars.toNat J]∧
 aK S w (.slice j b.Ng.length c3) (lV b.Ng.length t)∧Rows S w (.slice o b.Ng.length C) (gF (bM b))∧qaC S w (.slice I b.vars.toNat J) (jp b)
theorem rJ.keep {S R:Nat→Prop}{w w':World}{j:Nat}{b:aw}{t:Nat→Int}(h:rJ S w j b t)(k:aa R w w')(o:∀g,S g→R g)(C:R j):rJ S w' j b t:=by obtain⟨bv,I,c3,J,Y,A5,c5,h1,h2,h3,h4⟩:=h;exact⟨bv,I,c3,J,Y,A5,c5,h1.kept k C,ah.keep (k.mono o) h2,aq.keep (k.mono o) h3,bu.keep (k.mono o) h4⟩
theorem uR {b:aw}{v:Nat}(j:(v:Int)<b.vars):(jp b)[v]? =some (iV (cd b.Ng).flatten v):=by unfold jp;rw[cL,ln (by omega)];rfl
theorem vU (S:Nat→Prop)(kb:Nat)(b:aw)(pl:Nat→Nat)(t:Nat→Int)(v blk:Nat)(w:World)(hC:rJ S w kb b t)(hG:gY b)(T:mz (bM b) t pl)(hv:(v:Int)<b.vars)(C:blk<b.Ng.length):
 Calls prog 178 #[.pointer (some ⟨kb,0,none⟩),.int .i64 v,.int .i64 blk] w fun e w'=>e=.returned (.bool (pB (jl b v blk)))∧aa All w w':=by
 have hlen:=cS b;have I:=fun wn (C:aa All w wn)=>hC.keep C (fun _ _=>trivial) trivial;obtain⟨bv,A3,c3,A4,c4,A5,c5,h1,h2,h3,h4⟩:=hC;obtain⟨db,dO,cs,rfl,_,_,a1,rfl,_⟩:=aZ h4 (uR hv);have J:=xV hG hv;obtain⟨⟨d0,d1⟩,R⟩:∃d,iV (cd b.Ng).flatten v=d:=⟨_,rfl⟩;rw[R] at J a1;simp only[Prod.mk.injEq] at J;have q0:=a1 0 _ rfl;have q1:=a1 1 _ rfl;rw[dj] at q0;have k3:=h1.cl 3;have k5:=h1.cl 5;obtain⟨nv,a8⟩:∃nv:Nat,b.vars=nv:=⟨b.vars.toNat,by omega⟩;have b1:v<nv:=by omega
 rw[a8,dP] at k5;have b0:=C;obtain⟨W0,a6⟩:=eQ (w.alloc (.cells #[.int .i64 d0,.int .i64 d1] 165));have a7:=aC1 a6;have bD:=aA0 a6;have HF:=oH (show∀wn,aa All W0 wn→wn.cell? ⟨w.heap.size,0,none⟩=some (.int .i64 d0)∧wn.cell? ⟨w.heap.size,1,none⟩=some (.int .i64 d1)∧wn.cell? ⟨kb,3,none⟩=some (.slice A3 b.Ng.length c3) from fun wn C=>⟨(bD.kept C trivial).cell 0,(bD.kept C trivial).cell 1,(h1.kept (a7.trans C) trivial).cell 3⟩);have HG:=J3 hG T h2;have HW:=J4 a6 a7 R I;clear hG T h1 h2 h3 h4 a1 a6 a7 bD R I hlen;go_enter func178,ntmps178;go_upto_region 2 with fail;rw[←HW.1];clear k3 k5 q0 q1;rcases J with ⟨hp,rfl,rfl⟩|⟨hp,i,j,hd,rfl,rfl⟩
 ·have HY:=oH (show jl b v blk from .inl hp);clear hp;refine R0 14 W0 (fun _=>none) ?_;iterate 4 first|refine O4 HF.out ?_|refine O0 ?_
  iterate 8 refine O2 ?_
  iterate 2 refine O0 ?_
  refine aG fun wt Y hF=>?_;have HT:=oH Y;clear Y hF;simp only[dK];go_wp2_with fail;go_ret;exact⟨by rw[av HY.out]<;>rfl,HW.2.1.trans HT.out⟩
 have he:=kC (qs (blk:=blk) HG.1 (by omega) hp hd);obtain⟨q,hq⟩:=eR (pB (jl b v blk));have o:=fun wn (C:aa All W0 wn)=>uk S (bM b) (.slice A3 b.Ng.length c3) t pl i blk wn (by rw[cS];exact ah.keep (HW.2.1.trans C).all HG.2.2) HG.2.1 (by rw[cS];have:=HG.1.blk.2;omega) (by rw[cS];exact b0);rw[←he,hq] at o;have HC:=J2 o hq;clear he o hq hd hp;refine R0 14 W0 (fun i=>if i=11 then some (·=.bool q) else none) ?_;iterate 11 first|refine O4 HF.out ?_|refine O0 ?_
 refine O5 (v:=.bool q) (fun wn C hp=>⟨_,_,by(skip;go_simp<;>with_reducible rfl),((HC.1 wn C).mono fun e w' h=>⟨h.1,C.trans h.2,fun _ h=>by cases h⟩)⟩) ?_;iterate 2 refine O0 ?_
 refine aG fun wt Y hF=>?_;have HT:=oH Y;clear Y hF;simp only[dK];go_wp2_with fail;go_ret;exact⟨by rw[HC.2]<;>rfl,HW.2.1.trans HT.out⟩
theorem Br (S:Nat→Prop)(kb:Nat)(b:aw)(pl:Nat→Nat)(t:Nat→Int)(v blk n:Nat)(w:World)(hC:rJ S w kb b t)(hG:gY b)(T:mz (bM b) t pl)(hv:(v:Int)<b.vars)(hk:blk<b.Ng.length):
 Calls prog 110 #[.pointer (some ⟨kb,0,none⟩),.int .i64 v,.agg #[.int .i64 blk,.int .i64 n]] w fun e w'=>e=.returned (.bool (pB (iP b v blk n)))∧aa All w w':=by
 have hlen:=cS b;have o:=fun wn (hk:aa All w wn)=>hC.keep hk (fun _ _=>trivial) trivial;obtain⟨bv,A3,c3,A4,c4,A5,c5,h1,h2,h3,h4⟩:=hC;obtain⟨db,dO,cs,rfl,_,_,a6,rfl,_⟩:=aZ h4 (uR hv);have C:=xV hG hv;obtain⟨⟨d0,d1⟩,I⟩:∃d,iV (cd b.Ng).flatten v=d:=⟨_,rfl⟩;rw[I] at C a6;simp only[Prod.mk.injEq] at C;have q0:=a6 0 _ rfl;have q1:=a6 1 _ rfl;rw[dj] at q0;have k3:=h1.cl 3;have k5:=h1.cl 5;obtain⟨nv,b1⟩:∃nv:Nat,b.vars=nv:=⟨b.vars.toNat,by omega⟩;have b2:v<nv:=by omega
 rw[b1,dP] at k5;have b3:=hk;have kw:aa All w (w.alloc (.cells #[.int .i64 blk,.int .i64 n] 165)):=kR.alloc _;have q0:=kw.cell trivial q0;have q1:=kw.cell trivial q1;have k5:=kw.cell trivial k5;obtain⟨W0,J⟩:=eQ ((w.alloc (.cells #[.int .i64 blk,.int .i64 n] 165)).alloc (.cells #[.int .i64 d0,.int .i64 d1] 165));have b0:=aC2 J;have bA:=aA1 J;have bD:=aB0 J aE1;have a0:=bA.cl 0;have a1:=bA.cl 1;have r0:=bD.cl 0;have r1:=bD.cl 1;have R:=vU S kb b pl t v blk W0 (o W0 b0) hG T (by omega) hk;have HG:=J3 hG R T;have HW:=J4 J b0 I o;clear hG T h1 h2 h3 h4 a6 J b0 bD bA I o hlen R;go_enter func110,ntmps110;go_upto_region 2 with fail;rw[←HW.1];clear k3 k5 q0 q1;rcases C with ⟨hp,rfl,rfl⟩|⟨hp,i,j,hd,rfl,rfl⟩
 ·have HY:=J2 (show jl b v blk from .inl hp) (show iP b v blk n from .inl hp);clear hp;have te:((-1:Int)==(blk:Int))=false:=by rw[bE];omega
  have hc:=HG.2.1;rw[av HY.1] at hc;have HC:=oH hc;clear hc;go_wp2_with fail;refine HC.out.mono ?_;rintro e w2 ⟨rfl,Y⟩;have HK:=oH Y;clear Y;go_wp2_with fail;go_ret;exact⟨by rw[av HY.2]<;>rfl,HW.2.1.trans HK.out⟩
 have ht:=tP (n:=n) (blk:=blk) HG.1 (by omega) hp hd;by_cases a7:i=blk
 ·have te:((i:Int)==(blk:Int))=true:=by rw[cy];omega
  rw[ap a7] at ht;have HT:=oH (kC ht);clear ht a7 hp hd;go_wp2_with fail;go_ret;refine⟨?_,HW.2.1⟩;rw[HT.out];by_cases a8:j<n;·rw[av a8];simp[a8]
  rw[au a8];simp[a8]
 have te:((i:Int)==(blk:Int))=false:=by rw[bE];omega
 rw[ae a7] at ht;have he:=qs (blk:=blk) HG.1 (by omega) hp hd;obtain⟨q,hq⟩:=eR (pB (jl b v blk));have hc:=HG.2.1;rw[hq] at hc;have HC:=J2 hc ((kC (ht.trans he.symm)).trans hq);clear ht he a7 hp hd hc hq;go_wp2_with fail;refine HC.1.mono ?_;rintro e w2 ⟨rfl,Y⟩;have HK:=oH Y;clear Y;go_wp2_with fail;go_ret;exact⟨by rw[HC.2]<;>rfl,HW.2.1.trans HK.out⟩
end Go.Proofs.YtgdlhckhpolnnaaGreatDoor
