/- Part 29 of the proof (its last part says what is proved). No condition. -/
import Derived.Test.YtccbbkopmlnkpaaGreatDoorK27
namespace Go.Proofs.YtccbbkopmlnkpaaGreatDoor
set_option maxRecDepth 100000
set_option maxHeartbeats 8000000
open Go.RowKit Go.Proofs.Tryz
section
open Go.RowKit Go.Shelf
attribute [local go_sem] Oper.semAt_some
def Ce (x:bI)(a f:Value):List Value:=[.int .u8 x.kind,.int .u8 x.op,.int .i64 x.dst,.int .i64 x.ref,.int .i64 x.No,a,f,.int .i64 x.num,.int .i64 x.Np]
structure Bt (S:Nat→Prop)(w0:World)(B1:Option Addr)(L:List (List bI))(A F:Nat→Nat→Value):Prop where
 row:∀(k:Nat) l,L[k]? =some l→∃rb ro Ak ck,B1=some ⟨rb,ro,none⟩∧S rb∧w0.cell? ⟨rb,ro+k,none⟩=some (.slice Ak l.length ck)∧l.length≤maxLen∧
  ∀(i:Nat) x,l[i]? =some x→∃xb xo,Ak=some ⟨xb,xo,none⟩∧S xb∧∀(j:Nat) c,(Ce x (A k i) (F k i))[j]? =some c→w0.cell? ⟨xb,xo+i*9+j,none⟩=some c
 ints:∀(k:Nat) l,L[k]? =some l→∀(i:Nat) x,l[i]? =some x→bu S w0 (A k i) x.args∧bu S w0 (F k i) x.Nn∧Cp x
theorem vh {S:Nat→Prop}{w:World}{B1:Option Addr}{n d:Nat}{L:List (List bI)}(h:fz S w (.slice B1 n d) L):∃A F,Bt S w B1 L A F:=by
 have hc:∀k i:Nat,∃af:Value×Value,∀l x,L[k]? =some l→l[i]? =some x→bu S w af.1 x.args∧bu S w af.2 x.Nn∧Cp x∧
  ∃rb ro Ak ck,B1=some ⟨rb,ro,none⟩∧w.cell? ⟨rb,ro+k,none⟩=some (.slice Ak l.length ck)∧∃J xo,Ak=some ⟨J,xo,none⟩∧S J∧∀(j:Nat) c,(Ce x af.1 af.2)[j]? =some c→w.cell? ⟨J,xo+i*9+j,none⟩=some c:=by
  intro k i;cases hk:L[k]? with
  |none=>exact⟨(.nilFunc,.nilFunc),fun l x h=>by cases h⟩
  |some l=>
   cases hi:l[i]? with
   |none=>refine⟨(.nilFunc,.nilFunc),fun l' x h R=>?_⟩;cases h;rw[hi] at R;cases R
   |some x=>obtain⟨rb,ro,rv,e,_,o,C⟩:=de h hk;obtain⟨Ak,ck,rfl,_⟩:=id C;obtain⟨J,xo,cs,e2,Y,_,a1,a,f,rfl,h1,R,h3⟩:=bh C hi;refine⟨(a,f),fun l' x' h h'=>?_⟩;cases h;rw[hi] at h';cases h';exact⟨h1,R,h3,rb,ro,Ak,ck,e,o,J,xo,e2,Y,a1⟩
 obtain⟨g,hg⟩:=Classical.axiomOfChoice fun k=>Classical.axiomOfChoice (hc k);refine⟨fun k i=>(g k i).1,fun k i=>(g k i).2,⟨fun k l hk=>?_,fun k l hk i x hi=>?_⟩⟩;·obtain⟨rb,ro,rv,e,hS,o,C⟩:=de h hk;obtain⟨Ak,ck,rfl,h1,R,_⟩:=id C;refine⟨rb,ro,Ak,ck,e,hS,o,by omega,fun i x hi=>?_⟩;obtain⟨_,_,_,a6,a7,a8,b0,e',I,J,xo,e2,Y,a1⟩:=hg k i l x hk hi;rw[e] at e';cases e';rw[o] at I;cases I;exact⟨J,xo,e2,Y,a1⟩
 obtain⟨h1,R,h3,_⟩:=hg k i l x hk hi;exact⟨h1,R,h3⟩
def gJ (S:Nat→Prop)(w0 W:World):Prop:=∀(b i:Nat) v,S b→w0.cell? ⟨b,i,none⟩=some v→W.cell? ⟨b,i,none⟩=some v
def jg (S:Nat→Prop)(w0 A B:World):Prop:=gJ S w0 A→gJ S w0 B
section
variable {S:Nat→Prop} {w0 W W':World}
theorem gJ.refl (S:Nat→Prop)(w0:World):gJ S w0 w0:=fun _ _ _ _ h=>h
theorem gJ.kept (h:gJ S w0 W)(k:aa S W W'):gJ S w0 W':=fun b i v j o=>k.cell (p:=⟨b,i,none⟩) j (h b i v j o)
theorem gJ.below {w:World}(h:gJ S w0 w)(o:Below w.heap.size w W):gJ S w0 W:=fun b i v C I=>by have j:=h b i v C I;exact(o.cell (p:=⟨b,i,none⟩) (gx w _ j)).trans j
theorem CY {l:Nat}{o I:Obj}(J:W.heap[l]? =some o)(R:o.isCells=false):jg S w0 W (W.putObj l I):=by
 intro h b i v Y hv;have j:=h b i v Y hv;have C:b≠l:=by rintro rfl;unfold World.cell? at j;simp only[J] at j;cases o<;>first|(simp[Obj.isCells] at R;done)|(simp at j)
 rw[World.cell?_of_block (World.putObj_heap_other C)];exact j
theorem BR {A B C:World}(h:jg S w0 A B)(k:jg S w0 B C):jg S w0 A C:=fun j=>k (h j)
theorem BQ (B:Nat):∀(W:World) (l:Nat) (o j:Obj),B≤l→W.heap[l]? =some o→o.isCells=false→o.isWalk=false→jg S w0 W (W.putObj l j):=fun _ _ _ _ _ C I _=>CY C I
end
abbrev EJ (L:List (List bI)):= {t:gQ//∃l,L[t.1]? =some l∧l[t.2.1]? =some t.2.2}
theorem yU (par vars:Int)(j:Option Addr)(n d1:Nat)(w:World):Calls prog 31 #[.agg #[.int .i64 par,.int .i64 vars,.slice j n d1]] w fun e o=>
 e=.returned (.func (.func 51) #[] #[.pointer (some ⟨w.heap.size,0,none⟩)])∧o=w.alloc (.cells #[.int .i64 par,.int .i64 vars,.slice j n d1] 35):=by
 have C:∀(fn:Fn) (first cap:Array Value) (w:World),(Instr.makeFunc fn first cap).run prog w=.ok (.func fn first cap) w:=fun _ _ _ _=>rfl;go_enter func31,ntmps31;go_wp2;go_ret;exact⟨rfl,rfl⟩
theorem tI (n:Nat)(hn:1≤n)(S:Nat→Prop)(w0:World)(par vars:Int)(B1:Option Addr)(d1:Nat)(L:List (List bI))(A F:Nat→Nat→Value)(hI:Bt S w0 B1 L A F)(hL:L.length≤64)(Bn:Nat)(w:World)(hh:gJ S w0 w)(hc:al w Bn 35 #[.int .i64 par,.int .i64 vars,.slice B1 L.length d1]):
 SeqStopsK Fence.wide n prog 51 #[.pointer (some ⟨Bn,0,none⟩)]
  (fun x:EJ L=>#[Value.agg #[.int .i64 (x.1.1:Nat),.int .i64 (x.1.2.1:Nat)],Value.agg #[.int .u8 x.1.2.2.kind,.int .u8 x.1.2.2.op,.int .i64 x.1.2.2.dst,.int .i64 x.1.2.2.ref,.int .i64 x.1.2.2.No,A x.1.1 x.1.2.1,F x.1.1 x.1.2.1,.int .i64 x.1.2.2.num,.int .i64 x.1.2.2.Np]])
  (jg S w0) (fun xs=>xs.map Subtype.val=(aX L).flatten) (fun pre=>pre.map Subtype.val<+:(aX L).flatten) (aX L).flatten.length w:=fun l J Jx W hW Y _ hY h0=>by
 have b8:W.cell? ⟨Bn,2,none⟩=some (.slice B1 L.length d1):=(hW.cell (p:=⟨Bn,2,none⟩) hc.lt).trans (hc.cell 2);have a6:=hh.below hW;have HL:=J4 a6 hY hI Y;clear a6 hY hW hh hc hI Y;refine callsIn_of_wp func51 rfl trivial ?_ rfl;simp only[ntmps51,List.size_toArray,lD,List.length_nil,Nat.reduceAdd,Nat.reduceSub,Array.replicate_succ,Array.replicate_zero,List.push_toArray,List.append_toArray,si,List.cons_append];gi_wp2
 gi_loopw [10] (fun r wr=>∃(k:Nat) (pre:List (EJ L)),k≤L.length∧r=.int .i64 k∧pre.map Subtype.val=ks (aX L) k 0∧J pre wr∧gJ S w0 wr) (fun r _=>L.length-(intOf r).toNat)
 ·exact⟨0,[],by omega,rfl,by simp[ks],h0,HL.1⟩
 obtain⟨k,pre,hk,rfl,o,Y,C⟩:=hrel;by_cases b9:k<L.length;·(
 obtain⟨row,I⟩:=eG b9;obtain⟨rb,ro,Ak,ck,rfl,a7,a8,c0,b0⟩:=HL.2.2.1.row k row I;have c4:=C rb (ro+k) _ a7 a8;unfold maxLen at c0;have R:=J5 I b0 o Y C;clear I b0 a8 a7 o Y C;gi_wp2
 gi_loopw [17] (fun r wr=>∃(i:Nat) (pre:List (EJ L)),i≤row.length∧r=.int .i64 i∧pre.map Subtype.val=ks (aX L) k i∧J pre wr∧gJ S w0 wr) (fun r _=>row.length-(intOf r).toNat)
 ·exact⟨0,pre,by omega,rfl,R.2.2.1,R.2.2.2.1,R.2.2.2.2⟩
 obtain⟨i,pre,hi,rfl,o,Y,C⟩:=hrel;by_cases b1:i<row.length;·(
 obtain⟨x,hx⟩:=eG b1;obtain⟨xb,xo,rfl,b2,b3⟩:=R.2.1 i x hx;have hz:=fun j c hj=>C xb (xo+i*9+j) c b2 (b3 j c hj);have a1:=En (nO R.1) (wG hx);rw[←o] at a1;have b4:pre.length<(aX L).flatten.length:=by have:=a1.length_le;rw[eV,aZ,List.length_singleton] at this;omega
 have z0:=hz 0 _ rfl;have z1:=hz 1 _ rfl;have z2:=hz 2 _ rfl;have z3:=hz 3 _ rfl;have z4:=hz 4 _ rfl;have z5:=hz 5 _ rfl;have z6:=hz 6 _ rfl;have z7:=hz 7 _ rfl;have z8:=hz 8 _ rfl;rw[cJ] at z0;obtain⟨i1,i2,_⟩:=HL.2.2.1.ints k row R.1 i x hx;obtain⟨aA,cA,eA,_⟩:=i1;obtain⟨aF,cF,eF,_⟩:=i2;rw[eA] at z5;rw[eF] at z6;have b5:aa All wr (wr.alloc (.cells #[.int .u8 x.kind,.int .u8 x.op,.int .i64 x.dst,.int .i64 x.ref,.int .i64 x.No,.slice aA x.args.length cA,.slice aF x.Nn.length cF,.int .i64 x.num,.int .i64 x.Np] 40)):=kR.alloc _;have b6:J pre (wr.alloc (.cells #[.int .u8 x.kind,.int .u8 x.op,.int .i64 x.dst,.int .i64 x.ref,.int .i64 x.No,.slice aA x.args.length cA,.slice aF x.Nn.length cF,.int .i64 x.num,.int .i64 x.Np] 40)):=HL.2.2.2 _ _ _ none Y (World.grownBy_alloc wr _ none) (fun r e=>by cases e);obtain⟨fn,tmps,assign,body,hy,hR⟩:=HL.2.1 pre ⟨(k,i,x),row,R.1,hx⟩ _ b6 b4;dsimp only at hy;rw[eA,eF] at hy;have HX:=J4 (C.kept b5.all) o a1 hx;clear b6 b5 hz b3 b2 o a1 Y eA eF;gi_wp2;refine hR.mono ?_;rintro e W3 (⟨rfl,c1,c2⟩|⟨rfl,b7⟩)
 ·have c3:=c2 HX.1;gi_wp2
  go_roundw
  case rel=>exact⟨i+1,pre++[⟨(k,i,x),row,R.1,hx⟩],by omega,by simp,by rw[tV (nO R.1) (wG hx),gU,HX.2.1];rfl,c1,c3⟩
  case measure=>simp[intOf];omega
 gi_wp2;refine bodyPost_ret (results_none rfl _ _ _) rfl ?_;exact⟨⟨_,rfl⟩,.inr ⟨pre++[⟨(k,i,x),row,R.1,hx⟩],by rw[gU];exact HX.2.2.1,b7⟩⟩)
 obtain rfl:i=row.length:=by omega
 have HE:=oH (show pre.map Subtype.val=ks (aX L) (k+1) 0 by rw[o,←Em (nO R.1),List.length_mapIdx]);clear o;gi_wp2
 go_roundw
 case rel=>exact⟨k+1,pre,by omega,by simp,HE.out,Y,C⟩
 case measure=>simp[intOf];omega)
 obtain rfl:k=L.length:=by omega
 have HE:=oH (show pre.map Subtype.val=(aX L).flatten by rw[o,←zY L,Ek]);clear o;gi_wp2
 go_end0
 exact⟨⟨_,rfl⟩,.inl ⟨pre,HE.out,Y⟩⟩
end
section
open Go.RowKit Go.Shelf
attribute [local go_sem] Oper.semAt_some
theorem lx {F:Fence}{n:Nat}{P:Program}{α:Type}{g:Operand}{ps:Array Tmp}{assign body:Code}{Q:Exit→Act→World→Prop}{a:Act}{w:World}
 (b5:F.round=none) (h1:1≤n) {gf:Nat} {lb:Array Value} (hg:a.eval g=.func (.func gf) #[] lb) (b6:F.fn gf) (eg:∀args w,(callFunc gf args).run P w=.ok (.enter gf args) w)
 {j:α→Array Value} {Kp:World→World→Prop} {S Sp:List α→Prop} {N:Nat} {w0:World} (a8:SeqStopsK F (n-1) P gf lb j Kp S Sp N w0)
 (b0:∀ {A B C:World},Kp A B→Kp B C→Kp A C) (b7:∀(W:World) (l:Nat) (o o':Obj),w.heap.size≤l→W.heap[l]? =some o→o.isCells=false→o.isWalk=false→Kp W (W.putObj l o')) (b3:∀(W:World) (o:Obj),Kp W (W.alloc o)) (b8:Below w0.heap.size w0 w) (b9:∀x,(j x).size=ps.size)
 (I:List α→World→Prop) (Ix:Code→List α→World→Prop) (hI:OwnFrom w.heap.size I) (c0:∀c,OwnFrom w.heap.size (Ix c)) (b4:∀pre W,I pre W→w.heap.size≤W.heap.size) (h0:I [] w) (q1 q2:Nat) (t1 t2:TypeId) (c1 c2:α→Array Value)
 (Y:∀(l:Nat) (x:α) (W:World) (K:Act→World→Prop),
  K {tmps:=(((ps.zip (j x)).foldl (fun t (p,v)=>t.setIfInBounds p v) a.tmps).setIfInBounds q1 (.pointer (some ⟨W.heap.size,0,none⟩))).setIfInBounds q2 (.pointer (some ⟨W.heap.size+1,0,none⟩)),defers:=[]} ((W.alloc (.cells (c1 x) t1)).alloc (.cells (c2 x) t2))→
  assign.wpIn (F.inRound l) (n-1-1) P (Exit.then K (fun _ _ _=>False)) {tmps:=(ps.zip (j x)).foldl (fun t (p,v)=>t.setIfInBounds p v) a.tmps,defers:=[]} W)
 (a1:∀(l:Nat) (pre:List α) (x:α) (J R:Nat) (W:World),J≠R→w.heap.size≤J→w.heap.size≤R→al W J t1 (c1 x)→al W R t2 (c2 x)→I pre W→pre.length<N→
  body.wpIn (F.inRound l) (n-1-1) P (ownPostG w.heap.size Kp I Ix (pre++[x]) W)
   {tmps:=(((ps.zip (j x)).foldl (fun t (p,v)=>t.setIfInBounds p v) a.tmps).setIfInBounds q1 (.pointer (some ⟨J,0,none⟩))).setIfInBounds q2 (.pointer (some ⟨R,0,none⟩)),defers:=[]} W)
 (a6:∀(D:Nat) (xs:List α) (W:World),w.heap.size≤D→S xs→I xs W→W.heap[D]? =some (.deferred (some []))→Q .normal {a with defers:= {target:=.collected D,args:=#[]}::a.defers} W)
 (a7:∀(D:Nat) (c:Code) (pre:List α) (W:World),w.heap.size≤D→Sp pre→Ix c pre W→W.heap[D]? =some (.deferred (some []))→c.wpIn F n P Q {a with defers:= {target:=.collected D,args:=#[]}::a.defers} W):
 (Code.rangeFunc g ps assign body).wpIn F n P Q a w:=
 wpIn_rangeFunc_ownH b5 h1 hg b6 eg a8 b0 b7 b8 b9 I Ix hI c0 h0
  (fun x a' W=>(∃J R,(J≠R∧w.heap.size≤J∧w.heap.size≤R∧a'= {tmps:=(((ps.zip (j x)).foldl (fun t (p,v)=>t.setIfInBounds p v) a.tmps).setIfInBounds q1 (.pointer (some ⟨J,0,none⟩))).setIfInBounds q2 (.pointer (some ⟨R,0,none⟩)),defers:=[]})∧al W J t1 (c1 x)∧al W R t2 (c2 x)))
  (fun x a' s A B row h hg hr=>by obtain⟨J,R,h1,h2,h3⟩:=h;exact⟨J,R,h1,gF (B:=w.heap.size) (cs:=fun _:Unit=>c1 x) s A B row h2 hg hr,gF (B:=w.heap.size) (cs:=fun _:Unit=>c2 x) s A B row h3 hg hr⟩)
  (fun l pre x W K hi hK=>Y l x W K (hK _ _ (((KeepsOthers.alloc _ _).trans (KeepsOthers.alloc _ _)).from _) (b0 (b3 _ _) (b3 _ _)) (hI.alloc _ (hI.alloc _ hi))
   ⟨W.heap.size,W.heap.size+1,⟨by omega,b4 _ _ hi,by have:=b4 _ _ hi;omega,rfl⟩,(al.new _ _ _).alloc _,ac (by simp)⟩))
  (fun l pre x a' W _ _ hi ⟨J,R,⟨h1,h2,h3,e⟩,h4,h5⟩ c3=>by rw[e];exact a1 l pre x J R W h1 h2 h3 h4 h5 hi c3)
  a6 a7
theorem Lj {S:Nat→Prop}{w:World}{v:Value}{l:List bI}(h:xn S w v l):xn (fun b=>b<w.heap.size) w v l:=by obtain⟨a,cap,o,C,I,J,h⟩:=h;refine⟨a,cap,o,C,I,J,fun i x R=>?_⟩;obtain⟨b,off,cs,e,hs,Y,j,af,ff,rfl,h4,h5,h6⟩:=h i x R;exact⟨b,off,_,e,gx w _ (j 0 _ rfl),Y,j,af,ff,rfl,jZ h4,jZ h5,h6⟩
theorem vy {S:Nat→Prop}{w:World}{v:Value}{l:List (List bI)}(h:fz S w v l):fz (fun b=>b<w.heap.size) w v l:=by obtain⟨a,cap,o,C,I,J,h⟩:=h;refine⟨a,cap,o,C,I,J,fun i x R=>?_⟩;obtain⟨b,off,c,e,hs,j,Y⟩:=h i x R;exact⟨b,off,c,e,gx w _ j,j,Lj Y⟩
def Aw (f:Nat→Int×Int)(j:Nat):Int:=if j%2=0 then(f (j/2)).1 else(f (j/2)).2
theorem GI (f:Nat→Int×Int)(v:Nat):Aw f (v*2)=(f v).1:=by unfold Aw;rw[am (by omega),Nat.mul_div_cancel _ (by omega)]
theorem GJ (f:Nat→Int×Int)(v:Nat):Aw f (v*2+1)=(f v).2:=by unfold Aw;rw[ah (by omega),show(v*2+1)/2=v by omega]
theorem Ln {f g:Nat→Int×Int}{v j:Nat}(h:∀u,u≠v→f u=g u)(o:j≠v*2)(C:j≠v*2+1):Aw f j=Aw g j:=by unfold Aw;rw[h (j/2) (by omega)]
theorem JG {n v:Nat}{f g:Nat→Int×Int}(h:∀u,u≠v→g u=f u):((bH (n*2) (Aw f)).setIfInBounds (v*2) (.int .i64 (g v).1)).setIfInBounds (v*2+1) (.int .i64 (g v).2)=bH (n*2) (Aw g):=by
 rw[oO,oO];refine fh fun j _=>?_;unfold rz;by_cases o:j=v*2+1;·rw[am o,o,GJ]
 rw[ah o];by_cases C:j=v*2;·rw[am C,C,GI]
 rw[ah C];exact Ln (fun u hu=>(h u hu).symm) C o
theorem FT:(prog.info? 74).map (fun i=>(i.zero,i.size,i.bytes))=some (some (.agg #[.int .i64 0,.int .i64 0]),2,16):=by kernel_rfl
theorem Gk (n:Nat)(R:n≤1048576)(w:World):(Instr.makeSlice 60 (.int .i64 n) (.int .i64 n)).run prog w=.ok (.slice (some ⟨w.heap.size,0,none⟩) n n) (w.alloc (.cells (bH (n*2) fun _=>0) 74)):=by
 obtain⟨i3,hi,C,I,J⟩:=info_parts FT;rw[run_make (P:=prog) w 60 74 i3 _ underlying60 hi C .i64 .i64 n n (by omega) (by omega) (by rw[J];omega) (by omega)];have e:madeCells (Value.agg #[.int .i64 0,.int .i64 0]).cells ((n:Int).toNat*i3.size)=bH (n*2) fun _=>0:=by(
 rw[I,fD];apply Array.ext_getElem?;intro j;by_cases o:j<n*2
 ·rw[cx o]
  rcases Nat.mod_two_eq_zero_or_one j with h|h<;>simp[madeCells,o,Value.cells,h]
 rw[gT (by rw[size_madeCells];omega),gT (by rw[jY];omega)])
 rw[e,fD]
end
section
open Go.RowKit Go.Shelf
attribute [local go_sem] Oper.semAt_some
theorem GK (n:Nat):bH n (Aw fun v=>if v<0 then(-1,-1) else(0,0))=bH n fun _=>0:=fh fun j _=>by unfold Aw;split<;>rfl
structure rT (w:World)(np nv:Nat)(B1:Option Addr)(n d1:Nat)(f:Nat→Int×Int)(W:World):Prop where
 kept:aa All w W
 size:w.heap.size+5≤W.heap.size
 body:al W w.heap.size 35 #[.int .i64 np,.int .i64 nv,.slice B1 n d1]
 r1:al W (w.heap.size+1) 60 #[.slice none 0 0]
 r2:al W (w.heap.size+1+1) 4 #[.bool false]
 tab:al W (w.heap.size+1+1+1) 74 (bH (nv*2) (Aw f))
 out:al W (w.heap.size+1+1+1+1) 60 #[.slice (some ⟨w.heap.size+1+1+1,0,none⟩) nv nv]
section
variable {w W W':World} {np nv n d1:Nat} {B1:Option Addr} {f g:Nat→Int×Int}
theorem rT.keep (h:rT w np nv B1 n d1 f W)(k:aa (fun b=>b<w.heap.size+5) W W'):rT w np nv B1 n d1 f W':=
 ⟨aq (h.kept.all.trans (k.mono fun b (j:b<w.heap.size)=>by omega)),dA h.size k.size,h.body.kept k (by omega),h.r1.kept k (by omega),h.r2.kept k (by omega),h.tab.kept k (by omega),h.out.kept k (by omega)⟩
theorem rT.congr (h:rT w np nv B1 n d1 f W)(e:∀v,v<nv→f v=g v):rT w np nv B1 n d1 g W:=by refine⟨h.kept,h.size,h.body,h.r1,h.r2,?_,h.out⟩;rw[fh (g:=Aw f) fun j o=>by unfold Aw;rw[e (j/2) (by omega)]];exact h.tab
theorem rT.set (h:rT w np nv B1 n d1 f W){v:Nat}(j:∀u,u≠v→g u=f u){x y:Int}(o:g v=(x,y)):rT w np nv B1 n d1 g ((W.setCell ⟨w.heap.size+1+1+1,v*2,none⟩ (.int .i64 x)).setCell ⟨w.heap.size+1+1+1,v*2+1,none⟩ (.int .i64 y)):=by
 refine⟨(h.kept.setCell (.inr (by simp;omega)) _).setCell (.inr (by simp;omega)) _,by simpa using h.size,?_,?_,?_,?_,?_⟩;·exact(h.body.far (by simp;omega) _).far (by simp;omega) _
 ·exact(h.r1.far (by simp) _).far (by simp) _
 ·exact(h.r2.far (by simp) _).far (by simp) _
 ·rw[←JG (n:=nv) j,o]
  exact(h.tab.set _ _).set _ _
 exact(h.out.far (by simp) _).far (by simp) _
end
def ED (L:List (List bI))(w:World)(np nv:Nat)(B1:Option Addr)(n d1 N sz:Nat)(pre:List (EJ L))(W:World):Prop:=
 rT w np nv B1 n d1 (fun v=>gV (pre.map Subtype.val) v) W∧al W N 3 #[.int .i64 (np+og ((pre.map Subtype.val).map fun t=>t.2.2):Nat)]∧sz≤W.heap.size∧w.heap.size+5≤N∧N<sz
theorem zM {L:List (List bI)}{w:World}{np nv n d1 N sz:Nat}{B1:Option Addr}(j:N<sz)(_:w.heap.size+5≤sz):OwnFrom sz (ED L w np nv B1 n d1 N sz):=by
 rintro s W W' row ⟨o,C,I,J,R⟩ Y hr;have k:aa (fun b=>b<sz) W W':=(aa.refl _ W).grown Y fun k hk=>.inl fun h=>by have:=(hr k hk).1;have h:k<sz:=h;omega
 exact⟨o.keep (k.mono fun b hb=>by omega),C.kept k j,dA I k.size,J,R⟩
def rS (L:List (List bI))(pre:List (EJ L)):Prop:=∃pre' x,pre=pre'++[x]∧x.1.2.2.dst≠-1∧0≤(gV (pre'.map Subtype.val) x.1.2.2.dst).1
theorem wB {b:av}(I:jt b){pre:List (EJ b.Nm)}(h:rS b.Nm pre)(o:pre.map Subtype.val<+:(aX b.Nm).flatten):False:=by
 obtain⟨j,x,rfl,J,C⟩:=h;rw[gU] at o;rcases rD (j.map Subtype.val) x.1.2.2.dst with ⟨e,_⟩|⟨u,hu,he,_⟩;·rw[e] at C;exact absurd C (by decide)
 exact zZ I o hu J he
def Ih (b:av)(w:World)(e:Ending)(w':World):Prop:=∃u,e=.returned (.tuple #[u,.bool true])∧aa All w w'∧dJ (fun g=>w.heap.size≤g) w' u (gB b)
theorem Fr {b:av}(C:b.Nm.length≤64)(j:b.Nm.flatten.length≤4096)(v:Int):aS (gV (aX b.Nm).flatten v).1∧aS (gV (aX b.Nm).flatten v).2:=by
 unfold aS;rcases rD (aX b.Nm).flatten v with ⟨e,_⟩|⟨t,I,_,e⟩;·rw[e];exact⟨by decide,by decide⟩
 obtain⟨l,o,J⟩:=nQ.1 I;have R:=(lS.1 o).1;have Y:=(lS.1 J).1;have l3:l.length≤b.Nm.flatten.length:=by rw[List.length_flatten];exact sJ (dt.2 ⟨l,mG o,rfl⟩)
 rw[e];simp only;omega
theorem Ft {b:av}(Y:jt b){nv:Nat}(I:b.vars=nv)(o:b.Nm.flatten.length≤4096)(a1:nv≤4102){S:Nat→Prop}{w:World}{g:Nat}{t:TypeId}(h:al w g t (bH (nv*2) (Aw fun v=>gV (aX b.Nm).flatten v)))(hS:S g):dJ S w (.slice (some ⟨g,0,none⟩) nv nv) (gB b):=by
 have R:(gB b).length=nv:=by simp[gB,I]
 refine⟨some ⟨g,0,none⟩,nv,by rw[R],by omega,by unfold maxLen;omega,by omega,fun i x C=>?_⟩;have hi:i<nv:=by rw[←R];exact(lS.1 C).1
 unfold gB at C;rw[cy,nZ (by omega)] at C;cases C;have hw:=Fr Y.blk.2 o i;refine⟨g,0,[.int .i64 (gV (aX b.Nm).flatten i).1,.int .i64 (gV (aX b.Nm).flatten i).2],rfl,hS,rfl,fun j c J=>?_,rfl,hw⟩;rcases j with _|_|j
 ·cases J
  rw[cJ,dU,h.cell,cx (by omega),GI]
 ·cases J
  rw[dU,h.cell,cx (by omega),GJ]
 simp at J
theorem vM (S:Nat→Prop)(bv:Value)(b:av)(w:World)(hb:fz S w bv b.Nm)(hG:jt b)(d8:b.Nm.flatten.length≤4096):
 Calls prog 19 #[.agg #[.int .i64 b.params,.int .i64 b.vars,bv]] w (Ih b w):=by
 have d9:=vy hb;obtain⟨B1,d1,rfl,m5,m6,m7,_⟩:=hb;obtain⟨A,F,hI⟩:=vh d9;unfold maxLen at m6;have e9:=hG.blk.2;have b8:=hG.num;have e0:=hG.par;have h0:og b.Nm.flatten≤b.Nm.flatten.length:=List.length_filter_le _ _;obtain⟨np,b9⟩:∃np:Nat,b.params=np:=⟨b.params.toNat,by omega⟩;obtain⟨nv,c3⟩:∃nv:Nat,b.vars=nv:=⟨b.vars.toNat,by omega⟩;have j3:np≤nv:=by omega
 have h3:nv≤4102:=by omega
 have j4:np≤6:=by omega
 rw[b9,c3];have HG:=J5 hG hI b9 c3 b8;clear hG hI b9 c3 b8 d9 h0 e0 m5 m6 m7;have t1:decide ((np:Int)<0)=false:=by simp
 have t2:decide ((np:Int)>(nv:Int))=false:=by simp;omega
 have h6:decide (nv<np)=false:=by simp;omega
 have t3:decide ((nv:Int)>4102)=false:=by simp;omega
 have h7:decide (4102<nv)=false:=by simp;omega
 have h8:=fun w=>Gk nv (by omega) w;refine(callsIn_wide (n:=8)).1 ?_;refine callsIn_of_wp_marks func19 rfl trivial ?_ rfl;simp only[ntmps19,List.size_toArray,lD,List.length_nil,Nat.reduceAdd,Nat.reduceSub,Array.replicate_succ,Array.replicate_zero,List.push_toArray,List.append_toArray,si,List.cons_append];rw[wpIn_wide];go_wp2_with fail;clear t1 t2 h6 t3 h7 h8;go_loopg [29] nv (fun g s wr=>∃k:Nat,k≤nv∧g=nv-k∧s=.int .i64 k∧rT w np nv B1 b.Nm.length d1 (fun v=>if v<k then(-1,-1) else(0,0)) wr)
 case atStart=>refine⟨0,by omega,by omega,rfl,((((kR.alloc _).alloc _).alloc _).alloc _).alloc _,by simp,((((al.new _ _ _).alloc _).alloc _).alloc _).alloc _,(((ac (by simp)).alloc _).alloc _).alloc _,((ac (by simp)).alloc _).alloc _,?_,ac (by simp)⟩;rw[GK];exact(ac (by simp)).alloc _
 obtain⟨k,hk,rfl,rfl,R⟩:=hrel;have c0:=R.out.cell 0;simp only[gc] at c0;by_cases j5:k<nv;·(
 have c1:=R.tab.cell (k*2);have c2:=R.tab.cell (k*2+1);have f1:=R.tab.free (k*2);have f2:=R.tab.free (k*2+1);rw[cx (by omega)] at c1 c2;have a1:=R.set (g:=fun v=>if v<k+1 then(-1,-1) else(0,0)) (v:=k) (fun u hu=>by
  by_cases h:u<k;·rw[am h,am (by omega)]
  rw[ah h,ah (by omega)]) (x:= -1) (y:= -1) (am (by omega))
 have HN:=oH a1;clear R a1;go_wp2_with fail;go_roundg (nv-(k+1));·exact⟨k+1,by omega,rfl,by go_num,HN.out⟩
 omega)
 have e:nv=k:=by omega
 subst e;obtain⟨W5,b4⟩:=eQ (wr.alloc (.cells #[.int .i64 np] 3));have c4:aa All wr W5:=by rw[b4];exact kR.alloc _
 have e3:al W5 wr.heap.size 3 #[.int .i64 np]:=by rw[b4];exact ac rfl
 have a6:=R.keep c4.all;have g0:=R.body.cell 0;have g1:=R.body.cell 1;have g2:=R.body.cell 2;have b0:=a6.body.cell 0;have b1:=a6.body.cell 1;have b2:=a6.body.cell 2;simp only[gc] at g0 g1 g2 b0 b1 b2;have HW:=J4 b4 c4 e3 a6;have j6:=R.size;clear b4 c4 e3 a6 R;go_upto_region 10 with fail;rw[←HW.1];clear g0 g1 g2;go_wp2_with fail;refine(yU _ _ _ _ _ _).mono ?_;rintro e w' ⟨rfl,rfl⟩;obtain⟨wl,b5⟩:=eQ (W5.alloc (.cells #[.int .i64 np,.int .i64 nv,.slice B1 b.Nm.length d1] 35));have b6:aa All W5 wl:=by rw[b5];exact kR.alloc _
 have e4:al wl W5.heap.size 35 #[.int .i64 np,.int .i64 nv,.slice B1 b.Nm.length d1]:=by rw[b5];exact ac rfl
 have c5:=HW.2.2.2.keep b6.all;have e5:=HW.2.2.1.kept b6 trivial;have e6:gJ (fun g=>g<w.heap.size) w wl:=(gJ.refl _ _).kept c5.kept.all;have j1:=HW.2.2.1.lt;have j2:=b6.size;rw[←b5];have HL:=J4 c5 e5 e4 e6;clear b5 c5 e5 b6 e4 b0 b1 b2 e6;go_wp2_with fail
 refine wpIn_wide.1 (lx (F:=Fence.wide) (n:=8) rfl (by omega) (gf:=51) (lb:=#[.pointer (some ⟨W5.heap.size,0,none⟩)]) rfl trivial (enters_of func51 (by kernel_rfl) rfl)
  (tI 7 (by omega) (fun g=>g<w.heap.size) w np nv B1 d1 b.Nm A F HG.2.1 e9 _ wl HL.2.2.2 HL.2.2.1) BR (BQ _) (fun W o h=>h.kept (kR.alloc _)) (Below.refl _ _) (fun _=>rfl)
  (ED b.Nm w np nv B1 b.Nm.length d1 wr.heap.size wl.heap.size) (fun c pre _=>c=.ret∧rS b.Nm pre) (zM (by omega) (by omega)) (fun c s W W' row h _ _=>h) (fun pre W h=>h.2.2.1) ⟨?_,HL.2.1,bj _,by omega,by omega⟩
  7 8 74 40 (fun x=>#[.int .i64 (x.1.1:Nat),.int .i64 (x.1.2.1:Nat)]) (fun x=>#[.int .u8 x.1.2.2.kind,.int .u8 x.1.2.2.op,.int .i64 x.1.2.2.dst,.int .i64 x.1.2.2.ref,.int .i64 x.1.2.2.No,A x.1.1 x.1.2.1,F x.1.1 x.1.2.1,.int .i64 x.1.2.2.num,.int .i64 x.1.2.2.Np]) ?assign ?body ?done ?stop)
 case assign=>(intro l x W K hK;obtain⟨⟨i,k,x⟩,row,C,hx⟩:=x;obtain⟨⟨aA,cA,eA,_⟩,⟨aF,cF,eF,_⟩,_⟩:=HG.2.1.ints i row C k x hx;dsimp only at hK⊢;rw[eA,eF] at hK⊢;simp only[List.zip_toArray,List.zip_cons_cons,List.zip_nil_right,List.foldl_toArray',List.size_toArray,lD,List.length_nil,List.foldl_cons,List.foldl_nil,ga] at hK;gi_wp2;exact hK)
 case body=>(
 rintro l pre x b1 b2 W j7 j8 j9 c6 c7 ⟨I,Y,hs,h4,h5⟩ h9;obtain⟨⟨i,k,x⟩,row,C,hx⟩:=x;obtain⟨⟨aA,cA,eA,_⟩,⟨aF,cF,eF,_⟩,_⟩:=HG.2.1.ints i row C k x hx;dsimp only at c6 c7⊢;rw[eA,eF] at c7⊢;have a7:((pre.map Subtype.val)++[((i,k,x):gQ)])=(pre++[(⟨(i,k,x),row,C,hx⟩:EJ b.Nm)]).map Subtype.val:=by rw[gU];rfl
 have x0:=c6.cell 0;have x1:=c6.cell 1;have y2:=c7.cell 2;have z0:=I.body.cell 0;have z1:=I.body.cell 1;have z4:=I.out.cell 0;have zn:=Y.cell 0;have fn:=Y.free 0;simp only[gc] at x0 x1 y2 z0 z1 z4 zn;by_cases hd:x.dst= -1;·(
 have j:=J4 I Y hs a7;have td:(x.dst== -1)=true:=by rw[cX];exact hd
 clear I Y hs a7;gi_wp2;refine⟨KeepsFrom.refl _ _,fun h=>h,?_,?_,j.2.2.1,h4,h5⟩
 ·rw[←j.2.2.2];have e:(fun v:Nat=>gV (pre.map Subtype.val++[((i,k,x):gQ)]) v)=fun v:Nat=>gV (pre.map Subtype.val) v:=by funext v;exact BI (by show x.dst≠_;omega)
  rw[e];exact j.1
 rw[←j.2.2.2,gU,xT];have e:og ([((i,k,x):gQ)].map fun t=>t.2.2)=0:=by rw[List.map_cons,List.map_nil,xU,am hd]
 rw[e,cJ];exact j.2.1)
 obtain⟨h1,h2⟩:=(HG.1.dst row (mG C) x (mG hx)).resolve_left hd;rw[HG.2.2.1] at h1;rw[HG.2.2.2.1] at h2;obtain⟨v,hv⟩:∃v:Nat,x.dst=v:=⟨x.dst.toNat,by omega⟩;rw[hv] at y2 h1 h2;have c8:=I.tab.cell (v*2);have c9:=I.tab.cell (v*2+1);have k0:=I.tab.free (v*2);have k1:=I.tab.free (v*2+1);rw[cx (by omega),GI] at c8;rw[cx (by omega),GJ] at c9;have a8:=I.set (g:=fun u:Nat=>gV (pre.map Subtype.val++[((i,k,x):gQ)]) u) (v:=v) (fun u hu=>BI (by show x.dst≠_;omega)) (x:=i) (y:=k);have b7:og ((pre.map Subtype.val++[((i,k,x):gQ)]).map fun t=>t.2.2)=og ((pre.map Subtype.val).map fun t=>t.2.2)+1:=by rw[gU,xT,List.map_cons,List.map_nil,xU,ah hd]
 obtain⟨m,hm⟩:=eR (og ((pre.map Subtype.val).map fun t=>t.2.2));rw[hm] at zn Y b7;have k2:m≤5000:=by(
 have e1:m≤((pre.map Subtype.val).map fun t=>t.2.2).length:=by rw[←hm];exact List.length_filter_le _ _
 have e2:=congrArg List.length (vg b.Nm);rw[aZ] at e2;rw[aZ,aZ] at e1;omega)
 have k5:v<nv:=by omega
 rcases rD (pre.map Subtype.val) (v:Int) with ⟨e,e7⟩|⟨u,hu,he,e⟩;·(
 have b3:=a8 (by show gV _ _=_;rw[←hv];exact Fs fun u hu=>by rw[show((i,k,x):gQ).2.2.dst=(v:Int) from hv];exact e7 u hu);have j:=J5 b3 Y hs a7 b7;rw[e] at c8 c9;have td:((v:Int)== -1)=false:=by rw[bE];omega
 have te:decide ((v:Int)<(np:Int))=false:=by simp;omega
 have i1:decide (v<np)=false:=by simp;omega
 have tf:decide ((v:Int)≥(nv:Int))=false:=by simp;omega
 have i6:decide (nv≤v)=false:=by simp;omega
 clear I Y hs a7 a8 b3 hv hd e7 e h1 h2 b7 hm;gi_wp2;refine⟨(((KeepsOthers.setCell _ _ _).trans (KeepsOthers.setCell _ _ _)).trans (KeepsOthers.setCell _ _ _)).from _,fun h=>h.kept (((aa.refl _ W).setCell (p:=⟨w.heap.size+1+1+1,_,none⟩) (.inl (by simp;omega)) _).setCell (p:=⟨w.heap.size+1+1+1,_,none⟩) (.inl (by simp;omega)) _|>.setCell (p:=⟨wr.heap.size,0,none⟩) (.inl (by simp;omega)) _),?_,?_,by simpa using j.2.2.1,h4,h5⟩
 ·rw[←j.2.2.2.1]
  exact j.1.keep (kR.setCell (p:=⟨wr.heap.size,0,none⟩) (.inl (by simp;omega)) _)
 rw[←j.2.2.2.1,j.2.2.2.2];have:=((j.2.1.far (p:=⟨w.heap.size+1+1+1,v*2,none⟩) (by simp;omega) (.int .i64 i)).far (p:=⟨w.heap.size+1+1+1,v*2+1,none⟩) (by simp;omega) (.int .i64 k)).set 0 (.int .i64 (np+(m+1):Nat));simpa [Int.add_assoc] using this)
 have j:=J2 hs (show rS b.Nm (pre++[(⟨(i,k,x),row,C,hx⟩:EJ b.Nm)]) from⟨pre,_,rfl,hd,by show 0≤(gV _ x.dst).1;rw[hv,e];simp⟩);rw[e] at c8 c9;have td:((v:Int)== -1)=false:=by rw[bE];omega
 have te:decide ((v:Int)<(np:Int))=false:=by simp;omega
 have i1:decide (v<np)=false:=by simp;omega
 have tf:decide ((v:Int)≥(nv:Int))=false:=by simp;omega
 have i6:decide (nv≤v)=false:=by simp;omega
 have tu:decide ((u.1:Int)≥0)=true:=by simp
 have r1:=I.r1.cell 0;have r2:=I.r2.cell 0;have i7:=I.r1.free 0;have j0:=I.r2.free 0;simp only[gc] at r1 r2;clear I Y hs a7 a8 hv hd hu he e h1 h2 b7 hm;gi_wp2;exact⟨((KeepsOthers.setCell _ _ _).trans (KeepsOthers.setCell _ _ _)).from _,rfl,j.2⟩)
 case done=>(
 rintro D xs W I hS ⟨J,Y,hs,h4,h5⟩ hK;have e8:(xs.map Subtype.val).map (fun t=>t.2.2)=b.Nm.flatten:=by rw[hS];exact vg _
 rw[e8] at Y;rw[show np+og b.Nm.flatten=nv by have:=HG.2.2.2.2;have:=HG.2.2.1;have:=HG.2.2.2.1;omega] at Y;have zn:=Y.cell 0;have z1:=J.body.cell 1;have z4:=J.out.cell 0;have r1:=J.r1.cell 0;have r2:=J.r2.cell 0;have i7:=J.r1.free 0;have j0:=J.r2.free 0;simp only[gc] at zn z1 z4 r1 r2;have j:=J3 J hS hK;clear J hS hK Y;go_wp2;have d7:=((KeepsOthers.setCell W ⟨w.heap.size+1,0,none⟩ (.slice (some ⟨w.heap.size+1+1+1,0,none⟩) nv nv)).trans (KeepsOthers.setCell _ ⟨w.heap.size+1+1,0,none⟩ (.bool true))).same D _ j.2.2 rfl;refine⟨by simp,.inl ⟨_,_,rfl,run_takeDeferred d7,?_⟩⟩;have q1:=((j.1.r1.set 0 (.slice (some ⟨w.heap.size+1+1+1,0,none⟩) nv nv)).far (p:=⟨w.heap.size+1+1,0,none⟩) (by simp) (.bool true)).cell 0;have q2:=((j.1.r2.far (p:=⟨w.heap.size+1,0,none⟩) (by simp) (.slice (some ⟨w.heap.size+1+1+1,0,none⟩) nv nv)).set 0 (.bool true)).cell 0;have q3:=cell_kept q1 (grownBy_putObj' _ D (.deferred none)) (fun r e=>by cases e;exact⟨_,d7,rfl⟩);have q4:=cell_kept q2 (grownBy_putObj' _ D (.deferred none)) (fun r e=>by cases e;exact⟨_,d7,rfl⟩)
 have k3:aa (fun g=>g≠w.heap.size+1∧g≠w.heap.size+1+1∧g<wl.heap.size) W (((W.setCell ⟨w.heap.size+1,0,none⟩ (.slice (some ⟨w.heap.size+1+1+1,0,none⟩) nv nv)).setCell ⟨w.heap.size+1+1,0,none⟩ (.bool true)).putObj D (.deferred none)):=
  aa.put (((aa.refl _ W).setCell (p:=⟨w.heap.size+1,0,none⟩) (.inl (by simp)) _).setCell (p:=⟨w.heap.size+1+1,0,none⟩) (.inl (by simp)) _) (.inl (by simp;omega)) _
 have k4:=aq (j.1.kept.all.trans (k3.mono fun b (hb:b<w.heap.size)=>by refine⟨?_,?_,?_⟩<;>omega));have tb:=j.1.tab.kept k3 ⟨by omega,by omega,by omega⟩;rw[j.2.1] at tb;refine⟨.tuple #[.slice (some ⟨w.heap.size+1+1+1,0,none⟩) nv nv,.bool true],?_,_,rfl,k4,?_⟩
 ·simp at q3 q4
  simp[results,Tryz.f19,go_sem,q3,q4]
 exact Ft HG.1 HG.2.2.2.1 d8 h3 tb (by omega))
 case stop=>rintro D c pre W I hS ⟨_,h⟩ hK;exact(wB HG.1 h hS).elim
 exact HL.1.congr fun v hv=>am hv
end
theorem xR {b:av}(o:jt b){v:Nat}(J:(v:Int)<b.vars):((v:Int)<b.params∧gV (aX b.Nm).flatten v=(-1,-1))∨(¬(v:Int)<b.params∧∃i k:Nat,mv b v i k∧gV (aX b.Nm).flatten v=((i:Int),(k:Int))):=by
 rcases rD (aX b.Nm).flatten (v:Int) with ⟨e,R⟩|⟨u,hu,he,e⟩
 ·by_cases Y:(v:Int)<b.params;·exact .inl ⟨Y,e⟩
  obtain⟨i,k,j⟩:=o.all v (by omega) J;obtain⟨x,hx,j⟩:=qn.1 j;exact absurd j (R _ hx)
 obtain⟨l,C,I⟩:=nQ.1 hu;have j:=o.dst l (mG C) u.2.2 (mG I);refine .inr ⟨by omega,u.1,u.2.1,⟨l,u.2.2,C,I,he⟩,e⟩
def rR (S:Nat→Prop)(w:World)(kb:Nat)(b:av)(t:Nat→Int):Prop:=∃bv A3 c3 A4 c4 A5 c5,al w kb 88 #[.int .i64 b.params,.int .i64 b.vars,bv,.slice A3 b.Nm.length c3,.slice A4 b.Nm.length c4,.slice A5 b.vars.toNat c5]∧
 bu S w (.slice A3 b.Nm.length c3) (ls b.Nm.length t)∧Rows S w (.slice A4 b.Nm.length c4) (fF (aM b))∧dJ S w (.slice A5 b.vars.toNat c5) (gB b)
theorem rR.keep {S R:Nat→Prop}{w C:World}{j:Nat}{b:av}{t:Nat→Int}(h:rR S w j b t)(k:aa R w C)(o:∀g,S g→R g)(I:R j):rR S C j b t:=by obtain⟨J,Y,c3,A4,c4,A5,c5,h1,h2,h3,h4⟩:=h;exact⟨J,Y,c3,A4,c4,A5,c5,h1.kept k I,ae.keep (k.mono o) h2,aE.keep (k.mono o) h3,cr.keep (k.mono o) h4⟩
theorem uL {b:av}{v:Nat}(j:(v:Int)<b.vars):(gB b)[v]? =some (gV (aX b.Nm).flatten v):=by unfold gB;rw[cy,nZ (by omega)];rfl
theorem vO (S:Nat→Prop)(kb:Nat)(b:av)(pl:Nat→Nat)(t:Nat→Int)(v blk:Nat)(w:World)(hC:rR S w kb b t)(hG:jt b)(T:mg (aM b) t pl)(hv:(v:Int)<b.vars)(C:blk<b.Nm.length):
 Calls prog 66 #[.pointer (some ⟨kb,0,none⟩),.int .i64 v,.int .i64 blk] w fun e w'=>e=.returned (.bool (pB (ju b v blk)))∧aa All w w':=by
 have a8:=cB b;have I:=fun wn (C:aa All w wn)=>hC.keep C (fun _ _=>trivial) trivial;obtain⟨bv,A3,c3,A4,c4,A5,c5,h1,h2,h3,h4⟩:=hC;obtain⟨db,dO,cs,rfl,_,_,a1,rfl,_⟩:=bh h4 (uL hv);have J:=xR hG hv;obtain⟨⟨d0,d1⟩,R⟩:∃d,gV (aX b.Nm).flatten v=d:=⟨_,rfl⟩;rw[R] at J a1;simp only[Prod.mk.injEq] at J;have q0:=a1 0 _ rfl;have q1:=a1 1 _ rfl;rw[cJ] at q0;have k3:=h1.cell 3;have k5:=h1.cell 5;simp only[gc] at k3 k5;obtain⟨nv,b0⟩:∃nv:Nat,b.vars=nv:=⟨b.vars.toNat,by omega⟩;have b2:v<nv:=by omega
 rw[b0,fD] at k5;have b1:=C;obtain⟨W0,a6⟩:=eQ (w.alloc (.cells #[.int .i64 d0,.int .i64 d1] 74));have a7:aa All w W0:=by rw[a6];exact kR.alloc _
 have bD:al W0 w.heap.size 74 #[.int .i64 d0,.int .i64 d1]:=by rw[a6];exact ac rfl
 have HF:=oH (show∀wn,aa All W0 wn→wn.cell? ⟨w.heap.size,0,none⟩=some (.int .i64 d0)∧wn.cell? ⟨w.heap.size,1,none⟩=some (.int .i64 d1)∧wn.cell? ⟨kb,3,none⟩=some (.slice A3 b.Nm.length c3) from fun wn C=>⟨(bD.kept C trivial).cell 0,(bD.kept C trivial).cell 1,(h1.kept (a7.trans C) trivial).cell 3⟩);have HG:=J3 hG T h2;have HW:=J4 a6 a7 R I;clear hG T h1 h2 h3 h4 a1 a6 a7 bD R I a8;go_enter func66,ntmps66;go_upto_region 2 with fail;rw[←HW.1];clear k3 k5 q0 q1;rcases J with ⟨hp,rfl,rfl⟩|⟨hp,i,j,hd,rfl,rfl⟩
 ·have HY:=oH (show ju b v blk from .inl hp);clear hp;refine R0 14 W0 (fun _=>none) ?_;refine O0 ?_;refine O4 HF.out ?_;iterate 2 refine O0 ?_
  iterate 8 refine O2 ?_
  iterate 2 refine O0 ?_
  refine aD fun wt Y hF=>?_;have HT:=oH Y;clear Y hF;simp only[dK];go_wp2_with fail;go_ret;exact⟨by rw[aw HY.out]<;>rfl,HW.2.1.trans HT.out⟩
 have he:=mU (uS (blk:=blk) HG.1 (by omega) hp hd);obtain⟨q,hq⟩:=eR (pB (ju b v blk));have o:=fun wn (C:aa All W0 wn)=>ur S (aM b) (.slice A3 b.Nm.length c3) t pl i blk wn (by rw[cB];exact ae.keep (HW.2.1.trans C).all HG.2.2) HG.2.1 (by rw[cB];have:=HG.1.blk.2;omega) (by rw[cB];exact b1);rw[←he,hq] at o;have HC:=J2 o hq;clear he o hq hd hp;refine R0 14 W0 (fun i=>if i=11 then some (·=.bool q) else none) ?_;refine O0 ?_;refine O4 HF.out ?_;iterate 5 refine O0 ?_
 refine O4 HF.out ?_;refine O0 ?_;refine O4 HF.out ?_;refine O0 ?_;refine O5 (v:=.bool q) (fun wn C hp=>⟨_,_,by(skip;go_simp<;>with_reducible rfl),((HC.1 wn C).mono fun e w' h=>⟨h.1,C.trans h.2,fun _ h=>by cases h⟩)⟩) ?_;iterate 2 refine O0 ?_
 refine aD fun wt Y hF=>?_;have HT:=oH Y;clear Y hF;simp only[dK];go_wp2_with fail;go_ret;exact⟨by rw[HC.2]<;>rfl,HW.2.1.trans HT.out⟩
theorem AZ (S:Nat→Prop)(kb:Nat)(b:av)(pl:Nat→Nat)(t:Nat→Int)(v blk n:Nat)(w:World)(hC:rR S w kb b t)(hG:jt b)(T:mg (aM b) t pl)(hv:(v:Int)<b.vars)(hk:blk<b.Nm.length):
 Calls prog 36 #[.pointer (some ⟨kb,0,none⟩),.int .i64 v,.agg #[.int .i64 blk,.int .i64 n]] w fun e w'=>e=.returned (.bool (pB (ky b v blk n)))∧aa All w w':=by
 have b1:=cB b;have o:=fun wn (hk:aa All w wn)=>hC.keep hk (fun _ _=>trivial) trivial;obtain⟨bv,A3,c3,A4,c4,A5,c5,h1,h2,h3,h4⟩:=hC;obtain⟨db,dO,cs,rfl,_,_,a6,rfl,_⟩:=bh h4 (uL hv);have C:=xR hG hv;obtain⟨⟨d0,d1⟩,I⟩:∃d,gV (aX b.Nm).flatten v=d:=⟨_,rfl⟩;rw[I] at C a6;simp only[Prod.mk.injEq] at C;have q0:=a6 0 _ rfl;have q1:=a6 1 _ rfl;rw[cJ] at q0;have k3:=h1.cell 3;have k5:=h1.cell 5;simp only[gc] at k3 k5;obtain⟨nv,b2⟩:∃nv:Nat,b.vars=nv:=⟨b.vars.toNat,by omega⟩;have b3:v<nv:=by omega
 rw[b2,fD] at k5;have b4:=hk;have kw:aa All w (w.alloc (.cells #[.int .i64 blk,.int .i64 n] 74)):=kR.alloc _;have q0:=kw.cell trivial q0;have q1:=kw.cell trivial q1;have k5:=kw.cell trivial k5;obtain⟨W0,J⟩:=eQ ((w.alloc (.cells #[.int .i64 blk,.int .i64 n] 74)).alloc (.cells #[.int .i64 d0,.int .i64 d1] 74));have b0:aa All w W0:=by rw[J];exact(kR.alloc _).alloc _
 have bA:al W0 w.heap.size 74 #[.int .i64 blk,.int .i64 n]:=by rw[J];exact(ac rfl).alloc _
 have bD:al W0 (w.heap.size+1) 74 #[.int .i64 d0,.int .i64 d1]:=by rw[J];exact ac (by simp)
 have a0:=bA.cell 0;have a1:=bA.cell 1;have r0:=bD.cell 0;have r1:=bD.cell 1;simp only[gc] at a0 a1 r0 r1;have R:=vO S kb b pl t v blk W0 (o W0 b0) hG T (by omega) hk;have HG:=J3 hG R T;have HW:=J4 J b0 I o;clear hG T h1 h2 h3 h4 a6 J b0 bD bA I o b1 R;go_enter func36,ntmps36;go_upto_region 2 with fail;rw[←HW.1];clear k3 k5 q0 q1;rcases C with ⟨hp,rfl,rfl⟩|⟨hp,i,j,hd,rfl,rfl⟩
 ·have HY:=J2 (show ju b v blk from .inl hp) (show ky b v blk n from .inl hp);clear hp;have te:((-1:Int)==(blk:Int))=false:=by rw[bE];omega
  have hc:=HG.2.1;rw[aw HY.1] at hc;have HC:=oH hc;clear hc;go_wp2_with fail;refine HC.out.mono ?_;rintro e w2 ⟨rfl,Y⟩;have HK:=oH Y;clear Y;go_wp2_with fail;go_ret;exact⟨by rw[aw HY.2]<;>rfl,HW.2.1.trans HK.out⟩
 have ht:=Bc (n:=n) (blk:=blk) HG.1 (by omega) hp hd;by_cases a7:i=blk
 ·have te:((i:Int)==(blk:Int))=true:=by rw[cX];omega
  rw[am a7] at ht;have HT:=oH (mU ht);clear ht a7 hp hd;go_wp2_with fail;go_ret;refine⟨?_,HW.2.1⟩;rw[HT.out];by_cases a8:j<n;·rw[aw a8];simp[a8]
  rw[az a8];simp[a8]
 have te:((i:Int)==(blk:Int))=false:=by rw[bE];omega
 rw[ah a7] at ht;have he:=uS (blk:=blk) HG.1 (by omega) hp hd;obtain⟨q,hq⟩:=eR (pB (ju b v blk));have hc:=HG.2.1;rw[hq] at hc;have HC:=J2 hc ((mU (ht.trans he.symm)).trans hq);clear ht he a7 hp hd hc hq;go_wp2_with fail;refine HC.1.mono ?_;rintro e w2 ⟨rfl,Y⟩;have HK:=oH Y;clear Y;go_wp2_with fail;go_ret;exact⟨by rw[HC.2]<;>rfl,HW.2.1.trans HK.out⟩
end Go.Proofs.YtccbbkopmlnkpaaGreatDoor
