/- Part 17 of the proof of CallsShallow (its last part says what is proved). No condition. -/
import Derived.Laws.CopyOwn
import Derived.Test.YtncdbjponknakaaGreatDoorK15
namespace Go.Proofs.YtncdbjponknakaaGreatDoor
set_option maxRecDepth 100000
set_option maxHeartbeats 8000000
open Go.RowKit Go.Proofs.Tryz
section
section
variable {ll:List (List Int)}
def lu (f:Nat→Int)(i:Nat)(v:Int):Nat→Int:=fun k=>if k=i then v else f k
theorem fM (f:Nat→Int)(i:Nat)(v:Int):lu f i v i=v:=by simp[lu]
theorem jS {f:Nat→Int}{i k:Nat}{v:Int}(h:k≠i):lu f i v k=f k:=by simp[lu,h]
theorem jJ.not_bad {s:Nat}{done:Nat→Prop}{out:Nat→Int}(h:jJ ll s done out){i:Nat}(hi:i<ll.length)(l:0≤out i):¬mD ll s i:=fun j=>by have:=(h i hi).1 j;omega
theorem jJ.way {s:Nat}{done:Nat→Prop}{out:Nat→Int}(h:jJ ll s done out){i:Nat}(hi:i<ll.length)(l:1≤out i):rt ll s (out i).toNat i:=by
 rcases ((h i hi).2 (h.not_bad hi (by omega))).2.1 with j|j;·omega
 exact j
theorem jJ.bound {s:Nat}{done:Nat→Prop}{out:Nat→Int}(h:jJ ll s done out)(o:mN ll)(C:s<ll.length){i:Nat}(hi:i<ll.length): -1≤out i∧out i≤ll.length:=by
 by_cases l:mD ll s i;·have:=(h i hi).1 l;omega
 obtain⟨J,j,_⟩:=(h i hi).2 l;rcases j with j|j;·omega
 have:=tS o C j l;omega
theorem jJ.less {s:Nat}{done l:Nat→Prop}{out:Nat→Int}(h:jJ ll s done out)(J:∀p,l p→p<ll.length→done p):jJ ll s l out:=by
 intro j o;refine⟨(h j o).1,fun R=>?_⟩;obtain⟨Y,Z,h3,h4⟩:=(h j o).2 R;refine⟨Y,Z,h3,fun p hp e=>h4 p (J p hp ?_) e⟩;obtain⟨row,C,_⟩:=e;rcases Nat.lt_or_ge p ll.length with h|h;·exact h
 rw[jz h] at C;cases C
theorem jJ.max {s:Nat}{done:Nat→Prop}{out:Nat→Int}(h:jJ ll s done out){i k:Nat}(hi:i<ll.length)(Z:k<ll.length)(e:dH ll i k)(J:1≤out i)(R:0≤out k):
 jJ ll s done (lu out k (Max.max (out k) (out i+1))):=by
 intro j l;by_cases o:j=k
 ·subst o;rw[fM];have C:=h.not_bad l R;refine⟨fun x=>absurd x C,fun _=>?_⟩;obtain⟨g1,g2,g3,g4⟩:=(h j l).2 C;refine⟨by omega,?_,fun x=>by have:=g3 x;omega,fun p Y e m hm=>by have:=g4 p Y e m hm;omega⟩;by_cases hm:out j≤out i+1
  ·rw[Int.max_eq_right hm]
   right;have:=rt.step (h.way hi J) e;rwa [show(out i+1).toNat=(out i).toNat+1 by omega]
  rw[Int.max_eq_left (by omega)];exact g2
 rw[jS o];exact h j l
theorem jJ.node {s:Nat}{done:Nat→Prop}{out:Nat→Int}(h:jJ ll s done out){i:Nat}(full:¬mD ll s i→∀m,rt ll s m i→(m:Int)≤out i)(l:1≤out i→∀k,dH ll i k→¬mD ll s k→out i+1≤out k):
 jJ ll s (fun p=>done p∨p=i) out:=by
 intro j R;refine⟨(h j R).1,fun o=>?_⟩;obtain⟨Y,Z,h3,h4⟩:=(h j R).2 o;refine⟨Y,Z,h3,fun p C e m hm=>?_⟩;rcases C with C|rfl;·exact h4 p C e m hm
 have J:¬mD ll s p:=fun x=>o (x.on (.step .refl e));have:=full J m hm;have:=hm.pos;have:=l (by omega) j e o;omega
def nf (ll:List (List Int))(r:Nat)(p:Nat):Prop:=∃g∈(bC ll).reverse.take r,(p:Int)∈g
theorem Fw {s:Nat}{r:Nat}{G:List Int}(hG:(bC ll).reverse[r]? =some G){i:Nat}(hi:(i:Int)∈G)(hb:¬mD ll s i)(_:i<ll.length)(p:Nat)(hp:aQ ll s p)(e:dH ll p i):nf ll r p:=by
 have C:p<ll.length:=by
  obtain⟨row,hr,_⟩:=e;rcases Nat.lt_or_ge p ll.length with h|h;·exact h
  rw[jz h] at hr;cases hr
 obtain⟨Y,Z⟩:=lS.1 hG;have j:(bC ll).reverse=(bC ll).reverse.take r++G::(bC ll).reverse.drop (r+1):=by rw[←Z,←List.drop_eq_getElem_cons Y,List.take_append_drop]
 have l:bC ll=((bC ll).reverse.drop (r+1)).reverse++G::((bC ll).reverse.take r).reverse:=by have:=congrArg List.reverse j;rw[List.reverse_reverse] at this;rw[List.reverse_append,List.reverse_cons,jM] at this;exact this
 obtain⟨g',o,J⟩:=wR (ll.length+1) (fun _=>false) (Nat.lt_succ_of_le (qI _ _)) (fun x y _ h=>by cases h) (fun x y _ h=>by cases h) _ _ _ l i p hi C (.step .refl e);rcases fX.1 o with rfl|o
 ·have R:g'∈bC ll:=by rw[l];simp
  exact absurd (sf C hp e (yt _ _ _ R i p hi J)) fun x=>hb (x.on (.step .refl e))
 exact⟨g',List.mem_reverse.1 o,J⟩
theorem Fx {s:Nat}{out:Nat→Int}(h:jJ ll s (nf ll (bC ll).length) out):jJ ll s (fun _=>True) out:=by
 refine h.less fun p _ l=>?_;rcases me (ll.length+1) (fun _=>false) (Nat.lt_succ_of_le (qI _ _)) p l with h|⟨g,o,j⟩;·cases h
 exact⟨g,by rw[oF (by simp)];exact List.mem_reverse.2 o,j⟩
theorem CN {r:Nat}{G:List Int}(o:(bC ll).reverse[r]? =some G)(p:Nat):nf ll (r+1) p→nf ll r p∨(p:Int)∈G:=by
 rintro⟨g,j,l⟩;rw[cU,o] at j;rcases eD.1 j with j|j;·exact .inl ⟨g,j,l⟩
 rw[show g=G by simpa using j] at l;exact .inr l
theorem yu (h:1≤ll.length):1≤(bC ll).length:=by
 rcases me (ll.length+1) (fun _=>false) (Nat.lt_succ_of_le (qI _ _)) 0 (by omega) with h|⟨g,j,_⟩;·cases h
 exact List.length_pos_of_mem j
noncomputable def kS (ll:List (List Int))(s i:Nat):Bool:=ay ll s i&&(ll[i]?.getD []).any (fun x=>ay ll x.toNat i)
theorem uO {s i:Nat}(J:∀x∈ll[i]?.getD [],∃n:Nat,x=n∧n<ll.length):kS ll s i=true↔aQ ll s i∧LU ll i:=by
 unfold kS;rw[gE,aY,mW];refine and_congr_right fun _=>⟨?_,?_⟩
 ·rintro⟨x,l,C⟩;obtain⟨n,rfl,R⟩:=J x l;refine⟨n,?_,aY.1 C⟩;cases o:ll[i]? with
  |none=>rw[o] at l;simp at l
  |some row=>rw[o] at l;exact⟨row,o,l⟩
 rintro⟨j,⟨row,o,Y⟩,C⟩;exact⟨j,by rw[o];exact Y,by simpa using aY.2 C⟩
noncomputable def pq (ll:List (List Int))(s i k:Nat):Bool:=(List.range k).any fun a=>kS ll s a&&ay ll a i
theorem qo (s i k:Nat):pq ll s i (k+1)=(pq ll s i k||(kS ll s k&&ay ll k i)):=by simp[pq,List.range_succ]
theorem se {s i:Nat}(R:∀j:Nat,∀x∈ll[j]?.getD [],∃n:Nat,x=n∧n<ll.length):pq ll s i ll.length=true↔mD ll s i:=by
 unfold pq mD;simp only[mW,fg,gE];constructor
 ·rintro⟨k,l,Y,o⟩
  obtain⟨C,J⟩:=(uO (R k)).1 Y;exact⟨k,l,C,J,aY.1 o⟩
 rintro⟨k,l,C,J,o⟩;exact⟨k,l,(uO (R k)).2 ⟨C,J⟩,aY.2 o⟩
noncomputable def kL (ll:List (List Int))(s i:Nat):Int:=if pq ll s i ll.length then-1 else 0
theorem zZ {s:Nat}(R:∀j:Nat,∀x∈ll[j]?.getD [],∃n:Nat,x=n∧n<ll.length):
 jJ ll s (nf ll 0) (if kL ll s s=0 then lu (kL ll s) s 1 else kL ll s):=by
 intro j hj;have o:=se (s:=s) (i:=j) R;have Z:=se (s:=s) (i:=s) R;by_cases C:mD ll s j
 ·have e:kL ll s j= -1:=by unfold kL;rw[ap (o.2 C)]
  refine⟨fun _=>?_,fun h=>absurd C h⟩;split
  ·rename_i Y
   rw[jS];exact e;rintro rfl;rw[e] at Y;cases Y
  exact e
 have e:kL ll s j=0:=by unfold kL;rw[ae fun h=>C (o.1 h)]
 refine⟨fun h=>absurd h C,fun _=>?_⟩;by_cases l:j=s
 ·subst l
  rw[ap e,fM];exact⟨by decide,.inr .one,fun _=>by decide,fun p ⟨g,J,_⟩=>by simp at J⟩
 have e2:(if kL ll s s=0 then lu (kL ll s) s 1 else kL ll s) j=0:=by
  split;·rw[jS l];exact e
  exact e
 rw[e2];exact⟨by decide,.inl rfl,fun h=>absurd h l,fun p ⟨g,J,_⟩=>by simp at J⟩
end
end
def aN (N:Nat)(f:Nat→Int):Array Value:=dM N fun i=>.int .i64 (f i)
theorem bI {N:Nat}{f:Nat→Int}{i:Nat}(h:i<N):(aN N f)[i]? =some (.int .i64 (f i)):=cq h
theorem kU (N:Nat)(f:Nat→Int):(aN N f).size=N:=ew _ _
theorem ex {N:Nat}{f g:Nat→Int}(h:∀i,i<N→f i=g i):aN N f=aN N g:=by
 apply Array.ext_getElem?;intro j;by_cases l:j<N;·rw[bI l,bI l,h j l]
 rw[jK (by rw[kU];omega),jK (by rw[kU];omega)]
theorem fZ {N:Nat}{f:Nat→Int}{i:Nat}{v:Int}:(aN N f).setIfInBounds i (.int .i64 v)=aN N (lu f i v):=by unfold aN;rw[jo];congr 1;funext k;unfold qd lu;split<;>rfl
theorem wX (n:Nat)(R:n≤1048576)(w:World):(Instr.makeSlice 45 (.int .i64 n) (.int .i64 n)).run prog w=.ok (.slice (some ⟨w.heap.size,0,none⟩) n n) (w.alloc (.cells (aN n fun _=>0) 3)):=by
 obtain⟨i3,hi,o,C,J⟩:=info_parts yw;rw[run_make (P:=prog) w 45 3 i3 (.int .i64 0) underlying45 hi o .i64 .i64 n n (by omega) (by omega) (by rw[J];omega) (by omega)];have e:madeCells (Value.int .i64 0).cells ((n:Int).toNat*i3.size)=aN n fun _=>0:=by(
 rw[C,dP,Nat.mul_one];apply Array.ext_getElem?;intro j;by_cases l:j<n;·rw[bI l];simp[madeCells,l,Value.cells,Nat.mod_one]
 rw[jK (by rw[size_madeCells];omega),jK (by rw[kU];omega)])
 rw[e,dP]
theorem sL {S:Nat→Prop}{w:World}{g n:Nat}{t:TypeId}{f:Nat→Int}(h:al w g t (aN n f))(C:S g)(J:n≤1048576)(hw:∀i,i<n→(Lit.int .i64 (f i)).wf=true):
 aK S w (.slice (some ⟨g,0,none⟩) n n) ((List.range n).map f):=by
 have o:((List.range n).map f).length=n:=by simp
 have:=Sl.of_blk (bw:=8) (E:=rQ) (S:=S) (l:=(List.range n).map f) (cap:=n) h C (by simp) (by unfold maxLen;omega) (by rw[o];omega) (fun i x j=>by
  have hi:i<n:=by(
 rcases Nat.lt_or_ge i n with h|h;·exact h
 rw[jz (by simp;omega)] at j;cases j)
  rw[cL,ln hi] at j;cases j;exact⟨_,bI hi,rfl,hw i hi⟩)
 rwa [o] at this
theorem GU {B:Nat}{w:World}{u:Value}{L:List (List Int)}(h:eN B w u L)(h1:1≤L.length)(h2:L.length≤256):
 Calls prog 24 #[u] w fun e w'=>e=.returned (.tuple #[])∧aa (fun b=>b<B) w w'∧Rows (fun b=>B≤b) w' u L.reverse:=by
 obtain⟨vs,j,R⟩:=h;obtain⟨a7,j⟩:=j;rcases j with ⟨_,hn⟩|⟨g,cap,cur,rfl,C,hh,J,hm,a8,Y⟩;·omega
 have o:∀m,m<L.length→cur[m]? =vs[m]?:=fun m hm=>by rw[←Y,rY (by omega),Array.getElem?_toList]
 have a6:L.length≤cur.size:=by have:=congrArg List.length Y;rw[fN,Array.length_toList] at this;omega
 refine(ze g L.length cap 45 cur w hh a6 h1 h2 J fun m hm=>?_).mono ?_
 ·obtain⟨c,J,a,cp,rfl,_⟩:=R m _ (lG hm)
  exact⟨_,_,_,by rw[o m hm,J]⟩
 rintro e w' ⟨rfl,hk,b0,Z,a1⟩;refine⟨rfl,hk.mono fun b C=>by omega,?_⟩;have hl:L.reverse.length=L.length:=List.length_reverse;have:=Sl.of_blk (bw:=24) (E:=aK) (S:=fun b=>B≤b) (l:=L.reverse) (cap:=cap) Z C (by rw[hl];exact J) hm (by rw[hl];omega) (fun i x hx=>by
  have hi:i<L.length:=by(
 rcases Nat.lt_or_ge i L.length with h|h;·exact h
 rw[jz (by rw[hl];omega)] at hx;cases hx)
  rw[List.getElem?_reverse hi] at hx;obtain⟨c,J,hE⟩:=R _ x hx;refine⟨c,by rw[a1 i hi,o _ (by omega)];exact J,?_⟩;exact ah.wide (fun b C=>C.1) (ah.keep (hk.mono fun b C=>fun e=>C.2.2 (by rw[e];rfl)) hE))
 rwa [hl] at this
noncomputable def nu (ll:List (List Int))(s i k j:Nat):Int:=if j<i then kL ll s j else if j=i then(if pq ll s i k then-1 else 0) else 0
theorem Lv (ll:List (List Int))(s j:Nat):nu ll s 0 0 j=0:=by unfold nu pq;simp
theorem DD (ll:List (List Int))(s i:Nat):nu ll s i ll.length=nu ll s (i+1) 0:=by
 funext j;unfold nu;by_cases l:j<i;·rw[ap l,ap (by omega)]
 rw[ae l];by_cases o:j=i;·subst o;rw[ap rfl,ap (Nat.lt_succ_self j)];rfl
 rw[ae o,ae (by omega)];simp[pq]
theorem JC {ll:List (List Int)}{s i k:Nat}(h:(kS ll s k&&ay ll k i)=false):nu ll s i (k+1)=nu ll s i k:=by funext j;unfold nu;rw[qo,h,Bool.or_false]
theorem Gz {ll:List (List Int)}{s i k:Nat}(h:(kS ll s k&&ay ll k i)=true):lu (nu ll s i k) i (-1)=nu ll s i (k+1):=by
 funext j;unfold lu nu;rw[qo,h,Bool.or_true];by_cases l:j=i;·subst l;simp
 simp[l]
theorem Gy {ll:List (List Int)}{s j:Nat}(h:j<ll.length):nu ll s ll.length 0 j=kL ll s j:=by unfold nu;rw[ap h]
theorem ON:(prog.info? 2).map (fun i=>(i.zero,i.size,i.bytes))=some (some (.int .i64 0),1,8):=by kernel_rfl
theorem Rg:(prog.info? 112).map (fun i=>(i.zero,i.size,i.bytes))=some (some (.pointer none),1,8):=by kernel_rfl
theorem PB (n:Nat)(R:n≤1048576)(w:World):(Instr.makeSlice 35 (.int .i64 n) (.int .i64 n)).run prog w=.ok (.slice (some ⟨w.heap.size,0,none⟩) n n) (w.alloc (.cells (Array.replicate n (.int .i64 0)) 2)):=by
 obtain⟨i3,hi,l,o,C⟩:=info_parts ON;rw[run_make (P:=prog) w 35 2 i3 (.int .i64 0) underlying35 hi l .i64 .i64 n n (by omega) (by omega) (by rw[C];omega) (by omega)];have e:madeCells (Value.int .i64 0).cells ((n:Int).toNat*i3.size)=Array.replicate n (.int .i64 0):=by(
 rw[o,dP,Nat.mul_one];apply Array.ext_getElem?;intro j;by_cases J:j<n;·simp[madeCells,J,Value.cells,Nat.mod_one]
 rw[jK (by rw[size_madeCells];omega),jK (by simp;omega)])
 rw[e,dP]
def OH (N:Nat)(w:World)(v:Value)(m:Nat):Prop:=∃xs:List Int,xs.length=m∧w.ownsRow N 2 1 v m (xs.map (Value.int .i64))∧∀x∈xs,aV x
theorem NZ {w:World}{ops:Array Oper}{rest:List Oper}{o:Oper}{a:Act}{Q:Exit→Act→World→Prop}(J:o.guard=none)(d s:Operand)(ho:o.op=.call {callee:=.builtin .copy,args:=#[d,s],argTypes:=#[35,35]})(N N' g n m:Nat)(v:Value)
 (hd:a.eval d=.slice (some ⟨g,0,none⟩) n n) (Z:a.eval s=v) (hn:No N w (.slice (some ⟨g,0,none⟩) n n) n) (hv:OH N' w v m)
 (h:∀w' k,aa (fun b=>b≠g) w w'→No N w' (.slice (some ⟨g,0,none⟩) n n) n→wpList prog ops Q rest (a.put o.dst (.int .i64 k)) w'):wpList prog ops Q (o::rest) a w:=by
 have hi:(prog.info? 2).map (·.size)=some 1:=by obtain⟨i,hi,_,Z,_⟩:=info_parts ON;rw[hi];exact congrArg some Z
 obtain⟨xs,hm,l,hw⟩:=hv;obtain⟨sp,sc,rfl⟩:=aU l;by_cases h0:Nat.min m n=0;·exact wpList_copy_nothing J d s _ _ ho 2 underlying35 hi _ _ _ _ _ _ hd Z h0 (h w _ kR hn)
 obtain⟨q,hq⟩:=eQ (Nat.min m n);have a6:q≤m:=hq▸Nat.min_le_left m n;have a1:q≤n:=hq▸Nat.min_le_right m n;rcases l.2 with ⟨_,e⟩|⟨g2,cap,a7,e,_,a8,b0,_,_,b1⟩;·exfalso;subst e;exact h0 (Nat.zero_min n)
 injection e with e1 e2 e3;subst e1;subst e3;obtain⟨g',ys,e,hN,hb,hl,hy⟩:=hn;iterate 3 injection e with e
 subst e;have C:((xs.take (q)).map (Value.int .i64)).length=q:=by rw[ce,fN];omega
 have R:0+((xs.take (q)).map (Value.int .i64)).length≤((ys.map (Value.int .i64)).toArray).size:=by rw[C];simp;omega
 refine wpList_copy_own J d s _ _ ho 2 underlying35 hi g 0 n n ⟨g2,0,none⟩ m sc hd Z _ _ hb ((xs.take (q)).map (Value.int .i64)) (C.trans hq) ?_ R ?_ ?_
 ·intro j u hu;have hj:j<q:=by have:=(lS.1 hu).1;rw[C] at this;exact this
  have h4:(xs.map (Value.int .i64))[j]? =some u:=by rw[List.map_take,rY hj] at hu;exact hu
  have:=l.cells (g:=g2) rfl j u h4;exact this
 ·intro u hu
  obtain⟨x,_,rfl⟩:=dr.1 hu;rfl
 have e:((ys.map (Value.int .i64)).toArray.toList.take 0++((xs.take (q)).map (Value.int .i64)++(ys.map (Value.int .i64)).toArray.toList.drop (0+((xs.take (q)).map (Value.int .i64)).length))).toArray=((xs.take (q)++ys.drop (q)).map (Value.int .i64)).toArray:=by rw[C,cN,List.take_zero,mF,ic,List.map_drop]
 rw[e];refine h _ _ ⟨rfl,rfl,by simp[World.setRow],fun k _ hk=>setRow_other w g k _ (fun e=>hk e)⟩ ⟨g,_,rfl,hN,setRow_heap w g _ _ _ _ hb,?_,fun x Y=>?_⟩;·rw[iQ,fN,List.length_drop];omega
 rcases eD.1 Y with Y|Y;·exact hw x (List.mem_of_mem_take Y)
 exact hy x (List.mem_of_mem_drop Y)
theorem OD (M:sm)(w:World)(d8:Value)(l:List Fr)(n e fn N' m:Nat)(b:aw)(av:Value)(hM:iU M)(Y:Np M w d8 l n e)(hb:M.c.Nf[fn]? =some b)(hv:0≤b.vars∧b.vars≤100000)(ha:OH N' w av m)(e3:(l.length:Int)+1≤M.p.Nc)(e4:M.p.Nc≤64):
 Calls prog 17 #[.pointer (some ⟨M.mb,0,none⟩),.int .i64 (fn:Nat),av] w fun en w'=>en=.returned (.tuple #[])∧∃b8 g,Np M w' b8 (⟨g,fn,0,0⟩::l) n e:=by
 obtain⟨fA,fc,rfl⟩:=aU Y.frames.row;obtain⟨iP,b9,c0,c1,c2⟩:=info_parts Rg;have IP:=J4 b9 c0 c1 c2;clear b9 c0 c1 c2;obtain⟨o,b1⟩:∃o:Nat,b.vars=o:=⟨b.vars.toNat,by omega⟩;have e5:o≤100000:=by omega
 have d9:M.N≤w.heap.size:=fR hM.lo Y.core.kept.size;have a6:=bV.keep Y.core.kept hM.bods;obtain⟨A,c,Z,_⟩:=id a6;rw[Z] at a6;obtain⟨fa,fo,cs,rfl,_,_,c3,u,rfl,_⟩:=aZ a6 hb;have k0:=c3 1 _ rfl;rw[b1] at k0;obtain⟨nf,b2⟩:=eQ M.c.Nf.length;have e6:fn<nf:=by rw[b2];exact(lS.1 hb).1
 have hm:=Y.core.mach;rw[Z,←b2] at hm;have k1:=hm.cell 2;simp only[gc] at k1;have e0:=PB o (by omega);obtain⟨W2,a1⟩:=eQ ((w.alloc (.cells (Array.replicate o (.int .i64 0)) 2)).alloc (.cells #[.int .i64 (fn:Nat),.int .i64 0,.int .i64 0,.slice (some ⟨w.heap.size,0,none⟩) o o] 114));have b3:aa All w W2:=by rw[a1];exact(kR.alloc _).alloc _
 have c4:No M.N W2 (.slice (some ⟨w.heap.size,0,none⟩) o o) o:=by rw[a1];exact(No.made _ _ _ d9).kept (kR.alloc _)
 have b4:al W2 (w.heap.size+1) 114 #[.int .i64 (fn:Nat),.int .i64 0,.int .i64 0,.slice (some ⟨w.heap.size,0,none⟩) o o]:=by rw[a1];exact ac (by simp)
 have c5:OH N' W2 av m:=by obtain⟨xs,h1,h2,h3⟩:=ha;exact⟨xs,h1,be h2 b3 fun _ _=>trivial,h3⟩
 have y3:=b4.cell 3;simp only[gc] at y3;have HW:=J8 a1 b3 c4 b4 c5 Y hb b1;clear a1 b3 c4 b4 c5 Y hM hm a6 Z c3 hb b1 b2 ha;go_enter func17,ntmps17;go_upto_region 1 with fail;rw[←HW.1];clear k0 k1 e0
 go_upto_region 2 with (refine NZ rfl (.tmp 23) (.tmp 24) rfl M.N N' w.heap.size o m av rfl rfl HW.2.2.1 HW.2.2.2.2.1 ?_
                        intro w3 kk c6 c7;have H3:=J2 c6 c7;clear c6 c7)
 have R:aa All w w3:=am ((HW.2.1.all (S:=fun b=>b<w.heap.size)).trans (H3.1.mono fun b hb=>by show b≠_;omega));have a7:Np M w3 (.slice fA l.length fc) l n e:=HW.2.2.2.2.2.1.turn (.of_kept R);have e2:=R.size;have e1:w.heap.size+1<w3.heap.size:=Nat.lt_of_lt_of_le HW.2.2.2.1.lt H3.1.size;have z7:=a7.core.mach.cell 7;simp only[gc] at z7;have C:(w3.alloc (.cells #[.pointer (some ⟨w.heap.size+1,0,none⟩)] 112)).ownsRow M.N 112 1 (.slice fA l.length fc) l.length (l.reverse.map fun f=>Value.pointer (some ⟨f.g,0,none⟩)):=be a7.frames.row ((aa.refl All w3).alloc _) fun _ _=>trivial;have H4:=J2 R a7;clear y3 R a7;go_wp2_with (
  at_builtin;refine aR _ rfl (.tmp 30) (.tmp 32) 68 rfl M.N 112 iP _ 1 8 underlying68 IP.1 IP.2.1 IP.2.2.1 IP.2.2.2 rfl (by decide) (.slice fA l.length fc) l.length (l.reverse.map fun f=>Value.pointer (some ⟨f.g,0,none⟩)) rfl C (some ⟨w3.heap.size,0,none⟩) 1 1 [.pointer (some ⟨w.heap.size+1,0,none⟩)] rfl rfl ?_ ?_ (by unfold maxLen;omega) (by omega) (by simp;omega) ?_;·intro _;exact⟨_,_,rfl,fun j u hu=>by rw[cN,al.cell (al.new _ _ _),List.getElem?_toArray];exact hu⟩
  ·intro u hu
   rw[cx.1 hu];rfl
  intro v2 w4 J b5 c8;obtain⟨vA,vc,rfl⟩:=aU J;have a8:aa (fun b=>(Value.slice fA l.length fc).ownBlock≠some b) w3 w4:=(kR.alloc _).grown b5 fun g hg=>.inl fun h=>h hg;have b0:(Value.slice fA l.length fc).ownBlock≠some M.mb:=fun h=>(Ot H4.2.frames.row h H4.2.core.mach (by decide)) rfl;have m7:=(H4.2.core.mach.kept a8 b0).cell 7;have f7:=(H4.2.core.mach.kept a8 b0).free 7;simp only[gc] at m7;have H5:=J5 J b5 a8 b0 C;clear J b5 c8 a8 b0 C)
 go_end0
 have b6:=H4.2.core.mach.kept H5.2.2.1 H5.2.2.2.1
 have hU:Nt M [112,70] w3 (w4.setCell ⟨M.mb,7,none⟩ (.slice vA (l.length+1) vc)):=
  Nt.set (Nt.grown (t:=112) (Nt.of_kept (kR.alloc _)) H5.2.1 (fun g hg=>⟨sm.hi (Nu H5.2.2.2.2 hg).1,(Nu H5.2.2.2.2 hg).2⟩) (by simp)) b6 M.mb_s (by simp) _
 have c9:=b6.set 7 (.slice vA (l.length+1) vc);simp only[ga] at c9;have Y:=H4.2
 have b7:(w4.setCell ⟨M.mb,7,none⟩ (.slice vA (l.length+1) vc)).ownsRow M.N 112 1 (.slice vA (l.length+1) vc) (l.length+1) ((l.reverse.map fun f=>Value.pointer (some ⟨f.g,0,none⟩))++[.pointer (some ⟨w.heap.size+1,0,none⟩)]):=
  be H5.1 ((aa.refl (fun b=>b≠M.mb) w4).setCell (p:=⟨M.mb,7,none⟩) (.inl fun h=>h rfl) _) fun g hg=>Ot H5.1 hg b6 (by decide)
 have d7:al (w4.setCell ⟨M.mb,7,none⟩ (.slice vA (l.length+1) vc)) (w.heap.size+1) 114 #[.int .i64 (fn:Nat),.int .i64 0,.int .i64 0,.slice (some ⟨w.heap.size,0,none⟩) o o]:=hU.blk (HW.2.2.2.1.kept H3.1 (by show w.heap.size+1≠w.heap.size;omega)) (by decide);refine⟨rfl,_,w.heap.size+1,Y.core.upd hU c9 (Y.core.box.upd hU (by decide) (by decide) (by decide)) (by decide) (by decide),?_,?_,?_,?_⟩
 ·rw[List.reverse_cons,ic]
  exact b7
 ·rw[List.map_cons,List.nodup_cons];refine⟨fun h=>?_,Y.frames.once⟩;obtain⟨f,hf,e⟩:=dr.1 h;obtain⟨v,b',h1,_⟩:=(HW.2.2.2.2.2.1.frames.each f hf).at_;have:=h1.lt;have e:f.g=w.heap.size+1:=e;omega
 ·intro f hf
  rcases fX.1 hf with rfl|hf;·exact⟨by show M.N≤w.heap.size+1;omega,_,b,d7,HW.2.2.2.2.2.2.1,by rw[HW.2.2.2.2.2.2.2,dP];exact hU.nums H3.2 (by decide)⟩
  exact(Y.frames.each f hf).upd hU (by decide) (by decide)
 show((l.length+1:Nat):Int)≤_;omega
theorem OO {M:sm}{w:World}{j:Value}{l:List Fr}{n e:Nat}(h:Np M w j l n e){r:Nat}{a:Int×Int}(o:M.c.Nd[r]? =some a):∃g cap cs v,M.av=.slice (some ⟨g,0,none⟩) M.c.Nd.length cap∧al w g 35 cs∧cs[r]? =some v∧No M.N w v a.1.toNat:=by obtain⟨g,cap,cs,v,C,_,J,R,Y⟩:=h.core.arrs r a o;exact⟨g,cap,cs,v,C,J,R,Y⟩
theorem QR (x:Int)(n:Nat)(j:1≤n)(l:n≤256):aV (x.tmod n):=by have h:=Int.natAbs_tmod x n;have o:=Nat.mod_lt x.natAbs (show(n:Int).natAbs>0 by omega);unfold aV;omega
theorem PJ (M:sm)(w:World)(b5:Value)(fs:List Fr)(n e:Nat)(f:Fr)(b:aw)(r i d:Nat)(a:Int×Int)(hI:Np M w b5 fs n e)(hf:f∈fs)(hb:M.c.Nf[f.fn]? =some b)(ha:M.c.Nd[r]? =some a)(hi:(i:Int)<b.vars)(hd:(d:Int)<b.vars)(b6:1≤a.1∧a.1≤256):
 Calls prog 54 #[.pointer (some ⟨M.mb,0,none⟩),.pointer (some ⟨f.g,0,none⟩),.agg #[.int .u8 5,.int .i64 (d:Nat),.int .i64 (r:Nat),.int .i64 (i:Nat),.int .i64 0]] w fun e w'=>e=.returned (.tuple #[])∧tq M.N w w':=by
 obtain⟨ag,cap,cs,av,a1,a8,b0,J⟩:=OO hI ha;obtain⟨v,b',b1,b2,R⟩:=(hI.frames.each f hf).at_;obtain rfl:b'=b:=kJ (b2.symm.trans hb);have b7:r<M.c.Nd.length:=(lS.1 ha).1;obtain⟨Y,a6⟩:∃Y:Nat,b'.vars=Y:=⟨b'.vars.toNat,by omega⟩;obtain⟨sz,o⟩:∃sz:Nat,a.1=sz:=⟨a.1.toNat,by omega⟩;rw[a6,dP] at R;rw[a6] at hi hd;rw[o] at b6;rw[o,dP] at J;have hz:¬sz=0:=by omega
 have b8:i<Y:=by omega
 have b9:d<Y:=by omega
 obtain⟨vg,x,rfl,hx,_,b3⟩:=R.at b8;obtain⟨xg,rfl,_⟩:=J.form;obtain⟨nr,b4⟩:=eQ M.c.Nd.length;rw[←b4] at b7 a1;have a7:=hI.core.mach;rw[a1] at a7;clear a1 b4;obtain⟨W1,Z⟩:=eQ (w.alloc (.cells #[.int .u8 5,.int .i64 (d:Nat),.int .i64 (r:Nat),.int .i64 (i:Nat),.int .i64 0] 134));have j:aa All w W1:=by rw[Z];exact kR.alloc _
 have bX:al W1 w.heap.size 134 #[.int .u8 5,.int .i64 (d:Nat),.int .i64 (r:Nat),.int .i64 (i:Nat),.int .i64 0]:=by rw[Z];exact al.new _ _ _
 have HF:=oH (show∀wn,aa All W1 wn→wn.cell? ⟨M.mb,6,none⟩=some (.slice (some ⟨ag,0,none⟩) nr cap)∧wn.cell? ⟨ag,r,none⟩=some (.slice (some ⟨xg,0,none⟩) sz sz)∧wn.cell? ⟨f.g,3,none⟩=some (.slice (some ⟨vg,0,none⟩) Y Y)∧wn.cell? ⟨vg,i,none⟩=some (.int .i64 x)∧wn.cell? ⟨w.heap.size,0,none⟩=some (.int .u8 5)∧wn.cell? ⟨w.heap.size,1,none⟩=some (.int .i64 (d:Nat))∧wn.cell? ⟨w.heap.size,2,none⟩=some (.int .i64 (r:Nat))∧wn.cell? ⟨w.heap.size,3,none⟩=some (.int .i64 (i:Nat))∧wn.cell? ⟨w.heap.size,4,none⟩=some (.int .i64 0)∧True from fun wn l=>⟨(a7.kept (j.trans l) trivial).cell 6,((a8.kept (j.trans l) trivial).cell r).trans b0,(b1.kept (j.trans l) trivial).cell 3,(j.trans l).cell (p:=⟨vg,i,none⟩) trivial hx,(bX.kept l trivial).cell 0,(bX.kept l trivial).cell 1,(bX.kept l trivial).cell 2,(bX.kept l trivial).cell 3,(bX.kept l trivial).cell 4,trivial⟩);have HN:=oH (show∀wn,aa All W1 wn→No M.N wn (.slice (some ⟨vg,0,none⟩) Y Y) Y∧No M.N wn (.slice (some ⟨xg,0,none⟩) sz sz) sz∧tq M.N w wn from fun wn l=>⟨R.kept (j.trans l),J.kept (j.trans l),.of_kept (j.trans l)⟩);have HW:=J2 Z b3;clear Z j bX hI hf hb b2 ha b0 R a8 b1 a7 hx J a6 o b3;go_enter func54,ntmps54;go_upto_region 1 with fail;rw[←HW.1];refine R0 18 W1 (fun _=>none) ?_;iterate 2 refine O0 ?_
 iterate 4 refine O4 HF.out ?_
 refine O0 ?_;refine O4 HF.out ?_;iterate 2 refine O0 ?_
 iterate 4 refine O4 HF.out ?_
 refine O0 ?_;refine O4 HF.out ?_;iterate 2 refine O0 ?_
 refine aG fun w2 C hF=>?_;have H2:=oH C;clear C hF;simp only[dK];obtain⟨e0,e1,e2,e3,e4,e5,e6,e7,e8,e9⟩:=HF.out w2 H2.out;go_wp2_with fail;clear e0 e1 e2 e3 e4 e5 e6 e7 e8 e9;refine R0 14 w2 (fun _=>none) ?_;iterate 3 refine O0 ?_
 refine O3 (fun wn l hp=>by(obtain⟨e0,e1,e2,e3,e4,e5,e6,e7,e8,e9⟩:=HF.out wn (H2.out.trans l);go_simp;with_reducible rfl)) ?_;refine O0 ?_;refine O3 (fun wn l hp=>by(obtain⟨e0,e1,e2,e3,e4,e5,e6,e7,e8,e9⟩:=HF.out wn (H2.out.trans l);go_simp;with_reducible rfl)) ?_;iterate 8 refine O0 ?_
 refine aG fun w3 C hF=>?_;have H3:=oH C;clear C hF;simp only[List.drop_succ_cons];obtain⟨e0,e1,e2,e3,e4,e5,e6,e7,e8,e9⟩:=HF.out w3 (H2.out.trans H3.out);obtain⟨n1,n2,hT⟩:=HN.out w3 (H2.out.trans H3.out);obtain⟨_,_,o1,o2,o3,_⟩:=n1.at (i:=d) (by omega);cases o1;go_wp2_with fail;exact bodyPost_ret (results_none rfl _ _ _) rfl ⟨rfl,hT.set n1 rfl (QR _ _ (by omega) (by omega))⟩
theorem PI (M:sm)(w:World)(b7:Value)(fs:List Fr)(n e:Nat)(f:Fr)(b:aw)(r i d:Nat)(a:Int×Int)(hI:Np M w b7 fs n e)(hf:f∈fs)(hb:M.c.Nf[f.fn]? =some b)(ha:M.c.Nd[r]? =some a)(hi:(i:Int)<b.vars)(hd:(d:Int)<b.vars)(b8:1≤a.1∧a.1≤256):
 Calls prog 54 #[.pointer (some ⟨M.mb,0,none⟩),.pointer (some ⟨f.g,0,none⟩),.agg #[.int .u8 4,.int .i64 (d:Nat),.int .i64 (r:Nat),.int .i64 (i:Nat),.int .i64 0]] w fun e w'=>(e=.returned (.tuple #[])∨NJ 21 e)∧tq M.N w w':=by
 obtain⟨ag,cap,cs,av,a7,b1,b2,Z⟩:=OO hI ha;obtain⟨v,b',b3,b4,a1⟩:=(hI.frames.each f hf).at_;obtain rfl:b'=b:=kJ (b4.symm.trans hb);have b9:r<M.c.Nd.length:=(lS.1 ha).1;obtain⟨nv,a8⟩:∃nv:Nat,b'.vars=nv:=⟨b'.vars.toNat,by omega⟩;obtain⟨sz,C⟩:∃sz:Nat,a.1=sz:=⟨a.1.toNat,by omega⟩;rw[a8,dP] at a1;rw[a8] at hi hd;rw[C] at b8;rw[C,dP] at Z;have hz:¬sz=0:=by omega
 have c0:i<nv:=by omega
 have c5:d<nv:=by omega
 obtain⟨vg,x,rfl,hx,_,b5⟩:=a1.at c0;obtain⟨xg,rfl,_⟩:=Z.form;obtain⟨nr,b6⟩:=eQ M.c.Nd.length;rw[←b6] at b9 a7;have b0:=hI.core.mach;rw[a7] at b0;clear a7 b6;obtain⟨W1,a6⟩:=eQ (w.alloc (.cells #[.int .u8 4,.int .i64 (d:Nat),.int .i64 (r:Nat),.int .i64 (i:Nat),.int .i64 0] 134));have l:aa All w W1:=by rw[a6];exact kR.alloc _
 have bX:al W1 w.heap.size 134 #[.int .u8 4,.int .i64 (d:Nat),.int .i64 (r:Nat),.int .i64 (i:Nat),.int .i64 0]:=by rw[a6];exact al.new _ _ _
 have J:=oH (show∀wn,aa All W1 wn→wn.cell? ⟨M.mb,6,none⟩=some (.slice (some ⟨ag,0,none⟩) nr cap)∧wn.cell? ⟨ag,r,none⟩=some (.slice (some ⟨xg,0,none⟩) sz sz)∧wn.cell? ⟨f.g,3,none⟩=some (.slice (some ⟨vg,0,none⟩) nv nv)∧wn.cell? ⟨vg,i,none⟩=some (.int .i64 x)∧wn.cell? ⟨w.heap.size,0,none⟩=some (.int .u8 4)∧wn.cell? ⟨w.heap.size,1,none⟩=some (.int .i64 (d:Nat))∧wn.cell? ⟨w.heap.size,2,none⟩=some (.int .i64 (r:Nat))∧wn.cell? ⟨w.heap.size,3,none⟩=some (.int .i64 (i:Nat))∧wn.cell? ⟨w.heap.size,4,none⟩=some (.int .i64 0)∧True from fun wn j=>⟨(b0.kept (l.trans j) trivial).cell 6,((b1.kept (l.trans j) trivial).cell r).trans b2,(b3.kept (l.trans j) trivial).cell 3,(l.trans j).cell (p:=⟨vg,i,none⟩) trivial hx,(bX.kept j trivial).cell 0,(bX.kept j trivial).cell 1,(bX.kept j trivial).cell 2,(bX.kept j trivial).cell 3,(bX.kept j trivial).cell 4,trivial⟩);have HN:=oH (show∀wn,aa All W1 wn→No M.N wn (.slice (some ⟨vg,0,none⟩) nv nv) nv∧No M.N wn (.slice (some ⟨xg,0,none⟩) sz sz) sz∧tq M.N w wn from fun wn j=>⟨a1.kept (l.trans j),Z.kept (l.trans j),.of_kept (l.trans j)⟩);have HW:=J2 a6 b5;clear a6 l bX hI hf hb b4 ha b2 a1 b1 b3 b0 hx Z a8 C b5;go_enter func54,ntmps54;go_upto_region 1 with fail;rw[←HW.1];refine R0 18 W1 (fun _=>none) ?_;iterate 2 refine O0 ?_
 iterate 4 refine O4 J.out ?_
 refine O0 ?_;refine O4 J.out ?_;iterate 2 refine O0 ?_
 iterate 4 refine O4 J.out ?_
 refine O0 ?_;refine O4 J.out ?_;iterate 2 refine O0 ?_
 refine aG fun w2 R hF=>?_;have Y:=oH R;clear R hF;simp only[dK];have c6:aV x:=HW.2;by_cases h1:x<0;·have c1:decide (x<0)=true:=bL h1;obtain⟨e0,e1,e2,e3,e4,e5,e6,e7,e8,e9⟩:=J.out w2 Y.out;go_wp2_with fail;refine(ND 21 _).mono ?_;rintro e w3 ⟨he,rfl⟩;unfold NJ at he;subst he;exact⟨rfl,.inr rfl,(HN.out w2 Y.out).2.2⟩
 have c1:decide (x<0)=false:=cI h1;by_cases h2:(sz:Int)≤x;·have c2:decide ((sz:Int)≤x)=true:=bL h2;obtain⟨e0,e1,e2,e3,e4,e5,e6,e7,e8,e9⟩:=J.out w2 Y.out;go_wp2_with fail;refine(ND 21 _).mono ?_;rintro e w3 ⟨he,rfl⟩;unfold NJ at he;subst he;exact⟨rfl,.inr rfl,(HN.out w2 Y.out).2.2⟩
 have c2:decide ((sz:Int)≤x)=false:=cI h2;obtain⟨xn,rfl⟩:∃xn:Nat,x=xn:=⟨x.toNat,by omega⟩;have c3:xn<sz:=by omega
 have HY:=oH (show∃y,∀wn,aa All w2 wn→wn.cell? ⟨xg,xn,none⟩=some (.int .i64 y)∧aV y from by obtain⟨_,y,o,hy,_,c4⟩:=(HN.out w2 Y.out).2.1.at (i:=xn) c3;cases o;exact⟨y,fun wn j=>⟨j.cell (p:=⟨xg,xn,none⟩) trivial hy,c4⟩⟩);obtain⟨y,hy⟩:=HY.out;clear HY;have HY:=oH hy;clear hy;obtain⟨e0,e1,e2,e3,e4,e5,e6,e7,e8,e9⟩:=J.out w2 Y.out;go_wp2_with fail;clear e0 e1 e2 e3 e4 e5 e6 e7 e8 e9;refine R0 11 w2 (fun _=>none) ?_;iterate 3 refine O0 ?_
 refine O3 (fun wn j hp=>by(obtain⟨e0,e1,e2,e3,e4,e5,e6,e7,e8,e9⟩:=J.out wn (Y.out.trans j);have y0:=HY.out wn j;go_simp;with_reducible rfl)) ?_;refine O0 ?_;refine O3 (fun wn j hp=>by(obtain⟨e0,e1,e2,e3,e4,e5,e6,e7,e8,e9⟩:=J.out wn (Y.out.trans j);have y0:=HY.out wn j;go_simp;with_reducible rfl)) ?_;iterate 3 refine O0 ?_
 refine O3 (fun wn j hp=>by(obtain⟨e0,e1,e2,e3,e4,e5,e6,e7,e8,e9⟩:=J.out wn (Y.out.trans j);have y0:=HY.out wn j;go_simp;with_reducible rfl)) ?_;refine O0 ?_;refine aG fun w3 R hF=>?_;have H3:=oH R;clear R hF;simp only[List.drop_succ_cons];obtain⟨e0,e1,e2,e3,e4,e5,e6,e7,e8,e9⟩:=J.out w3 (Y.out.trans H3.out);obtain⟨n1,n2,hT⟩:=HN.out w3 (Y.out.trans H3.out);obtain⟨_,_,o1,o2,o3,_⟩:=n1.at (i:=d) (by omega);cases o1;go_wp2_with fail;exact bodyPost_ret (results_none rfl _ _ _) rfl ⟨.inl rfl,hT.set n1 rfl (HY.out w2 kR).2⟩
theorem Pl (M:sm)(w:World)(b7:Value)(fs:List Fr)(n e:Nat)(f:Fr)(b:aw)(r i d:Nat)(a:Int×Int)(hI:Np M w b7 fs n e)(hf:f∈fs)(hb:M.c.Nf[f.fn]? =some b)(ha:M.c.Nd[r]? =some a)(hi:(i:Int)<b.vars)(hd:(d:Int)<b.vars)(b8:1≤a.1∧a.1≤256):
 Calls prog 54 #[.pointer (some ⟨M.mb,0,none⟩),.pointer (some ⟨f.g,0,none⟩),.agg #[.int .u8 6,.int .i64 0,.int .i64 (r:Nat),.int .i64 (i:Nat),.int .i64 (d:Nat)]] w fun e w'=>(e=.returned (.tuple #[])∨NJ 21 e)∧tq M.N w w':=by
 obtain⟨ag,cap,cs,av,a7,b1,b2,Z⟩:=OO hI ha;obtain⟨v,b',b3,b4,a1⟩:=(hI.frames.each f hf).at_;obtain rfl:b'=b:=kJ (b4.symm.trans hb);have b9:r<M.c.Nd.length:=(lS.1 ha).1;obtain⟨nv,a8⟩:∃nv:Nat,b'.vars=nv:=⟨b'.vars.toNat,by omega⟩;obtain⟨sz,C⟩:∃sz:Nat,a.1=sz:=⟨a.1.toNat,by omega⟩;rw[a8,dP] at a1;rw[a8] at hi hd;rw[C] at b8;rw[C,dP] at Z;have hz:¬sz=0:=by omega
 have c0:i<nv:=by omega
 have c3:d<nv:=by omega
 obtain⟨vg,x,rfl,hx,_,b5⟩:=a1.at c0;obtain⟨xg,rfl,_⟩:=Z.form;obtain⟨nr,b6⟩:=eQ M.c.Nd.length;rw[←b6] at b9 a7;have b0:=hI.core.mach;rw[a7] at b0;clear a7 b6;obtain⟨W1,a6⟩:=eQ (w.alloc (.cells #[.int .u8 6,.int .i64 0,.int .i64 (r:Nat),.int .i64 (i:Nat),.int .i64 (d:Nat)] 134));have l:aa All w W1:=by rw[a6];exact kR.alloc _
 have bX:al W1 w.heap.size 134 #[.int .u8 6,.int .i64 0,.int .i64 (r:Nat),.int .i64 (i:Nat),.int .i64 (d:Nat)]:=by rw[a6];exact al.new _ _ _
 have J:=oH (show∀wn,aa All W1 wn→wn.cell? ⟨M.mb,6,none⟩=some (.slice (some ⟨ag,0,none⟩) nr cap)∧wn.cell? ⟨ag,r,none⟩=some (.slice (some ⟨xg,0,none⟩) sz sz)∧wn.cell? ⟨f.g,3,none⟩=some (.slice (some ⟨vg,0,none⟩) nv nv)∧wn.cell? ⟨vg,i,none⟩=some (.int .i64 x)∧wn.cell? ⟨w.heap.size,0,none⟩=some (.int .u8 6)∧wn.cell? ⟨w.heap.size,1,none⟩=some (.int .i64 0)∧wn.cell? ⟨w.heap.size,2,none⟩=some (.int .i64 (r:Nat))∧wn.cell? ⟨w.heap.size,3,none⟩=some (.int .i64 (i:Nat))∧wn.cell? ⟨w.heap.size,4,none⟩=some (.int .i64 (d:Nat))∧True from fun wn j=>⟨(b0.kept (l.trans j) trivial).cell 6,((b1.kept (l.trans j) trivial).cell r).trans b2,(b3.kept (l.trans j) trivial).cell 3,(l.trans j).cell (p:=⟨vg,i,none⟩) trivial hx,(bX.kept j trivial).cell 0,(bX.kept j trivial).cell 1,(bX.kept j trivial).cell 2,(bX.kept j trivial).cell 3,(bX.kept j trivial).cell 4,trivial⟩);have HN:=oH (show∀wn,aa All W1 wn→No M.N wn (.slice (some ⟨vg,0,none⟩) nv nv) nv∧No M.N wn (.slice (some ⟨xg,0,none⟩) sz sz) sz∧tq M.N w wn from fun wn j=>⟨a1.kept (l.trans j),Z.kept (l.trans j),.of_kept (l.trans j)⟩);have HW:=J2 a6 b5;clear a6 l bX hI hf hb b4 ha b2 a1 b1 b3 b0 hx Z a8 C b5;go_enter func54,ntmps54;go_upto_region 1 with fail;rw[←HW.1];refine R0 18 W1 (fun _=>none) ?_;iterate 2 refine O0 ?_
 iterate 4 refine O4 J.out ?_
 refine O0 ?_;refine O4 J.out ?_;iterate 2 refine O0 ?_
 iterate 4 refine O4 J.out ?_
 refine O0 ?_;refine O4 J.out ?_;iterate 2 refine O0 ?_
 refine aG fun w2 R hF=>?_;have Y:=oH R;clear R hF;simp only[dK];have c5:aV x:=HW.2;by_cases h1:x<0;·have c1:decide (x<0)=true:=bL h1;obtain⟨e0,e1,e2,e3,e4,e5,e6,e7,e8,e9⟩:=J.out w2 Y.out;go_wp2_with fail;refine(ND 21 _).mono ?_;rintro e w3 ⟨he,rfl⟩;unfold NJ at he;subst he;exact⟨rfl,.inr rfl,(HN.out w2 Y.out).2.2⟩
 have c1:decide (x<0)=false:=cI h1;by_cases h2:(sz:Int)≤x;·have c2:decide ((sz:Int)≤x)=true:=bL h2;obtain⟨e0,e1,e2,e3,e4,e5,e6,e7,e8,e9⟩:=J.out w2 Y.out;go_wp2_with fail;refine(ND 21 _).mono ?_;rintro e w3 ⟨he,rfl⟩;unfold NJ at he;subst he;exact⟨rfl,.inr rfl,(HN.out w2 Y.out).2.2⟩
 have c2:decide ((sz:Int)≤x)=false:=cI h2;obtain⟨xn,rfl⟩:∃xn:Nat,x=xn:=⟨x.toNat,by omega⟩;have c6:xn<sz:=by omega
 have HY:=oH (show∃y,∀wn,aa All w2 wn→wn.cell? ⟨vg,d,none⟩=some (.int .i64 y)∧aV y from by obtain⟨_,y,o,hy,_,c4⟩:=(HN.out w2 Y.out).1.at (i:=d) c3;cases o;exact⟨y,fun wn j=>⟨j.cell (p:=⟨vg,d,none⟩) trivial hy,c4⟩⟩);obtain⟨y,hy⟩:=HY.out;clear HY;have HY:=oH hy;clear hy;obtain⟨e0,e1,e2,e3,e4,e5,e6,e7,e8,e9⟩:=J.out w2 Y.out;go_wp2_with fail;clear e0 e1 e2 e3 e4 e5 e6 e7 e8 e9;refine R0 11 w2 (fun _=>none) ?_;iterate 5 refine O0 ?_
 refine O3 (fun wn j hp=>by(obtain⟨e0,e1,e2,e3,e4,e5,e6,e7,e8,e9⟩:=J.out wn (Y.out.trans j);have y0:=HY.out wn j;go_simp;with_reducible rfl)) ?_;refine O0 ?_;refine O3 (fun wn j hp=>by(obtain⟨e0,e1,e2,e3,e4,e5,e6,e7,e8,e9⟩:=J.out wn (Y.out.trans j);have y0:=HY.out wn j;go_simp;with_reducible rfl)) ?_;refine O0 ?_;refine O3 (fun wn j hp=>by(obtain⟨e0,e1,e2,e3,e4,e5,e6,e7,e8,e9⟩:=J.out wn (Y.out.trans j);have y0:=HY.out wn j;go_simp;with_reducible rfl)) ?_;refine O0 ?_;refine aG fun w3 R hF=>?_;have H3:=oH R;clear R hF;simp only[List.drop_succ_cons];obtain⟨e0,e1,e2,e3,e4,e5,e6,e7,e8,e9⟩:=J.out w3 (Y.out.trans H3.out);obtain⟨n1,n2,hT⟩:=HN.out w3 (Y.out.trans H3.out);obtain⟨_,_,o1,o2,o3,_⟩:=n2.at (i:=xn) (by omega);cases o1;go_wp2_with fail
 go_end0
 exact⟨.inl rfl,hT.set n2 rfl (HY.out w2 kR).2⟩
end Go.Proofs.YtncdbjponknakaaGreatDoor
