/- Part 14 of the proof (its last part says what is proved). No condition. -/
import Derived.Test.YtgdlhckhpolnnaaGreatDoorK12
namespace Go.Proofs.YtgdlhckhpolnnaaGreatDoor
set_option maxRecDepth 100000
set_option maxHeartbeats 8000000
open Go.RowKit Go.Proofs.Tryz
section
namespace Q
section
variable {P:Program} {g:Gh} {w:World} {H:List HO}
theorem qgC (t ty e:TypeId)(i:TypeInfo)(z:Value)(size bytes:Nat)(ht:P.underlying t=some (.slice e))(hi:P.info? e=some i)(hz:i.zero=some z)
 (I:i.size=size) (Y:i.bytes=bytes) (a7:z.cells.size=size) (a8:0<size)
 (v:Value) (n:Nat) (xs:List Value) (o:w.ownsRow 0 e size v n xs)
 (A:Option Addr) (m c:Nat) (news:List Value) (hl:news.length=m*size) (hA:∃b off,A=some ⟨b,off,none⟩∧∀(j:Nat) u,news[j]? =some u→w.cell? ⟨b,off+j,none⟩=some u)
 (h1:∀u∈news,u.oneCell'=true) (a1:n+m≤maxLen) (C:(n+m)*bytes≤140737488355328):
 ∃R w',(Builtin.append_ #[t,t] ty #[v,.slice A m c]).run P w=.ok R w'∧w'.ownsRow 0 e size R (n+m) (xs++news)∧w.grownBy w' v.ownBlock∧
  (R.ownBlock=v.ownBlock∨R.ownBlock=some w.heap.size∧aa All w w'):=by
 obtain⟨R,w',hr,h2,h3,h4⟩:=JL (P:=P) w 0 t ty e i z size bytes ht hi hz I Y a7 a8 v n xs o A m c news hl (fun _=>hA) h1 a1 C (Nat.zero_le _);refine⟨R,w',hr,h2,h3,h4.imp id fun h5=>⟨h5,?_⟩⟩;obtain⟨b,off,rfl,hc⟩:=hA;have a6:∀(j:Nat) u,news[j]? =some u→w.cell? ((⟨b,off,none⟩:Addr).add j)=some u:=fun j u hu=>by rw[Addr.add_mid];exact hc j u hu
 rcases o.2 with ⟨rfl,rfl⟩|⟨gb,cap,cur,rfl,_,hg,b1,b2,b0,b3⟩;·exact kR.grown h3 fun k hk=>by cases hk
 subst I Y;by_cases J:n+m≤cap;·have:=run_append_room (P:=P) w t ty e i ht hi gb n cap cur hg ⟨b,off,none⟩ m c news hl a6 h1 J (by rw[hl,b0,←Nat.add_mul];exact Nat.mul_le_mul_right _ J);rw[this] at hr;cases hr;have:=(mV.1 hg).1;simp[Value.ownBlock] at h5;omega
 have holds:∀(j:Nat) u,xs[j]? =some u→w.cell? ((⟨gb,0,none⟩:Addr).add j)=some u:=o.cells (g:=gb) rfl;have:=run_append_grow (P:=P) w t ty e i z ht hi hz ⟨gb,0,none⟩ n cap xs o.1 holds ⟨b,off,none⟩ m c news hl a6 (by omega) (by unfold maxLen at a1;omega) (growslice_fits (by omega) C);rw[this] at hr;cases hr;exact kR.drew.alloc _
theorem lF {α:Type}{k:Nat}:∀ {es:List (List α)},(∀e∈es,e.length=k)→∀ {i j:Nat} {e:List α},es[i]? =some e→j<k→es.flatten[i*k+j]? =e[j]?
 | [],_,i,_,_,h,_=>by simp at h
 |a::es,o,0,j,e,h,C=>by cases h;rw[List.flatten_cons,Nat.zero_mul,cN,ma (by rw[o a (List.mem_cons_self ..)];exact C)]
 |a::es,o,i+1,j,e,h,C=>by have I:=o a (List.mem_cons_self ..);rw[List.flatten_cons,kH (by rw[I,Nat.succ_mul];omega),I,show(i+1)*k+j-k=i*k+j by rw[Nat.succ_mul];omega];exact lF (fun e he=>o e (List.mem_cons_of_mem _ he)) (by simpa using h) C
theorem qaS {α:Type}{k:Nat}:∀ {es:List (List α)},(∀e∈es,e.length=k)→es.flatten.length=es.length*k
 | [],_=>by simp
 |a::es,j=>by rw[List.flatten_cons,iQ,j a (List.mem_cons_self ..),qaS fun e he=>j e (List.mem_cons_of_mem _ he),kI,Nat.succ_mul];omega
theorem qeZ {p n k:Nat}(h:p<n*k):p/k<n∧p%k<k∧p/k*k+p%k=p:=by
 have j:0<k:=by
  rcases Nat.eq_zero_or_pos k with e|e;·subst e;simp at h
  exact e
 refine⟨(Nat.div_lt_iff_lt_mul j).2 h,Nat.mod_lt _ j,?_⟩;rw[Nat.mul_comm];exact Nat.div_add_mod p k
theorem qcb {k bw:Nat}{es:List (List V)}{tok:Option Nat}{v:Value}(h:VR g w (.row k bw es tok) v):∃a c news,v=.slice a es.length c∧(∀e∈es,e.length=k)∧news.length=es.length*k∧da g w es.flatten news∧es.length≤c∧
 (0<es.length→∃b off,a=some ⟨b,off,none⟩∧∀(p:Nat) u,news[p]? =some u→g.fz b (off+p)∧w.cell? ⟨b,off+p,none⟩=some u):=by
 cases h with
 |row _ _ _ _ a c f h1 R Y o I hr ht=>
  refine⟨a,c,(List.range (es.length*k)).map fun p=>f (p/k) (p%k),rfl,o,by simp,⟨by simp[qaS o],fun p x u C hu=>?_⟩,h1,fun x=>?_⟩;·have j:=(lS.1 C).1;rw[qaS o] at j;obtain⟨d1,d2,d3⟩:=qeZ j;rw[cL,ln j] at hu;cases hu;have he:=lG d1;have:=lF o he d2;rw[d3,C] at this;exact hr _ _ _ _ he this.symm
  obtain⟨b,off,rfl,J⟩:=I x;refine⟨b,off,rfl,fun p u hu=>?_⟩;have j:=(lS.1 hu).1;simp at j;obtain⟨d1,d2,d3⟩:=qeZ j;rw[cL,ln j] at hu;cases hu;have:=J _ d1 _ d2;rw[Nat.add_assoc,d3] at this;exact this
theorem qcC {k bw:Nat}{es:List (List V)}{tok:Option Nat}{a:Option Addr}{c:Nat}{news:List Value}(C:∀e∈es,e.length=k)(R:da g w es.flatten news)(h1:es.length≤c)(I:c≤maxLen)(h3:es.length*bw≤140737488355328)
 (ha:0<es.length→∃b off,a=some ⟨b,off,none⟩∧∀(p:Nat) u,news[p]? =some u→g.fz b (off+p)∧w.cell? ⟨b,off+p,none⟩=some u) (ht:∀t,tok=some t→∃u n,g.tk t=some (u,n)∧es.length≤n∧(es.length=n→u=.slice a es.length c)):VR g w (.row k bw es tok) (.slice a es.length c):=by
 have hlen:news.length=es.length*k:=by rw[←R.1,qaS C]
 refine .row k bw es tok a c (fun i j=>news.getD (i*k+j) undef) h1 I h3 C (fun x=>?_) (fun i e j x he Y=>?_) ht
 ·obtain⟨b,off,rfl,hc⟩:=ha x;refine⟨b,off,rfl,fun i hi j J=>?_⟩;have o:i*k+j<news.length:=by rw[hlen];have:(i+1)*k≤es.length*k:=Nat.mul_le_mul_right _ hi;rw[Nat.succ_mul] at this;omega
  have:=hc _ _ (lG o);rw[←Nat.add_assoc] at this;simpa [iG,lG o] using this
 have J:=(lS.1 Y).1;rw[C e (mG he)] at J;have hf:=lF C he J;rw[Y] at hf;obtain⟨u,h1,I⟩:=R.get hf;simpa [iG,h1] using I
theorem qgB (t ty e:TypeId)(i:TypeInfo)(size:Nat)(C:P.underlying t=some (.slice e))(hi:P.info? e=some i)(v:Value)(n:Nat)(xs:List Value)(j:w.ownsRow 0 e size v n xs)(A:Option Addr)(c:Nat):(Builtin.append_ #[t,t] ty #[v,.slice A 0 c]).run P w=.ok v w:=by
 rcases j.2 with ⟨rfl,rfl⟩|⟨I,cap,cur,rfl,_,_,o,_⟩;·cases A<;>simp[Builtin.append_,run_underlying C,sizeOf,typeInfo,hi,Builtin.lenOf,Builtin.firstCells,loadCells,loadCellsFrom]
 cases A<;>simp[Builtin.append_,run_underlying C,sizeOf,typeInfo,hi,Builtin.lenOf,Builtin.firstCells,o,storeCells,loadCells,loadCellsFrom]
theorem qdK (t ty e:TypeId)(i:TypeInfo)(z:Value)(k bw:Nat)(ht:P.underlying t=some (.slice e))(hi:P.info? e=some i)(hz:i.zero=some z)(b8:i.size=k)(e6:i.bytes=bw)(e7:z.cells.size=k)(e8:0<k)(e9:0<bw)
 {j h4:Nat} {es C:List (List V)} {c6:Option Nat} {v u:Value} (hr:HR g w H) (hj:H[j]? =some (.tok e k es.length)) (hv:VR g w (.row k bw es (some j)) v) (hq:VR g w (.row k h4 C c6) u) (h1:∀x∈C.flatten,qbd x=true) (hb:(es.length+C.length)*bw≤140737488355328):
 ∃v' w' g',(Builtin.append_ #[t,t] ty #[v,u]).run P w=.ok v' w'∧Le g w g' w'∧VR g' w' (.row k bw (es++C) (some j)) v'∧HR g' w' (H.set j (.tok e k (es.length+C.length))):=by
 obtain⟨v0,xs,hι,b5,a8,b9⟩:=hr.objs j _ hj;have h5:=(lS.1 hj).1;obtain⟨a,c,old,rfl,h6,b0,h7,_,c7⟩:=qcb hv;obtain⟨a2,c2,news,rfl,c8,c0,c1,_,h8⟩:=qcb hq;have h9:v0=.slice a es.length c:=by(
 cases hv with
 |row _ _ _ _ _ _ f h1 h2 h3 hk ha hr c4=>obtain⟨u,n,J,Y,e3⟩:=c4 j rfl;rw[b5] at J;cases J;exact e3 rfl)
 subst h9;have R:g.own j=fun b=>(Value.slice a es.length c).ownBlock=some b:=by(
 funext b;refine propext ⟨fun h=>?_,fun h=>.inr ⟨_,_,b5,h⟩⟩;rcases h with h|⟨v,n,h,hb⟩;·rw[hι] at h;cases h
 rw[b5] at h;cases h;exact hb)
 rcases Nat.eq_zero_or_pos C.length with h0|h0
 ·have e0:=oD h0;subst e0;refine⟨_,w,g,qgB t ty e i k ht hi _ _ xs a8 a2 c2,Le.refl _ _,by simpa using hv,?_⟩;have:H.set j (.tok e k (es.length+([]:List (List V)).length))=H:=by obtain⟨h1,h2⟩:=lS.1 hj;simp[←h2]
  rw[this];exact hr
 have hA:∃b off,a2=some ⟨b,off,none⟩∧∀(p:Nat) x,news[p]? =some x→w.cell? ⟨b,off+p,none⟩=some x:=by obtain⟨b,off,rfl,h⟩:=h8 h0;exact⟨b,off,rfl,fun p x hx=>(h p x hx).2⟩
 have c9:∀x∈news,x.oneCell'=true:=by intro x hx;obtain⟨p,hp⟩:=cY.1 hx;have b3:=(lS.1 hp).1;have hc:=lG (c1.1▸b3);exact qdp (c1.2 p _ x hc hp) (h1 _ (mG hc))
 have hmul:es.length+C.length≤(es.length+C.length)*bw:=Nat.le_mul_of_pos_right _ e9;obtain⟨v',w',d7,k1,k2,I⟩:=qgC t ty e i z k bw ht hi hz b8 e6 e7 e8 _ es.length xs a8 a2 C.length c2 news c0 hA c9 (by unfold maxLen;omega) hb;have j0:xs=old:=by
  refine List.ext_getElem? fun p=>?_;rcases Nat.lt_or_ge p old.length with hp|hp
  ·have ho:=lG hp;rw[ho];rcases a8.2 with ⟨J,Y⟩|⟨gb,cap,cur,J,_,hg,d8,_,j1,b4⟩;·rw[b0,Y] at hp;simp at hp
   cases J;obtain⟨b,off,Y,h2⟩:=c7 (Nat.pos_of_ne_zero fun h=>by rw[b0,h] at hp;simp at hp);cases Y;have:=(h2 p _ ho).2;rw[cN,al.cell (w:=w) (t:=e) (cs:=cur) hg] at this;rw[←b4,rY (by omega),Array.getElem?_toList];exact this
  rw[jz hp,jz (by rw[a8.1];omega)]
 subst j0;obtain⟨a',c',rfl⟩:=aU k1;have a1:∀x,a'=some x→∃b,x=⟨b,0,none⟩∧(Value.slice a' (es.length+C.length) c').ownBlock=some b∧∀(p:Nat) y,(xs++news)[p]? =some y→w'.cell? ⟨b,p,none⟩=some y:=by(
 intro x hx;rcases k1.2 with ⟨J,Y⟩|⟨gb,cap,cur,J,_,hg,d8,_,j1,b4⟩;·omega
 cases J;cases hx;refine⟨gb,rfl,rfl,fun p y hy=>?_⟩;have hp:=(lS.1 hy).1;rw[k1.1] at hp;rw[al.cell (w:=w') (t:=e) (cs:=cur) hg,←Array.getElem?_toList];rw[←b4,rY hp] at hy;exact hy)
 have b7:es.length+C.length≤c'∧c'≤maxLen:=by
  rcases k1.2 with ⟨J,Y⟩|⟨gb,cap,cur,J,_,_,h1,h2,_⟩;·omega
  cases J;exact⟨h1,h2⟩
 let G:Gh:=⟨g.ι,fun b o=>g.fz b o∨(Value.slice a' (es.length+C.length) c').ownBlock=some b∧o<(es.length+C.length)*k,fun m=>if m=j then some (.slice a' (es.length+C.length) c',es.length+C.length) else g.tk m⟩
 have hold:∀b o,g.fz b o→w'.cell? ⟨b,o,none⟩=w.cell? ⟨b,o,none⟩:=by(
 intro b o c5;rcases I with I|⟨_,I⟩
 ·by_cases b6:(Value.slice a es.length c).ownBlock=some b
  ·(
 have ho:o<es.length*k:=Nat.lt_of_not_le fun h=>b9 b b6 o h c5;have b3:o<xs.length:=by rw[b0];exact ho
 obtain⟨b1,off,J,h2⟩:=c7 (Nat.pos_of_ne_zero fun h=>by rw[h] at ho;simp at ho);subst J;have Y:b1=b:=by simpa [Value.ownBlock] using b6
 subst Y;rcases a8.2 with ⟨e3,_⟩|⟨gb,_,_,e3,_⟩;·cases e3
 cases e3;have hw:=(h2 o _ (lG b3)).2;rw[cN] at hw;rw[hw];rw[b6] at I;cases a' with
 |none=>cases I
 |some j2=>obtain⟨b2,e4,e5,h3⟩:=a1 j2 rfl;rw[e5] at I;cases I;exact h3 o _ (by rw[ma b3];exact lG b3))
  exact World.cell?_of_block (k2.block b (qaP hr c5) fun h=>b6 h.symm)
 exact World.cell?_of_block (I.block b (qaP hr c5) trivial))
 have hle:Le g w G w':=by(
 refine⟨k2.os,k2.output,k2.size,fun b o h=>⟨.inl h,hold b o h⟩,fun _ _ h=>h,fun m u n hm=>?_,fun b hb=>k2.block b (qaP hr (hb 0)) fun h=>b9 b h.symm _ (cf _) (hb _),fun b hb j3=>k2.block b hb fun h=>j3 j ?_,fun m b hm=>?_,fun b o h=>?_⟩
 ·by_cases e:m=j
  ·subst e;rw[b5] at hm;cases hm;exact⟨_,_,ap rfl,.inl (by omega)⟩
  exact⟨u,n,by simp[G,e,hm],.inr ⟨rfl,rfl⟩⟩
 ·rw[R];exact h.symm
 ·rcases hm with hm|⟨x,n,hm,hx⟩;·exact .inl (.inl hm)
  simp only[G] at hm;split at hm
  ·rename_i e;subst e;cases hm;rcases I with I|⟨I,_⟩;·left;rw[R];rw[←I];exact hx
   right;rw[hx] at I;cases I;exact cf _
  exact .inl (.inr ⟨x,n,hm,hx⟩)
 rcases h with h|⟨h,_⟩;·exact .inl h
 rcases I with I|⟨I,_⟩;·exact .inr (.inr ⟨j,by rw[R];rw[←I];exact h⟩)
 rw[h] at I;cases I;exact .inr (.inl (cf _)))
 refine⟨_,w',G,d7,hle,?_,?_⟩;·(
 have:=qcC (g:=G) (w:=w') (es:=es++C) (tok:=some j) (bw:=bw) (a:=a') (c:=c') (news:=xs++news) (k:=k) (fun e he=>by rcases eD.1 he with he|he;exact h6 e he;exact c8 e he) (by rw[List.flatten_append];exact(h7.append c1).le hle) (by simpa using b7.1) b7.2 (by simpa using hb) (fun _=>?_) (fun t c4=>?_);·simpa using this
 ·obtain⟨x,rfl⟩:∃x,a'=some x:=by
   rcases k1.2 with ⟨J,Y⟩|⟨gb,cap,cur,J,_⟩;·omega
   cases J;exact⟨_,rfl⟩
  obtain⟨b,J,Y,h⟩:=a1 x rfl;refine⟨b,0,by rw[J],fun p y hy=>?_⟩;rw[cN];have hp:=(lS.1 hy).1;rw[k1.1] at hp;exact⟨.inr ⟨Y,hp⟩,h p y hy⟩
 cases c4;exact⟨_,_,ap rfl,by simp,fun _=>by simp⟩)
 have a6:∀m b,m≠j→G.own m b→g.own m b:=by(
 intro m b hm h;rcases h with h|⟨x,n,h,hx⟩;·exact .inl h
 simp only[G,ae hm] at h;exact .inr ⟨x,n,h,hx⟩)
 have d9:∀b,G.own j b→(Value.slice a' (es.length+C.length) c').ownBlock=some b:=by(
 intro b h;rcases h with h|⟨x,n,h,hx⟩;·exact absurd (hι.symm.trans h) (by simp)
 simp only[G,if_true] at h;cases h;exact hx)
 have a7:∀m b,m≠j→g.own m b→(Value.slice a' (es.length+C.length) c').ownBlock≠some b:=by(
 intro m b hm h hb;rcases I with I|⟨I,_⟩;·exact hm (hr.inj m j b h (by rw[R];rw[←I];exact hb))
 rw[hb] at I;cases I;have:=(qaz hr h).1;omega)
 refine⟨fun m o hm=>?_,fun m hm=>?_,fun m l b h1 h2=>?_,fun b o h=>?_⟩;·(
 rw[List.getElem?_set] at hm;by_cases e:j=m
 ·subst e;rw[ap rfl,ap h5] at hm;cases hm;refine⟨_,xs++news,hι,ap rfl,k1,fun b hb o ho h=>?_⟩;rcases h with h|⟨_,h⟩
  ·rcases I with I|⟨I,_⟩
   ·exact b9 b (I▸hb) o (fR (Nat.mul_le_mul_right _ (Nat.le_add_right _ _)) ho) h
   rw[hb] at I;cases I;have:=qaP hr h;omega
  omega
 rw[ae e] at hm;refine(hr.objs m o hm).keep hle (fun b hb=>⟨k2.block b (qaz hr hb).1 fun h=>?_,fun o h=>?_⟩) rfl (by simp[G,Ne.symm e]);·exact e (hr.inj j m b (by rw[R];exact h.symm) hb)
 rcases h with h|⟨h,_⟩;·exact h
 exact absurd h (a7 m b (Ne.symm e) hb))
 ·have:=hr.nil m (by simpa using hm)
  refine⟨this.1,?_⟩;have j4:m≠j:=by rintro rfl;simp at hm;omega
  simp[G,j4,this.2]
 ·by_cases J:m=j<;>by_cases Y:l=j;·rw[J,Y]
  ·subst J;exact absurd (d9 b h1) (a7 l b Y (a6 l b Y h2))
  ·subst Y;exact absurd (d9 b h2) (a7 m b J (a6 m b J h1))
  exact hr.inj m l b (a6 m b J h1) (a6 l b Y h2)
 rcases h with h|⟨h,ho⟩;·exact Nat.lt_of_lt_of_le (hr.lt b o h) k2.size
 cases a' with
 |none=>cases h
 |some ad=>
  obtain⟨b',J,Y,h3⟩:=a1 ad rfl;rw[h] at Y;cases Y;have b3:o<(xs++news).length:=by rw[k1.1];exact ho
  exact jy w' _ (h3 o _ (lG b3))
theorem qdx {e:TypeId}{k:Nat}(h:HR g w H):∃R,Le g w R w∧HR R w (H++[.tok e k 0])∧∀bw,VR R w (.row k bw [] (some H.length)) (.slice none 0 0):=by
 refine⟨⟨g.ι,g.fz,fun i=>if i=H.length then some (.slice none 0 0,0) else g.tk i⟩,?_,?_,fun bw=>?_⟩;·(
 refine⟨rfl,rfl,cf _,fun _ _ h=>⟨h,rfl⟩,fun _ _ h=>h,fun i u n hi=>?_,fun _ _=>rfl,fun _ _ _=>rfl,fun i b hi=>?_,fun _ _ h=>.inl h⟩
 ·have:i≠H.length:=by rintro rfl;rw[(h.nil _ (cf _)).2] at hi;cases hi
  exact⟨u,n,by simp[this,hi],.inr ⟨rfl,rfl⟩⟩
 rcases hi with hi|⟨v,n,hi,I⟩;·exact .inl (.inl hi)
 simp only at hi;split at hi;·cases hi;cases I
 exact .inl (.inr ⟨v,n,hi,I⟩))
 ·(
 have C:∀i b,(Gh.mk g.ι g.fz fun i=>if i=H.length then some (.slice none 0 0,0) else g.tk i).own i b→g.own i b:=by(
 intro i b hi;rcases hi with hi|⟨v,n,hi,I⟩;·exact .inl hi
 simp only at hi;split at hi;·cases hi;cases I
 exact .inr ⟨v,n,hi,I⟩)
 refine⟨fun i o J=>?_,fun i hi=>?_,fun i j b hi Y=>h.inj i j b (C i b hi) (C j b Y),h.lt⟩;·(
 rcases Nat.lt_or_ge i H.length with hi|hi
 ·rw[ma hi] at J
  refine(h.objs i o J).keep ⟨rfl,rfl,cf _,fun _ _ h=>⟨h,rfl⟩,fun _ _ h=>h,fun m u n hm=>?_,fun _ _=>rfl,fun _ _ _=>rfl,fun i b hi=>.inl (C i b hi),fun _ _ h=>.inl h⟩ (fun b _=>⟨rfl,fun _ h=>h⟩) rfl (by simp[Nat.ne_of_lt hi]);have:m≠H.length:=by rintro rfl;rw[(h.nil _ (cf _)).2] at hm;cases hm
  exact⟨u,n,by simp[this,hm],.inr ⟨rfl,rfl⟩⟩
 have:i=H.length:=by have:=(lS.1 J).1;simp at this;omega
 subst this;simp at J;subst J;exact⟨.slice none 0 0,[],(h.nil _ (cf _)).1,ap rfl,World.ownsRow_nil w 0 e k,fun b hb=>by cases hb⟩)
 simp at hi;have:=h.nil i (by omega);refine⟨this.1,?_⟩;simp only;rw[ae (by omega)];exact this.2)
 exact qcC (es:=[]) (news:=[]) (by simp) da.nil (cf _) (Nat.zero_le _) (by simp) (fun h=>by simp at h) fun t ht=>by cases ht;exact⟨_,_,ap rfl,cf _,fun _=>rfl⟩
end
end Q
end
section
namespace Q
def qdf (pl:Nat→Option (Nat×Nat)):List V→List (Nat×V)→Option (List V)
 |cs,[]=>some cs
 |cs,(i,x)::r=>match pl i with
  |some (off,n)=>if(qaq x).length=n∧off+n≤cs.length∧(qaq x).all qbd=true then qdf pl (wr cs off (qaq x)) r else none
  |none=>none
def evp (T:VT):List (Nat×Operand)→Option (List (Nat×V))
 | []=>some []
 |(i,o)::l=>match ev T o,evp T l with
  |some x,some r=>some ((i,x)::r)
  |_,_=>none
def bnd (T:VT)(o:Option Operand)(n d:Nat):Prop:=match o with
 |none=>n=d
 |some o=>ev T o=some (.s (.int .i64 n))
section
variable {g:Gh} {w:World}
theorem qdn:∀(vs:List Value) (us:List Value) (off s:Nat),((vs.zipIdx s).foldl (fun(cs:Array Value) (x:Value×Nat)=>cs.setIfInBounds (off+x.2) x.1) us.toArray)=(wr us (off+s) vs).toArray
 | [],_,_,_=>rfl
 |v::vs,us,off,s=>by rw[List.zipIdx_cons,List.foldl_cons,List.setIfInBounds_toArray,qdn vs _ off (s+1)];rfl
theorem qdR {pl:Nat→Option (Nat×Nat)}:∀ {ps:List (Nat×V)} {vs:List (Nat×Value)} {cs j:List V} {us:List Value},da g w cs us→ps.length=vs.length→(∀(i:Nat) p v,ps[i]? =some p→vs[i]? =some v→p.1=v.1∧VR g w p.2 v.2)→qdf pl cs ps=some j→
 ∃o,Instr.fill pl us.toArray vs=some o.toArray∧da g w j o
 | [],[],cs,j,us,h,_,_,C=>by cases C;exact⟨us,rfl,h⟩
 | [],_::_,_,_,_,_,h,_,_=>by simp at h
 |_::_,[],_,_,_,_,h,_,_=>by simp at h
 |(i,x)::ps,(i',v)::vs,cs,j,us,h,hl,hr,C=>by(
 obtain⟨h1,I⟩:=hr 0 _ _ rfl rfl;simp only at h1 I;subst h1;simp only[qdf] at C;cases J:pl i with
 |none=>simp[J] at C
 |some on=>
  obtain⟨off,n⟩:=on;simp only[J] at C;split at C
  ·rename_i hc;obtain⟨c1,c2,c3⟩:=hc;obtain⟨Y,_⟩:=qbF I c3;have hlen:v.cells.size=n:=by rw[←c1,Y.1];simp
   obtain⟨o,e1,e2⟩:=qdR (Y.wr off cs us h) (by simpa using hl) (fun i p v h1 I=>hr (i+1) p v (by simpa using h1) (by simpa using I)) C;refine⟨o,?_,e2⟩;simp only[Instr.fill,J];have R:¬(v.cells.size≠n||decide (off+v.cells.size>us.toArray.size))=true:=by have:=h.1;simp[hlen];omega
   rw[ae R];have:=qdn v.cells.toList us off 0;rw[dj] at this;rw[←e1,←this];congr 1;rw[←Array.foldl_toList,Array.toList_zipIdx]
  cases C)
end
section
variable {C:Cx} {T:VT} {H H':List HO} {dst:Option Tmp} {ty:TypeId} {pos:String} {af:Array Edge} {gd:Option (Nat×Bool)} {x y z:Operand} {p q r:V}
theorem qfa {g:Gh}{w:World}{a:Act}(R:SR C g w a T H):∀ {l:List (Nat×Operand)} {ps:List (Nat×V)},evp T l=some ps→ps.length=(l.map fun x=>(x.1,a.eval x.2)).length∧∀(i:Nat) p v,ps[i]? =some p→(l.map fun x=>(x.1,a.eval x.2))[i]? =some v→p.1=v.1∧VR g w p.2 v.2
 | [],ps,h=>by cases h;exact⟨rfl,fun i p v h=>by simp at h⟩
 |(i,o)::l,ps,h=>by
  simp only[evp] at h;split at h
  ·rename_i x r h1 Y;cases h;obtain⟨k1,k2⟩:=qfa R Y;refine⟨by simpa using k1,fun j p v I J=>?_⟩;cases j with
   |zero=>simp at I J;subst I J;exact⟨rfl,R.ev h1⟩
   |succ j=>exact k2 j p v (by simpa using I) (by simpa using J)
  cases h
theorem qeR {P:Program}{t:TypeId}{d:TypeDesc}(h:∀w,(underlying t).run P w=.ok d w):P.underlying t=some d:=by
 have h:=h default;cases e:P.underlying t with
 |none=>simp[underlying,e,stuck] at h
 |some j=>simp[underlying,e] at h;rw[h]
theorem qeF {P:Program}{t:TypeId}{i:TypeInfo}(h:∀w,(typeInfo t).run P w=.ok i w):P.info? t=some i:=by
 have h:=h default;cases e:P.info? t with
 |none=>simp[typeInfo,e,stuck] at h
 |some j=>simp[typeInfo,e] at h;rw[h]
theorem qgr {t:TypeId}{l:Array (Nat×Operand)}{o:Array Field}{pl:Array (Nat×Nat)}{zv:Value}{ps:List (Nat×V)}{cs:List V}(hl:evp T l.toList=some ps)(hu:∀w,(underlying t).run C.P w=.ok (.struct o) w)(J:∀w,(o.mapM fun f=>do pure (f.offset,←sizeOf f.type):Sem _).run C.P w=.ok pl w)(R:∀w,(zeroValue t).run C.P w=.ok zv w)(Y:qdf (pl[·]?) (zv.cells.toList.map .s) ps=some cs):za C ⟨dst,.build t l,ty,pos,af,gd⟩ T H (.agg cs):=fun g a w hs=>by
 obtain⟨h1,h2⟩:=qfa hs hl;obtain⟨us,h3,I⟩:=qdR (qdB zv.cells.toList) h1 h2 Y;refine⟨.agg us.toArray,?_,.agg _ _ I.1 I.2⟩;have j:Instr.fill (pl[·]?) zv.cells (l.toList.map fun x=>(x.1,a.eval x.2))=some us.toArray:=by simpa using h3
 have hm:(l.map fun x=>(x.1,a.eval x.2)).toList=l.toList.map fun x=>(x.1,a.eval x.2):=by simp
 simp only[execOp,Instr.build,Sem.run_bind,R,hu,Result.andThen_ok,J,hm,j,Sem.run_pure]
theorem qfI {t e:TypeId}{i:TypeInfo}{zv:Value}{k bw:Nat}(hx:ev T x=some p)(hu:∀w,(underlying t).run C.P w=.ok (.slice e) w)(hi:∀w,(typeInfo e).run C.P w=.ok i w)(hz:i.zero=some zv)(J:i.size=k)(Y:i.bytes=bw)(a1:zv.cells.size=k)(h0:0<k∧k≤16777216∧bw≤140737488355328)(h1:(qaq p).length=k∧(qaq p).all qbd=true):OpD C ⟨dst,.buildSlice t 1 #[(0,x)],ty,pos,af,gd⟩ T H (.row k bw [qaq p] none):=fun g a w hs=>by
 left;obtain⟨R,_⟩:=qbF (hs.ev hx) h1.2;generalize I:a.eval x=v at R;have hlen:v.cells.size=k:=by have:=R.1;simp at this;omega
 have o:Instr.fill (fun j=>some (j*i.size,i.size)) ((Array.range (1*i.size)).map (zv.cells[·%zv.cells.size]!)) [(0,v)]=some v.cells:=by simp only[Instr.fill,Nat.zero_mul];rw[ae (by simp[hlen,J])];have:=qdn v.cells.toList ((Array.range (1*i.size)).map (zv.cells[·%zv.cells.size]!)).toList 0 0;rw[dj,qgX (by simp[hlen,J])] at this;simp only[Array.toArray_toList] at this;refine congrArg some ?_;rw[←Array.foldl_toList,Array.toList_zipIdx];exact this
 have hr:=run_buildSlice (P:=C.P) w t e 1 #[(0,v)] v.cells i zv (qeR hu) (qeF hi) hz (by rw[J];omega) (by rw[J];omega) o;refine⟨.slice (some ⟨w.heap.size,0,none⟩) 1 1,w.alloc (.cells v.cells e),by simp[execOp,I,hr],kR.alloc _,?_⟩;have Y:=al.new w e v.cells;refine qcC (es:=[qaq p]) (news:=v.cells.toList) (by simpa using h1.1) ?_ (cf _) (by unfold maxLen;simp) (by simp;omega) (fun _=>?_) fun t h=>by cases h
 ·have:=R.le (Le.frz hs.hr ((aa.refl All w).alloc (.cells v.cells e)))
  simpa using this
 refine⟨w.heap.size,0,rfl,fun j u hu=>?_⟩;have hc:(w.alloc (.cells v.cells e)).cell? ⟨w.heap.size,0+j,none⟩=some u:=by rw[cN,Y.cell];simpa using hu
 exact⟨.inr ⟨cf _,by simp⟩,hc⟩
theorem qfF {t e:TypeId}{i:TypeInfo}{zv:Value}{j k bw J:Nat}{es o:List (List V)}{I:Option Nat}(hx:ev T x=some (.row k bw es (some j)))(hj:H[j]? =some (.tok e k es.length))(hy:ev T y=some (.row k J o I))(hu:∀w,(underlying t).run C.P w=.ok (.slice e) w)(hi:∀w,(typeInfo e).run C.P w=.ok i w)(hz:i.zero=some zv)(hk:i.size=k)(hb:i.bytes=bw)(R:zv.cells.size=k)(h0:0<k∧0<bw)(h1:∀x∈o.flatten,qbd x=true)(hlen:(es.length+o.length)*bw≤140737488355328):OpS C ⟨dst,.call {callee:=.builtin .append,args:=#[x,y],argTypes:=#[t,t]},ty,pos,af,gd⟩ T H (.row k bw (es++o) (some j)) (H.set j (.tok e k (es.length+o.length))):=fun g a w Y=>by obtain⟨v',w',g',h2,h3,h4,h5⟩:=qdK (P:=C.P) t ty e i zv k bw (qeR hu) (qeF hi) hz hk hb R h0.1 h0.2 Y.hr hj (Y.ev hx) (Y.ev hy) h1 hlen;exact⟨v',w',g',.inl (by simp[execOp,resolve,invoke,builtin,h2]),h3,h4,h5⟩
theorem qeG {t e:TypeId}{i:TypeInfo}{zv:Value}{k bw J:Nat}{o:List (List V)}{I:Option Nat}(hx:ev T x=some (.s (.slice none 0 0)))(hy:ev T y=some (.row k J o I))(hu:∀w,(underlying t).run C.P w=.ok (.slice e) w)(hi:∀w,(typeInfo e).run C.P w=.ok i w)(hz:i.zero=some zv)(hk:i.size=k)(hb:i.bytes=bw)(R:zv.cells.size=k)(h0:0<k∧0<bw)(h1:∀x∈o.flatten,qbd x=true)(hlen:o.length*bw≤140737488355328):OpS C ⟨dst,.call {callee:=.builtin .append,args:=#[x,y],argTypes:=#[t,t]},ty,pos,af,gd⟩ T H (.row k bw o (some H.length)) (H++[.tok e k o.length]):=fun g a w Y=>by obtain⟨g1,l1,r1,v1⟩:=qdx (e:=e) (k:=k) Y.hr;have ex:=(Y.ev hx).of_s;obtain⟨v',w',g',h2,h3,h4,h5⟩:=qdK (P:=C.P) t ty e i zv k bw (qeR hu) (qeF hi) hz hk hb R h0.1 h0.2 r1 (j:=H.length) (es:=[]) (by simp) (v1 bw) ((Y.ev hy).le l1) h1 (by simpa using hlen);refine⟨v',w',g',.inl (by simp[execOp,resolve,invoke,builtin,ex,h2]),l1.trans h3,h4,?_⟩;simpa using h5
theorem qfJ {t e:TypeId}{n k bw lo hi:Nat}{es:List (List V)}{tok:Option Nat}{lx J:Option Operand}(hx:ev T x=some (.row k bw es tok))(j:bnd T lx lo 0)(o:bnd T J hi es.length)(hle:lo≤hi∧hi≤es.length)(hu:∀w,(underlying t).run C.P w=.ok (.slice e) w)(hn:∀w,(sizeOf e).run C.P w=.ok n w)(hk:n=k):za C ⟨dst,.slice t x lx J none,ty,pos,af,gd⟩ T H (.row k bw ((es.take hi).drop lo) none):=fun g a w I=>by
 subst hk;obtain⟨ad,c,news,hv,R,a7,a1,a8,Y⟩:=qcb (I.ev hx);have a6:es.length*bw≤140737488355328∧c≤maxLen:=by
  have h:=I.ev hx;rw[hv] at h;cases h with
  |row _ _ _ _ _ _ f h1 h2 h3=>exact⟨h3,h2⟩
 have hlen:((es.take hi).drop lo).length=hi-lo:=by simp;omega
 have e1:(es.take hi).drop lo=(es.drop lo).take (hi-lo):=by rw[List.drop_take]
 refine⟨.slice (if c=lo then ad else ad.map (·.add (lo*n))) (hi-lo) (c-lo),?_,?_⟩;·(
 skip;have hh:hi≤c:=by omega
 cases lx<;>cases J<;>simp only[bnd] at j o
 ·subst j o
  simp[execOp,hv,Instr.sliceAt,Instr.slice,hu,Instr.sliceBounds,hn]
 ·subst j
  have e2:=(I.ev o).of_s;simp[execOp,hv,Instr.sliceAt,Instr.slice,hu,Instr.sliceBounds,Instr.sliceBound,e2,asIntOf,hh,hn]
 ·subst o
  have e2:=(I.ev j).of_s;simp[execOp,hv,Instr.sliceAt,Instr.slice,hu,Instr.sliceBounds,Instr.sliceBound,e2,asIntOf,hle.1,hn]
 have e2:=(I.ev j).of_s;have e3:=(I.ev o).of_s;simp[execOp,hv,Instr.sliceAt,Instr.slice,hu,Instr.sliceBounds,Instr.sliceBound,e2,e3,asIntOf,hh,hle.1,hn])
 rw[←hlen];refine qcC (news:=(news.take (hi*n)).drop (lo*n)) (fun e he=>R e (List.mem_of_mem_take (List.mem_of_mem_drop he))) ?_ (by rw[hlen];omega) (by omega) ?_ (fun y=>?_) fun t h=>by cases h
 ·(
 have h1:((es.take hi).drop lo).flatten=(es.flatten.take (hi*n)).drop (lo*n):=by
  have hf:∀(l:List (List V)),(∀e∈l,e.length=n)→∀m,(l.take m).flatten=l.flatten.take (m*n)∧(l.drop m).flatten=l.flatten.drop (m*n):=by(
 intro l;induction l with
 |nil=>intro _ m;simp
 |cons a l ih=>
  intro hl m;have ha:=hl a (List.mem_cons_self ..);cases m with
  |zero=>simp
  |succ m=>
   obtain⟨k1,k2⟩:=ih (fun e he=>hl e (List.mem_cons_of_mem _ he)) m;have hle:a.length≤(m+1)*n:=by rw[ha,Nat.succ_mul];omega
   have I:(m+1)*n-n=m*n:=by rw[Nat.succ_mul];omega
   refine⟨?_,?_⟩;·rw[List.take_succ_cons,List.flatten_cons,List.flatten_cons,k1,List.take_append,oF hle,ha,I]
   rw[List.drop_succ_cons,List.flatten_cons,k2,List.drop_append,List.drop_of_length_le hle,ha,I,mF])
  rw[(hf _ (fun e he=>R e (List.mem_of_mem_take he)) lo).2,(hf _ R hi).1]
 rw[h1];exact(a1.take _).drop _)
 ·rw[hlen];exact fR (Nat.mul_le_mul_right _ (by omega)) a6.1
 rw[hlen] at y;obtain⟨b,off,rfl,hc⟩:=Y (by omega);rw[ae (by omega)];refine⟨b,off+lo*n,by simp only[Option.map_some,Addr.add_mid],fun p u hu=>?_⟩;rw[List.getElem?_drop,List.getElem?_take] at hu;split at hu;·rw[Nat.add_assoc];exact hc _ u hu
 cases hu
end
end Q
end
section
namespace Q
def gF (md:Region.Mode):Nat→List Oper→Bool
 |_,[]=>true
 |k,o::l=>(o.after.all fun e=>!Region.binds md e||Nat.blt e.on k)&&gF md (k+1) l
def qdT (md:Region.Mode)(ops:Array Oper):Nat→Nat→List Oper→Bool
 |0,_,_=>true
 |_+1,_,[]=>true
 |m+1,k,o::l=>(l.all fun p=>(p.after.any fun e=>Region.binds md e&&e.on==k)||o.apart ops p)&&qdT md ops m (k+1) l
def qim (l:List Oper)(n:Nat):Bool:=Region.noSelect l.toArray&&(n==l.length||(decide (n<l.length)&&Region.sinkB .any l.toArray n&&Region.chainB .any l.toArray n))&&gF .any 0 l&&qdT .any l.toArray n 0 l
section
variable {md:Region.Mode} {ops:Array Oper}
theorem qey {l:List Oper}{k:Nat}(h:gF md k l=true)(i:Nat)(x:Oper)(j:l[i]? =some x):∀e∈x.after,Region.binds md e=true→e.on<k+i:=by
 induction l generalizing k i with
 |nil=>simp at j
 |cons o l I=>
  simp only[gF,gE] at h;cases i with
  |zero=>
   have e:o=x:=by simpa using j
   subst e;intro y hy C;have:=Array.all_eq_true_iff_forall_mem.1 h.1 y hy;rw[C] at this;simpa using this
  |succ i=>intro y hy C;have:=I h.2 i (by simpa using j) y hy C;omega
theorem qeD {l:List Oper}{m k:Nat}(h:qdT md ops m k l=true)(i:Nat)(x:Oper)(j:Nat)(p:Oper)(hm:i<m)(C:l[i]? =some x)(R:i<j)(I:l[j]? =some p):((p.after.any fun e=>Region.binds md e&&e.on==k+i)||x.apart ops p)=true:=by
 induction l generalizing k i m j with
 |nil=>simp at C
 |cons o l J=>
  cases m with
  |zero=>omega
  |succ m=>
   simp only[qdT,gE] at h;rw[List.getElem?_cons,ae (by omega)] at I;cases i with
   |zero=>
    have e:o=x:=by simpa using C
    subst e;exact List.all_eq_true.1 h.1 p (mG I)
   |succ i=>have:=J h.2 i (j-1) (by omega) (by simpa using C) (by omega) I;rwa [show k+1+i=k+(i+1) by omega] at this
structure Lst (ops:Array Oper)(k:Nat)(listed:Array Bool):Prop where
 size:listed.size=ops.size
 val:∀j,j<ops.size→∀d,listed.getD j d=decide (j<k)
theorem Lst.zero:Lst ops 0 (Array.replicate ops.size false):=⟨by simp,fun j o d=>by simp[Array.getD_eq_getD_getElem?,o]⟩
theorem Lst.succ {k:Nat}{listed:Array Bool}(h:Lst ops k listed)(o:k<ops.size):Lst ops (k+1) (listed.setIfInBounds k true):=⟨by simp[h.size],fun j C d=>by
 have:=h.val j C d;rw[Array.getD_eq_getD_getElem?] at this⊢;by_cases e:k=j;·subst e;simp[h.size,o]
 rw[Array.getElem?_setIfInBounds_ne e,this];exact decide_eq_decide.2 (by omega)⟩
variable {l:List Oper}
theorem qcZ (C:gF md 0 ops.toList=true){k:Nat}{listed:Array Bool}(h:Lst ops k listed)(o:k<ops.size):k∈Region.ready md ops listed:=by
 refine List.mem_filter.2 ⟨fg.2 o,?_⟩;have e:=Array.getElem?_eq_getElem o;rw[h.val k o,e];simp only[Option.map_some,Option.getD_some,gE,Array.all_eq_true_iff_forall_mem,Nat.lt_irrefl,decide_false,Bool.not_false,true_and];intro x I;by_cases j:Region.binds md x=true
 ·have:=qey C k _ (by rw[Array.getElem?_toList];exact e) x I j
  rw[h.val x.on (by omega)];simp;omega
 simp[j]
theorem qda {k i:Nat}{listed:Array Bool}(h:Lst ops k listed)(hi:i<k):i∉Region.ready md ops listed:=fun hm=>by obtain⟨h1,j⟩:=List.mem_filter.1 hm;rw[h.val i (fg.1 h1)] at j;simp[hi] at j
theorem qgE (I:gF md 0 ops.toList=true){n:Nat}(J:∀t,n<t→t<ops.size→Region.waitsFor md ops t (t-1)=true):∀(g k:Nat) (listed:Array Bool),n≤k→k+g=ops.size→Lst ops k listed→Region.seqB md ops g k listed=true
 |0,k,listed,Y,hk,h=>by simp only[Region.seqB,List.isEmpty_iff];refine List.eq_nil_iff_forall_not_mem.2 fun i hi=>qda h (i:=i) ?_ hi;have:=fg.1 (List.mem_filter.1 hi).1;omega
 |g+1,k,listed,Y,hk,h=>by(
 simp only[Region.seqB,gE,qal];refine⟨?_,qgE I J g (k+1) _ (by omega) (by omega) (h.succ (by omega))⟩;have hm:=qcZ I h (by omega);have hu:∀i∈Region.ready md ops listed,i=k:=fun i hi=>by(
 have h1:=fg.1 (List.mem_filter.1 hi).1;by_cases e:i<k;·exact absurd hi (qda h e)
 by_cases e2:i=k;·exact e2
 have o:=(List.mem_filter.1 hi).2;obtain⟨oj,e3,x,hx,C,e4⟩:=Region.waitsFor_spec (J i (by omega) h1);rw[e3] at o;simp only[Option.map_some,Option.getD_some,gE,Array.all_eq_true_iff_forall_mem] at o;have R:=o.2 x hx;rw[C,h.val x.on (by omega)] at R;simp at R;omega)
 have j:(Region.ready md ops listed).Nodup:=List.Pairwise.filter _ List.nodup_range;generalize Region.ready md ops listed=L at hm hu j
 match L,hm,hu,j with
 | [a],_,hu,_=>rw[hu a (by simp)]
 |a::b::L,_,hu,j=>have h1:=hu a (by simp);have o:=hu b (by simp);simp[h1,o] at j)
theorem qgj (o:gF md 0 ops.toList=true){n:Nat}(C:qdT md ops n 0 ops.toList=true)(Y:n≤ops.size)(I:∀t,n<t→t<ops.size→Region.waitsFor md ops t (t-1)=true):∀(f k:Nat) (listed:Array Bool),f+k=n→Lst ops k listed→Region.lexHead md ops (ops.size-n) f k listed=true
 |0,k,listed,hk,h=>qgE o I _ k listed (by omega) (by omega) h
 |f+1,k,listed,hk,h=>by(
 simp only[Region.lexHead,gE];refine⟨⟨by simp[qcZ o h (show k<ops.size by omega)],?_⟩,qgj o C Y I f (k+1) _ (by omega) (h.succ (by omega))⟩;have e:=Array.getElem?_eq_getElem (xs:=ops) (i:=k) (by omega);simp only[Region.free,e,List.all_eq_true,fg];intro j J;rw[h.val j J];have R:=Array.getElem?_eq_getElem J;rcases Nat.lt_trichotomy j k with h1|h1|h1;·simp[h1]
 ·simp[h1]
 have:=qeD C k ops[k] j ops[j] (by omega) (by rw[Array.getElem?_toList];exact e) h1 (by rw[Array.getElem?_toList];exact R);rw[cN] at this;rw[R];simp only[this,Bool.or_true])
end
theorem qfL {l:List Oper}{n:Nat}(h:qim l n=true):yZ .any l.toArray n=true:=by
 simp only[qim,gE,Bool.or_eq_true,cy,qal] at h;obtain⟨⟨⟨h1,j⟩,C⟩,I⟩:=h;have J:n≤l.toArray.size:=by rcases j with h|h<;>simp<;>omega
 have R:∀t,n<t→t<l.toArray.size→Region.waitsFor .any l.toArray t (t-1)=true:=fun t Y o=>by
  rcases j with h|⟨_,h⟩;·simp at o;omega
  have:=List.all_eq_true.1 h t (fg.2 o);simpa [show¬t≤n by omega] using this
 simp only[yZ,gE,Bool.or_eq_true,cy,qal];exact⟨⟨h1,by simpa using j⟩,qgj (by simpa using C) (by simpa using I) J R n 0 _ rfl Lst.zero⟩
end Q
end
end Go.Proofs.YtgdlhckhpolnnaaGreatDoor
