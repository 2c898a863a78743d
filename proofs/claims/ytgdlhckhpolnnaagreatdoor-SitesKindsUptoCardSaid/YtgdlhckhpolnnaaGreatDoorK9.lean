/- Part 10 of the proof (its last part says what is proved). No condition. -/
import Derived.Deep.CutBlock
import Derived.Test.YtgdlhckhpolnnaaGreatDoorK8
namespace Go.Proofs.YtgdlhckhpolnnaaGreatDoor
set_option maxRecDepth 100000
set_option maxHeartbeats 8000000
open Go.RowKit Go.Proofs.Tryz
section
def dR {α:Type}(n:Nat)(e:TypeId)(E:cO α)(B:Nat)(w:World)(v:Value)(l:List α):Prop:=
 ∃(j:List (List Value)) (P:Nat→Prop),w.ownsRow B e n v l.length j.flatten∧j.length=l.length∧(∀cs∈j,cs.length=n)∧(∀b,P b→B≤b∧b<w.heap.size∧v.ownBlock≠some b)∧
  ∀(i:Nat) x,l[i]? =some x→∃cs,j[i]? =some cs∧E P w cs x
section
variable {α:Type} {n:Nat} {e:TypeId} {E:cO α} {B:Nat} {w w':World} {v:Value} {l:List α}
theorem dR.nil:dR n e E B w (.slice none 0 0) ([]:List α):=
 ⟨[],fun _=>False,⟨by simp,.inl ⟨rfl,rfl⟩⟩,rfl,(fun _ h=>by cases h),fun _ h=>h.elim,fun i x h=>by simp at h⟩
theorem dR.form (h:dR n e E B w v l):∃A c,v=.slice A l.length c:=by
 obtain⟨j,P,o,_⟩:=h;rcases o.2 with ⟨rfl,C⟩|⟨g,cap,cur,rfl,_⟩;·exact⟨none,0,by rw[C]⟩
 exact⟨_,_,rfl⟩
theorem dR.own (h:dR n e E B w v l):∃xs,w.ownsRow B e n v l.length xs:=by obtain⟨j,P,o,_⟩:=h;exact⟨_,o⟩
theorem dR.keep (g:cO.Good E){S:Nat→Prop}(h:dR n e E B w v l)(k:aa S w w')(I:∀b,B≤b→b<w.heap.size→S b):dR n e E B w' v l:=by
 obtain⟨C,P,J,R,Y,o,h5⟩:=h;refine⟨C,P,be J k fun b j=>?_,R,Y,fun b j=>?_,fun i x hx=>?_⟩
 ·have:=aD J j
  exact I b this.1 this.2
 ·have:=o b j
  have:=k.size;exact⟨by omega,by omega,(o b j).2.2⟩
 obtain⟨cs,hc,he⟩:=h5 i x hx;exact⟨cs,hc,g.keep (k.mono fun b j=>I b (o b j).1 (o b j).2.1) he⟩
theorem dR.app (g:cO.Good E){o:List (List Value)}{J:Value}{cs:List Value}{x:α}{Q:Nat→Prop}
 (hl:o.length=l.length) (hn:∀c∈o,c.length=n) (R:cs.length=n)
 (P:Nat→Prop) (hP:∀b,P b→B≤b∧b<w.heap.size∧v.ownBlock≠some b) (hE:∀(i:Nat) x,l[i]? =some x→∃cs,o[i]? =some cs∧E P w cs x)
 (hQ:∀b,Q b→B≤b∧b<w.heap.size∧v.ownBlock≠some b) (hx:E Q w cs x)
 (Y:w'.ownsRow B e n J (l.length+1) (o.flatten++cs)) (hg:w.grownBy w' v.ownBlock) (a7:J.ownBlock=v.ownBlock∨J.ownBlock=some w.heap.size):dR n e E B w' J (l++[x]):=by
 have a1:aa P w w':=(aa.refl _ w).grown hg fun b j=>.inl fun h=>(hP b h).2.2 j;have a8:aa Q w w':=(aa.refl _ w).grown hg fun b j=>.inl fun h=>(hQ b h).2.2 j;have a6:∀b,B≤b∧b<w.heap.size∧v.ownBlock≠some b→B≤b∧b<w'.heap.size∧J.ownBlock≠some b:=by(
 intro b j;have:=a1.size;refine⟨j.1,by omega,?_⟩;rcases a7 with h|h;·rw[h];exact j.2.2
 rw[h];intro h';injection h' with h';omega)
 refine⟨o++[cs],fun b=>P b∨Q b,?_,by simp[hl],fun c C=>?_,fun b j=>?_,fun i y I=>?_⟩
 ·rw[List.flatten_append,List.flatten_singleton,iQ,List.length_singleton]
  exact Y
 ·rcases eD.1 C with C|C
  ·exact hn c C
  rw[cx.1 C];exact R
 ·rcases j with j|j
  ·exact a6 b (hP b j)
  exact a6 b (hQ b j)
 by_cases hi:i<l.length
 ·rw[ma hi] at I
  obtain⟨c,C,he⟩:=hE i y I;exact⟨c,by rw[ma (by omega)];exact C,g.wide (fun b j=>.inl j) (g.keep a1 he)⟩
 rw[kH (by omega)] at I;have hz:i-l.length=0:=by have:=(lS.1 I).1;simp at this;omega
 rw[hz] at I;cases I;exact⟨cs,by rw[kH (by omega),hl,hz];rfl,g.wide (fun b j=>.inr j) (g.keep a8 hx)⟩
theorem wN:∀(o:List (List Value)),(∀c∈o,c.length=n)→∀(i:Nat) cs,o[i]? =some cs→∀(j:Nat) u,cs[j]? =some u→o.flatten[i*n+j]? =some u
 | [],_,i,cs,h,_,_,_=>by simp at h
 |c::o,C,0,cs,h,j,u,hu=>by cases h;rw[List.flatten_cons,Nat.zero_mul,cN,ma (lS.1 hu).1];exact hu
 |c::o,C,i+1,cs,h,j,u,hu=>by have I:=C c (List.mem_cons_self ..);have J:=wN o (fun d R=>C d (List.mem_cons_of_mem _ R)) i cs (by simpa using h) j u hu;rw[List.flatten_cons,kH (by rw[I,Nat.succ_mul];omega),I,show(i+1)*n+j-n=i*n+j by rw[Nat.succ_mul];omega];exact J
theorem dR.read {bw:Nat}(g:cO.Good E)(h:dR n e E B w v l)(I:l.length*bw≤140737488355328):rx n bw E (fun b=>B≤b∧b<w.heap.size) w v l:=by
 obtain⟨R,P,Y,h2,h3,h4,h5⟩:=h;obtain⟨hlen,Y⟩:=Y;rcases Y with ⟨rfl,h0⟩|⟨gb,cap,cur,rfl,a1,hh,hc,hm,a8,a6⟩
 ·have:l=[]:=oD h0
  subst this;exact rx.nil
 refine⟨_,_,rfl,hc,hm,I,fun i x hx=>?_⟩;obtain⟨cs,C,hE⟩:=h5 i x hx;have o:∀(j:Nat) u,cs[j]? =some u→w.cell? ⟨gb,0+i*n+j,none⟩=some u:=by(
 intro j u hu;have J:=wN R h3 i cs C j u hu;rw[cN,al.cell (w:=w) (t:=e) (cs:=cur) hh,←Array.getElem?_toList];rw[←a6] at J;have a7:i*n+j<l.length*n:=by have:=(lS.1 J).1;rw[fN] at this;omega
 rw[rY a7] at J;exact J)
 refine⟨gb,0,cs,rfl,⟨a1,(mV.1 hh).1⟩,h3 cs (mG C),o,g.wide (fun b I=>⟨(h4 b I).1,(h4 b I).2.1⟩) hE⟩
theorem bN {P:Program}(w:World){ops:Array Oper}{rest:List Oper}{o:Oper}{a:Act}{Q:Exit→Act→World→Prop}(g:cO.Good E)(a8:o.guard=none)(s x:Operand)(t:TypeId)
 (ho:o.op=.call {callee:=.builtin .append,args:=#[s,x],argTypes:=#[t,t]})
 (i:TypeInfo) (z:Value) (bytes:Nat) (ht:P.underlying t=some (.slice e)) (hi:P.info? e=some i) (hz:i.zero=some z)
 (J:i.size=n) (b0:i.bytes=bytes) (b1:z.cells.size=n) (b2:0<n)
 (v:Value) (l:List α) (hs:a.eval s=v) (a6:dR n e E B w v l) (b off c:Nat) (hx:a.eval x=.slice (some ⟨b,off,none⟩) 1 c) (cs:List Value) (y:α) (a7:cs.length=n)
 (R:∀(j:Nat) u,cs[j]? =some u→w.cell? ⟨b,off+j,none⟩=some u) (h1:∀u∈cs,u.oneCell'=true) (hl:l.length≤1000000000) (C:bytes≤10000) (Y:B≤w.heap.size)
 (Qp:Nat→Prop) (hQ:∀b,Qp b→B≤b∧b<w.heap.size∧v.ownBlock≠some b) (hE:E Qp w cs y)
 (h:∀A c w',dR n e E B w' (.slice A (l.length+1) c) (l++[y])→w.grownBy w' v.ownBlock→(∀b,v.ownBlock=some b→B≤b)→wpList P ops Q rest (a.put o.dst (.slice A (l.length+1) c)) w'):wpList P ops Q (o::rest) a w:=by
 obtain⟨b3,Pp,r1,r2,r3,r4,r5⟩:=a6;have hb:(l.length+1)*bytes≤1000000001*10000:=Nat.mul_le_mul (by omega) C;refine aR w a8 s x t ho B e i z n bytes ht hi hz J b0 b1 b2 v l.length b3.flatten hs r1 (some ⟨b,off,none⟩) 1 c cs hx (by rw[a7,Nat.one_mul]) (fun _=>⟨b,off,rfl,R⟩) h1 (by unfold maxLen;omega) (by omega) Y fun v' w' I hg b4=>?_;have a1:=dR.app g r2 r3 a7 Pp r4 r5 hQ hE I hg b4;obtain⟨A,c',rfl⟩:=aU I;exact h A c' w' a1 hg fun b hb=>(aD r1 hb).1
end
end
theorem Bh (s:ByteArray)(w:World):Calls prog 93 #[.string s] w fun e w'=>e=.returned (.string s)∧aa All w w':=by go_enter func93,ntmps93;go_wp2;go_ret;exact⟨rfl,kR⟩
theorem Bi (s:ByteArray)(j:Nat)(o:ByteArray)(p q:Value)(Nj:Int)(w:World)(C:al w j 110 #[.string o,p,q,.int .i64 Nj]):
 Calls prog 94 #[.string s,.pointer (some ⟨j,0,none⟩)] w fun e w'=>e=.returned (.int .i64 Nj)∧aa All w w':=by
 have c3:=C.cl 3;go_enter func94,ntmps94;go_wp2;go_ret;exact⟨rfl,kR⟩
theorem GR (j:ByteArray)(o:Option Addr)(C I:Nat)(J:Option Addr)(R Y:Nat)(Nj:Int)(w:World):Calls prog 52 #[.agg #[.string j,.slice o C I,.slice J R Y,.int .i64 Nj]] w fun e w'=>e=.returned (.string j)∧aa All w w':=by go_enter func52,ntmps52;go_wp2;go_ret;exact⟨rfl,kR.alloc _⟩
theorem GS (j:ByteArray)(o:Option Addr)(C I:Nat)(J:Option Addr)(R Y:Nat)(Nj:Int)(w:World):Calls prog 53 #[.agg #[.string j,.slice o C I,.slice J R Y,.int .i64 Nj]] w fun e w'=>e=.returned (.int .i64 Nj)∧aa All w w':=by go_enter func53,ntmps53;go_wp2;go_ret;exact⟨rfl,kR.alloc _⟩
theorem Bj (j:ByteArray)(o:Option Addr)(C I:Nat)(Nj:Int)(w:World):Calls prog 96 #[.agg #[.string j,.slice o C I,.int .i64 Nj]] w fun e w'=>e=.returned (.string j)∧aa All w w':=by go_enter func96,ntmps96;go_wp2;go_ret;exact⟨rfl,kR.alloc _⟩
theorem Bk (j:ByteArray)(o:Option Addr)(C I:Nat)(Nj:Int)(w:World):Calls prog 97 #[.agg #[.string j,.slice o C I,.int .i64 Nj]] w fun e w'=>e=.returned (.int .i64 Nj)∧aa All w w':=by go_enter func97,ntmps97;go_wp2;go_ret;exact⟨rfl,kR.alloc _⟩
theorem kB {l:List ByteArray}{s:ByteArray}(h:l.Nodup)(j:s∉l):(l++[s]).Nodup:=by rw[List.nodup_append];exact⟨h,by simp,fun a o b C e=>by rw[cx.1 C] at e;exact j (e▸o)⟩
theorem jR {l:List ByteArray}{k:Nat}{s:ByteArray}(I:l[k]? =some s)(hm:s∈l.take k):¬l.Nodup:=by intro h;obtain⟨i,hi⟩:=List.getElem?_of_mem hm;have j:=(lS.1 hi).1;rw[fN] at j;rw[rY (by omega)] at hi;have o:=lS.1 hi;have C:=lS.1 I;have:=(List.getElem_inj (h₀:=o.1) (h₁:=C.1) h).1 (o.2.trans C.2.symm);omega
def rU (l:List ByteArray)(w:World)(e:Ending)(w':World):Prop:=ql l.Nodup (fun e w'=>∃b,e=.returned (.map (some b))∧cK w' b l∧w.heap.size≤b∧b<w'.heap.size∧aa All w w') w e w'
theorem am {w w':World}(h:aa (fun b=>b<w.heap.size) w w'):aa All w w':=⟨h.os,h.output,h.size,fun k j _=>h.block k j j⟩
theorem un (S:Nat→Prop)(v:Value)(l:List ByteArray)(bf:Nat)(nm:ByteArray)(p q:Value)(Nj:Int)(w:World)(hv:gB S w v l)(hf:al w bf 110 #[.string nm,p,q,.int .i64 Nj])(c9:aV Nj)(hl:l.length≤900000)(b5:∀s∈l,s.size≤140737488355328):
 Calls prog 92 #[v,.func (.func 93) #[] #[],.func (.func 94) #[] #[.pointer (some ⟨bf,0,none⟩)]] w (rU l w):=by
 have b6:=ax.la hv;obtain⟨A1,c1,rfl,l1,l2,l3,_⟩:=hv;unfold maxLen at l2;have HV:=oH b6;clear b6;obtain⟨W0,R⟩:=eQ (w.alloc (.map #[] 0));have b7:cK W0 w.heap.size []:=by rw[R];exact cK.new w
 have b8:=aC1 R;have b9:=aD1 R;have HF:=J2 hf b5;clear hf b5;have H0:=J4 R b7 b8 b9;clear R b7 b8 b9;have d7:=@run_makeMap prog;go_enter func92,ntmps92;go_upto_region 2 with fail;clear d7;rw[←H0.1];go_wp2_with fail;go_loopg [15] l.length (fun g d8 wr=>∃j:Nat,j≤l.length∧g=l.length-j∧d8=.int .i64 j∧aa (fun b=>b≠w.heap.size) W0 wr∧cK wr w.heap.size (l.take j)∧(l.take j).Nodup);·exact⟨0,by omega,by omega,rfl,kR,H0.2.1,by simp⟩
 obtain⟨j,hj,rfl,rfl,Y,hm,a1⟩:=hrel;have J:aa All w wr:=am (H0.2.2.1.all.trans (Y.mono fun b hb=>by show b≠_;omega));by_cases d9:j<l.length;·(
 obtain⟨s,hs⟩:=eG d9;obtain⟨bb,o,cc,rfl,e3,e4,rfl⟩:=bn (HV.out wr J) hs;have e5:=HF.2 s (mG hs);have c0:l[j]? =some s:=hs;obtain⟨W1,b0⟩:=eQ wr;have b1:aa All wr W1:=by rw[b0];exact kR
 have HA:=J2 (fun wn=>Bh s wn) (fun wn (hk:aa All W1 wn)=>Bi s bf nm p q Nj wn (((HF.1.kept J trivial).kept b1 trivial).kept hk trivial));have e0:=oH (show aV Nj from c9);have HR:=J7 Y hm a1 J c0 b0 b1;clear Y hm a1 J c0 b0 b1;go_upto_region 5 with fail;skip;go_wp2_with fail;refine(HA.1 _).mono ?_;rintro e w2 ⟨rfl,b2⟩;have a6:aa All wr w2:=b2;have c4:aa All W1 w2:=by rw[HR.2.2.2.2.2.1];exact b2
 have b3:=HR.2.1.keep a6 trivial;have a7:=b3.look (s:=s) (by unfold maxLen;omega);have H2:=J3 a6 c4 b3;clear a6 c4 b3 b2;obtain⟨r,hr⟩:=eR (aO (l.take j) s);rw[hr] at a7;by_cases C:0≤r;·rw[Int.max_eq_left C,bL C] at a7;have HN:=oH (fun h:l.Nodup=>jR HR.2.2.2.2.1 (cm.1 (by rw[hr];exact C)) h);clear hr C;go_wp2_with fail;refine(HA.2 _ H2.2.1).mono ?_;rintro e w3 ⟨rfl,I⟩;have c5:=oH I;clear I;go_wp2_with (go_at_call 48;refine(fP _ _ _).mono ?_;rintro e w4 ⟨rfl,rfl⟩);exact⟨rfl,.inr ⟨HN.out,⟨Nj,9,by decide,e0.out,by unfold aV;omega,rfl⟩,(HR.2.2.2.1.trans H2.1).trans c5.out⟩⟩
 rw[cI C] at a7;have HN:=J2 (show aO (l.take j) s<0 by rw[hr];omega) (show¬(s∈l.take j) from fun h=>by have:=cm.2 h;omega);clear hr C;go_wp2_with fail;refine(HA.2 _ H2.2.1).mono ?_;rintro e w3 ⟨rfl,I⟩;have c5:=oH (H2.2.1.trans I);have e1:=oH (H2.2.2.keep I trivial);have e2:=oH (H2.1.trans I);clear I a7;go_wp2_with (go_at_call 48;refine(dX _ _ _).mono ?_;rintro e w4 ⟨rfl,rfl⟩);refine(HA.1 _).mono ?_;rintro e w5 ⟨rfl,b4⟩;have a8:(l.take j).length=j:=by rw[fN];omega
 have c6:=J2 (e1.out.keep b4 trivial) (e2.out.trans b4);clear b4;go_wp2_with (at_mapUpdate;go_loud (refine gN rfl _ _ _ rfl w.heap.size _ rfl c6.1 (by rw[a8];omega) _ rfl (by rw[a8];rfl) (by unfold maxLen;omega) HN.1 ?_;intro w6 c7 c8;have H6:=J2 c7 c8;clear c7 c8));go_roundg (l.length-(j+1))
 ·have e:l.take (j+1)=l.take j++[s]:=by rw[cU,HR.2.2.2.2.1];rfl
  refine⟨j+1,by omega,rfl,by go_num,(HR.1.trans c6.2.all).grown H6.2 fun b hb=>.inl fun h=>h (by injection hb with hb;exact hb.symm),?_,?_⟩;·rw[e];exact H6.1
  rw[e];exact kB HR.2.2.1 HN.2
 omega)
 obtain rfl:j=l.length:=by omega
 rw[oF (by simp)] at hm a1;have HR:=J4 Y hm a1 J;clear Y hm a1 J;go_wp2_with fail;go_ret;have:=HR.1.size;have:=H0.2.2.2;exact .inl ⟨HR.2.2.1,_,rfl,HR.2.1,by omega,by omega,HR.2.2.2⟩
theorem um (S:Nat→Prop)(v:Value)(l:List cD)(w:World)(hv:BC S w v l)(hl:l.length≤900000):
 Calls prog 51 #[v,.func (.func 52) #[] #[],.func (.func 53) #[] #[]] w (rU (l.map fun x=>x.name) w):=by
 have b7:=iX.la hv;obtain⟨A1,c1,rfl,l1,l2,l3,_⟩:=hv;unfold maxLen at l2;have HV:=oH b7;clear b7;obtain⟨W0,Y⟩:=eQ (w.alloc (.map #[] 0));have b8:cK W0 w.heap.size []:=by rw[Y];exact cK.new w
 have b9:=aC1 Y;have c0:=aD1 Y;have H0:=J4 Y b8 b9 c0;clear Y b8 b9 c0;have d8:=@run_makeMap prog;go_enter func51,ntmps51;go_upto_region 2 with fail;clear d8;rw[←H0.1];go_wp2_with fail;go_loopg [15] l.length (fun g d9 wr=>∃j:Nat,j≤l.length∧g=l.length-j∧d9=.int .i64 j∧aa (fun b=>b≠w.heap.size) W0 wr∧cK wr w.heap.size ((l.map fun x=>x.name).take j)∧((l.map fun x=>x.name).take j).Nodup);·exact⟨0,by omega,by omega,rfl,kR,H0.2.1,by simp⟩
 obtain⟨j,hj,rfl,rfl,a1,hm,a6⟩:=hrel;have a7:aa All w wr:=am (H0.2.2.1.all.trans (a1.mono fun b hb=>by show b≠_;omega));by_cases e0:j<l.length;·(
 obtain⟨x,hx⟩:=eG e0;obtain⟨bb,o,cs,rfl,e8,e9,hc,vp,vb,rfl,e1,e2,e3,e4,_⟩:=aZ (HV.out wr a7) hx;obtain⟨p1,p3,rfl,_⟩:=e1;obtain⟨q1,q3,rfl,_⟩:=e2;have z0:=hc 0 _ rfl;rw[dj] at z0;have z1:=hc 1 _ rfl;have z2:=hc 2 _ rfl;have z3:=hc 3 _ rfl;have c4:(l.map fun x=>x.name)[j]? =some x.name:=by rw[cL,hx];rfl
 have h0:=e4;obtain⟨W1,b0⟩:=eQ (wr.alloc (.cells #[.string x.name,.slice p1 x.params.length p3,.slice q1 x.Ng.length q3,.int .i64 x.Nj] 110));have c5:=aC1 b0;have b1:=aA0 b0;have c6:∀wn,aa All W1 wn→∀i,wn.cell? ⟨wr.heap.size,i,none⟩=(#[.string x.name,.slice p1 x.params.length p3,.slice q1 x.Ng.length q3,.int .i64 x.Nj]:Array Value)[i]?:=fun wn hk i=>(b1.kept hk trivial).cell i;have HA:=J2 (fun wn=>GR x.name p1 x.params.length p3 q1 x.Ng.length q3 x.Nj wn) (fun wn (_:aa All W1 wn)=>GS x.name p1 x.params.length p3 q1 x.Ng.length q3 x.Nj wn);have R:=oH c6;have e5:=oH (show aV x.Nj from e3);clear c6 b1 hc;have HR:=J7 a1 hm a6 a7 c4 b0 c5;clear a1 hm a6 a7 c4 b0 c5;go_upto_region 5 with fail;rw[←HR.2.2.2.2.2.1];have g0:=R.out W1 kR 0;have g1:=R.out W1 kR 1;have g2:=R.out W1 kR 2;have g3:=R.out W1 kR 3;simp only[gc] at g0 g1 g2 g3;go_wp2_with fail;refine(HA.1 _).mono ?_;rintro e w2 ⟨rfl,b4⟩;have a8:aa All wr w2:=HR.2.2.2.2.2.2.trans b4;have c7:aa All W1 w2:=b4;have b5:=HR.2.1.keep a8 trivial;have b2:=b5.look (s:=x.name) (by unfold maxLen;omega);have H2:=J3 a8 c7 b5;clear a8 c7 b5 b4;have k0:=R.out w2 (H2.2.1) 0;have k1:=R.out w2 (H2.2.1) 1;have k2:=R.out w2 (H2.2.1) 2;have k3:=R.out w2 (H2.2.1) 3;simp only[gc] at k0 k1 k2 k3;obtain⟨r,hr⟩:=eR (aO ((l.map fun x=>x.name).take j) x.name);rw[hr] at b2;by_cases C:0≤r;·rw[Int.max_eq_left C,bL C] at b2;have HN:=oH (fun h:(l.map fun x=>x.name).Nodup=>jR HR.2.2.2.2.1 (cm.1 (by rw[hr];exact C)) h);clear hr C;go_wp2_with fail;refine(HA.2 _ H2.2.1).mono ?_;rintro e w3 ⟨rfl,I⟩;have J:=oH I;clear I;go_wp2_with (go_at_call 48;refine(fP _ _ _).mono ?_;rintro e w4 ⟨rfl,rfl⟩);exact⟨rfl,.inr ⟨HN.out,⟨x.Nj,9,by decide,e5.out,by unfold aV;omega,rfl⟩,(HR.2.2.2.1.trans H2.1).trans J.out⟩⟩
 rw[cI C] at b2;have HN:=J2 (show aO ((l.map fun x=>x.name).take j) x.name<0 by rw[hr];omega) (show¬(x.name∈(l.map fun x=>x.name).take j) from fun h=>by have:=cm.2 h;omega);clear hr C;go_wp2_with fail;refine(HA.2 _ H2.2.1).mono ?_;rintro e w3 ⟨rfl,I⟩;have J:=oH (H2.2.1.trans I);have e6:=oH (H2.2.2.keep I trivial);have e7:=oH (H2.1.trans I);clear I b2;have m0:=R.out w3 (J.out) 0;have m1:=R.out w3 (J.out) 1;have m2:=R.out w3 (J.out) 2;have m3:=R.out w3 (J.out) 3;simp only[gc] at m0 m1 m2 m3;go_wp2_with (go_at_call 48;refine(dX _ _ _).mono ?_;rintro e w4 ⟨rfl,rfl⟩);refine(HA.1 _).mono ?_;rintro e w5 ⟨rfl,b6⟩;have b3:((l.map fun x=>x.name).take j).length=j:=by rw[fN,ce];omega
 have c8:=J2 (e6.out.keep b6 trivial) (e7.out.trans b6);clear b6;go_wp2_with (at_mapUpdate;go_loud (refine gN rfl _ _ _ rfl w.heap.size _ rfl c8.1 (by rw[b3];omega) _ rfl (by rw[b3];rfl) (by unfold maxLen;omega) HN.1 ?_;intro w6 c9 d7;have H6:=J2 c9 d7;clear c9 d7));go_roundg (l.length-(j+1))
 ·have e:(l.map fun x=>x.name).take (j+1)=(l.map fun x=>x.name).take j++[x.name]:=by rw[cU,HR.2.2.2.2.1];rfl
  refine⟨j+1,by omega,rfl,by go_num,(HR.1.trans c8.2.all).grown H6.2 fun b hb=>.inl fun h=>h (by injection hb with hb;exact hb.symm),?_,?_⟩;·rw[e];exact H6.1
  rw[e];exact kB HR.2.2.1 HN.2
 omega)
 obtain rfl:j=l.length:=by omega
 rw[oF (by simp)] at hm a6;have HR:=J4 a1 hm a6 a7;clear a1 hm a6 a7;go_wp2_with fail;go_ret;have:=HR.1.size;have:=H0.2.2.2;exact .inl ⟨HR.2.2.1,_,rfl,HR.2.1,by omega,by omega,HR.2.2.2⟩
theorem ul (S:Nat→Prop)(v:Value)(l:List eS)(w:World)(hv:mJ S w v l)(hl:l.length≤900000):
 Calls prog 95 #[v,.func (.func 96) #[] #[],.func (.func 97) #[] #[]] w (rU (l.map fun x=>x.name) w):=by
 have b6:=eH.la hv;obtain⟨A1,c1,rfl,l1,l2,l3,_⟩:=hv;unfold maxLen at l2;have HV:=oH b6;clear b6;obtain⟨W0,J⟩:=eQ (w.alloc (.map #[] 0));have b7:cK W0 w.heap.size []:=by rw[J];exact cK.new w
 have b8:=aC1 J;have b9:=aD1 J;have H0:=J4 J b7 b8 b9;clear J b7 b8 b9;have d7:=@run_makeMap prog;go_enter func95,ntmps95;go_upto_region 2 with fail;clear d7;rw[←H0.1];go_wp2_with fail;go_loopg [15] l.length (fun g d8 wr=>∃j:Nat,j≤l.length∧g=l.length-j∧d8=.int .i64 j∧aa (fun b=>b≠w.heap.size) W0 wr∧cK wr w.heap.size ((l.map fun x=>x.name).take j)∧((l.map fun x=>x.name).take j).Nodup);·exact⟨0,by omega,by omega,rfl,kR,H0.2.1,by simp⟩
 obtain⟨j,hj,rfl,rfl,R,hm,Y⟩:=hrel;have a1:aa All w wr:=am (H0.2.2.1.all.trans (R.mono fun b hb=>by show b≠_;omega));by_cases d9:j<l.length;·(
 obtain⟨x,hx⟩:=eG d9;obtain⟨bb,o,cs,rfl,e6,e7,hc,vb,rfl,e0,e1,e2⟩:=aZ (HV.out wr a1) hx;obtain⟨q1,q3,rfl,_⟩:=e0;have z0:=hc 0 _ rfl;rw[dj] at z0;have z1:=hc 1 _ rfl;have z2:=hc 2 _ rfl;have c0:(l.map fun x=>x.name)[j]? =some x.name:=by rw[cL,hx];rfl
 have e8:=e2;obtain⟨W1,a8⟩:=eQ (wr.alloc (.cells #[.string x.name,.slice q1 x.code.length q3,.int .i64 x.Nj] 135));have c4:=aC1 a8;have b1:=aA0 a8;have c5:∀wn,aa All W1 wn→∀i,wn.cell? ⟨wr.heap.size,i,none⟩=(#[.string x.name,.slice q1 x.code.length q3,.int .i64 x.Nj]:Array Value)[i]?:=fun wn hk i=>(b1.kept hk trivial).cell i;have HA:=J2 (fun wn=>Bj x.name q1 x.code.length q3 x.Nj wn) (fun wn (_:aa All W1 wn)=>Bk x.name q1 x.code.length q3 x.Nj wn);have HC:=oH c5;have e3:=oH (show aV x.Nj from e1);clear c5 b1 hc;have HR:=J7 R hm Y a1 c0 a8 c4;clear R hm Y a1 c0 a8 c4;go_upto_region 5 with fail;rw[←HR.2.2.2.2.2.1];have g0:=HC.out W1 kR 0;have g1:=HC.out W1 kR 1;have g2:=HC.out W1 kR 2;simp only[gc] at g0 g1 g2;go_wp2_with fail;refine(HA.1 _).mono ?_;rintro e w2 ⟨rfl,b3⟩;have a6:aa All wr w2:=HR.2.2.2.2.2.2.trans b3;have c6:aa All W1 w2:=b3;have b4:=HR.2.1.keep a6 trivial;have b0:=b4.look (s:=x.name) (by unfold maxLen;omega);have H2:=J3 a6 c6 b4;clear a6 c6 b4 b3;have k0:=HC.out w2 (H2.2.1) 0;have k1:=HC.out w2 (H2.2.1) 1;have k2:=HC.out w2 (H2.2.1) 2;simp only[gc] at k0 k1 k2;obtain⟨r,hr⟩:=eR (aO ((l.map fun x=>x.name).take j) x.name);rw[hr] at b0;by_cases C:0≤r;·rw[Int.max_eq_left C,bL C] at b0;have HN:=oH (fun h:(l.map fun x=>x.name).Nodup=>jR HR.2.2.2.2.1 (cm.1 (by rw[hr];exact C)) h);clear hr C;go_wp2_with fail;refine(HA.2 _ H2.2.1).mono ?_;rintro e w3 ⟨rfl,I⟩;have a7:=oH I;clear I;go_wp2_with (go_at_call 48;refine(fP _ _ _).mono ?_;rintro e w4 ⟨rfl,rfl⟩);exact⟨rfl,.inr ⟨HN.out,⟨x.Nj,9,by decide,e3.out,by unfold aV;omega,rfl⟩,(HR.2.2.2.1.trans H2.1).trans a7.out⟩⟩
 rw[cI C] at b0;have HN:=J2 (show aO ((l.map fun x=>x.name).take j) x.name<0 by rw[hr];omega) (show¬(x.name∈(l.map fun x=>x.name).take j) from fun h=>by have:=cm.2 h;omega);clear hr C;go_wp2_with fail;refine(HA.2 _ H2.2.1).mono ?_;rintro e w3 ⟨rfl,I⟩;have a7:=oH (H2.2.1.trans I);have e4:=oH (H2.2.2.keep I trivial);have e5:=oH (H2.1.trans I);clear I b0;have m0:=HC.out w3 (a7.out) 0;have m1:=HC.out w3 (a7.out) 1;have m2:=HC.out w3 (a7.out) 2;simp only[gc] at m0 m1 m2;go_wp2_with (go_at_call 48;refine(dX _ _ _).mono ?_;rintro e w4 ⟨rfl,rfl⟩);refine(HA.1 _).mono ?_;rintro e w5 ⟨rfl,b5⟩;have b2:((l.map fun x=>x.name).take j).length=j:=by rw[fN,ce];omega
 have c7:=J2 (e4.out.keep b5 trivial) (e5.out.trans b5);clear b5;go_wp2_with (at_mapUpdate;go_loud (refine gN rfl _ _ _ rfl w.heap.size _ rfl c7.1 (by rw[b2];omega) _ rfl (by rw[b2];rfl) (by unfold maxLen;omega) HN.1 ?_;intro w6 c8 c9;have H6:=J2 c8 c9;clear c8 c9));go_roundg (l.length-(j+1))
 ·have e:(l.map fun x=>x.name).take (j+1)=(l.map fun x=>x.name).take j++[x.name]:=by rw[cU,HR.2.2.2.2.1];rfl
  refine⟨j+1,by omega,rfl,by go_num,(HR.1.trans c7.2.all).grown H6.2 fun b hb=>.inl fun h=>h (by injection hb with hb;exact hb.symm),?_,?_⟩;·rw[e];exact H6.1
  rw[e];exact kB HR.2.2.1 HN.2
 omega)
 obtain rfl:j=l.length:=by omega
 rw[oF (by simp)] at hm Y;have HR:=J4 R hm Y a1;clear R hm Y a1;go_wp2_with fail;go_ret;have:=HR.1.size;have:=H0.2.2.2;exact .inl ⟨HR.2.2.1,_,rfl,HR.2.1,by omega,by omega,HR.2.2.2⟩
theorem AC {p:aH}{k:Nat}{s:ByteArray}(h:p.MZ[k]? =some s):0≤eZ p s:=by unfold eZ gJ;have:p.MZ.any (fun y=>y.toList==s.toList)=true:=mW.2 ⟨s,mG h,by simp⟩;rw[ap this];omega
theorem Bs {S:Nat→Prop}{w:World}{A:Option Addr}{n c:Nat}{l:List ByteArray}(h:gB S w (.slice A n c) l){i:Nat}{s:ByteArray}(hi:l[i]? =some s):∃b o,A=some ⟨b,o,none⟩∧S b∧w.cell? ⟨b,o+i,none⟩=some (.string s):=by obtain⟨a,cap,j,_,_,_,h⟩:=h;injection j with C R Y;subst C;obtain⟨b,o,c',e,I,J,rfl⟩:=h i _ hi;exact⟨b,o,e,I,J⟩
def pk (p:aH)(i:Nat)(s:ByteArray):Prop:=aB s=true∧eZ p s=i
theorem mo (S:Nat→Prop)(v:Value)(p:aH)(w:World)(hv:dJ S w v p)(hl:gz w):
 Calls prog 45 #[v] w fun e w'=>e=.returned (.bool (pB (dD p)))∧aa All w w':=by
 have b3:=hv;obtain⟨a,b,c,d,rfl,h1,h2,h3,h4,h5⟩:=hv;have c6:=h1;have c7:=h2;obtain⟨a1,a8,rfl,k1,k2,k3,_⟩:=h1;obtain⟨a2,b0,rfl,m1,m2,m3,_⟩:=h2;unfold maxLen at k2 m2;have c8:aa All w (w.alloc (.cells #[.slice a1 p.MZ.length a8,.slice a2 p.up.length b0,c,d,.int .i64 p.Nc] 26)):=(aa.refl All w).alloc _;have c9:al (w.alloc (.cells #[.slice a1 p.MZ.length a8,.slice a2 p.up.length b0,c,d,.int .i64 p.Nc] 26)) w.heap.size 26 #[.slice a1 p.MZ.length a8,.slice a2 p.up.length b0,c,d,.int .i64 p.Nc]:=al.new _ _ _;have b6:=fun wn (hk:aa All w wn)=>wU S _ p.up wn (dU.keep hk.all c7) (hl.keep hk);have b7:=fun wn s (hk:aa All w wn)=>qB S _ p s wn (cB.keep hk.all b3);have d7:=fun wn (hk:aa All w wn)=>qU S S _ _ p p.Nb wn (cB.keep hk.all b3) (aX.keep hk.all h3);have b8:=fun wn (hk:aa All w wn)=>qU S S _ _ p p.Na wn (cB.keep hk.all b3) (aX.keep hk.all h4);obtain⟨d1,d2⟩:=rs h5;have Y:=J6 c6 b7 d7 b8 c8 c9;have b4:=oH b6;obtain⟨ai,h8,rfl,_⟩:=h3;obtain⟨ao,h9,rfl,_⟩:=h4;clear c6 c7 b7 d7 b8 c8 c9 b6 b3 hl h5;go_enter func45,ntmps45;by_cases hlen:p.MZ.length=p.up.length;·(
 have e8:((p.up.length:Int) !=(p.MZ.length:Int))=false:=by simp[hlen]
 by_cases hL:ue p.up;·(
 have c1:=oH (av hL);by_cases d8:p.Nc<1
 ·have e9:decide (p.Nc<1)=true:=by simpa using d8
  have J:=oH (au (P:=dD p) fun h=>by have:=h.2.2.1;omega);have HE:=oH hlen;clear hlen hL;go_wp2_with (go_at_call 76;refine(b4.out _ Y.2.2.2.2.1).mono ?_;rw[c1.out];rintro e w1 ⟨rfl,I⟩;have j:=Y.2.2.2.2.2.kept I trivial;have c4:=j.cell 4;simp only[gc] at c4;have H1:=J2 I j;clear I j);go_ret;exact⟨by rw[J.out];rfl,Y.2.2.2.2.1.trans H1.1⟩
 have e9:decide (p.Nc<1)=false:=by simpa using d8
 by_cases d9:64<p.Nc
 ·have h0:decide (64<p.Nc)=true:=by simpa using d9
  have J:=oH (au (P:=dD p) fun h=>by have:=h.2.2.2.1;omega);have HE:=oH hlen;clear hlen hL;go_wp2_with (go_at_call 76;refine(b4.out _ Y.2.2.2.2.1).mono ?_;rw[c1.out];rintro e w1 ⟨rfl,I⟩;have j:=Y.2.2.2.2.2.kept I trivial;have c4:=j.cell 4;simp only[gc] at c4;have H1:=J2 I j;clear I j);go_ret;exact⟨by rw[J.out];rfl,Y.2.2.2.2.1.trans H1.1⟩
 have h0:decide (64<p.Nc)=false:=by simpa using d9
 have HP:Hid ((∀(i:Nat) s,p.MZ[i]? =some s→pk p i s)∧cE p p.Nb∧cE p p.Na↔dD p):=oH ⟨fun h=>⟨hlen,hL,by omega,by omega,h.1,h.2.1,h.2.2⟩,fun h=>⟨h.2.2.2.2.1,h.2.2.2.2.2.1,h.2.2.2.2.2.2⟩⟩;have HE:=oH hlen;clear hlen hL;go_wp2_with (go_at_call 76;refine(b4.out _ Y.2.2.2.2.1).mono ?_;rw[c1.out];rintro e w1 ⟨rfl,I⟩;have j:=Y.2.2.2.2.2.kept I trivial;have c4:=j.cell 4;have c0:=j.cell 0;simp only[gc] at c4 c0;have H1:=J2 I j;clear I j);clear c4 c0;go_loopg [33] p.MZ.length (fun g i wr=>∃k:Nat,k≤p.MZ.length∧g=p.MZ.length-k∧i=.int .i64 k∧aa All w1 wr∧∀(i:Nat) s,i<k→p.MZ[i]? =some s→pk p i s);·exact⟨0,by omega,by omega,rfl,kR,fun i s hi=>by omega⟩
 obtain⟨k,hk,rfl,rfl,b5,b9⟩:=hrel;have e0:=(Y.2.2.2.2.1.trans H1.1).trans b5;have j:=H1.2.kept b5 trivial;obtain⟨j0,j1,j2,j3,j4⟩:=j.c5;have HA:=J4 b5 b9 e0 j;clear b5 b9 e0 j;by_cases e1:k<p.MZ.length;·(
 obtain⟨s,hs⟩:=eG e1;obtain⟨bb,o,rfl,_,hc⟩:=Bs (ax.keep (S:=S) HA.2.2.1.all Y.1) hs;have b1:=AC hs;have c5:=Y.2.1 wr s HA.2.2.1;have h6:=kT (fun x:ByteArray=>x.toList==s.toList) p.MZ;rw[show gJ (fun x:ByteArray=>x.toList==s.toList) p.MZ=eZ p s from rfl] at h6;rw[show lH (eZ p s)=.tuple #[.int .i64 (eZ p s),.bool true] by rw[lH,Int.max_eq_left b1,bL b1]] at c5;have a6:pk p k s↔aB s=true∧eZ p s=k:=Iff.rfl;have e2:=fun wn=>vK s wn;have HC:=J3 c5 e2 hs;clear c5 e2 hs;generalize aB s=nm at*;generalize eZ p s=r at*;cases nm with
 |false=>
  have J:=oH (au (P:=dD p) fun h=>by have:=a6.1 ((HP.2 h).1 k s HC.2.2);exact Bool.noConfusion this.1);clear a6
  go_wp2_with (first
   |(go_at_call 49;refine HC.1.mono ?_;rintro e w2 ⟨rfl,C⟩;have H2:=oH C;clear C)
   |(go_at_call 72;refine(HC.2.1 _).mono ?_;rintro e w3 ⟨rfl,R⟩;have H3:=oH R;clear R))
  go_ret;exact⟨by rw[J.out];rfl,(HA.2.2.1.trans H2.out).trans H3.out⟩
 |true=>
  by_cases a7:r=(k:Int);·(
 have hx:(r !=(k:Int))=false:=by simpa using a7
 have e3:=oH (a6.2 ⟨rfl,a7⟩);clear a6 a7
 go_wp2_with (first
  |(go_at_call 49;refine HC.1.mono ?_;rintro e w2 ⟨rfl,C⟩;have H2:=oH C;clear C)
  |(go_at_call 72;refine(HC.2.1 _).mono ?_;rintro e w3 ⟨rfl,R⟩;have H3:=oH R;clear R))
 go_roundg (p.MZ.length-(k+1))
 ·refine⟨k+1,by omega,rfl,by go_num,(HA.1.trans H2.out).trans H3.out,fun i t hi ht=>?_⟩
  by_cases e:i=k;·subst e;rw[HC.2.2] at ht;cases ht;exact e3.out
  exact HA.2.1 i t (by omega) ht
 omega)
  have hx:(r !=(k:Int))=true:=by simpa using a7
  have J:=oH (au (P:=dD p) fun h=>by have:=a6.1 ((HP.2 h).1 k s HC.2.2);exact a7 this.2);clear a6 a7
  go_wp2_with (first
   |(go_at_call 49;refine HC.1.mono ?_;rintro e w2 ⟨rfl,C⟩;have H2:=oH C;clear C)
   |(go_at_call 72;refine(HC.2.1 _).mono ?_;rintro e w3 ⟨rfl,R⟩;have H3:=oH R;clear R))
  go_ret;exact⟨by rw[J.out];rfl,(HA.2.2.1.trans H2.out).trans H3.out⟩)
 obtain rfl:k=p.MZ.length:=by omega
 have b2:∀(i:Nat) s,p.MZ[i]? =some s→pk p i s:=fun i s hs=>HA.2.1 i s (lS.1 hs).1 hs;have e4:=oH (kC (P:=dD p) (Q:=cE p p.Nb∧cE p p.Na) ⟨fun h=>(HP.2 h).2,fun h=>HP.1 ⟨b2,h⟩⟩);have HX:=oH (AK (P:=cE p p.Nb) (Q:=cE p p.Na));have e5:=Y.2.2.1 wr HA.2.2.1;have e6:=Y.2.2.2.1;generalize pB (cE p p.Nb)=bi at*;generalize pB (cE p p.Na)=bo at*;have HC:=J2 e5 e6;clear e5 e6 b2 hk e1;cases bi with
 |false=>go_wp2_with fail;refine HC.1.mono ?_;rintro e w2 ⟨rfl,C⟩;have H2:=oH C;clear C;go_wp2_with fail;go_ret;exact⟨by rw[e4.out,HX.out];rfl,HA.2.2.1.trans H2.out⟩
 |true=>go_wp2_with fail;refine HC.1.mono ?_;rintro e w2 ⟨rfl,C⟩;have e7:=HA.2.2.2.kept C trivial;obtain⟨j5,j6,j7,j8,j9⟩:=e7.c5;have H2:=oH (HA.2.2.1.trans C);clear C e7;go_wp2_with fail;refine(HC.2 w2 H2.out).mono ?_;rintro e w3 ⟨rfl,R⟩;have H3:=oH (H2.out.trans R);clear R;go_wp2_with fail;go_ret;exact⟨by rw[e4.out,HX.out,Bool.true_and];rfl,H3.out⟩)
 have h7:=oH (au hL);have J:=oH (au (P:=dD p) fun h=>hL h.2.1);have HE:=oH hlen;clear hlen hL;go_wp2_with (go_at_call 76;refine(b4.out _ Y.2.2.2.2.1).mono ?_;rw[h7.out];rintro e w1 ⟨rfl,I⟩;have H1:=oH I;clear I);go_ret;exact⟨by rw[J.out];rfl,Y.2.2.2.2.1.trans H1.out⟩)
 have e8:((p.up.length:Int) !=(p.MZ.length:Int))=true:=by simp;omega
 have J:=oH (au (P:=dD p) fun h=>hlen h.1);clear hlen;go_wp2_with fail;go_ret;exact⟨by rw[J.out];rfl,Y.2.2.2.2.1⟩
theorem gT (s:ByteArray)(w:World):Calls prog 88 #[.string s] w fun e w'=>e=.returned (.bool (aB s))∧aa All w w':=by
 have j:=yL s w;have hw:=fun w=>zC s w;unfold aB;cases h:dW s with
 |true=>rw[h] at j;have C:=J2 j hw;clear j hw h;generalize jv s=b at*;go_enter func88,ntmps88;go_wp2_with (first|(go_at_call 132;refine C.1.mono ?_;rintro e J ⟨rfl,o⟩;have I:=oH o;clear o)|(go_at_call 133;refine(C.2 _).mono ?_;rintro e w' ⟨rfl,rfl⟩));go_ret;exact⟨by simp,I.out⟩
 |false=>rw[h] at j;have C:=oH j;clear j hw h;go_enter func88,ntmps88;go_wp2_with (go_at_call 132;refine C.out.mono ?_;rintro e J ⟨rfl,o⟩;have I:=oH o;clear o);go_ret;exact⟨rfl,I.out⟩
def cC (l:List ByteArray):Prop:=∀s∈l,aB s=true
theorem wh {l:List ByteArray}:cC l↔∀(i:Nat) s,l[i]? =some s→aB s=true:=
 ⟨fun h _ _ j=>h _ (mG j),fun h s j=>by obtain⟨i,hi⟩:=cY.1 j;exact h i s hi⟩
theorem nw (S:Nat→Prop)(v:Value)(l:List ByteArray)(w:World)(hv:gB S w v l):Calls prog 152 #[v] w fun e w'=>e=.returned (.bool (pB (cC l)))∧aa All w w':=by
 have a1:=hv;obtain⟨A,cap,rfl,h1,h2,h3,_⟩:=hv;unfold maxLen at h2;have HV:=oH a1;clear a1;go_enter func152,ntmps152;go_wp2;go_loopg [7] l.length (fun g i wr=>∃k:Nat,k≤l.length∧g=l.length-k∧i=.int .i64 k∧aa All w wr∧∀(i:Nat) s,i<k→l[i]? =some s→aB s=true);·exact⟨0,by omega,by omega,rfl,kR,fun i s hi=>by omega⟩
 obtain⟨k,hk,rfl,rfl,J,C⟩:=hrel;have HA:=J2 J C;by_cases a6:k<l.length;·(
 obtain⟨s,R⟩:=eG a6;obtain⟨bb,o,rfl,_,hc⟩:=Bs (ax.keep (S:=S) J.all HV.out) R;clear J C;have j:=gT s wr;have HS:=oH R;clear R;cases Y:aB s with
 |true=>
  rw[Y] at j;have HN:=J2 Y j;clear Y j;go_wp2_with (go_at_call 88;refine HN.2.mono ?_;rintro e w1 ⟨rfl,I⟩;have H1:=oH I;clear I);go_roundg (l.length-(k+1))
  ·refine⟨k+1,by omega,rfl,by go_num,HA.1.trans H1.out,fun i t hi ht=>?_⟩;by_cases e:i=k;·subst e;rw[HS.out] at ht;cases ht;exact HN.1
   exact HA.2 i t (by omega) ht
  omega
 |false=>rw[Y] at j;have a7:=oH (au (P:=cC l) fun h=>by have:=h s (mG HS.out);rw[Y] at this;cases this);have HN:=oH j;clear Y j;go_wp2_with (go_at_call 88;refine HN.out.mono ?_;rintro e w1 ⟨rfl,I⟩;have H1:=oH I;clear I);go_ret;exact⟨by rw[a7.out];rfl,HA.1.trans H1.out⟩)
 obtain rfl:k=l.length:=by omega
 clear J C;have HY:=oH (av (P:=cC l) (wh.2 fun i s R=>HA.2 i s (lS.1 R).1 R));go_wp2;go_ret;exact⟨by rw[HY.out];rfl,HA.1⟩
theorem jY (s:ByteArray):s.toList.isEmpty=decide (s=gR):=by have h:=cM (x:=s) (y:=gR);rw[Bool.eq_iff_iff,decide_eq_true_iff,←h];simp[gR]
theorem lE (s:ByteArray)(b:Bool)(w:World):Calls prog 201 #[.string s,.bool b] w fun e w'=>e=.returned (.bool (pB (fS s b)))∧aa All w w':=by
 cases b with
 |true=>
  have J:=gT s w;have j:fS s true↔aB s=true:=by unfold fS;rw[ap rfl]
  generalize aB s=R at*;have C:=J2 J j;clear J j;cases R with
  |true=>have HR:=oH (av (C.2.2 rfl));go_enter func201,ntmps201;go_wp2_with (go_at_call 88;refine C.1.mono ?_;rintro e Y ⟨rfl,o⟩;have I:=oH o;clear o);go_ret;exact⟨by rw[HR.out];rfl,I.out⟩
  |false=>have HR:=oH (au (P:=fS s true) fun h=>Bool.noConfusion (C.2.1 h));go_enter func201,ntmps201;go_wp2_with (go_at_call 88;refine C.1.mono ?_;rintro e Y ⟨rfl,o⟩;have I:=oH o;clear o);go_ret;exact⟨by rw[HR.out];rfl,I.out⟩
 |false=>
  have j:fS s false↔s=gR:=by unfold fS;rw[ae oG]
  have HR:Hid (pB (fS s false)=decide (s=gR)):=oH (by
   by_cases h:s=gR;·rw[bL h];exact av (j.2 h)
   rw[cI h];exact au fun h'=>h (j.1 h'))
  clear j;go_enter func201,ntmps201;go_wp2_with fail;go_ret;exact⟨by rw[HR.out,←jY];simp,kR⟩
end Go.Proofs.YtgdlhckhpolnnaaGreatDoor
