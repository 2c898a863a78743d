/- Part 41 of the proof (its last part says what is proved). No condition. -/
import Derived.Test.YtccbbkopmlnkpaaGreatDoorK29
import Derived.Test.YtccbbkopmlnkpaaGreatDoorK37
import Derived.Test.YtccbbkopmlnkpaaGreatDoorK39
namespace Go.Proofs.YtccbbkopmlnkpaaGreatDoor
set_option maxRecDepth 100000
set_option maxHeartbeats 8000000
open Go.RowKit Go.Proofs.Tryz
theorem mE (s:ByteArray)(q:cf)(at_ er:Int)(w:World)(hq:rl s=some q)(ht:∀l,fO s (s.size+1) 0=some l→l.length≤4096)(R:mx cU q)(Y:il (iu cU q))(a8:iH (iu cU q))(a6:(kV cU (iu cU q)).2=(at_,er))(hl:cP w)(hm:pk w):
 Calls prog 22 #[.string s] w fun e w'=>e=.returned (.tuple #[.int .i64 at_,.int .i64 er])∧aa All w w':=by
 have HL:=J2 hl hm;have HQ:=J6 hq ht R Y a8 a6;clear hl hm hq ht R Y a8 a6;go_enter func22,ntmps22;go_upto_region 1 with fail;go_wp2_with fail;refine(yL w HL.1 HL.2).mono ?_;rintro e w1 ⟨b0,v,rfl,hp⟩;have j:=hp;obtain⟨e5,vu,vi,vo,rfl,c7,c8,c9,d7,d8⟩:=hp;obtain⟨a1,n1,rfl,_⟩:=c7;obtain⟨a2,n2,rfl,_⟩:=c8;obtain⟨a3,n3,rfl,_⟩:=c9;obtain⟨a4,n4,rfl,_⟩:=d7;clear d8;change gR _ _ (.agg #[.slice a1 cU.Ng.length n1,.slice a2 cU.up.length n2,.slice a3 cU.Ni.length n3,.slice a4 cU.Nh.length n4,.int .i64 cU.Nj]) _ at j;have H1:=J2 b0 (bG.wide (T:=fun b=>b<w1.heap.size) (fun b o=>o.2) j);clear b0 j;go_upto_region 2 with fail;have k2:aa All w1 (w1.alloc (.cells #[.slice a1 cU.Ng.length n1,.slice a2 cU.up.length n2,.slice a3 cU.Ni.length n3,.slice a4 cU.Nh.length n4,.int .i64 cU.Nj] 26)):=kR.alloc _;have b2:al (w1.alloc (.cells #[.slice a1 cU.Ng.length n1,.slice a2 cU.up.length n2,.slice a3 cU.Ni.length n3,.slice a4 cU.Nh.length n4,.int .i64 cU.Nj] 26)) w1.heap.size 26 #[.slice a1 cU.Ng.length n1,.slice a2 cU.up.length n2,.slice a3 cU.Ni.length n3,.slice a4 cU.Nh.length n4,.int .i64 cU.Nj]:=al.new _ _ _;obtain⟨pb,b3⟩:=eQ w1.heap.size;rw[←b3] at b2⊢;generalize w1.alloc _=W2 at*;have H2:=J3 (H1.1.trans k2) (bG.keep k2.all H1.2) b2;have d9:=oH k2.size;clear k2 b2 b3;go_wp2_with fail;refine(Dy s q W2 HQ.1 HQ.2.1 (HL.1.keep H2.1)).mono ?_;rintro e w3 ⟨J,v,rfl,hq⟩;have C:=hq;obtain⟨e6,e7,rfl,e0,e3⟩:=hq;obtain⟨b1,m1,rfl,_⟩:=e0;obtain⟨b2,m2,rfl,_⟩:=e3;have H3:=J4 J (lf.wide (T:=fun b=>b<w3.heap.size) (fun b o=>o.2) C) (H2.2.2.kept J trivial) (bG.keep J.all H2.2.1);clear J C;go_upto_region 3 with fail;have k4:aa All w3 (w3.alloc (.cells #[.slice b1 q.Nk.length m1,.slice b2 q.Nl.length m2] 81)):=kR.alloc _;have b4:al (w3.alloc (.cells #[.slice b1 q.Nk.length m1,.slice b2 q.Nl.length m2] 81)) w3.heap.size 81 #[.slice b1 q.Nk.length m1,.slice b2 q.Nl.length m2]:=al.new _ _ _;obtain⟨qb,b5⟩:=eQ w3.heap.size;rw[←b5] at b4⊢;generalize w3.alloc _=W4 at*;have b7:=k4.size;have H4:=J5 ((H2.1.trans H3.1).trans k4) (bG.keep k4.all H3.2.2.2) (lf.keep k4.all H3.2.1) (H3.2.2.1.kept k4 trivial) b4;have HS:=oH (show w1.heap.size≤W4.heap.size∧w3.heap.size≤W4.heap.size from by have h1:=d9.out;have h2:=H3.1.size;exact⟨by omega,b7⟩);clear k4 b4 b5 b7;obtain⟨c0,c1,c2,c3,c4⟩:=H4.2.2.2.1.c5;obtain⟨t0,t1⟩:=H4.2.2.2.2.c2;have j:=bG.wide (T:=fun b=>b<W4.heap.size) (fun b o=>Nat.lt_of_lt_of_le o HS.1) H4.2.1;have C:=lf.wide (T:=fun b=>b<W4.heap.size) (fun b o=>Nat.lt_of_lt_of_le o HS.2) H4.2.2.1;have HR:=oH (rm _ _ _ cU q W4 j C (HL.1.keep H4.1) (fun b o=>o));have e4:=oH j;clear j C;go_wp2_with fail;refine HR.out.mono ?_;rintro e w5 ⟨b8,d1,l1,e1,d2,l2,e2,m,x5,n5,rfl,_,a7⟩;obtain⟨rfl,I⟩:=a7 HQ.2.2.1;have H5:=J2 b8 (fJ.wide (T:=fun b=>b<w5.heap.size) (fun b o=>o.2) I);clear b8 a7 I;go_upto_region 4 with fail;have k6:aa All w5 (w5.alloc (.cells #[.slice d1 l1 e1,.slice d2 l2 e2,.int .i64 m] 30)):=kR.alloc _;have b6:al (w5.alloc (.cells #[.slice d1 l1 e1,.slice d2 l2 e2,.int .i64 m] 30)) w5.heap.size 30 #[.slice d1 l1 e1,.slice d2 l2 e2,.int .i64 m]:=al.new _ _ _;obtain⟨cb,b9⟩:=eQ w5.heap.size;rw[←b9] at b6⊢;generalize w5.alloc _=W6 at*;have c5:=J2 H5.1.size k6.size;have H6:=J5 ((H4.1.trans H5.1).trans k6) (H4.2.2.2.1.kept (H5.1.trans k6) trivial) b6 (bG.keep (H5.1.trans k6).all e4.out) (fJ.keep k6.all H5.2);clear k6 b6 b9 c0 c1 c2 c3 c4 t0 t1;obtain⟨c0,c1,c2,c3,c4⟩:=H6.2.1.c5;obtain⟨t0,t1,t2⟩:=H6.2.2.1.c3;have j:=bG.wide (T:=fun b=>b<W6.heap.size) (fun b o=>by have:=c5.out;show b<W6.heap.size;have o:b<W4.heap.size:=o;omega) H6.2.2.2.1;have I:=fJ.wide (T:=fun b=>b<W6.heap.size) (fun b o=>Nat.lt_of_lt_of_le o c5.2) H6.2.2.2.2;have HC:=oH (tJ _ _ _ cU (iu cU q) W6 j I (HL.1.keep H6.1) (fun b o=>o) Lm HQ.2.2.2.2.1 (vt (p:=cU) names HQ.2.2.2.1));clear j I;go_upto_region 6 with fail;go_wp2_with fail;refine HC.out.mono ?_;rintro e w7 ⟨rfl,c6⟩;have HK:=oH (H6.1.trans c6);clear c6;have hc:=HQ.2.2.2.2.2;obtain⟨x,y⟩:=eQ (kV cU (iu cU q));rw[←y] at hc⊢;have he:x=(x.1,at_,er):=by rw[←hc]
 rw[he];clear he hc y;go_wp2_with fail;go_ret2;exact⟨rfl,HK.out⟩
theorem tC:rl BJ=some (lr BJ)∧rl CP=some (lr CP)∧rl Fy=some (lr Fy):=⟨by kernel_rfl,by kernel_rfl,by kernel_rfl⟩
theorem Hh:(∀l,fO BJ (BJ.size+1) 0=some l→l.length≤4096)∧(∀l,fO CP (CP.size+1) 0=some l→l.length≤4096)∧(∀l,fO Fy (Fy.size+1) 0=some l→l.length≤4096):=of_decide_eq_true (by kernel_rfl)
theorem Cy (w:World)(J:cP w)(hm:pk w):Calls prog 11 #[] w fun e w'=>e=.returned (.bool true)∧aa All w w':=by obtain⟨x0,R⟩:∃x:Int,(kV cU (iu cU (lr BJ))).2=(x,0):=⟨0,by rw[show iu cU (lr BJ)=jX BJ from rfl,ML]⟩;obtain⟨x1,Y⟩:∃x:Int,(kV cU (iu cU (lr CP))).2=(x,19):=⟨(kV cU (jX CP)).2.1,Prod.ext rfl MM⟩;have h0:=fun wn (j:aa All w wn)=>mE BJ _ x0 0 wn tC.1 Hh.1 ⟨At,wR.1,tD.1⟩ Gp.1 MT.1 R (J.keep j) (hm.keep j);have h1:=fun wn (j:aa All w wn)=>mE CP _ x1 19 wn tC.2.1 Hh.2.1 ⟨At,wR.2.1,tD.2.1⟩ Gp.2.1 MT.2.1 Y (J.keep j) (hm.keep j);have h2:=fun wn (j:aa All w wn)=>mE Fy _ 15 17 wn tC.2.2 Hh.2.2 ⟨At,wR.2.2,tD.2.2⟩ Gp.2.2 MT.2.2 MN (J.keep j) (hm.keep j);have H:=J3 h0 h1 h2;clear h0 h1 h2 J hm R Y;go_enter func11,ntmps11;go_upto_region 1 with fail;go_wp2_with fail;refine(H.1 w kR).mono ?_;rintro e w1 ⟨rfl,o⟩;have H1:=oH o;clear o;go_wp2_with fail;refine(H.2.1 w1 H1.out).mono ?_;rintro e w2 ⟨rfl,C⟩;have H2:=oH (H1.out.trans C);clear C;go_wp2_with fail;refine(H.2.2 w2 H2.out).mono ?_;rintro e w3 ⟨rfl,I⟩;have H3:=oH (H2.out.trans I);clear I;go_wp2_with fail;go_ret;exact⟨rfl,H3.out⟩



def Bm (lo:Nat)(l:List (List Int))(E:List Int)(t:Tmp)(v:Value)(wn:World):Prop:=if t=9 then Rows (fun b=>lo≤b) wn v l else bu (fun b=>lo≤b) wn v E
theorem Bm.keep {lo:Nat}{l:List (List Int)}{E:List Int}{wn j:World}(o:aa All wn j)(t:Tmp){v:Value}(h:Bm lo l E t v wn):Bm lo l E t v j:=by
 unfold Bm at h⊢;split;·rename_i e;rw[am e] at h;exact aE.keep o.all h
 rename_i e;rw[ah e] at h;exact ae.keep o.all h
theorem ve {S:Nat→Prop}{w:World}{v:Value}{l:List Int}(h:bu S w v l):bu (fun b=>S b∧b<w.heap.size) w v l:=by obtain⟨A,c,e,o,C,I,J⟩:=h;refine⟨A,c,e,o,C,I,fun i x R=>?_⟩;obtain⟨b,off,u,Y,e2,j,e4⟩:=J i x R;exact⟨b,off,u,Y,⟨e2,gx w _ j⟩,j,e4⟩
def yD (x:bI)(a f:Value):List Value:=[.int .u8 x.kind,.int .u8 x.op,.int .i64 x.dst,.int .i64 x.ref,.int .i64 x.No,a,f,.int .i64 x.num,.int .i64 x.Np]
def kK (g lo j:Nat)(hf:Bool)(w:World)(l:List bI):Prop:=∃cur,al w g 40 cur∧∀(k:Nat) y,l[k]? =some y→∃a f,
 (∀(r:Nat) u,(yD y a f)[r]? =some u→cur[k*9+r]? =some u)∧bu (fun b=>((k<j∨(k=j∧hf=true))→lo≤b)∧b≠g) w a y.args∧bu (fun b=>(k<j→lo≤b)∧b≠g) w f y.Nn∧Cp y
theorem kK.keep {g lo j:Nat}{I:Bool}{w o:World}{l:List bI}{S:Nat→Prop}(h:kK g lo j I w l)(k:aa S w o)(R:∀b,b<w.heap.size→S b):kK g lo j I o l:=by obtain⟨cur,Y,h2⟩:=h;have C:aa All w o:=⟨k.os,k.output,k.size,fun b J _=>k.block b J (R b J)⟩;refine⟨cur,Y.kept C trivial,fun k y hy=>?_⟩;obtain⟨a,f,e1,e2,e3,e4⟩:=h2 k y hy;exact⟨a,f,e1,ae.keep C.all e2,ae.keep C.all e3,e4⟩
theorem kK.get {g lo j:Nat}{C:Bool}{w:World}{l:List bI}(h:kK g lo j C w l){k:Nat}{x:bI}(I:l[k]? =some x):∃a f,(∀(r:Nat) u,(yD x a f)[r]? =some u→w.cell? ⟨g,k*9+r,none⟩=some u)∧(∀r,w.frozen? ⟨g,k*9+r,none⟩=false)∧bu (fun b=>b≠g) w a x.args∧bu (fun b=>b≠g) w f x.Nn:=by obtain⟨cur,o,J⟩:=h;obtain⟨a,f,R,Y,e3,e4⟩:=J k x I;exact⟨a,f,fun r u hu=>by rw[o.cell];exact R r u hu,fun r=>o.free _,ae.wide (fun _ h=>h.2) Y,ae.wide (fun _ h=>h.2) e3⟩
theorem rL {cur:Array Value}{i j:Nat}{u v:Value}(h:cur[j]? =some v)(o:i≠j):(cur.setIfInBounds i u)[j]? =some v:=by rw[Array.getElem?_setIfInBounds_ne o];exact h
theorem GW {cur:Array Value}{i:Nat}{u v:Value}(h:cur[i]? =some v):(cur.setIfInBounds i u)[i]? =some u:=by rw[Array.getElem?_setIfInBounds_self_of_lt (kT.1 h).1]
theorem rH {y:bI}{a f:Value}{r:Nat}{u:Value}(h:(yD y a f)[r]? =some u):r<9:=(lS.1 h).1
theorem Le {y:bI}{a f j:Value}{r:Nat}{u:Value}(h:(yD y j f)[r]? =some u)(o:r≠5):(yD y a f)[r]? =some u:=by have:=rH h;rcases r with _|_|_|_|_|_|_|_|_|r<;>first|exact h|omega
theorem Lf {y:bI}{a f j:Value}{r:Nat}{u:Value}(h:(yD y a j)[r]? =some u)(o:r≠6):(yD y a f)[r]? =some u:=by have:=rH h;rcases r with _|_|_|_|_|_|_|_|_|r<;>first|exact h|omega
theorem kK.args {g lo j:Nat}{w:World}{l:List bI}{x:bI}{u:Value}(h:kK g lo j false w l)(hx:l[j]? =some x)(hu:bu (fun b=>lo≤b∧b≠g) w u x.args):kK g lo j true (w.setCell ⟨g,j*9+5,none⟩ u) l:=by
 obtain⟨cur,h1,h2⟩:=h;have J:aa (fun b=>b≠g) w (w.setCell ⟨g,j*9+5,none⟩ u):=(aa.refl _ w).setCell (p:=⟨g,j*9+5,none⟩) (.inl fun h=>h rfl) _;refine⟨_,h1.set _ _,fun k y R=>?_⟩;obtain⟨a,f,Y,e2,e3,e4⟩:=h2 k y R;by_cases C:k=j
 ·subst C;rw[hx] at R;cases R;refine⟨u,f,fun r v I=>?_,ae.wide (fun b o=>⟨fun _=>o.1,o.2⟩) (ae.keep (J.mono fun b o=>o.2) hu),ae.keep (J.mono fun b o=>o.2) e3,e4⟩;by_cases hr:r=5
  ·subst hr
   cases I;exact GW (Y 5 a rfl)
  exact rL (Y r v (Le I hr)) (by omega)
 refine⟨a,f,fun r v I=>?_,ae.wide (fun b o=>⟨fun h=>o.1 (h.elim .inl fun h=>absurd h.1 C),o.2⟩) (ae.keep (J.mono fun b o=>o.2) e2),ae.keep (J.mono fun b o=>o.2) e3,e4⟩;have:=rH I;exact rL (Y r v I) (by omega)
theorem kK.Nn {g lo j:Nat}{w:World}{l:List bI}{x:bI}{u:Value}(h:kK g lo j true w l)(hx:l[j]? =some x)(hu:bu (fun b=>lo≤b∧b≠g) w u x.Nn):kK g lo (j+1) false (w.setCell ⟨g,j*9+6,none⟩ u) l:=by
 obtain⟨cur,h1,h2⟩:=h;have I:aa (fun b=>b≠g) w (w.setCell ⟨g,j*9+6,none⟩ u):=(aa.refl _ w).setCell (p:=⟨g,j*9+6,none⟩) (.inl fun h=>h rfl) _;refine⟨_,h1.set _ _,fun k y J=>?_⟩;obtain⟨a,f,R,e2,e3,e4⟩:=h2 k y J;by_cases Y:k=j
 ·subst Y;rw[hx] at J;cases J;refine⟨a,u,fun r v C=>?_,ae.wide (fun b o=>⟨fun _=>o.1 (.inr ⟨rfl,rfl⟩),o.2⟩) (ae.keep (I.mono fun b o=>o.2) e2),ae.wide (fun b o=>⟨fun _=>o.1,o.2⟩) (ae.keep (I.mono fun b o=>o.2) hu),e4⟩;by_cases hr:r=6
  ·subst hr
   cases C;exact GW (R 6 f rfl)
  exact rL (R r v (Lf C hr)) (by omega)
 refine⟨a,f,fun r v C=>?_,ae.wide (fun b o=>⟨fun h=>o.1 (h.elim (fun h=>.inl (by omega)) fun h=>by cases h.2),o.2⟩) (ae.keep (I.mono fun b o=>o.2) e2),ae.wide (fun b o=>⟨fun h=>o.1 (by omega),o.2⟩) (ae.keep (I.mono fun b o=>o.2) e3),e4⟩;have:=rH C;exact rL (R r v C) (by omega)
theorem kK.done {g lo c:Nat}{w:World}{l:List bI}(h:kK g lo l.length false w l)(J:lo≤g)(R:l.length≤c)(hm:c≤maxLen)(j:l.length*96≤140737488355328):xn (fun b=>lo≤b∧b<w.heap.size) w (.slice (some ⟨g,0,none⟩) l.length c) l:=by obtain⟨cur,o,Y⟩:=h;refine⟨_,_,rfl,R,hm,j,fun k y C=>?_⟩;obtain⟨a,f,e1,e2,e3,e4⟩:=Y k y C;have I:=(lS.1 C).1;refine⟨g,0,yD y a f,rfl,⟨J,o.lt⟩,rfl,fun r u hu=>?_,a,f,rfl,ve (ae.wide (fun b j=>j.1 (.inl I)) e2),ve (ae.wide (fun b j=>j.1 I) e3),e4⟩;rw[o.cell,dU];exact e1 r u hu

theorem jU.sz {p:aI}(h:jU p):LL p:=
 ⟨fun s o=>dA (h.Ng s o) (by decide),fun x j=>dA (h.Ni x j) (by decide),fun x j=>dA (h.Nh x j) (by decide)⟩
def Ex {α:Type}(E:cM α)(ok:Prop)(x:α)(v:Value)(wn:World):Prop:=(ok∧∃A n k,v=.tuple #[.slice A n k,.int .i64 0]∧E All wn (.slice A n k) x)∨(¬ok∧v=.tuple #[.slice none 0 0,.int .i64 1])
theorem Ex.keep {α:Type}{E:cM α}{ok:Prop}{x:α}{v:Value}{wn j:World}(g:cM.Good E)(o:aa All wn j)(h:Ex E ok x v wn):Ex E ok x v j:=by
 rcases h with ⟨C,A,n,k,e,I⟩|h;·exact .inl ⟨C,A,n,k,e,g.keep o I⟩
 exact .inr h
def LG (v:Value):Prop:=∃A n k e,v=.tuple #[.slice A n k,.int .i64 e]
theorem Ex.is {α:Type}{E:cM α}{ok:Prop}{x:α}{v:Value}{wn:World}(h:Ex E ok x v wn):LG v:=by
 rcases h with ⟨_,A,n,k,e,_⟩|⟨_,e⟩;·exact⟨A,n,k,0,e⟩
 exact⟨none,0,0,1,e⟩
def Ij (p:aI)(c:aU)(tp tc:Tmp)(R:Value→World→Prop)(t:Tmp)(v:Value)(wn:World):Prop:=if t=tp then gR (fun b=>b<wn.heap.size) wn v p else if t=tc then mu (fun b=>b<wn.heap.size) wn v c else R v wn
theorem Ij.keep {p:aI}{c:aU}{tp C:Tmp}{R:Value→World→Prop}(Y:∀ {v wn j},aa All wn j→R v wn→R v j){wn j:World}(o:aa All wn j)(t:Tmp){v:Value}(h:Ij p c tp C R t v wn):Ij p c tp C R t v j:=by
 have hs:=o.size;unfold Ij at h⊢;by_cases I:t=tp
 ·rw[am I] at h⊢
  exact bG.wide (fun b (hb:b<wn.heap.size)=>show b<j.heap.size by omega) (bG.keep o.all h)
 rw[ah I] at h⊢;by_cases J:t=C
 ·rw[am J] at h⊢
  exact fJ.wide (fun b (hb:b<wn.heap.size)=>show b<j.heap.size by omega) (fJ.keep o.all h)
 rw[ah J] at h⊢;exact Y o h
def Ik (w:World)(e:Ending)(w':World):Prop:=e=.returned (.bool true)∧aa All w w'
end Go.Proofs.YtccbbkopmlnkpaaGreatDoor
