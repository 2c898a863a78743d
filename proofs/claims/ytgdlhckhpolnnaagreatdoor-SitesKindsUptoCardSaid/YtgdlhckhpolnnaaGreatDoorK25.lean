/- Part 26 of the proof (its last part says what is proved). No condition. -/
import Derived.Test.YtgdlhckhpolnnaaGreatDoorK23
namespace Go.Proofs.YtgdlhckhpolnnaaGreatDoor
set_option maxRecDepth 100000
set_option maxHeartbeats 8000000
open Go.RowKit Go.Proofs.Tryz
def qZ (r:Int)(n:Nat):Bool:=decide (0≤r)&&decide (r<n)
theorem yq (o:Nat)(r:Int)(n:Nat)(R:n≤1000000000000000)(hr:aV r)(w:World)(C:al w o 4 #[.bool true]):
 Calls prog 233 #[.int .i64 r,.int .i64 n,.pointer (some ⟨o,0,none⟩)] w fun e w'=>(∃k:Int,e=.returned (.int .i64 k)∧(qZ r n=true→k=r))∧w'=w.setCell ⟨o,0,none⟩ (.bool (qZ r n)):=by
 have Y:=C.cl 0;have f0:=C.free 0;clear C;unfold aV at hr;by_cases I:0≤r;·(
 have d0:decide (0≤r)=true:=by simpa using I
 by_cases J:r<n
 ·have d1:decide (r<(n:Int))=true:=by simpa using J
  have j:=oH (show qZ r n=true by unfold qZ;rw[d0,d1];rfl);go_enter func233,ntmps233;go_wp2;go_ret;exact⟨⟨_,rfl,fun _=>rfl⟩,by rw[j.out]⟩
 have d1:decide (r<(n:Int))=false:=by simpa using J
 have j:=oH (show qZ r n=false by unfold qZ;rw[d0,d1];rfl);go_enter func233,ntmps233;go_wp2;all_goals(go_ret;exact⟨⟨_,rfl,fun h=>absurd (j.out.symm.trans h) (by decide)⟩,by rw[j.out]⟩))
 have d0:decide (0≤r)=false:=by simpa using I
 have j:=oH (show qZ r n=false by unfold qZ;rw[d0];rfl);go_enter func233,ntmps233;go_wp2;all_goals(go_ret;exact⟨⟨_,rfl,fun h=>absurd (j.out.symm.trans h) (by decide)⟩,by rw[j.out]⟩)
theorem qE (S:Nat→Prop)(v:Value)(l:List ByteArray)(bf bx j bY:Nat)(xs ys:Array Value)(r:Int)(s:ByteArray)(w:World)(hv:gB S w v l)(hS:∀b,S b→b≠j)(hr:aV r)
 (hf:al w bf 247 #[.func (.func 233) #[] #[.pointer (some ⟨j,0,none⟩)]]) (hx:al w bx 56 xs) (a1:xs[3]? =some (.int .i64 r))
 (ho:al w j 4 #[.bool true]) (hy:al w bY 188 ys) (C:∃z,ys[3]? =some (.string z)) (J:qZ r l.length=true) (hs:l[r.toNat]? =some s):
 Calls prog 234 #[v,.pointer (some ⟨bf,0,none⟩),.pointer (some ⟨bx,0,none⟩),.pointer (some ⟨j,0,none⟩),.pointer (some ⟨bY,0,none⟩)] w fun e w'=>e=.returned (.tuple #[])∧w'=(w.setCell ⟨j,0,none⟩ (.bool true)).setCell ⟨bY,3,none⟩ (.string s):=by
 obtain⟨z,C⟩:=C;have c1:=hf.cl 0;have c2:=hx.cell 3;have c3:=ho.cl 0;have c4:=hy.cell 3;have f3:=ho.free 0;have f4:=hy.free 3;rw[a1] at c2;rw[C] at c4;have I:=fun n hn=>yq j r n hn hr w ho;have a7:bY≠j:=fun e=>by subst e;have:=al.ne hy ho (by decide);exact this rfl
 have R:al (w.setCell ⟨j,0,none⟩ (.bool true)) bY 188 ys:=hy.far a7 _;have c5:=R.cell 3;have f5:=R.free 3;rw[C] at c5;obtain⟨A,cap,rfl,k1,k2,k3,k⟩:=hv;unfold maxLen at k2;obtain⟨b,o,c,rfl,a6,hc,rfl⟩:=k _ _ hs;have a8:=(lS.1 hs).1;have b0:0≤r∧r<l.length:=by unfold qZ at J;simpa using J
 obtain⟨rn,rfl⟩:∃rn:Nat,r=rn:=⟨r.toNat,by omega⟩;rw[dP] at hc a8;have Y:=I l.length (by omega);rw[J] at Y;have b1:(w.setCell ⟨j,0,none⟩ (.bool true)).cell? ⟨b,o+rn,none⟩=some (.string s):=by rw[World.cell?_of_block (pI w ⟨j,0,none⟩ (.bool true) b (hS b a6))];exact hc
 have b2:(w.setCell ⟨j,0,none⟩ (.bool true)).cell? ⟨j,0,none⟩=some (.bool true):=by have:=(ho.set 0 (.bool true)).cell 0;simpa using this
 have HF:=oH Y;clear k I Y hf hx ho hy R a1 C J hs a6 hS hr;go_enter func234,ntmps234;go_wp2_with fail;refine HF.out.mono ?_;rintro e w' ⟨⟨k,rfl,hk⟩,rfl⟩;have hk:=hk trivial;subst hk;go_wp2_with fail
 go_end0
 exact⟨rfl,rfl⟩
theorem sX (S:Nat→Prop)(v:Value)(l:List ByteArray)(Y bx o bY:Nat)(xs:Array Value)(r:Int)(w:World)(hv:gB S w v l)(hr:aV r)
 (hf:al w Y 247 #[.func (.func 233) #[] #[.pointer (some ⟨o,0,none⟩)]]) (hx:al w bx 56 xs) (I:xs[3]? =some (.int .i64 r))
 (R:al w o 4 #[.bool true]) (J:qZ r l.length=false):
 Calls prog 234 #[v,.pointer (some ⟨Y,0,none⟩),.pointer (some ⟨bx,0,none⟩),.pointer (some ⟨o,0,none⟩),.pointer (some ⟨bY,0,none⟩)] w fun e w'=>e=.returned (.tuple #[])∧w'=w.setCell ⟨o,0,none⟩ (.bool false):=by
 have c1:=hf.cl 0;have c2:=hx.cell 3;have c3:=R.cl 0;rw[I] at c2;have j:=fun n hn=>yq o r n hn hr w R;obtain⟨A,cap,rfl,k1,k2,k3,k⟩:=hv;have C:=j l.length (by omega);rw[J] at C;have a1:(w.setCell ⟨o,0,none⟩ (.bool false)).cell? ⟨o,0,none⟩=some (.bool false):=by have:=(R.set 0 (.bool false)).cell 0;simpa using this
 have HF:=oH C;clear k j C hf hx R I J hr;go_enter func234,ntmps234;go_wp2_with fail;refine HF.out.mono ?_;rintro e w' ⟨⟨k,rfl,hk⟩,rfl⟩;clear hk;go_wp2_with fail
 go_end0
 exact⟨rfl,rfl⟩
def de (l:List ByteArray):List Value:=l.map fun s=>Value.string s
theorem FV:(prog.info? 9).map (fun i=>(i.zero,i.size,i.bytes))=some (some (.string ⟨#[]⟩),1,16):=by kernel_rfl
theorem pY {S:Nat→Prop}{w:World}{base:Nat}{e:TypeId}{v:Value}{n:Nat}{l:List ByteArray}(h:w.ownsRow base e 1 v n (de l))(j:n=l.length)(o:l.length*16≤140737488355328)
 (C:∀g,v.ownBlock=some g→S g):gB S w v l:=by
 subst j;refine Sl.of_own h o C fun i x I=>⟨_,?_,rfl⟩;simp[de,I]
theorem jN (S:Nat→Prop)(v:Value)(l:List (ByteArray×Int))(w:World)(hv:kh S w v l)(hl:l.length≤6000000000000):
 Calls prog 235 #[v] w fun e w'=>∃u,e=.returned u∧aa All w w'∧gB (fun b=>w.heap.size≤b) w' u (l.map fun x=>x.1):=by
 obtain⟨iS,IS⟩:=iH FV;have a6:=hv;obtain⟨A,cap,rfl,h1,h2,h3,_⟩:=hv;unfold maxLen at h2;have HV:=oH a6;clear a6;go_enter func235,ntmps235;go_wp2_with fail;go_loopg [2,7] l.length (fun g s2 s7 wr=>∃k:Nat,k≤l.length∧g=l.length-k∧s7=.int .i64 k∧aa All w wr∧wr.ownsRow w.heap.size 9 1 s2 k (de ((l.take k).map fun x=>x.1)));·exact⟨0,by omega,by omega,rfl,kR,⟨rfl,.inl ⟨rfl,rfl⟩⟩⟩
 obtain⟨k,hk,rfl,rfl,J,I⟩:=hrel;have HK:=oH J;have hB:=J.size;by_cases a7:k<l.length;·(
 obtain⟨x,hx⟩:=eG a7;obtain⟨bb,o,cs,rfl,_,_,R,rfl,b1⟩:=aZ (aX.keep (S:=S) J.all HV.out) hx;have z0:=R 0 _ rfl;rw[dj] at z0;have z1:=R 1 _ rfl;have Y:((wr.alloc (.cells #[.string x.1,.int .i64 x.2] 226)).alloc (.cells #[.string x.1] 9)).ownsRow w.heap.size 9 1 u2 k (de ((l.take k).map fun x=>x.1)):=be I (((aa.refl All wr).alloc _).alloc _) (fun _ _=>trivial);obtain⟨C,c,rfl⟩:=aU I;have HX:=J2 hx I;clear hx I R J;go_wp2_with (
  at_builtin;refine aR _ rfl (.tmp 11) (.tmp 14) 22 rfl w.heap.size 9 iS _ 1 16 underlying22 IS.1 IS.2.1 IS.2.2.1 IS.2.2.2 rfl (by decide) _ _ _ rfl Y (some ⟨wr.heap.size+1,0,none⟩) 1 1 [.string x.1] rfl rfl ?_ ?_ (by unfold maxLen;omega) (by omega) (by simp;omega) ?_;·intro _;exact⟨_,_,rfl,fun j u hu=>by rw[cN,al.cell (ac (by simp))];simpa using hu⟩
  ·intro u hu
   rw[cx.1 hu];rfl
  intro v2 w2 a1 a8 b0)
 go_roundg (l.length-(k+1))
 ·refine⟨k+1,by omega,rfl,by go_num,((HK.out.alloc _).alloc _).grown a8 fun g hg=>.inr (aD HX.2 hg).1,?_⟩;have e:de ((l.take (k+1)).map fun x=>x.1)=de ((l.take k).map fun x=>x.1)++[.string x.1]:=by rw[cU,HX.1];simp[de]
  rw[e];exact a1
 omega)
 obtain rfl:k=l.length:=by omega
 rw[dZ] at I;have hs:=pY I (l:=l.map fun x=>x.1) (by rw[ce]) (by rw[ce];omega) (S:=fun b=>w.heap.size≤b) fun g hg=>(aD I hg).1;have HS:=oH hs;clear hs I J;go_wp2_with fail;go_ret;exact⟨_,rfl,HK.out,HS.out⟩
theorem JO {S:Nat→Prop}{w:World}{v:Value}{l:List ByteArray}(h:gB S w v l):gB (fun b=>b<w.heap.size) w v l:=by obtain⟨a,cap,o,C,I,J,h⟩:=h;refine⟨a,cap,o,C,I,J,fun i x R=>?_⟩;obtain⟨b,off,c,e,Y,j,he⟩:=h i x R;exact⟨b,off,c,e,jy w _ j,j,he⟩
theorem xT {S:Nat→Prop}{w:World}{v:Value}{l:List (ByteArray×Int)}(h:kh S w v l):kh (fun b=>b<w.heap.size) w v l:=by obtain⟨a,cap,o,C,I,J,h⟩:=h;refine⟨a,cap,o,C,I,J,fun i x R=>?_⟩;obtain⟨b,off,cs,e,hs,Y,j,he⟩:=h i x R;obtain⟨rfl,hw⟩:=he;exact⟨b,off,_,e,jy w _ (j 0 _ rfl),Y,j,rfl,hw⟩
theorem rF {S:Nat→Prop}{w:World}{v:Value}{l:List ByteArray}(h:gB S w v l):gB (fun b=>S b∧b<w.heap.size) w v l:=by obtain⟨a,cap,o,C,I,J,h⟩:=h;refine⟨a,cap,o,C,I,J,fun i x R=>?_⟩;obtain⟨b,off,c,e,Y,j,he⟩:=h i x R;exact⟨b,off,c,e,⟨Y,jy w _ j⟩,j,he⟩
theorem fa (c:UInt8)(n:Int):(aL c n).size≤22:=by have:=vV n;show(tr c n).toArray.size≤22;simp[tr];omega
structure Cv (x:bz):Prop where
 args:x.args.length≤1048576
 Nh:x.Nh.length≤1048576
structure kj (p:aH):Prop where
 MZ:∀s∈p.MZ,s.size≤1048576
 Nb:∀c∈p.Nb,c.1.size≤1048576
 Na:∀c∈p.Na,c.1.size≤1048576
theorem Da {l:List ByteArray}(h:∀s∈l,s.size≤1048576)(i:Nat):(l.getD i gR).size≤1048576:=by
 rw[iG];cases hi:l[i]? with
 |none=>exact Nat.zero_le _
 |some s=>exact h s (mG hi)
theorem sG {l:List (ByteArray×Int)}(h:∀s∈l,s.1.size≤1048576)(i:Nat):(l.getD i (gR,0)).1.size≤1048576:=by
 rw[iG];cases hi:l[i]? with
 |none=>exact Nat.zero_le _
 |some s=>exact h s (mG hi)
theorem DR {p:aH}(h:kj p)(main:Int)(x:bz):(gW p main x).size≤1048576:=by
 unfold gW qY
 repeat' split
 all_goals first
  |(have:=fa 97 x.ref;omega)
  |(have:=fa 98 x.ref;omega)
  |(have:=fa 102 x.ref;omega)
  |exact sG h.Nb _
  |exact sG h.Na _
  |exact Da h.MZ _
  |decide
theorem Lr {p:aH}{main:Int}{x:bz}(j:jx x)(h:kj p):uB (jC p main x):=by
 refine⟨j.kind,j.op,j.num,j.Nj,?_,fR (DR h main x) (by omega),?_,?_,?_⟩
 ·show(if 0≤x.dst then aL 118 x.dst else gR).size≤_
  split;·have:=fa 118 x.dst;omega
  exact Nat.zero_le _
 ·show(if x.kind=12 then aL 98 x.Ni else gR).size≤_
  split;·have:=fa 98 x.Ni;omega
  exact Nat.zero_le _
 ·intro s o
  obtain⟨a,_,rfl⟩:=dr.1 o;have:=fa 118 a;omega
 intro s o;obtain⟨a,_,rfl⟩:=dr.1 o;have:=fa 98 a;omega
theorem dV {w w':World}(h:aa (fun b=>b<w.heap.size) w w'):aa All w w':=⟨h.os,h.output,h.size,fun k j _=>h.block k j j⟩
def CB (x:bz):ByteArray:=if x.kind=12 then aL 98 x.Ni else gR
def IE (x:bz):ByteArray:=if 0≤x.dst then aL 118 x.dst else gR
theorem AR (S:Nat→Prop)(pv:Value)(p:aH)(va vf:Value)(main:Int)(a f:Value)(x:bz)(w:World)(hp:dJ S w pv p)(ha:aK S w a x.args)(hf:aK S w f x.Nh)(hx:jx x)(hz:Cv x)(o4:kj p):
 Calls prog 205 #[pv,.agg #[va,vf,.int .i64 main],.agg #[.int .u8 x.kind,.int .u8 x.op,.int .i64 x.dst,.int .i64 x.ref,.int .i64 x.Ni,a,f,.int .i64 x.num,.int .i64 x.Nj]] w fun e w'=>
  ∃u b,e=.returned (.tuple #[u,.bool b])∧b=pB (dx p x)∧aa All w w'∧∃(d r t:ByteArray) (a1:Option Addr) (n1 c1:Nat) (a2:Option Addr) (n2 c2:Nat),u=.agg #[.int .u8 x.kind,.int .u8 x.op,.string d,.string r,.string t,.slice a1 n1 c1,.slice a2 n2 c2,.int .i64 x.num,.int .i64 x.Nj]∧
   (dx p x→zH (fun b=>w.heap.size≤b) w' [.int .u8 x.kind,.int .u8 x.op,.string d,.string r,.string t,.slice a1 n1 c1,.slice a2 n2 c2,.int .i64 x.num,.int .i64 x.Nj] (jC p main x)):=by
 obtain⟨iS,IS⟩:=iH FV;obtain⟨j8,vu,vi,vo,rfl,j9,o5,k0,k1,o6⟩:=hp;have hA:=fun wn (hk:aa (fun b=>b<w.heap.size) w wn)=>ah.keep hk (kV ha);have hF:=fun wn (hk:aa (fun b=>b<w.heap.size) w wn)=>ah.keep hk (kV hf);obtain⟨A1,c1,rfl,l1,l2,l3,_⟩:=ha;obtain⟨A2,c2,rfl,m1,m2,m3,_⟩:=hf;unfold maxLen at l2 m2;obtain⟨W0,b3⟩:=eQ ((((((((w.alloc (.cells #[j8,vu,vi,vo,.int .i64 p.Nc] 26)).alloc (.cells #[va,vf,.int .i64 main] 30)).alloc (.cells #[.int .u8 x.kind,.int .u8 x.op,.int .i64 x.dst,.int .i64 x.ref,.int .i64 x.Ni,.slice A1 x.args.length c1,.slice A2 x.Nh.length c2,.int .i64 x.num,.int .i64 x.Nj] 56)).alloc (.cells #[.int .u8 0,.int .u8 0,.string ⟨#[]⟩,.string ⟨#[]⟩,.string ⟨#[]⟩,.slice none 0 0,.slice none 0 0,.int .i64 0,.int .i64 0] 188)).alloc (.cells #[.int .u8 x.kind,.int .u8 x.op,.string ⟨#[]⟩,.string ⟨#[]⟩,.string ⟨#[]⟩,.slice none 0 0,.slice none 0 0,.int .i64 x.num,.int .i64 x.Nj] 188)).alloc (.cells #[.bool true] 4)).alloc (.cells #[.func (.func 233) #[] #[.pointer (some ⟨w.heap.size+1+1+1+1+1,0,none⟩)]] 247)));have k2:=aD7 b3;have k3:=aC7 b3;have k4:=aB4 b3 aE2;have k5:=aB2 b3 aE4;have k6:=aB1 b3 aE5;have k7:=aB0 b3 aE6;have l0:=aB5 b3 aE1;have l4:=aA6 b3;have l5:=aB3 b3 aE3;have l6:=fun wn (hk:aa (fun b=>b<w.heap.size) w wn)=>ax.keep hk (JO j9);have l7:=fun wn (hk:aa (fun b=>b<w.heap.size) w wn)=>aX.keep hk (xT k0);have l8:=fun wn (hk:aa (fun b=>b<w.heap.size) w wn)=>aX.keep hk (xT k1);have HW:=J8 b3 k2 k3 hA hF k4 k5 hx;have HP:=J8 k6 k7 l0 l4 l6 l7 l8 l5;have o7:=hx.dst;have j1:=hx.ref;have o8:=hx.kind;have o9:=hx.Ni;have l9:=J2 hx o4;obtain⟨z1,z2⟩:=hz;clear l5 k6 k7 l0 l4 l6 l7 l8 b3 k2 k3 hA hF k4 k5 j9 o5 k0 k1 o6;go_enter func205,ntmps205;go_upto_if 29 with fail;rw[←HW.1];go_cut [] (fun wx=>aa (fun b=>b≠w.heap.size+1+1+1+1) W0 wx∧al wx (w.heap.size+1+1+1+1) 188 #[.int .u8 x.kind,.int .u8 x.op,.string (IE x),.string ⟨#[]⟩,.string ⟨#[]⟩,.slice none 0 0,.slice none 0 0,.int .i64 x.num,.int .i64 x.Nj])
 case first=>(
 have q2:=HW.2.2.2.2.2.2.1.cl 2;have r2:=HW.2.2.2.2.2.2.1.free 2;have x2:=HW.2.2.2.2.2.1.cl 2;by_cases hd:0≤x.dst;·have t:=bL hd;have HD:=oH (show IE x=aL 118 x.dst from ap hd);have hn:=fun wn=>ez 118 x.dst o7 wn;have HN:=oH hn;clear hn;go_wp2_with fail;refine(HN.out _).mono ?_;rintro e w1 ⟨rfl,I⟩;have R:=HW.2.2.2.2.2.2.1.kept I trivial;have y2:=R.cl 2;have z2:=R.free 2;have H1:=J2 I R;clear I R q2 r2 x2;go_wp2_with fail;go_meet;refine⟨H1.1.all.setCell (.inl fun h=>h rfl) _,?_⟩;have:=H1.2.set 2 (.string (aL 118 x.dst));rw[HD.out];simpa using this
 have t:=cI hd;have HD:=oH (show IE x=gR from ae hd);go_wp2_with fail;go_meet;exact⟨kR,by rw[HD.out];exact HW.2.2.2.2.2.2.1⟩)
 obtain⟨I,R⟩:=hcut;have x5:=(HW.2.2.2.2.2.1.kept I (by show _≠_;omega)).cl 5;have H1:=J2 I R;clear I R;obtain⟨DB,j2⟩:=eR (IE x);rw[j2] at H1;have p0:=oH j2;clear j2;go_wp2_with fail;clear x5;go_loopg [37] x.args.length (fun g p1 wr=>∃(k:Nat) (v5:Value),k≤x.args.length∧g=x.args.length-k∧p1=.int .i64 k∧aa (fun b=>b≠w.heap.size+1+1+1+1) W0 wr∧al wr (w.heap.size+1+1+1+1) 188 #[.int .u8 x.kind,.int .u8 x.op,.string DB,.string ⟨#[]⟩,.string ⟨#[]⟩,v5,.slice none 0 0,.int .i64 x.num,.int .i64 x.Nj]∧wr.ownsRow (w.heap.size+7) 9 1 v5 k (de ((x.args.take k).map (aL 118))));·exact⟨0,_,by omega,by omega,rfl,H1.1,H1.2,⟨rfl,.inl ⟨rfl,rfl⟩⟩⟩
 obtain⟨k,v5,hk,rfl,rfl,b1,a7,J⟩:=hrel;have c9:aa (fun b=>b<w.heap.size) w wr:=HW.2.2.1.all.trans (b1.mono fun b hb=>by omega);have q1:w.heap.size+7≤wr.heap.size:=by have:=b1.size;have:=HW.2.1;omega
 have HR:=J4 b1 a7 J c9;by_cases j3:k<x.args.length;·(
 obtain⟨ak,d9⟩:=eG j3;obtain⟨bb,o,cc,rfl,p2,p4,rfl,e0⟩:=bn (HW.2.2.2.1 wr c9) d9;have hn:=fun wn=>ez 118 ak (rs e0) wn;have e5:∀wn,aa All wr wn→wn.cell? ⟨w.heap.size+1+1+1+1,5,none⟩=some v5:=fun wn hk=>(a7.kept hk trivial).cell 5;obtain⟨C,cp,rfl⟩:=aU J;have HN:=J4 hn e5 d9 e0;clear hn e5 d9 e0 b1 a7 J c9;go_wp2_with fail;refine R1 5 wr [45] (fun _ v wn=>∃g,v=.slice (some ⟨g,0,none⟩) 1 1∧wr.heap.size≤g∧al wn g 9 #[.string (aL 118 ak)]) (fun k=>if k=3 then some (·=.string (aL 118 ak)) else if k=4 then some (fun v=>∃g,v=.slice (some ⟨g,0,none⟩) 1 1) else none) ?_;refine O0 ?_;refine O3 (fun wn hk hp=>by(have e1:=HN.2.1 wn hk;go_simp;with_reducible rfl)) ?_;refine O0 ?_;refine O5 (v:=.string (aL 118 ak)) (fun wn hk hp=>⟨_,_,by(go_simp<;>with_reducible rfl),(HN.1 wn).mono fun e w' h=>⟨h.1,hk.trans h.2,fun t _ v ⟨g,e,h1,h2⟩=>⟨g,e,h1,h2.kept h.2 trivial⟩⟩⟩) ?_;refine OB fun g wt _ b4 p5 e6=>?_;have a6:=be HR.2.2.1 b4 (fun _ _=>trivial);have b5:=HR.2.1.kept b4 trivial;have d7:=e6.cl 0;have m9:=b4.size;have HT:=J3 b4 b5 d7;clear b4 b5 e6;go_wp2_with (
  at_builtin;go_must (refine aR _ rfl (.tmp 42) (.tmp 45) 22 rfl (w.heap.size+7) 9 iS _ 1 16 underlying22 IS.1 IS.2.1 IS.2.2.1 IS.2.2.2 rfl (by decide) _ _ _ rfl a6 (some ⟨g,0,none⟩) 1 1 [.string (aL 118 ak)] rfl rfl ?_ ?_ (by unfold maxLen;omega) (by omega) (by omega) ?_);·(
 intro _;exact⟨_,_,rfl,fun j u hu=>by
  rcases j with _|j;·rw[cN,HT.2.2];exact hu
  simp at hu⟩)
  ·intro u hu
   rw[cx.1 hu];rfl
  intro v2 w2 a8 e2 d8;obtain⟨C2,e7,rfl⟩:=aU a8;have b0:=HT.2.1.grown e2 (fun e=>by have:=(aD a6 e.symm).1;omega);have y5:=b0.cl 5;have f5:=b0.free 5;have Y:=J4 b0 a8 e2 d8;clear b0 a8 e2 d8)
 go_roundg (x.args.length-(k+1))
 ·refine⟨k+1,.slice C2 (k+1) e7,by omega,rfl,by go_num,(((HR.1.trans HT.1.all).grown Y.2.2.1 fun b hb=>.inr (by have:=(aD a6 hb).1;have:=HW.2.1;omega)).setCell (.inl fun h=>h rfl) _),?_,?_⟩
  ·have:=Y.1.set 5 (.slice C2 (k+1) e7)
   simpa using this
  have e:de ((x.args.take (k+1)).map (aL 118))=de ((x.args.take k).map (aL 118))++[.string (aL 118 ak)]:=by rw[cU,HN.2.2.1];simp[de]
  rw[e];exact be Y.2.1 ((aa.refl (fun b=>b≠w.heap.size+1+1+1+1) _).setCell (.inl fun h=>h rfl) _) fun b hb=>by have:=(aD Y.2.1 hb).1;show b≠_;omega
 omega)
 obtain rfl:k=x.args.length:=by omega
 rw[dZ] at J;have e8:=rF (pY (S:=fun b=>w.heap.size+7≤b) J (l:=x.args.map (aL 118)) (by rw[ce]) (by rw[ce];omega) fun g hg=>(aD J hg).1);obtain⟨C5,b6,rfl⟩:=aU J;obtain⟨wo,rfl⟩:=eQ wr;have x6:=(HW.2.2.2.2.2.1.kept b1 (by show _≠_;omega)).cl 6;have HO:=J3 e8 b1 a7;clear e8 b1 a7 J c9;go_wp2_with fail;clear x6;go_loopg [52] x.Nh.length (fun g p6 wr=>∃(k:Nat) (v6:Value),k≤x.Nh.length∧g=x.Nh.length-k∧p6=.int .i64 k∧aa (fun b=>b≠w.heap.size+1+1+1+1) W0 wr∧al wr (w.heap.size+1+1+1+1) 188 #[.int .u8 x.kind,.int .u8 x.op,.string DB,.string ⟨#[]⟩,.string ⟨#[]⟩,.slice C5 x.args.length b6,v6,.int .i64 x.num,.int .i64 x.Nj]∧wr.ownsRow wo.heap.size 9 1 v6 k (de ((x.Nh.take k).map (aL 98)))∧aa (fun b=>b≠w.heap.size+1+1+1+1) wo wr);·exact⟨0,_,by omega,by omega,rfl,HO.2.1,HO.2.2,⟨rfl,.inl ⟨rfl,rfl⟩⟩,kR⟩
 obtain⟨k,v6,hk,rfl,rfl,b1,a7,J,j4⟩:=hrel;have c9:aa (fun b=>b<w.heap.size) w wr:=HW.2.2.1.all.trans (b1.mono fun b hb=>by omega);have q5:=j4.size;have n0:=oH j4;have HR:=J4 b1 a7 J c9;clear j4;by_cases j3:k<x.Nh.length;·(
 obtain⟨ak,d9⟩:=eG j3;obtain⟨bb,o,cc,rfl,p2,p4,rfl,e0⟩:=bn (HW.2.2.2.2.1 wr c9) d9;have hn:=fun wn=>ez 98 ak (rs e0) wn;have e5:∀wn,aa All wr wn→wn.cell? ⟨w.heap.size+1+1+1+1,6,none⟩=some v6:=fun wn hk=>(a7.kept hk trivial).cell 6;obtain⟨C,cp,rfl⟩:=aU J;have HN:=J4 hn e5 d9 e0;clear hn e5 d9 e0 b1 a7 J c9;go_wp2_with fail;refine R1 5 wr [60] (fun _ v wn=>∃g,v=.slice (some ⟨g,0,none⟩) 1 1∧wr.heap.size≤g∧al wn g 9 #[.string (aL 98 ak)]) (fun k=>if k=3 then some (·=.string (aL 98 ak)) else if k=4 then some (fun v=>∃g,v=.slice (some ⟨g,0,none⟩) 1 1) else none) ?_;refine O0 ?_;refine O3 (fun wn hk hp=>by(have e1:=HN.2.1 wn hk;go_simp;with_reducible rfl)) ?_;refine O0 ?_;refine O5 (v:=.string (aL 98 ak)) (fun wn hk hp=>⟨_,_,by(go_simp<;>with_reducible rfl),(HN.1 wn).mono fun e w' h=>⟨h.1,hk.trans h.2,fun t _ v ⟨g,e,h1,h2⟩=>⟨g,e,h1,h2.kept h.2 trivial⟩⟩⟩) ?_;refine OB fun g wt _ b4 p5 e6=>?_;have a6:=be HR.2.2.1 b4 (fun _ _=>trivial);have b5:=HR.2.1.kept b4 trivial;have d7:=e6.cl 0;have m9:=b4.size;have HT:=J3 b4 b5 d7;clear b4 b5 e6;go_wp2_with (
  at_builtin;go_must (refine aR _ rfl (.tmp 57) (.tmp 60) 22 rfl wo.heap.size 9 iS _ 1 16 underlying22 IS.1 IS.2.1 IS.2.2.1 IS.2.2.2 rfl (by decide) _ _ _ rfl a6 (some ⟨g,0,none⟩) 1 1 [.string (aL 98 ak)] rfl rfl ?_ ?_ (by unfold maxLen;omega) (by omega) (by omega) ?_);·(
 intro _;exact⟨_,_,rfl,fun j u hu=>by
  rcases j with _|j;·rw[cN,HT.2.2];exact hu
  simp at hu⟩)
  ·intro u hu
   rw[cx.1 hu];rfl
  intro v2 w2 a8 e2 d8;obtain⟨C2,e7,rfl⟩:=aU a8;have b0:=HT.2.1.grown e2 (fun e=>by have:=(aD a6 e.symm).1;omega);have y5:=b0.cl 6;have f5:=b0.free 6;have Y:=J4 b0 a8 e2 d8;clear b0 a8 e2 d8)
 go_roundg (x.Nh.length-(k+1))
 ·refine⟨k+1,.slice C2 (k+1) e7,by omega,rfl,by go_num,(((HR.1.trans HT.1.all).grown Y.2.2.1 fun b hb=>.inr (by have:=(aD a6 hb).1;have:=HW.2.1;omega)).setCell (.inl fun h=>h rfl) _),?_,?_,((n0.out.trans HT.1.all).grown Y.2.2.1 fun b hb=>.inr (aD a6 hb).1).setCell (.inl fun h=>h rfl) _⟩
  ·have:=Y.1.set 6 (.slice C2 (k+1) e7)
   simpa using this
  have e:de ((x.Nh.take (k+1)).map (aL 98))=de ((x.Nh.take k).map (aL 98))++[.string (aL 98 ak)]:=by rw[cU,HN.2.2.1];simp[de]
  rw[e];exact be Y.2.1 ((aa.refl (fun b=>b≠w.heap.size+1+1+1+1) _).setCell (.inl fun h=>h rfl) _) fun b hb=>by have:=(aD Y.2.1 hb).1;show b≠_;omega
 omega)
 obtain rfl:k=x.Nh.length:=by omega
 rw[dZ] at J;have n3:=pY (S:=fun b=>w.heap.size+7≤b) J (l:=x.Nh.map (aL 98)) (by rw[ce]) (by rw[ce];omega) fun g hg=>by have:=(aD J hg).1;omega
 have e8:=ax.keep (S:=fun b=>w.heap.size+7≤b∧b<wo.heap.size) (n0.out.mono fun b hb=>by omega) HO.1;obtain⟨C6,b8,rfl⟩:=aU J;have x0:=(HW.2.2.2.2.2.1.kept b1 (by show _≠_;omega)).cl 0;have HS:=J2 (ax.wide (T:=fun b=>w.heap.size+7≤b) (fun b hb=>hb.1) e8) n3;clear e8 n3 b1 a7 J c9;go_upto_block 4 with fail;go_cut [] (fun wx=>aa (fun b=>b≠w.heap.size+1+1+1+1∧b≠w.heap.size+1+1+1+1+1) W0 wx∧al wx (w.heap.size+1+1+1+1+1) 4 #[.bool (pB (dx p x))]∧(∃r,al wx (w.heap.size+1+1+1+1) 188 #[.int .u8 x.kind,.int .u8 x.op,.string DB,.string r,.string ⟨#[]⟩,(.slice C5 x.args.length b6),(.slice C6 x.Nh.length b8),.int .i64 x.num,.int .i64 x.Nj]∧(dx p x→r=gW p main x))∧gB (fun b=>w.heap.size+7≤b) wx (.slice C5 x.args.length b6) (x.args.map (aL 118))∧gB (fun b=>w.heap.size+7≤b) wx (.slice C6 x.Nh.length b8) (x.Nh.map (aL 98)))
 case first=>(
 have y3:=HR.2.1.cl 3;have f3:=HR.2.1.free 3;have x3:=(HW.2.2.2.2.2.1.kept HR.1 (by show _≠_;omega)).cl 3;have o1:=o8;have o2:=fun c wn=>ez c x.ref j1 wn;have HN:=oH o2;clear o2 o1;by_cases h4:x.kind=4∨x.kind=5∨x.kind=6∨x.kind=11∨x.kind=12∨x.kind=7∧x.ref≠main;·(
 have HX:=oH (av (P:=dx p x) ⟨fun h=>by omega,fun h=>by omega,fun h=>by omega⟩);rcases h4 with e|e|e|e|e|⟨e,em⟩
 all_goals
  first
  |(have hE:gW p main x=aL 97 x.ref:=by(unfold gW;simp[e];done))
  |(have hE:gW p main x=aL 98 x.ref:=by(unfold gW;simp[e];done))
  |(have hE:gW p main x=aL 102 x.ref:=by(unfold gW qY;simp[e,em];done)
    have tm:(x.ref==main)=false:=bE.2 em)
  have HE:=oH hE;clear hE;go_wp2_with fail;clear e;refine(HN.out _ _).mono ?_;rintro e w1 ⟨rfl,I⟩;have R:=HR.2.1.kept I trivial;have q3:=R.cl 3;have g3:=R.free 3;have p3:=((HW.2.2.2.2.2.1.kept HR.1 (by show _≠_;omega)).kept I trivial).cl 3;have m2:=((HP.2.2.1.kept HR.1 (by show _≠_;omega)).kept I trivial).cl 2;have Y:=J2 I R;clear I R y3 f3 x3;go_wp2_with fail;go_meet;refine⟨((HR.1.trans Y.1.all).setCell (.inl fun h=>h rfl) _).mono fun b hb=>hb.1,by rw[HX.out];exact((HP.1.kept HR.1 (by show _≠_;omega)).kept Y.1 trivial).far (by simp) _,⟨gW p main x,by simpa [HE.out] using Y.2.set 3 (.string (gW p main x)),fun _=>rfl⟩,?_,?_⟩;·exact ax.keep (Y.1.all.setCell (p:=⟨w.heap.size+1+1+1+1,3,none⟩) (.inl (by show¬(w.heap.size+7≤w.heap.size+1+1+1+1);omega)) _) HS.1
  exact ax.keep (Y.1.all.setCell (p:=⟨w.heap.size+1+1+1+1,3,none⟩) (.inl (by show¬(w.heap.size+7≤w.heap.size+1+1+1+1);omega)) _) HS.2)
 by_cases e:x.kind=7
 ·have em:x.ref=main:=Classical.byContradiction fun h=>h4 (by omega);have tm:(x.ref==main)=true:=cy.2 em;have HX:=oH (av (P:=dx p x) ⟨fun h=>by omega,fun h=>by omega,fun h=>by omega⟩);have HE:=oH (show gW p main x=⟨#[109,97,105,110]⟩ by unfold gW qY;simp[e,em,fO]);clear em h4;go_wp2_with fail;clear e;refine(HN.out _ _).mono ?_;rintro e w1 ⟨rfl,I⟩;have R:=HR.2.1.kept I trivial;have q3:=R.cl 3;have g3:=R.free 3;have p3:=((HW.2.2.2.2.2.1.kept HR.1 (by show _≠_;omega)).kept I trivial).cl 3;have m2:=((HP.2.2.1.kept HR.1 (by show _≠_;omega)).kept I trivial).cl 2;have Y:=J2 I R;clear I R y3 f3 x3;go_wp2_with fail;go_meet;refine⟨(((HR.1.trans Y.1.all).setCell (.inl fun h=>h rfl) _).setCell (.inl fun h=>h rfl) _).mono fun b hb=>hb.1,by rw[HX.out];exact(((HP.1.kept HR.1 (by show _≠_;omega)).kept Y.1 trivial).far (by simp) _).far (by simp) _,⟨_,by simpa using(Y.2.set 3 (.string (aL 102 x.ref))).set 3 (.string ⟨#[109,97,105,110]⟩),fun _=>HE.out.symm⟩,?_,?_⟩;·exact ax.keep ((Y.1.all.setCell (p:=⟨w.heap.size+1+1+1+1,3,none⟩) (.inl (by show¬(w.heap.size+7≤w.heap.size+1+1+1+1);omega)) _).setCell (p:=⟨w.heap.size+1+1+1+1,3,none⟩) (.inl (by show¬(w.heap.size+7≤w.heap.size+1+1+1+1);omega)) _) HS.1
  exact ax.keep ((Y.1.all.setCell (p:=⟨w.heap.size+1+1+1+1,3,none⟩) (.inl (by show¬(w.heap.size+7≤w.heap.size+1+1+1+1);omega)) _).setCell (p:=⟨w.heap.size+1+1+1+1,3,none⟩) (.inl (by show¬(w.heap.size+7≤w.heap.size+1+1+1+1);omega)) _) HS.2
 by_cases h8:x.kind=8∨x.kind=9∨x.kind=10;·(
 clear y3 f3 x3 h4 e;refine h8.elim (fun e=>?k8) fun h=>h.elim (fun e=>?k9) fun e=>?p7
 case' p7=>(
 have gP:=(HP.2.2.2.1.kept HR.1 (by show _≠_;omega)).cl 0
 have HU:∃(S':Nat→Prop) (l:List ByteArray),(∀b,S' b→b<w.heap.size∨wr.heap.size≤b)∧gB S' wr j8 l∧(∀s,l[x.ref.toNat]? =some s→gW p main x=s)∧(dx p x↔qZ x.ref l.length=true):=
  ⟨_,p.MZ,fun b hb=>.inl hb,HP.2.2.2.2.1 wr HR.2.2.2,fun s hs=>(by unfold gW;simp[e,hs]),⟨fun h=>(by have:=h.2.2 e;simp[qZ,this]),fun h=>⟨fun h'=>(by omega),fun h'=>(by omega),fun _=>(by simpa [qZ] using h)⟩⟩⟩
 have I:aa All wr wr:=kR;go_wp2_with fail)
 case' k9=>(
 have gP:=(HP.2.2.2.1.kept HR.1 (by show _≠_;omega)).cell 3;have hl:=HP.2.2.2.2.2.2.1 wr HR.2.2.2;have hlen:p.Na.length≤6000000000000:=by obtain⟨_,_,_,_,_,h3,_⟩:=hl;omega
 have j5:=jN _ _ p.Na wr hl hlen;have hE:∀s,(p.Na.map fun x=>x.1)[x.ref.toNat]? =some s→gW p main x=s:=fun s hs=>(by rw[cL] at hs;obtain⟨c,hc,rfl⟩:=oE.1 hs;unfold gW;simp[e,hc]);have hC:dx p x↔qZ x.ref (p.Na.map fun x=>x.1).length=true:=⟨fun h=>(by have:=h.2.1 e;simp[qZ,this]),fun h=>⟨fun h'=>(by omega),fun _=>(by simpa [qZ] using h),fun h'=>(by omega)⟩⟩)
 case' k8=>(
 have gP:=(HP.2.2.2.1.kept HR.1 (by show _≠_;omega)).cl 2;have hl:=HP.2.2.2.2.2.1 wr HR.2.2.2;have hlen:p.Nb.length≤6000000000000:=by obtain⟨_,_,_,_,_,h3,_⟩:=hl;omega
 have j5:=jN _ _ p.Nb wr hl hlen;have hE:∀s,(p.Nb.map fun x=>x.1)[x.ref.toNat]? =some s→gW p main x=s:=fun s hs=>(by rw[cL] at hs;obtain⟨c,hc,rfl⟩:=oE.1 hs;unfold gW;simp[e,hc]);have hC:dx p x↔qZ x.ref (p.Nb.map fun x=>x.1).length=true:=⟨fun h=>(by have:=h.1 e;simp[qZ,this]),fun h=>⟨fun _=>(by simpa [qZ] using h),fun h'=>(by omega),fun h'=>(by omega)⟩⟩)
 all_goals
  try
   have HL:=J3 j5 hE hC;clear hl hE hC hlen j5;go_wp2_with fail;refine HL.1.mono ?_;rintro e w1 ⟨u,rfl,I,hu⟩;have HU:∃(S':Nat→Prop) (l:List ByteArray),(∀b,S' b→b<w.heap.size∨wr.heap.size≤b)∧gB S' w1 u l∧(∀s,l[x.ref.toNat]? =some s→gW p main x=s)∧(dx p x↔qZ x.ref l.length=true):=⟨_,_,fun b hb=>.inr hb,hu,HL.2.1,HL.2.2⟩;clear hu
 all_goals
  obtain⟨S',l,hS,hu,hE,hC⟩:=HU;have h7:=(HP.2.1.kept HR.1 (by show _≠_;omega)).kept I trivial;have h9:=(HW.2.2.2.2.2.1.kept HR.1 (by show _≠_;omega)).kept I trivial;have e4:=(HP.1.kept HR.1 (by show _≠_;omega)).kept I trivial;have e9:=HR.2.1.kept I trivial;by_cases hc:qZ x.ref l.length=true
  ·obtain⟨s,hs⟩:∃s,l[x.ref.toNat]? =some s:=⟨_,lG (by have:0≤x.ref∧x.ref<l.length:=(by simpa [qZ] using hc);omega)⟩;have b7:=qE S' _ l (w.heap.size+1+1+1+1+1+1) (w.heap.size+1+1) (w.heap.size+1+1+1+1+1) (w.heap.size+1+1+1+1) _ _ x.ref s _ hu (fun b hb=>by have:=hS b hb;omega) j1 h7 h9 rfl e4 e9 ⟨_,rfl⟩ hc hs;have HX:=oH (av (hC.2 hc));have HE:=oH (hE s hs);have Y:=J4 b7 I e4 e9;clear b7 I h7 h9 e4 e9 hu hE hC hs hc hS;try clear e
   go_wp2_with fail;refine Y.1.mono ?_;rintro e w2 ⟨rfl,rfl⟩;go_wp2_with fail;go_meet;refine⟨(((HR.1.trans Y.2.1.all).mono fun b (hb:b≠w.heap.size+1+1+1+1∧b≠w.heap.size+1+1+1+1+1)=>hb.1).setCell (.inl fun h=>h.2 rfl) _).setCell (.inl fun h=>h.1 rfl) _,by rw[HX.out];exact al.far (by simpa using Y.2.2.1.set 0 (.bool true)) (by simp) _,⟨s,by simpa using(Y.2.2.2.far (p:=⟨w.heap.size+1+1+1+1+1,0,none⟩) (by simp) (.bool true)).set 3 (.string s),fun _=>HE.out.symm⟩,?_,?_⟩;·exact ax.keep ((Y.2.1.all.setCell (p:=⟨w.heap.size+1+1+1+1+1,0,none⟩) (.inl (by show¬(w.heap.size+7≤w.heap.size+1+1+1+1+1);omega)) _).setCell (p:=⟨w.heap.size+1+1+1+1,3,none⟩) (.inl (by show¬(w.heap.size+7≤w.heap.size+1+1+1+1);omega)) _) HS.1
   exact ax.keep ((Y.2.1.all.setCell (p:=⟨w.heap.size+1+1+1+1+1,0,none⟩) (.inl (by show¬(w.heap.size+7≤w.heap.size+1+1+1+1+1);omega)) _).setCell (p:=⟨w.heap.size+1+1+1+1,3,none⟩) (.inl (by show¬(w.heap.size+7≤w.heap.size+1+1+1+1);omega)) _) HS.2
  have b7:=sX S' _ l (w.heap.size+1+1+1+1+1+1) (w.heap.size+1+1) (w.heap.size+1+1+1+1+1) (w.heap.size+1+1+1+1) _ x.ref _ hu j1 h7 h9 rfl e4 (by simpa using hc);have HX:=oH (au fun h=>hc (hC.1 h));have HE:=oH (fun h=>hc (hC.1 h));have Y:=J4 b7 I e4 e9;clear b7 I h7 h9 e4 e9 hu hE hC hc hS;try clear e
  go_wp2_with fail;refine Y.1.mono ?_;rintro e w2 ⟨rfl,rfl⟩;go_wp2_with fail;go_meet;refine⟨((HR.1.trans Y.2.1.all).mono fun b (hb:b≠w.heap.size+1+1+1+1∧b≠w.heap.size+1+1+1+1+1)=>hb.1).setCell (.inl fun h=>h.2 rfl) _,by rw[HX.out];simpa using Y.2.2.1.set 0 (.bool false),⟨_,Y.2.2.2.far (p:=⟨w.heap.size+1+1+1+1+1,0,none⟩) (by simp) (.bool false),fun h=>absurd h HE.out⟩,?_,?_⟩;·exact ax.keep (Y.2.1.all.setCell (p:=⟨w.heap.size+1+1+1+1+1,0,none⟩) (.inl (by show¬(w.heap.size+7≤w.heap.size+1+1+1+1+1);omega)) _) HS.1
  exact ax.keep (Y.2.1.all.setCell (p:=⟨w.heap.size+1+1+1+1+1,0,none⟩) (.inl (by show¬(w.heap.size+7≤w.heap.size+1+1+1+1+1);omega)) _) HS.2)
 obtain⟨n4,n5,n6,n7,n8,n9,n10,n11,n12⟩:x.kind≠4∧x.kind≠5∧x.kind≠6∧x.kind≠7∧x.kind≠8∧x.kind≠9∧x.kind≠10∧x.kind≠11∧x.kind≠12:=by omega
 have HE:=oH (show gW p main x=⟨#[]⟩ by unfold gW;simp[n4,n5,n6,n7,n8,n9,n10,n11,n12,gR]);have HX:=oH (av (P:=dx p x) ⟨fun h=>by omega,fun h=>by omega,fun h=>by omega⟩);have t4:=nK x.kind 4 (by omega);have t5:=nK x.kind 5 (by omega);have t6:=nK x.kind 6 (by omega);have t7:=nK x.kind 7 (by omega);have t8:=nK x.kind 8 (by omega);have t9:=nK x.kind 9 (by omega);have t10:=nK x.kind 10 (by omega);have t11:=nK x.kind 11 (by omega);have t12:=nK x.kind 12 (by omega);clear h4 h8 e n4 n5 n6 n7 n8 n9 n10 n11 n12;go_wp2_with fail;go_meet;exact⟨HR.1.mono fun b hb=>hb.1,by rw[HX.out];exact HP.1.kept HR.1 (by show _≠_;omega),⟨_,HR.2.1,fun _=>HE.out.symm⟩,HS.1,HS.2⟩)
 obtain⟨e3,h0,⟨r,b2,hr⟩,h5,h6⟩:=hcut;have x0:=(HW.2.2.2.2.2.1.kept e3 (by show _≠_∧_≠_;omega)).cl 0;have HZ:=J6 e3 h0 b2 hr h5 h6;clear e3 h0 b2 hr h5 h6;obtain⟨OK,j6⟩:=eR (pB (dx p x));rw[j6] at HZ;have p8:=oH j6;clear j6;go_upto_if 118 with fail;go_cut [] (fun wx=>aa (fun b=>b≠w.heap.size+1+1+1+1∧b≠w.heap.size+1+1+1+1+1) W0 wx∧al wx (w.heap.size+1+1+1+1+1) 4 #[.bool OK]∧al wx (w.heap.size+1+1+1+1) 188 #[.int .u8 x.kind,.int .u8 x.op,.string DB,.string r,.string (CB x),(.slice C5 x.args.length b6),(.slice C6 x.Nh.length b8),.int .i64 x.num,.int .i64 x.Nj]∧gB (fun b=>w.heap.size+7≤b) wx (.slice C5 x.args.length b6) (x.args.map (aL 118))∧gB (fun b=>w.heap.size+7≤b) wx (.slice C6 x.Nh.length b8) (x.Nh.map (aL 98)))
 case first=>(
 by_cases j0:x.kind=12
 ·have t12:=yK x.kind 12 (by omega);have HE:=oH (show CB x=aL 98 x.Ni by unfold CB;simp[j0]);have x4:=(HW.2.2.2.2.2.1.kept HZ.1 (by show _≠_∧_≠_;omega)).cl 4;have HN:=oH fun wn=>ez 98 x.Ni o9 wn;clear j0;go_wp2_with fail;refine(HN.out _).mono ?_;rintro e w1 ⟨rfl,I⟩;have R:=HZ.2.2.1.kept I trivial;have q4:=R.cl 4;have g4:=R.free 4;have Y:=J2 I R;clear I R;go_wp2_with fail;go_meet;refine⟨(HZ.1.trans Y.1.all).setCell (.inl fun h=>h.1 rfl) _,(HZ.2.1.kept Y.1 trivial).far (by simp) _,by rw[HE.out];simpa using Y.2.set 4 (.string (aL 98 x.Ni)),?_,?_⟩;·exact ax.keep (Y.1.all.setCell (p:=⟨w.heap.size+1+1+1+1,4,none⟩) (.inl (by show¬(w.heap.size+7≤w.heap.size+1+1+1+1);omega)) _) HZ.2.2.2.2.1
  exact ax.keep (Y.1.all.setCell (p:=⟨w.heap.size+1+1+1+1,4,none⟩) (.inl (by show¬(w.heap.size+7≤w.heap.size+1+1+1+1);omega)) _) HZ.2.2.2.2.2
 have t12:=nK x.kind 12 (by omega);have HE:=oH (show CB x=⟨#[]⟩ by unfold CB;simp[j0,gR]);clear j0;go_wp2_with fail;go_meet;exact⟨HZ.1,HZ.2.1,by rw[HE.out];exact HZ.2.2.1,HZ.2.2.2.2.1,HZ.2.2.2.2.2⟩)
 obtain⟨e3,h0,b2,h5,h6⟩:=hcut;have hR:=HP.2.2.2.2.2.2.2.kept e3 (by show _≠_∧_≠_;omega);have HQ:=J4 e3 h5 h6 hR;have o0:=h0.cl 0;have y0:=b2.cl 0;have y1:=b2.cl 1;have y2:=b2.cl 2;have y3:=b2.cl 3;have y4:=b2.cl 4;have y5:=b2.cl 5;have y6:=b2.cl 6;have y7:=b2.cl 7;have y8:=b2.cl 8;have r0:=hR.cl 0;have r1:=hR.cl 1;have r2:=hR.cl 2;have r3:=hR.cl 3;have r4:=hR.cl 4;have r5:=hR.cl 5;have r6:=hR.cl 6;have r7:=hR.cl 7;have r8:=hR.cl 8;have f0:=hR.free 0;have f1:=hR.free 1;have f2:=hR.free 2;have f3:=hR.free 3;have f4:=hR.free 4;have f5:=hR.free 5;have f6:=hR.free 6;have f7:=hR.free 7;have f8:=hR.free 8;obtain⟨AB,j7⟩:=eR (CB x);rw[j7] at y4;have p9:=oH j7;clear j7;clear e3 h0 b2 h5 h6 hR x0;go_wp2_with fail
 go_region
 all_goals go_wp2_with fail
 all_goals
  have b9:=(((((((((HQ.2.2.2.set 0 (.int .u8 x.kind)).set 1 (.int .u8 x.op)).set 2 (.string DB)).set 3 (.string r)).set 4 (.string AB)).set 5 (.slice C5 x.args.length b6)).set 6 (.slice C6 x.Nh.length b8)).set 7 (.int .i64 x.num)).set 8 (.int .i64 x.Nj)).drew;have q0:=(((((((((((HQ.1.mono fun b (hb:b≠w.heap.size+1+1+1+1∧b≠w.heap.size+1+1+1+1+1∧b≠w.heap.size+1+1+1)=>⟨hb.1,hb.2.1⟩).setCell (p:=⟨w.heap.size+1+1+1,0,none⟩) (.inl fun h=>h.2.2 rfl) (.int .u8 x.kind)).setCell (p:=⟨w.heap.size+1+1+1,1,none⟩) (.inl fun h=>h.2.2 rfl) (.int .u8 x.op)).setCell (p:=⟨w.heap.size+1+1+1,2,none⟩) (.inl fun h=>h.2.2 rfl) (.string DB)).setCell (p:=⟨w.heap.size+1+1+1,3,none⟩) (.inl fun h=>h.2.2 rfl) (.string r)).setCell (p:=⟨w.heap.size+1+1+1,4,none⟩) (.inl fun h=>h.2.2 rfl) (.string AB)).setCell (p:=⟨w.heap.size+1+1+1,5,none⟩) (.inl fun h=>h.2.2 rfl) (.slice C5 x.args.length b6)).setCell (p:=⟨w.heap.size+1+1+1,6,none⟩) (.inl fun h=>h.2.2 rfl) (.slice C6 x.Nh.length b8)).setCell (p:=⟨w.heap.size+1+1+1,7,none⟩) (.inl fun h=>h.2.2 rfl) (.int .i64 x.num)).setCell (p:=⟨w.heap.size+1+1+1,8,none⟩) (.inl fun h=>h.2.2 rfl) (.int .i64 x.Nj)).drew);have o3:=(((((((((((aa.refl (fun b=>w.heap.size+7≤b) wc).setCell (p:=⟨w.heap.size+1+1+1,0,none⟩) (.inl (by show¬(w.heap.size+7≤w.heap.size+1+1+1);omega)) (.int .u8 x.kind)).setCell (p:=⟨w.heap.size+1+1+1,1,none⟩) (.inl (by show¬(w.heap.size+7≤w.heap.size+1+1+1);omega)) (.int .u8 x.op)).setCell (p:=⟨w.heap.size+1+1+1,2,none⟩) (.inl (by show¬(w.heap.size+7≤w.heap.size+1+1+1);omega)) (.string DB)).setCell (p:=⟨w.heap.size+1+1+1,3,none⟩) (.inl (by show¬(w.heap.size+7≤w.heap.size+1+1+1);omega)) (.string r)).setCell (p:=⟨w.heap.size+1+1+1,4,none⟩) (.inl (by show¬(w.heap.size+7≤w.heap.size+1+1+1);omega)) (.string AB)).setCell (p:=⟨w.heap.size+1+1+1,5,none⟩) (.inl (by show¬(w.heap.size+7≤w.heap.size+1+1+1);omega)) (.slice C5 x.args.length b6)).setCell (p:=⟨w.heap.size+1+1+1,6,none⟩) (.inl (by show¬(w.heap.size+7≤w.heap.size+1+1+1);omega)) (.slice C6 x.Nh.length b8)).setCell (p:=⟨w.heap.size+1+1+1,7,none⟩) (.inl (by show¬(w.heap.size+7≤w.heap.size+1+1+1);omega)) (.int .i64 x.num)).setCell (p:=⟨w.heap.size+1+1+1,8,none⟩) (.inl (by show¬(w.heap.size+7≤w.heap.size+1+1+1);omega)) (.int .i64 x.Nj)).drew);have c0:=b9.cell 0;have c1:=b9.cell 1;have c2:=b9.cell 2;have c3:=b9.cell 3;have c4:=b9.cell 4;have c5:=b9.cell 5;have c6:=b9.cell 6;have c7:=b9.cell 7;have c8:=b9.cell 8;simp only[ga,gc] at c0 c1 c2 c3 c4 c5 c6 c7 c8;clear b9;generalize ((((((((((wc.setCell _ _).setCell _ _).setCell _ _).setCell _ _).setCell _ _).setCell _ _).setCell _ _).setCell _ _).setCell _ _).drew)=W2 at*;refine bodyPost_ret (v:=.tuple #[.agg #[.int .u8 x.kind,.int .u8 x.op,.string DB,.string r,.string AB,.slice C5 x.args.length b6,.slice C6 x.Nh.length b8,.int .i64 x.num,.int .i64 x.Nj],.bool OK]) (by simp[results,Tryz.f205,go_sem,c0,c1,c2,c3,c4,c5,c6,c7,c8]) rfl ⟨_,OK,rfl,p8.out.symm,?_,DB,r,AB,C5,x.args.length,b6,C6,x.Nh.length,b8,rfl,fun hc=>⟨.slice C5 x.args.length b6,.slice C6 x.Nh.length b8,?_,?_,?_,?_⟩⟩;·exact dV (HW.2.2.1.all.trans (q0.mono fun b hb=>by refine⟨?_,?_,?_⟩<;>(show b≠_)<;>omega))
  ·rw[←p0.out,←p9.out,HZ.2.2.2.1 hc];rfl
  ·exact ax.wide (fun b hb=>by omega) (ax.keep o3 HQ.2.1)
  ·exact ax.wide (fun b hb=>by omega) (ax.keep o3 HQ.2.2.1)
  exact Lr l9.1 l9.2
end Go.Proofs.YtgdlhckhpolnnaaGreatDoor
