/- Part 46 of the proof (its last part says what is proved). No condition. -/
import Derived.Test.YtgdlhckhpolnnaaGreatDoorK44
namespace Go.Proofs.YtgdlhckhpolnnaaGreatDoor
set_option maxRecDepth 100000
set_option maxHeartbeats 8000000
open Go.RowKit Go.Proofs.Tryz
theorem qgU (s:ByteArray):qbU s<13:=by
 unfold qbU;cases h:(List.range 13).find? fun i=>decide (0<i)&&(nt i).toList==s.toList with
 |none=>show 0<13;decide
 |some i=>exact fg.1 (List.mem_of_find?_eq_some h)
theorem qbC {a b:List ByteArray}{n:Nat}(o:∀s∈a,s.size≤n)(C:∀s∈b,s.size≤n):∀s∈a++b,s.size≤n:=fun s j=>by
 rcases eD.1 j with j|j;·exact o s j
 exact C s j
theorem qeS {p:cr}(C:p.Ok):∀ {f n k:Nat} {l j:List ByteArray} {k':Nat},(∀s∈l,s.size≤140737488355328)→qcu p f n k l=some (j,k')→(∀s∈j,s.size≤140737488355328)∧k<k'
 |0,_,_,_,_,_,_,h=>by cases h
 |f+1,n,k,l,j,k',J,h=>by(
 obtain⟨_,_,o⟩:=qca h;have I:∀s∈l++[p.txt k],s.size≤140737488355328:=qbC J fun s R=>by rw[cx.1 R];exact Hn C k
 split at o
 ·have Y:=qeS C I o
  exact⟨Y.1,by omega⟩
 injection o with f1 f2;subst f1;subst f2;exact⟨I,by omega⟩)
theorem qcO {p:cr}(I:p.Ok){k k':Nat}{l:List ByteArray}(h:qbl p k=some (l,k')):(∀s∈l,s.size≤140737488355328)∧k<k':=by
 obtain⟨_,j,o,_,rfl⟩:=qby h;rcases o with ⟨_,rfl,rfl⟩|⟨_,o⟩;·exact⟨fun s C=>by(cases C),by omega⟩
 have:=qeS I (fun s C=>by(cases C)) o;exact⟨this.1,by omega⟩
theorem qfA {p:cr}(J:p.Ok){k k':Nat}{x x':cX}(o:uB x)(hr:qcd p x k=some (x',k')):uB x'∧k<k':=by
 have nil:∀s∈([]:List ByteArray),s.size≤140737488355328:=fun s hs=>by cases hs
 have one:∀i,∀s∈[p.txt i],s.size≤140737488355328:=fun i s hs=>by rw[cx.1 hs];exact Hn J i
 have two:∀i j,∀s∈x.args++[p.txt i,p.txt j],s.size≤140737488355328:=fun i j=>qbC o.args (qbC (one i) (one j));unfold qcd at hr;by_cases R:XY (p.txt k)=true;·rw[ap R] at hr;obtain⟨⟨a,Y⟩,C,hr⟩:=Option.bind_eq_some_iff.1 hr;obtain⟨q1,e⟩:=qap C;cases e;obtain⟨⟨b,k2⟩,I,hr⟩:=Option.bind_eq_some_iff.1 hr;obtain⟨q2,e⟩:=qap I;cases e;cases hr;exact⟨⟨by show(2:Nat)<256;decide,by have:=qgU (p.txt k);show qbU (p.txt k)<256;omega,o.num,o.Nj,o.dst,o.ref,o.Ni,two _ _,o.Nh⟩,by omega⟩
 rw[ae R] at hr;by_cases hw:p.txt k=qfL;·rw[ap hw] at hr;obtain⟨⟨a0,Y⟩,C,hr⟩:=Option.bind_eq_some_iff.1 hr;obtain⟨q1,e⟩:=qap C;cases e;obtain⟨⟨a1,k2⟩,I,hr⟩:=Option.bind_eq_some_iff.1 hr;obtain⟨q2,e⟩:=qap I;cases e;cases hr;exact⟨⟨by show(4:Nat)<256;decide,o.op,o.num,o.Nj,o.dst,Hn J _,o.Ni,one _,o.Nh⟩,by omega⟩
 rw[ae hw] at hr;clear hw;by_cases hw:p.txt k=qfM;·rw[ap hw] at hr;obtain⟨⟨a0,Y⟩,C,hr⟩:=Option.bind_eq_some_iff.1 hr;obtain⟨q1,e⟩:=qap C;cases e;obtain⟨⟨a1,k2⟩,I,hr⟩:=Option.bind_eq_some_iff.1 hr;obtain⟨q2,e⟩:=qap I;cases e;cases hr;exact⟨⟨by show(5:Nat)<256;decide,o.op,o.num,o.Nj,o.dst,Hn J _,o.Ni,one _,o.Nh⟩,by omega⟩
 rw[ae hw] at hr;clear hw;by_cases hw:p.txt k=qei;·rw[ap hw] at hr;obtain⟨⟨a0,Y⟩,C,hr⟩:=Option.bind_eq_some_iff.1 hr;obtain⟨q1,e⟩:=qap C;cases e;cases hr;exact⟨⟨by show(8:Nat)<256;decide,o.op,o.num,o.Nj,o.dst,Hn J _,o.Ni,o.args,o.Nh⟩,by omega⟩
 rw[ae hw] at hr;clear hw;by_cases hw:p.txt k=qfK;·rw[ap hw] at hr;obtain⟨⟨a,Y⟩,C,hr⟩:=Option.bind_eq_some_iff.1 hr;obtain⟨q1,e⟩:=qap C;cases e;obtain⟨⟨l,k2⟩,I,hr⟩:=Option.bind_eq_some_iff.1 hr;cases hr;have h3:=qcO J I;exact⟨⟨by show(7:Nat)<256;decide,o.op,o.num,o.Nj,o.dst,Hn J _,o.Ni,h3.1,o.Nh⟩,by omega⟩
 rw[ae hw] at hr;clear hw;by_cases hw:p.txt k=qcq;·rw[ap hw] at hr;obtain⟨⟨a0,Y⟩,C,hr⟩:=Option.bind_eq_some_iff.1 hr;obtain⟨q1,e⟩:=qap C;cases e;obtain⟨⟨a1,k2⟩,I,hr⟩:=Option.bind_eq_some_iff.1 hr;obtain⟨q2,e⟩:=qap I;cases e;cases hr;exact⟨⟨by show(10:Nat)<256;decide,o.op,o.num,o.Nj,o.dst,Hn J _,o.Ni,one _,o.Nh⟩,by omega⟩
 rw[ae hw] at hr;clear hw;rcases TZ hr with ⟨_,n,_,hn,rfl,rfl⟩|⟨_,_,fr,ar,k2,hq,_,rfl,rfl⟩
 ·have a6:n<9223372036854775808:=by(
 unfold Os at hn;split at hn;·cases hn
 exact of_decide_eq_true (Option.filter_eq_some_iff.1 hn).2)
  exact⟨⟨by show(1:Nat)<256;decide,o.op,by unfold aV;show(-9223372036854775808:Int)≤(n:Int)∧(n:Int)≤9223372036854775807;omega,o.Nj,o.dst,o.ref,o.Ni,o.args,o.Nh⟩,by omega⟩
 have h6:=Vh J nil nil hq;exact⟨⟨by show(3:Nat)<256;decide,o.op,o.num,o.Nj,o.dst,o.ref,o.Ni,h6.2.1,h6.1⟩,by omega⟩
theorem qgL {p:cr}(I:p.Ok){k k':Nat}{x x':cX}(o:uB x)(hr:qfe p x k=some (x',k')):uB x'∧k<k':=by
 have one:∀i,∀s∈[p.txt i],s.size≤140737488355328:=fun i s hs=>by rw[cx.1 hs];exact Hn I i
 have two:∀i j,∀s∈x.args++[p.txt i,p.txt j],s.size≤140737488355328:=fun i j=>qbC o.args (qbC (one i) (one j));unfold qfe at hr;by_cases hw:p.txt k=qej;·rw[ap hw] at hr;obtain⟨⟨a0,R⟩,C,hr⟩:=Option.bind_eq_some_iff.1 hr;obtain⟨Y,e⟩:=qap C;cases e;obtain⟨⟨a1,k2⟩,J,hr⟩:=Option.bind_eq_some_iff.1 hr;obtain⟨q2,e⟩:=qap J;cases e;obtain⟨⟨a2,k3⟩,h3,hr⟩:=Option.bind_eq_some_iff.1 hr;obtain⟨q3,e⟩:=qap h3;cases e;cases hr;exact⟨⟨by show(6:Nat)<256;decide,o.op,o.num,o.Nj,o.dst,Hn I _,o.Ni,two _ _,o.Nh⟩,by omega⟩
 rw[ae hw] at hr;clear hw;by_cases hw:p.txt k=qcZ;·rw[ap hw] at hr;obtain⟨⟨a0,R⟩,C,hr⟩:=Option.bind_eq_some_iff.1 hr;obtain⟨Y,e⟩:=qap C;cases e;obtain⟨⟨a1,k2⟩,J,hr⟩:=Option.bind_eq_some_iff.1 hr;obtain⟨q2,e⟩:=qap J;cases e;cases hr;exact⟨⟨by show(9:Nat)<256;decide,o.op,o.num,o.Nj,o.dst,Hn I _,o.Ni,qbC o.args (one _),o.Nh⟩,by omega⟩
 rw[ae hw] at hr;clear hw;unfold Yl at hr;by_cases hw:p.txt k=XX;·rw[ap hw] at hr;obtain⟨⟨a0,R⟩,C,hr⟩:=Option.bind_eq_some_iff.1 hr;obtain⟨Y,e⟩:=qap C;cases e;cases hr;exact⟨⟨by show(11:Nat)<256;decide,o.op,o.num,o.Nj,o.dst,Hn I _,o.Ni,o.args,o.Nh⟩,by omega⟩
 rw[ae hw] at hr;clear hw;by_cases hw:p.txt k=Ww;·rw[ap hw] at hr;obtain⟨⟨a0,R⟩,C,hr⟩:=Option.bind_eq_some_iff.1 hr;obtain⟨Y,e⟩:=qap C;cases e;obtain⟨⟨a1,k2⟩,J,hr⟩:=Option.bind_eq_some_iff.1 hr;obtain⟨q2,e⟩:=qap J;cases e;obtain⟨⟨a2,k3⟩,h3,hr⟩:=Option.bind_eq_some_iff.1 hr;obtain⟨q3,e⟩:=qap h3;cases e;cases hr;exact⟨⟨by show(12:Nat)<256;decide,o.op,o.num,o.Nj,o.dst,Hn I _,Hn I _,one _,o.Nh⟩,by omega⟩
 rw[ae hw] at hr;clear hw;by_cases hw:p.txt k=Wx;·rw[ap hw] at hr;obtain⟨⟨a0,R⟩,C,hr⟩:=Option.bind_eq_some_iff.1 hr;obtain⟨Y,e⟩:=qap C;cases e;cases hr;exact⟨⟨by show(13:Nat)<256;decide,o.op,o.num,o.Nj,o.dst,o.ref,o.Ni,one _,o.Nh⟩,by omega⟩
 rw[ae hw] at hr;clear hw;cases hr
theorem qfk {p:cr}(j:p.Ok){k k':Nat}{x:cX}(h:qbv p k=some (x,k')):uB x∧k<k':=by
 have C:=We j k;have I:aV (p.pos k):=by unfold aV;omega
 have J:aV 0:=by unfold aV;omega
 have nil:∀s∈([]:List ByteArray),s.size≤140737488355328:=fun s R=>by cases R
 rcases qbw h with ⟨_,_,o⟩|⟨_,o⟩
 ·have:=qfA j (x:= {Va with dst:=p.txt k,Nj:=p.pos k}) ⟨by show(0:Nat)<256;decide,by show(0:Nat)<256;decide,J,I,Hn j k,Au,Au,nil,nil⟩ o
  exact⟨this.1,by omega⟩
 exact qgL j (x:= {Va with Nj:=p.pos k}) ⟨by show(0:Nat)<256;decide,by show(0:Nat)<256;decide,J,I,Au,Au,Au,nil,nil⟩ o
def qcf (p:cr):Nat→Nat→List cX→Option (List cX×Nat)
 |0,_,_=>none
 |f+1,k,l=>if p.txt k=XA∨Tp p k=true then some (l,k) else do
  let(x,k)←qbv p k
  qcf p f k (l++[x])
def qbt (p:cr)(k:Nat):Option (eS×Nat):=do
 let(s,j)←Ty p 1 k
 let j←TR p XW j
 let(l,j)←qcf p (p.l.length+1) j []
 some (⟨s,l,p.pos k⟩,j)
theorem qfj {p:cr}(o:p.Ok){k k':Nat}{x:cX}(h:qbv p k=some (x,k')):k<p.l.length:=by
 rcases qbw h with ⟨h,_,_⟩|⟨_,h⟩;·exact Xm h
 obtain⟨F,_,_,j,_⟩:=qcG o rfl rfl h;exact TM j
theorem qen {p:cr}{f k k':Nat}{l c:List cX}(h:qcf p (f+1) k l=some (c,k')):
 ((p.txt k=XA∨Tp p k=true)∧c=l∧k'=k)∨(¬p.txt k=XA∧Tp p k=false∧∃x j,qbv p k=some (x,j)∧qcf p f j (l++[x])=some (c,k')):=by
 rw[qcf] at h;split at h;·rename_i o;cases h;exact .inl ⟨o,rfl,rfl⟩
 rename_i o;right;refine⟨fun e=>o (.inl e),by cases e:Tp p k with|false=>rfl|true=>exact absurd (.inr e) o,?_⟩;cases hi:qbv p k with
 |none=>rw[hi] at h;cases h
 |some y=>rw[hi] at h;exact⟨y.1,y.2,rfl,h⟩
theorem qdA {p:cr}{k k':Nat}{b:eS}(h:qbt p k=some (b,k')):
 p.is k 1=true∧p.txt (k+1)=XW∧∃c,qcf p (p.l.length+1) (k+1+1) []=some (c,k')∧b=⟨p.txt k,c,p.pos k⟩:=by
 unfold qbt Ty TR at h;by_cases j:p.is k 1=true
 ·by_cases o:p.txt (k+1)=XW
  ·simp only[j,o,if_true,Option.bind_eq_bind,Option.bind_some] at h;cases C:qcf p (p.l.length+1) (k+1+1) [] with
   |none=>rw[C] at h;cases h
   |some y=>rw[C] at h;cases h;exact⟨j,o,_,rfl,rfl⟩
  simp[j,o] at h
 simp[j] at h
theorem qcg (pb:Nat)(p:cr)(A:Option Addr)(C k m k':Nat)(b:eS)(w:World)(h:Uo w pb p A C k m)(hp:p.Ok)(hl:gz w)(hm:m≤k)(h4:p.l.length≤4096)(hr:qbt p k=some (b,k')):
 Calls prog 85 #[.pointer (some ⟨pb,0,none⟩)] w (Wo pb p A C k' b w):=by
 obtain⟨iI,IS⟩:=iH Xi;obtain⟨q1,q2,code,b1,rfl⟩:=qdA hr;have hlen:=hp.len;have a6:=J3 h hl b1;obtain⟨W0,b8⟩:=eQ (w.alloc (.cells #[.string ⟨#[]⟩,.slice none 0 0,.int .i64 0] 135));have c9:=aC1 b8;have bR:=aA0 b8;have H0:=J4 b8 c9 bR (h.keep c9);clear h hl hr b1 b8 c9 bR;go_enter func85,ntmps85;go_upto_region 1 with fail;rw[show w.alloc (.cells #[.string ⟨#[]⟩,.slice none 0 0,.int .i64 0] 135)=W0 from H0.1.symm];go_wp2_with fail;refine(Vv pb p A C k m W0 H0.2.2.2 hp).mono ?_;rintro e w1 ⟨rfl,a7⟩;have H1:=J3 (H0.2.2.2.keep a7) (H0.2.2.1.kept a7 trivial) (H0.2.1.trans a7);clear a7;go_wp2_with fail;refine(xi pb p A C k m w1 H1.1 hp q1).mono ?_;rintro e Y ⟨rfl,b9⟩;have b0:=H1.1.box.lt;have c7:=H0.2.2.1.lt;go_upto_region 2 with fail;have k3:aa All Y (Y.alloc (.cells #[.string (p.txt k),.slice none 0 0,.int .i64 (p.pos k)] 135)):=kR.alloc _;have b3:al (Y.alloc (.cells #[.string (p.txt k),.slice none 0 0,.int .i64 (p.pos k)] 135)) Y.heap.size 135 #[.string (p.txt k),.slice none 0 0,.int .i64 (p.pos k)]:=al.new _ _ _;obtain⟨rb,d7⟩:=eQ w.heap.size;obtain⟨cb,c4⟩:=eQ Y.heap.size;have c8:Y.heap.size<(Y.alloc (.cells #[.string (p.txt k),.slice none 0 0,.int .i64 (p.pos k)] 135)).heap.size:=by simp
 have e0:=a6.1.box.lt;have e6:XC w rb cb pb p A C k (k+1) m [] (Y.alloc (.cells #[.string (p.txt k),.slice none 0 0,.int .i64 (p.pos k)] 135)):=by have kz:=b9.1.trans k3.all;have j3:=b9.1.size;have j4:=H1.2.2.size;have hP:=(a6.1.pb.kept H1.2.2 (fun _ _=>trivial)).moved b9;exact⟨(H1.2.2.all.trans (kz.mono fun b hb=>hb.1)),hP.kept k3 (fun _ _=>trivial),by rw[d7];exact H1.2.1.kept kz (by show w.heap.size≠pb;omega),⟨none,0,by rw[c4];exact b3,dR.nil⟩,⟨by omega,by have:=c7;have:=H1.2.1.lt;omega,by rw[c4];exact c8⟩,by omega,Nat.zero_le _⟩
 rw[←c4];generalize Y.alloc _=W3 at*;have H3:=oH e6;have HR:=J2 d7 e0;clear k3 b3 c8 c4 e6 b9 b0 c7 d7 e0;rw[←HR.1];go_wp2_with fail;refine(Ar pb p A C (k+1) m ⟨#[58]⟩ W3 H3.out.par.pat hp q2 (by decide)).mono ?_;rintro e W4 ⟨rfl,e7⟩;have H4:=oH (H3.out.moved e7 ⟨by omega,Nat.zero_le _⟩);clear e7;go_wp2_with fail;go_loopg [] (p.l.length+1) (fun g wr=>∃(f k1 m1:Nat) (R:List cX),g=f∧qcf p f k1 R=some (code,k')∧XC w rb cb pb p A C k k1 m1 R wr);·exact⟨p.l.length+1,k+1+1,m,[],rfl,a6.2.2,H4.out⟩
 obtain⟨f,k1,m1,R,j7,d8,e8⟩:=hrel;obtain⟨wo,j2⟩:=eQ wr;subst j2;cases f with
 |zero=>cases d8
 |succ f=>
 have HS:=J2 e8 d8;clear e8 d8;go_wp2_with fail;refine(xt pb p A C k1 m1 0 wo HS.1.par.pat hp (by omega)).mono ?_;rintro e w1 ⟨rfl,a7⟩;rw[dj];have J:=oH (HS.1.all a7);clear a7;rcases qen HS.2 with ⟨hex,e1,e2⟩|⟨a1,b2,x,j,e9,h0⟩
 ·subst e1;subst e2;by_cases a1:p.txt k'=XA
  ·have h3:((p.txt k').toList==[125])=true:=by rw[TY _ _ XA (by kernel_rfl),bL a1]
   clear a1 hex;go_upto_region 5 with fail;obtain⟨A1,C1,I,b4⟩:=J.out.box;obtain⟨c0,c1,c2⟩:=I.c3;obtain⟨t0,t1,t2⟩:=J.out.res.c3;have f0:=J.out.res.free 0;have f1:=J.out.res.free 1;have f2:=J.out.res.free 2;have HB:=J2 I b4;clear I b4;go_wp2_with fail;exact Wy pb rb cb p hp A C k k' m1 k m code w w1 A1 C1 _ rfl rfl a6.1 h4 J.out HB.2
  have b2:Tp p k'=true:=hex.resolve_left a1;have h3:((p.txt k').toList==[125])=false:=by rw[TY _ _ XA (by kernel_rfl),cI a1]
  have HE:=oH b2;clear a1 hex b2;go_wp2_with fail;refine(TX pb p A C k' m1 w1 J.out.par.pat hp).mono ?_;rintro e Y ⟨rfl,b6⟩;rw[HE.out];have o:=oH (J.out.all b6);clear b6;go_upto_region 5 with fail;obtain⟨A1,C1,I,b4⟩:=o.out.box;obtain⟨c0,c1,c2⟩:=I.c3;obtain⟨t0,t1,t2⟩:=o.out.res.c3;have f0:=o.out.res.free 0;have f1:=o.out.res.free 1;have f2:=o.out.res.free 2;have HB:=J2 I b4;clear I b4;go_wp2_with fail;exact Wy pb rb cb p hp A C k k' m1 k m code w Y A1 C1 _ rfl rfl a6.1 h4 o.out HB.2
 have h3:((p.txt k1).toList==[125])=false:=by rw[TY _ _ XA (by kernel_rfl),cI a1]
 have HE:=J3 b2 e9 h0;clear a1 b2 e9 h0;go_wp2_with fail;refine(TX pb p A C k1 m1 w1 J.out.par.pat hp).mono ?_;rintro e Y ⟨rfl,b6⟩;rw[HE.1];have o:=oH (J.out.all b6);clear b6;go_upto_region 4 with fail;obtain⟨A1,C1,I,h5,P,r1,r2,r3,r4,r5⟩:=o.out.box;have b0:=o.out.low;have j5:=o.out.few;have j6:=o.out.par.low;have j8:=qfj hp HE.2.1;have h6:=qfk hp HE.2.1;have d9:Value.ownBlock (.slice A1 R.length C1)≠some cb:=fun e=>by have:=(aD r1 e).1;omega
 have h7:Value.ownBlock (.slice A1 R.length C1)≠some rb:=fun e=>by have:=(aD r1 e).1;omega
 have h8:Value.ownBlock (.slice A1 R.length C1)≠some pb:=fun e=>by have:=(aD r1 e).1;omega
 have HC:=oH (fun wn (hk:aa (fun i=>Value.ownBlock (.slice A1 R.length C1)≠some i∧i≠pb) Y wn) (hn:PB wn w.heap.size pb p A C k1 m1)=>qdS pb p A C k1 m1 j x wn hn.pat hp (a6.2.1.moved a6.1 (o.out.kept.trans (hk.mono fun b hb=>⟨fun e=>by have:=(aD r1 e).1;have:=hb.2;omega,hb.1⟩))) (by omega) HE.2.1);have HV:=oH (fun wn (hk:aa (fun i=>Value.ownBlock (.slice A1 R.length C1)≠some i∧i≠pb) Y wn)=>show wn.cell? ⟨cb,1,none⟩=some (.slice A1 R.length C1) from(I.kept hk ⟨d9,by omega⟩).cell 1);have HG:=oH (Uf nM (pb:=pb) (W:=Y) (x:=x) (PS:=(fun b wn=>PB wn w.heap.size pb p A C (if b then j else k1) (if b then m1+1 else m1))) (v:=(.slice A1 R.length C1)) (by omega) r1 h8 fun b wa wb hk hP=>hP.kept hk fun i hi e=>by have:=(aD r1 e).1;omega);have HR:=J10 r1 (show PB Y.drew w.heap.size pb p A C (if false=true then j else k1) (if false=true then m1+1 else m1) from o.out.par.kept (S:=All) kR.drew fun _ _=>trivial) h6 d9 h7 r2 r3 r4 r5 I;clear r1 r2 r3 r4 r5 I h6 h8 d9 h7;refine hH 7 3 [4,5] (SY Y (fun i=>i≠pb) (cb+1) 188 9 (.slice A1 R.length C1) R.length h5.flatten (fun b wn=>PB wn w.heap.size pb p A C (if b then j else k1) (if b then m1+1 else m1))) [22,23,24] (FY Y (fun i=>i≠pb) (cb+1) 188 9 (.slice A1 R.length C1) R.length h5.flatten qbG (Tq zH Y 9 x) 23 22) (fun i=>if i=3 then some (fun u=>∃a f,u=.agg (wg x a f)) else if i=4 then some Oa else if i=5 then some (NT R.length) else none) (fun _=>false) (fun _ _=>False) (by kernel_rfl) (by kernel_rfl) (by kernel_rfl) (by kernel_rfl) (VJ _ _ _) (by kernel_rfl) (by decide) (SY.first HR.1 HR.2.1) (fun _ _ _ h=>h.elim) ?_;simp only[tK];iterate 3 refine OY (fun b wn hs hp=>by(have q:=HV.out wn hs.1;skip;go_simp;with_reducible rfl)) ?_
 refine Hy (V:=(fun u=>∃a f,u=.agg (wg x a f))) HG.out (by rfl) (by rfl) (by rfl) rfl (by decide) (fun wn hs=>⟨_,_,by(have q:=HV.out wn hs.1;go_simp<;>with_reducible rfl),(HC.out wn hs.1 hs.2.2).mono fun e w' h=>by obtain⟨u,e1,e2,e3,e4,e5⟩:=Xj h HR.2.2.1.1 hs.1.size;exact⟨u,e1,e2,e3,hs.2.2.moved ⟨e3,e4⟩,e5⟩⟩) ?_;rintro u ⟨a0,f0,rfl⟩;simp only[PS];refine Tv HG.out (by decide) (by rfl) (by rfl) (by rfl) rfl (by decide) _ rfl (by decide) (fun wn hs=>by(simp only[wg,qbG];go_simp<;>with_reducible rfl)) ?_;intro g;simp only[PS];refine Tu HG.out (by decide) (by rfl) (by rfl) (by rfl) rfl (by decide) (by decide) (.tmp 20) 133 rfl iI _ 120 underlying133 IS.1 IS.2.1 IS.2.2.1 IS.2.2.2 rfl (by decide) rfl g rfl (by decide) (fun y w hy=>hy.cells) (by unfold maxLen;omega) (by omega) (by omega) ?_;intro A5 c5;simp only[PS];refine OY (fun b wn hs hp=>by(have q:=HV.out wn hs.1;skip;go_simp;with_reducible rfl)) ?_;refine TE fun wt h9 hF=>?_;have c6:=hF 24 (by simp) _ rfl;unfold FY at c6;rw[ae (by decide),ae (by decide)] at c6;have HT:=oH (show SY _ _ _ _ _ _ _ _ _ _ _ from h9);have HA:=oH c6;clear h9 hF c6;simp only[dK];have b7:=HR.2.2.2.2.2.2.2.2.2.kept HT.1 ⟨HR.2.2.2.1,by omega⟩;have b5:=b7.cl 1;have f5:=b7.free 1;clear b7;go_wp2_with fail;go_roundg f
 ·refine⟨f,j,m1+1,R++[x],rfl,HE.2.2,?_⟩;obtain⟨y,wz,q1,q2,q3,q4,q5⟩:=HA.out;have b7:=HR.2.2.2.2.2.2.2.2.2.kept HT.1 ⟨HR.2.2.2.1,by omega⟩;have j0:=Us nM (pb:=pb) (B:=cb+1) (by omega) (by omega) HR.1 HR.2.2.2.2.2.1 HR.2.2.2.2.2.2.1 HR.2.2.2.2.2.2.2.1 HR.2.2.2.2.2.2.2.2.1 HT.1 q1 q2 q3 q4 q5;have kc:aa (fun b=>b≠cb) wt (wt.setCell ⟨cb,1,none⟩ (.slice A5 (R.length+1) c5)):=kR.setCell (.inl fun h=>h rfl) _;have j1:=b7.set 1 (.slice A5 (R.length+1) c5);simp only[ga] at j1;have a8:(R++[x]).length=R.length+1:=by simp
  refine⟨(o.out.kept.trans (HT.1.mono fun b hb=>⟨fun e=>by have:=(aD HR.1 e).1;have:=hb.2;omega,hb.1⟩)).trans (kc.mono fun b hb=>by have:=hb.2;show b≠cb;omega),(show PB wt w.heap.size pb p A C j (m1+1) from HT.2.2).kept kc (fun b hb=>by show b≠cb;omega),(o.out.res.kept HT.1 ⟨HR.2.2.2.2.1,by omega⟩).kept kc (by show rb≠cb;omega),⟨A5,c5,by rw[a8];exact j1,by rw[a8];exact j0.keep nM kc fun b h1 h2=>by show b≠cb;omega⟩,⟨b0.1,b0.2.1,by have:=HT.1.size;have:=kc.size;omega⟩,?_,?_⟩;·have:=HR.2.2.1.2;omega
  rw[a8];omega
 omega
end Go.Proofs.YtgdlhckhpolnnaaGreatDoor
