/- Part 9 of the proof of CallsShallow (its last part says what is proved). No condition. -/
import Derived.Test.YtncdbjponknakaaGreatDoorK7
namespace Go.Proofs.YtncdbjponknakaaGreatDoor
set_option maxRecDepth 100000
set_option maxHeartbeats 8000000
open Go.RowKit Go.Proofs.Tryz
theorem gT (s:ByteArray)(w:World):Calls prog 158 #[.string s] w fun e J=>e=.returned (.bool (aB s))∧aa All w J:=by
 have j:=yL s w;have hw:=fun w=>zC s w;unfold aB;cases h:dW s with
 |true=>rw[h] at j;have o:=J2 j hw;clear j hw h;generalize jv s=b at*;go_enter func158,ntmps158;go_wp2_with (first|(go_at_call 87;refine o.1.mono ?_;rintro e R ⟨rfl,l⟩;have C:=oH l;clear l)|(go_at_call 88;refine(o.2 _).mono ?_;rintro e J ⟨rfl,rfl⟩));go_ret;exact⟨by simp,C.out⟩
 |false=>rw[h] at j;have o:=oH j;clear j hw h;go_enter func158,ntmps158;go_wp2_with (go_at_call 87;refine o.out.mono ?_;rintro e R ⟨rfl,l⟩;have C:=oH l;clear l);go_ret;exact⟨rfl,C.out⟩
def cC (l:List ByteArray):Prop:=∀s∈l,aB s=true
theorem wh {l:List ByteArray}:cC l↔∀(i:Nat) s,l[i]? =some s→aB s=true:=
 ⟨fun h _ _ j=>h _ (mG j),fun h s j=>by obtain⟨i,hi⟩:=cY.1 j;exact h i s hi⟩
theorem nw (S:Nat→Prop)(v:Value)(l:List ByteArray)(w:World)(hv:gB S w v l):Calls prog 182 #[v] w fun e w'=>e=.returned (.bool (pB (cC l)))∧aa All w w':=by
 have a1:=hv;obtain⟨A,cap,rfl,h1,h2,h3,_⟩:=hv;unfold maxLen at h2;have HV:=oH a1;clear a1;go_enter func182,ntmps182;go_wp2;go_loopg [7] l.length (fun g i wr=>∃k:Nat,k≤l.length∧g=l.length-k∧i=.int .i64 k∧aa All w wr∧∀(i:Nat) s,i<k→l[i]? =some s→aB s=true);·exact⟨0,by omega,by omega,rfl,kR,fun i s hi=>by omega⟩
 obtain⟨k,hk,rfl,rfl,R,C⟩:=hrel;have HA:=J2 R C;by_cases a6:k<l.length;·(
 obtain⟨s,Y⟩:=eG a6;obtain⟨bb,o,rfl,_,hc⟩:=Bs (ax.keep (S:=S) R.all HV.out) Y;clear R C;have j:=gT s wr;have HS:=oH Y;clear Y;cases Z:aB s with
 |true=>
  rw[Z] at j;have HN:=J2 Z j;clear Z j;go_wp2_with (go_at_call 158;refine HN.2.mono ?_;rintro e w1 ⟨rfl,J⟩;have H1:=oH J;clear J);go_roundg (l.length-(k+1))
  ·refine⟨k+1,by omega,rfl,by go_num,HA.1.trans H1.out,fun i t hi ht=>?_⟩;by_cases e:i=k;·subst e;rw[HS.out] at ht;cases ht;exact HN.1
   exact HA.2 i t (by omega) ht
  omega
 |false=>rw[Z] at j;have a7:=oH (au (P:=cC l) fun h=>by have:=h s (mG HS.out);rw[Z] at this;cases this);have HN:=oH j;clear Z j;go_wp2_with (go_at_call 158;refine HN.out.mono ?_;rintro e w1 ⟨rfl,J⟩;have H1:=oH J;clear J);go_ret;exact⟨by rw[a7.out];rfl,HA.1.trans H1.out⟩)
 obtain rfl:k=l.length:=by omega
 clear R C;have HY:=oH (av (P:=cC l) (wh.2 fun i s Y=>HA.2 i s (lS.1 Y).1 Y));go_wp2;go_ret;exact⟨by rw[HY.out];rfl,HA.1⟩
theorem jY (s:ByteArray):s.toList.isEmpty=decide (s=gR):=by have h:=cM (x:=s) (y:=gR);rw[Bool.eq_iff_iff,decide_eq_true_iff,←h];simp[gR]
theorem lE (s:ByteArray)(b:Bool)(w:World):Calls prog 196 #[.string s,.bool b] w fun e Y=>e=.returned (.bool (pB (fS s b)))∧aa All w Y:=by
 cases b with
 |true=>
  have R:=gT s w;have j:fS s true↔aB s=true:=by unfold fS;rw[ap rfl]
  generalize aB s=Z at*;have C:=J2 R j;clear R j;cases Z with
  |true=>have l:=oH (av (C.2.2 rfl));go_enter func196,ntmps196;go_wp2_with (go_at_call 158;refine C.1.mono ?_;rintro e w1 ⟨rfl,o⟩;have J:=oH o;clear o);go_ret;exact⟨by rw[l.out];rfl,J.out⟩
  |false=>have l:=oH (au (P:=fS s true) fun h=>Bool.noConfusion (C.2.1 h));go_enter func196,ntmps196;go_wp2_with (go_at_call 158;refine C.1.mono ?_;rintro e w1 ⟨rfl,o⟩;have J:=oH o;clear o);go_ret;exact⟨by rw[l.out];rfl,J.out⟩
 |false=>
  have j:fS s false↔s=gR:=by unfold fS;rw[ae oG]
  have l:Hid (pB (fS s false)=decide (s=gR)):=oH (by
   by_cases h:s=gR;·rw[bL h];exact av (j.2 h)
   rw[cI h];exact au fun h'=>h (j.1 h'))
  clear j;go_enter func196,ntmps196;go_wp2_with fail;go_ret;exact⟨by rw[l.out,←jY];simp,kR⟩
def gG (l:List cX):List ByteArray:=(l.map fun x=>x.dst).filter fun s=>decide (s≠gR)
def gH (l:List eS):List ByteArray:=(l.flatMap fun b=>b.code.map fun x=>x.dst).filter fun s=>decide (s≠gR)
theorem zY (l:List eS)(b:eS):gH (l++[b])=gH l++gG b.code:=by simp[gH,gG]
theorem zX (l:List cX)(x:cX):gG (l++[x])=gG l++if x.dst=gR then [] else [x.dst]:=by
 unfold gG;rw[ic,mE];congr 1;by_cases h:x.dst=gR;·simp[h]
 simp[h]
theorem oN {l:List cX}{i:Nat}{x:cX}(h:l[i]? =some x):gG (l.take (i+1))=gG (l.take i)++if x.dst=gR then [] else [x.dst]:=by rw[cU,h];exact zX _ _
theorem oO {l:List eS}{i:Nat}{b:eS}(h:l[i]? =some b):gH (l.take (i+1))=gH (l.take i)++gG b.code:=by rw[cU,h];exact zY _ _
theorem uU (l:List cX)(i:Nat):∃r,gG l=gG (l.take i)++r:=⟨gG (l.drop i),by
 conv=>lhs;rw[←List.take_append_drop i l]
 unfold gG;rw[ic,mE]⟩
theorem uV (l:List eS)(i:Nat):∃r,gH l=gH (l.take i)++r:=⟨gH (l.drop i),by
 conv=>lhs;rw[←List.take_append_drop i l]
 unfold gH;rw[List.flatMap_append,mE]⟩
theorem nY (f:cD):bh f=f.params++gH f.Ng:=rfl
theorem tg {f:cD}{j i:Nat}{b:eS}{x:cX}(J:f.Ng[j]? =some b)(R:b.code[i]? =some x)(Y:x.dst≠gR)(hm:x.dst∈(f.params++gH (f.Ng.take j))++gG (b.code.take i)):¬(bh f).Nodup:=by
 intro h;obtain⟨r1,l⟩:=uV f.Ng (j+1);obtain⟨r2,o⟩:=uU b.code (i+1);rw[oO J] at l;rw[oN R,ae Y] at o;rw[nY,l,o] at h;have e:f.params++(gH (f.Ng.take j)++(gG (b.code.take i)++[x.dst]++r2)++r1)=(((f.params++gH (f.Ng.take j))++gG (b.code.take i))++[x.dst])++(r2++r1):=by simp
 rw[e] at h;have C:=(List.nodup_append.1 h).1;rw[List.nodup_append] at C;exact C.2.2 _ hm _ (by simp) rfl
theorem Hx {f:cD}{j i:Nat}{b:eS}(o:f.Ng[j]? =some b):((f.params++gH (f.Ng.take j))++gG (b.code.take i)).length≤(bh f).length:=by obtain⟨r1,l⟩:=uV f.Ng (j+1);obtain⟨r2,C⟩:=uU b.code i;rw[oO o] at l;rw[nY,l,C];simp only[iQ];omega
structure wd (w:World)(b1 b2:Nat)(f:cD):Prop where
 Ng:cK w b1 (cn f)
 values:cK w b2 (bh f)
def KE (f:cD)(w:World)(e:Ending)(w':World):Prop:=
 ql ((bh f).Nodup∧(cn f).Nodup) (fun e w'=>∃b1 b2,e=.returned (.agg #[.map (some b1),.map (some b2)])∧wd w' b1 b2 f∧w.heap.size≤b1∧b1<w'.heap.size∧w.heap.size≤b2∧b2<w'.heap.size∧aa All w w') w e w'
theorem Ec (S:Nat→Prop)(r:Value)(f:cD)(pv qv:Value)(w:World)(hp:gB S w pv f.params)(hq:mJ S w qv f.Ng)(e5:aV f.Nj)(e6:∀s∈f.params,s.size≤140737488355328)(hn:(bh f).length≤900000)(hb:f.Ng.length≤900000)(hS:∀b,S b→b<w.heap.size):
 Calls prog 142 #[r,.agg #[.string f.name,pv,qv,.int .i64 f.Nj]] w (KE f w):=by
 have h5:f.params.length≤900000:=by rw[nY,iQ] at hn;omega
 have hP:=ax.la hp;have hQ:=eH.la hq;obtain⟨pA,pc,rfl,_⟩:=hp;obtain⟨qA,qc,rfl,m1,m2,m3,_⟩:=hq;unfold maxLen at m2;obtain⟨W0,a7⟩:=eQ ((w.alloc (.cells #[.string f.name,.slice pA f.params.length pc,.slice qA f.Ng.length qc,.int .i64 f.Nj] 226)).alloc (.cells #[.map none,.map none] 249));have e7:W0.heap.size=w.heap.size+2:=by rw[a7];simp
 have e8:aa All w W0:=by rw[a7];exact(kR.alloc _).alloc _
 have bF:al W0 w.heap.size 226 #[.string f.name,.slice pA f.params.length pc,.slice qA f.Ng.length qc,.int .i64 f.Nj]:=by rw[a7];exact(al.new _ _ _).alloc _
 have bR:al W0 (w.heap.size+1) 249 #[.map none,.map none]:=by rw[a7];exact ac (by simp)
 have c1:=bF.cell 1;have c2:=bF.cell 2;simp only[gc] at c1 c2;have HW:=J5 a7 e7 e8 bF bR;have HP:=J5 hP hQ e5 e6 hn;clear a7 e7 e8 bF bR hP hQ e5 e6 hn;go_enter func142,ntmps142;go_upto_region 1 with fail;rw[←HW.1];go_wp2_with fail;refine(un S (.slice pA f.params.length pc) f.params w.heap.size f.name (.slice pA f.params.length pc) (.slice qA f.Ng.length qc) f.Nj W0 (HP.1 _ HW.2.2.1) HW.2.2.2.1 HP.2.2.1 h5 HP.2.2.2.1).mono ?_;rintro e w2 (⟨l,b2,rfl,e9,d8,a6,a8⟩|⟨l,⟨an,nn,hn,ha,hi,rfl⟩,a8⟩)
 case inr=>have HS:=J5 (fun h:(bh f).Nodup∧(cn f).Nodup=>l (by have:=h.1;rw[nY,List.nodup_append] at this;exact this.1)) hn ha hi (HW.2.2.1.trans a8);clear l hn ha hi a8;go_wp2_with fail;exact⟨rfl,.inr ⟨HS.1,⟨an,nn,HS.2.1,HS.2.2.1,HS.2.2.2.1,rfl⟩,HS.2.2.2.2⟩⟩
 have d2:=(HW.2.2.2.1.kept a8 trivial).cell 2;simp only[gc] at d2;have H2:=J5 l e9 d8 a6 a8;clear l e9 d8 a6 a8 c1 c2;go_wp2_with fail;refine(ul S (.slice qA f.Ng.length qc) f.Ng w2 (HP.2.1 _ (HW.2.2.1.trans H2.2.2.2.2)) hb).mono ?_;rintro e w3 (⟨l,b1,rfl,h0,i5,i6,Z⟩|⟨l,⟨an,nn,hn,ha,hi,rfl⟩,Z⟩)
 case inr=>have HS:=J5 (fun h:(bh f).Nodup∧(cn f).Nodup=>l h.2) hn ha hi ((HW.2.2.1.trans H2.2.2.2.2).trans Z);clear l hn ha hi Z d2;go_wp2_with fail;exact⟨rfl,.inr ⟨HS.1,⟨an,nn,HS.2.1,HS.2.2.1,HS.2.2.2.1,rfl⟩,HS.2.2.2.2⟩⟩
 obtain⟨W4,b9⟩:=eQ (w3.alloc (.cells #[.map (some b1),.map (some b2)] 249));have b0:aa All w3 W4:=by rw[b9];exact kR.alloc _
 have b4:al W4 w3.heap.size 249 #[.map (some b1),.map (some b2)]:=by rw[b9];exact ac rfl
 have c6:W4.heap.size=w3.heap.size+1:=by rw[b9];simp
 have e2:=((HW.2.2.2.1.kept H2.2.2.2.2 trivial).kept (Z.trans b0) trivial).cell 2;simp only[gc] at e2;have L2:=H2.2.2.1;have L3:=H2.2.2.2.1;have L1:=HW.2.1;have j3:=eE L1.symm;have j4:=eE c6;have j5:=eE c6.symm;have d9:aa All w W4:=(HW.2.2.1.trans H2.2.2.2.2).trans (Z.trans b0);have H4:=J8 b9 b4 (h0.keep b0 trivial) (H2.2.1.keep (Z.trans b0) trivial) d9 l (Z.trans b0) c6;clear b9 b0 b4 c6 h0 Z d2 l d9 L1;go_upto_region 3 with fail;rw[←H4.1];go_wp2_with fail;go_loopg [25] f.Ng.length (fun g h6 wr=>∃j:Nat,j≤f.Ng.length∧g=f.Ng.length-j∧h6=.int .i64 j∧aa (fun b=>b≠b2) W4 wr∧cK wr b2 (f.params++gH (f.Ng.take j))∧(f.params++gH (f.Ng.take j)).Nodup);·exact⟨0,by omega,by omega,rfl,kR,by rw[List.take_zero,show gH []=[] from rfl,List.append_nil];exact H4.2.2.2.1,by rw[List.take_zero,show gH []=[] from rfl,List.append_nil];exact H2.1⟩
 obtain⟨j,hj,rfl,rfl,C,hm,l⟩:=hrel;have i7:=C.size;have c0:aa All w wr:=am (H4.2.2.2.2.1.all.trans (C.mono fun b hb=>by show b≠_;omega));by_cases h7:j<f.Ng.length;·(
 obtain⟨b,e1⟩:=eG h7;obtain⟨bb,o,cs,rfl,j6,j7,hc,vb,rfl,h1,j0,j1⟩:=aZ (HP.2.1 wr c0) e1;have hV:=it.la h1;obtain⟨cA,cc,rfl,n1,n2,n3,_⟩:=h1;unfold maxLen at n2;have z0:=hc 0 _ rfl;rw[dj] at z0;have z1:=hc 1 _ rfl;have z2:=hc 2 _ rfl;obtain⟨W5,c7⟩:=eQ (wr.alloc (.cells #[.string b.name,.slice cA b.code.length cc,.int .i64 b.Nj] 229));have e3:aa All wr W5:=by rw[c7];exact kR.alloc _
 have b5:al W5 wr.heap.size 229 #[.string b.name,.slice cA b.code.length cc,.int .i64 b.Nj]:=by rw[c7];exact ac rfl
 have g1:=b5.cell 1;simp only[gc] at g1;obtain⟨wo,rfl⟩:=eQ wr;have j8:=hm.lt;have j9:wo.heap.size≤W5.heap.size:=e3.size;have HO:=J8 C hm l c0 e1 hV c7 e3;clear C hm l c0 e1 hV hc c7 e3 b5;go_upto_region 6 with fail;rw[←HO.2.2.2.2.2.2.1];go_wp2_with fail;go_loopg [32] b.code.length (fun g h8 wr=>∃i:Nat,i≤b.code.length∧g=b.code.length-i∧h8=.int .i64 i∧aa (fun b=>b≠b2) W5 wr∧cK wr b2 ((f.params++gH (f.Ng.take j))++gG (b.code.take i))∧((f.params++gH (f.Ng.take j))++gG (b.code.take i)).Nodup);·exact⟨0,by omega,by omega,rfl,kR,by rw[List.take_zero,show gG []=[] from rfl,List.append_nil];exact HO.2.1.keep HO.2.2.2.2.2.2.2 trivial,by rw[List.take_zero,show gG []=[] from rfl,List.append_nil];exact HO.2.2.1⟩
 obtain⟨i,hi,rfl,rfl,C,hm,l⟩:=hrel;have i0:=C.size;by_cases a6:i<b.code.length;·(
 obtain⟨x,hx⟩:=eG a6;obtain⟨xb,xo,k0,rfl,k1,j2,R,xa,xf,rfl,i1,i2,c8⟩:=aZ (it.keep (HO.2.2.2.2.2.2.2.all.trans (C.mono fun b hb=>by have:=hS b hb;show b≠_;omega)) (HO.2.2.2.2.2.1 _ kR)) hx;obtain⟨ua,uc,rfl,_⟩:=i1;obtain⟨va,vc,rfl,_⟩:=i2;have z0:=R 0 _ rfl;rw[dj] at z0;have z1:=R 1 _ rfl;have z2:=R 2 _ rfl;have z3:=R 3 _ rfl;have z4:=R 4 _ rfl;have z5:=R 5 _ rfl;have z6:=R 6 _ rfl;have z7:=R 7 _ rfl;have z8:=R 8 _ rfl;obtain⟨W6,c9⟩:=eQ (wr.alloc (.cells #[.int .u8 x.kind,.int .u8 x.op,.string x.dst,.string x.ref,.string x.Ni,.slice ua x.args.length uc,.slice va x.Nh.length vc,.int .i64 x.num,.int .i64 x.Nj] 231));have a1:aa All wr W6:=by rw[c9];exact kR.alloc _
 have b6:al W6 wr.heap.size 231 #[.int .u8 x.kind,.int .u8 x.op,.string x.dst,.string x.ref,.string x.Ni,.slice ua x.args.length uc,.slice va x.Nh.length vc,.int .i64 x.num,.int .i64 x.Nj]:=by rw[c9];exact ac rfl
 have b3:=(((H4.2.1.kept HO.1 (by show _≠_;omega)).kept HO.2.2.2.2.2.2.2 trivial).kept C (by show _≠_;omega)).kept a1 trivial;have s1:=b3.cell 1;have t2:=b6.cell 2;have t8:=b6.cell 8;simp only[gc] at s1 t2 t8;have nr:=jY x.dst;have c3:=(hm.keep a1 trivial).look (s:=x.dst) (by have:=c8.dst;unfold maxLen;omega);have e4:=(hm.keep a1 trivial).len 3;have d7:=J3 c8.Nj c8.dst (Hx (i:=i) HO.2.2.2.2.1);have e0:aa All w W6:=am ((((H4.2.2.2.2.1.all.trans (HO.1.mono fun b hb=>by show b≠_;omega)).trans HO.2.2.2.2.2.2.2.all).trans (C.mono fun b hb=>by show b≠_;omega)).trans a1.all);have Y:=J8 C (hm.keep a1 trivial) l hx c9 a1 d7.out e0;clear C hm l hx c9 a1 b6 b3 R e0 c8;go_upto_region 9 with fail;rw[←Y.2.2.2.2.1];by_cases hd:x.dst=gR
 ·rw[bL hd] at nr;have HD:=oH hd;clear hd c3 e4;go_wp2_with fail;go_roundg (b.code.length-(i+1))
  ·have e:=oN Y.2.2.2.1;rw[ap HD.out,List.append_nil] at e;refine⟨i+1,by omega,rfl,by go_num,Y.1.trans Y.2.2.2.2.2.1.all,?_,?_⟩;·rw[e];exact Y.2.1
   rw[e];exact Y.2.2.1
  omega
 rw[cI hd] at nr;have HD:=oH hd;clear hd;obtain⟨NM,b7⟩:=eR (((f.params++gH (f.Ng.take j))++gG (b.code.take i)));rw[b7] at c3 e4 Y;obtain⟨q,hq⟩:=eR (aO NM x.dst);rw[hq] at c3;by_cases J:0≤q;·rw[Int.max_eq_left J,bL J] at c3;have HN:=oH (fun h:(bh f).Nodup∧(cn f).Nodup=>tg HO.2.2.2.2.1 Y.2.2.2.1 HD.out (by rw[b7];exact cm.1 (by rw[hq];exact J)) h.1);clear hq J e4 b7;go_wp2_with (go_at_call 137;refine(fP _ _ _).mono ?_;rintro e w4 ⟨rfl,rfl⟩);exact⟨rfl,.inr ⟨HN.out,⟨x.Nj,9,by decide,d7.1,by unfold aV;omega,rfl⟩,Y.2.2.2.2.2.2.2⟩⟩
 rw[cI J] at c3;have HN:=J3 (show aO NM x.dst<0 by rw[hq];omega) (show¬(x.dst∈NM) from fun h=>by have:=cm.2 h;omega) b7;have i4:=oH (show NM.length≤900000 by rw[←b7];exact fR d7.2.2 HP.2.2.2.2);clear hq J b7;go_wp2_with (
  first
  |(at_mapUpdate
    go_loud (refine gN rfl _ _ _ rfl b2 NM rfl Y.2.1 (by have:=i4.out;omega) x.dst rfl rfl (by have:=d7.2.1;unfold maxLen;omega) HN.1 ?_;intro w7 h2 h3;have H7:=J2 h2 h3;clear h2 h3))
  |(go_at_call 137;refine(dX _ _ _).mono ?_;rintro e w4 ⟨rfl,rfl⟩))
 go_roundg (b.code.length-(i+1))
 ·have e:=oN Y.2.2.2.1;rw[ae HD.out] at e;refine⟨i+1,by omega,rfl,by go_num,(Y.1.trans Y.2.2.2.2.2.1.all).grown H7.2 fun b hb=>.inl fun h=>h (by injection hb with hb;exact hb.symm),?_,?_⟩;·rw[e,←jM,HN.2.2];exact H7.1
  rw[e,←jM,HN.2.2];exact kB Y.2.2.1 HN.2.1
 omega)
 obtain rfl:i=b.code.length:=by omega
 rw[dZ] at hm l;have Y:=J3 C hm l;clear C hm l;go_wp2_with fail;go_roundg (f.Ng.length-(j+1))
 ·have e:=oO HO.2.2.2.2.1
  refine⟨j+1,by omega,rfl,by go_num,HO.1.trans (HO.2.2.2.2.2.2.2.all.trans Y.1),?_,?_⟩;·rw[e,←jM];exact Y.2.1
  rw[e,←jM];exact Y.2.2
 omega)
 obtain rfl:j=f.Ng.length:=by omega
 rw[dZ] at hm l;have b3:=H4.2.1.kept C (by show _≠_;omega);have b8:=((HW.2.2.2.2.kept H2.2.2.2.2 trivial).kept H4.2.2.2.2.2.2.1 trivial).kept C (by show _≠_;omega);have s0:=b3.cell 0;have s1:=b3.cell 1;have r0:=b8.cell 0;have r1:=b8.cell 1;have f0:=b8.free 0;have f1:=b8.free 1;have c4:=(b8.set 0 (.map (some b1))).set 1 (.map (some b2));have g0:=c4.cell 0;have g1:=c4.cell 1;simp only[ga,gc] at s0 s1 r0 r1 g0 g1;have c5:=((aa.refl (fun b=>b≠w.heap.size+1) wr).setCell (p:=⟨w.heap.size+1,0,none⟩) (.inl fun h=>h rfl) (.map (some b1))).setCell (p:=⟨w.heap.size+1,1,none⟩) (.inl fun h=>h rfl) (.map (some b2));have h4:=(H4.2.2.1.keep C (by show _≠_;omega)).keep c5 (by show _≠_;omega);have HF:=J5 (hm.keep c5 (by show _≠_;omega)) h4 l (am (c0.all.trans (c5.mono fun b hb=>by show b≠_;omega))) c5.size;clear C hm l b3 b8 c4 c5 h4 c0;go_wp2_with fail;have h9:=HF.2.2.2.2;refine bodyPost_ret (v:=.agg #[.map (some b1),.map (some b2)]) (by simp[results,Tryz.f142,go_sem,g0,g1]) rfl (.inl ⟨⟨HF.2.2.1,H4.2.2.2.2.2.1⟩,b1,b2,rfl,⟨HF.2.1,HF.1⟩,by omega,by omega,by omega,by omega,HF.2.2.2.1⟩)
section
open Go
section
variable {P:Program} {ops:Array Oper} {md:Region.Mode} {S:World→Prop} {T:List Tmp} {F:Tmp→Value→World→Prop} {L:Nat→Option (Value→Prop)} {D:Nat→Bool} {X:List PanicEntry→World→Prop}
def xG (P:Program)(S:World→Prop)(T:List Tmp)(F:Tmp→Value→World→Prop)(X:List PanicEntry→World→Prop)(d:Bool)(V:Value→Prop)(o:Oper)(w:World):Result Next→Prop
 |.ok (.value u) w'=>d=false∧V u∧om S T F o w w' u
 |.ok .skip w'=>d=false∧V undef∧om S T F o w w' undef
 |.ok (.enter f args) w'=>Calls P f args w' (fun e w''=>(d=false∧∃u,e=.returned u∧V u∧om S T F o w w'' u)∨∃ch,e=.panicked ch∧X ch w'')
 |_=>False
def fq (P:Program)(ops:Array Oper)(S:World→Prop)(T:List Tmp)(F:Tmp→Value→World→Prop)(X:List PanicEntry→World→Prop)(o:Oper)(lab:Option (Value→Prop))(d:Bool)(a:Act)(V:Value→Prop):Prop:=
 (Region.wanted o (yielded ops a.tmps)=true∧lab=none∧d=false∧∃v,V=(·=v)∧Iq P ops S T F o a v)∨
 (Region.wanted o (yielded ops a.tmps)=true∧lab=some V∧(∀w,S w→ij ops T F o a w→xG P S T F X d V o w ((execOp a.eval o).run P w))∧∀w,S w→ij ops T F o a w→∃u w',V u∧om S T F o w w' u)∨
 (Region.wanted o (yielded ops a.tmps)=false∧d=false∧V=(·=undef)∧∀d,o.dst=some d→d∉T)
theorem fq.unique {o:Oper}{J:Option (Value→Prop)}{d:Bool}{a:Act}{V Z:Value→Prop}(h:fq P ops S T F X o J d a V)(h':fq P ops S T F X o J d a Z){w:World}(hw:S w)(hp:ij ops T F o a w):V=Z:=by
 rcases h with ⟨C,R,_,v,rfl,h3⟩|⟨C,R,_⟩|⟨C,_,rfl,_⟩
 ·rcases h' with ⟨j,l,_,v',rfl,k3⟩|⟨j,l,_⟩|⟨j,_⟩
  ·have Y:=(h3 w hw hp).1;rw[(k3 w hw hp).1] at Y;iterate 2 injection Y with Y
   subst Y;rfl
  ·rw[R] at l;cases l
  rw[C] at j;cases j
 ·rcases h' with ⟨j,l,_⟩|⟨j,l,_⟩|⟨j,_⟩
  ·rw[R] at l;cases l
  ·rw[R] at l;injection l
  rw[C] at j;cases j
 rcases h' with ⟨j,_⟩|⟨j,_⟩|⟨_,_,rfl,_⟩;·rw[C] at j;cases j
 ·rw[C] at j;cases j
 rfl
theorem fq.some_ {o:Oper}{l:Option (Value→Prop)}{d:Bool}{a:Act}{V:Value→Prop}(h:fq P ops S T F X o l d a V){w:World}(hw:S w)(C:ij ops T F o a w):∃u J,V u∧om S T F o w J u:=by
 rcases h with ⟨_,_,_,v,rfl,j⟩|⟨_,_,_,j⟩|⟨_,_,rfl,j⟩;·exact⟨v,w,rfl,hw,fun _ _ _ h=>h,(j w hw C).2⟩
 ·exact j w hw C
 exact⟨undef,w,rfl,hw,fun _ _ _ h=>h,fun d R Y=>absurd Y (j d R)⟩
theorem fq.put {o:Oper}{j:Option (Value→Prop)}{b:Bool}{a:Act}{V:Value→Prop}{dst:Option Tmp}{u:Value}(l:∀cs b,o.op≠.select cs b)(h:∀d,dst=some d→d∉o.looksAt ops):
 fq P ops S T F X o j b (a.put dst u) V↔fq P ops S T F X o j b a V:=by
 unfold fq Iq;rw[execOp_put o l a dst u h,wanted_put o a dst u h];simp only[ij.put h]
def qM (P:Program)(md:Region.Mode)(ops:Array Oper)(S:World→Prop)(T:List Tmp)(F:Tmp→Value→World→Prop)(L:Nat→Option (Value→Prop))(D:Nat→Bool)(X:List PanicEntry→World→Prop)(n:Nat)(Q:Array Bool→Act→Prop):Nat→Bool→Array Bool→Act→Prop
 |0,dead,listed,a=>(∃w,S w∧eU ops T F listed a w)→(∀j∈Region.ready md ops listed,n≤j)∧(dead=false→Q listed a)
 |fuel+1,dead,listed,a=>(∃w,S w∧eU ops T F listed a w)→Region.ready md ops listed≠[]∧
  ∀i∈Region.ready md ops listed,i<n∧∀o,ops[i]? =some o→∃V,fq P ops S T F X o (L i) (D i) a V∧∀v,V v→qM P md ops S T F L D X n Q fuel (dead||D i) (listed.setIfInBounds i true) (a.put o.dst v)
theorem tA (a:Act)(d:Option Tmp)(v:Value):(a.put d v).defers=a.defers:=by cases d<;>rfl
theorem gM {n g:Nat}{Q:Array Bool→Act→Prop}{Q':Exit→Act→World→Prop}{J:Act→Prop}(hm:lk md ops T)(Y:∀(i:Nat) (o:Oper) (a:Act) (v:Value),ops[i]? =some o→J a→J (a.put o.dst v))(hX:∀a ch w,X ch w→J a→Q' (.panic ch) a w)
 (hQ:∀listed a w,S w→eU ops T F listed a w→Q listed a→wpAny P md ops Q' g listed a w):∀(j:Nat) (listed:Array Bool) (a:Act) (w:World),J a→S w→eU ops T F listed a w→
 qM P md ops S T F L D X n Q j false listed a→wpAny P md ops Q' (j+g) listed a w
 |0,listed,a,w,_,hw,R,h=>by rw[cN];exact hQ _ _ _ hw R ((h ⟨w,hw,R⟩).2 rfl)
 |j+1,listed,a,w,h0,hw,R,h=>by(
 rw[show j+1+g=(j+g)+1 by omega];refine⟨fun Z=>absurd Z (h ⟨w,hw,R⟩).1,fun i hi=>?_⟩;obtain⟨_,o,C,_⟩:=mem_ready.1 hi;obtain⟨V,hy,hn⟩:=((h ⟨w,hw,R⟩).2 i hi).2 o C;have hp:=R.pre hm hi C;unfold wpOp;simp only[C];rcases hy with ⟨Z,_,hd,v,rfl,h3⟩|⟨Z,_,h3,_⟩|⟨Z,hd,rfl,h3⟩;·rw[ap Z];left;obtain⟨l,a1⟩:=h3 w hw hp;unfold Oper.wp;rw[l];have:=hn v rfl;rw[hd] at this;exact gM hm Y hX hQ j _ _ w (Y _ _ _ _ C h0) hw (R.next C ⟨hw,fun _ _ _ h=>h,a1⟩) this
 ·(
 rw[ap Z];left;have l:=h3 w hw hp;unfold Oper.wp;generalize (execOp a.eval o).run P w=r at l;cases r with
 |ok nx w'=>
  cases nx<;>simp only[xG] at l<;>simp only[Oper.upon]
  case value u=>(have:=hn u l.2.1;rw[l.1] at this;exact gM hm Y hX hQ j _ _ w' (Y _ _ _ _ C h0) l.2.2.1 (R.next C l.2.2) this)
  case skip=>(have:=hn undef l.2.1;rw[l.1] at this;exact gM hm Y hX hQ j _ _ w' (Y _ _ _ _ C h0) l.2.2.1 (R.next C l.2.2) this)
  case enter f args=>(
 refine l.mono ?_;rintro e a6 (⟨hd,u,rfl,hv,hg⟩|⟨ch,rfl,hx⟩)
 ·have:=hn u hv
  rw[hd] at this;exact gM hm Y hX hQ j _ _ a6 (Y _ _ _ _ C h0) hg.1 (R.next C hg) this
 exact hX _ _ _ hx h0)
 |halt x w'=>simp only[xG] at l)
 rw[ae (by rw[Z];exact oG)];have:=hn undef rfl;rw[hd] at this;exact gM hm Y hX hQ j _ _ w (Y _ _ _ _ C h0) hw (R.next C ⟨hw,fun _ _ _ h=>h,fun d hd ht=>absurd ht (h3 d hd)⟩) this)
theorem xx {n:Nat}{Q:Array Bool→Act→Prop}{i:Nat}{oi:Oper}{V:Value→Prop}(hm:lk md ops T)(hi:ops[i]? =some oi)(a7:∀(j:Nat) (o:Oper) cs b,ops[j]? =some o→o.op≠.select cs b)
 (hR:∀listed,HeadInv md ops n listed→∀i,i<n→listed.getD i true=false→∀j∈Region.ready md ops listed,j<n) (b1:i<n):
 ∀(l:Nat) (dead:Bool) (listed:Array Bool) (a:Act),HeadInv md ops n listed→
  (∀j Z,ops[j]? =some Z→j≠i→listed.getD j true=false→(∀e∈Z.after,Region.binds md e=true→e.on≠i)→oi.apart ops Z=true)→
  i∈Region.ready md ops listed→fq P ops S T F X oi (L i) (D i) a V→
  (∀v,V v→qM P md ops S T F L D X n Q l (dead||D i) (listed.setIfInBounds i true) (a.put oi.dst v))→qM P md ops S T F L D X n Q (l+1) dead listed a:=by
 intro l;induction l with
 |zero=>
  intro dead listed a inv _ hr hy H R;obtain⟨w0,b2,a6⟩:=R;obtain⟨v0,w1,b6,hg⟩:=hy.some_ b2 (a6.pre hm hr hi);have h1:=H v0 b6 ⟨w1,hg.1,a6.next hi hg⟩;have Y:=(mem_ready.1 hr).1;refine⟨fun h=>(by rw[h] at hr;cases hr),fun j hj=>⟨hR _ inv i b1 Y j hj,fun o ho=>?_⟩⟩;by_cases C:j=i;·subst C;rw[hi] at ho;cases ho;exact⟨V,hy,H⟩
  have h2:=h1.1 j (ready_mono hj C);have h3:=hR _ inv i b1 Y j hj;omega
 |succ l ih=>
  intro dead listed a inv a8 hr hy H R;obtain⟨w0,b2,a6⟩:=R;obtain⟨v0,w1,b6,hg⟩:=hy.some_ b2 (a6.pre hm hr hi);have h1:=H v0 b6 ⟨w1,hg.1,a6.next hi hg⟩;have Y:=(mem_ready.1 hr).1;refine⟨fun h=>(by rw[h] at hr;cases hr),fun j hj=>⟨hR _ inv i b1 Y j hj,fun Z J=>?_⟩⟩;have c3:=hR _ inv i b1 Y j hj;by_cases C:j=i;·subst C;rw[hi] at J;cases J;exact⟨V,hy,H⟩
  obtain⟨b0,d9,b4,b8⟩:=mem_ready.1 hj;rw[J] at b4;cases b4;have b9:∀e∈Z.after,Region.binds md e=true→e.on≠i:=fun e he hb heq=>by have h1:=b8 e he hb;rw[heq,getD_both Y] at h1;cases h1
  obtain⟨a1,a2,a3⟩:=Oper.apart_spec (a8 j Z J C b0 b9);obtain⟨Vj,c4,_⟩:=(h1.2 j (ready_mono hj C)).2 Z J;have b5:=(fq.put (fun cs b=>a7 j Z cs b J) a1).1 c4;have c5:=a6.pre hm hj J
  have b3:∀k ok,ops[k]? =some ok→k≠i→(listed.setIfInBounds j true).getD k true=false→
   (∀e∈ok.after,Region.binds md e=true→e.on≠i)→oi.apart ops ok=true:=fun k ok hk c6 Y c7=>by
   refine a8 k ok hk c6 ?_ c7;by_cases c0:j=k;·subst c0;exact b0
   rw[getD_set_ne true c0] at Y;exact Y
  refine⟨Vj,b5,fun u hu=>ih (dead||D j) (listed.setIfInBounds j true) (a.put Z.dst u) (inv.set hj c3) b3 (ready_mono hr (Ne.symm C)) ((fq.put (fun cs b=>a7 i oi cs b hi) a3).2 hy) fun v hv=>?_⟩;have comm:=Act.put_comm a v u a2;have key:(∃w,S w∧eU ops T F ((listed.setIfInBounds j true).setIfInBounds i true) ((a.put Z.dst u).put oi.dst v) w)→qM P md ops S T F L D X n Q l (dead||D j||D i) ((listed.setIfInBounds j true).setIfInBounds i true) ((a.put Z.dst u).put oi.dst v):=by(
 rintro⟨w2,c8,c1⟩;rw[←comm,Array.setIfInBounds_comm _ _ C] at c1⊢;have b7:(listed.setIfInBounds i true).getD j true=false:=by rw[getD_set_ne true (Ne.symm C)];exact b0
 have c9:=c1.less hm J b7;obtain⟨V2,d7,d8⟩:=((H v hv ⟨w2,c8,c9⟩).2 j (ready_mono hj C)).2 Z J;have c2:=(fq.put (fun cs b=>a7 j Z cs b J) a1).1 d7;have:=b5.unique c2 b2 c5;subst this;rw[Bool.or_right_comm];exact d8 u hu)
  cases l with
  |zero=>exact fun R=>key R R
  |succ l=>exact fun R=>key R R
def oC (P:Program)(ops:Array Oper)(S:World→Prop)(T:List Tmp)(F:Tmp→Value→World→Prop)(L:Nat→Option (Value→Prop))(D:Nat→Bool)(X:List PanicEntry→World→Prop)(Q:Act→Prop):List Oper→Nat→Bool→Act→Prop
 | [],_,dead,a=>dead=false→Q a
 |o::rest,k,dead,a=>∃V,fq P ops S T F X o (L k) (D k) a V∧∀v,V v→oC P ops S T F L D X Q rest (k+1) (dead||D k) (a.put o.dst v)
theorem tU {n g:Nat}{Q:Act→Prop}(hm:lk md ops T)(hs:Region.noSelect ops=true)
 (hR:∀listed,HeadInv md ops n listed→∀i,i<n→listed.getD i true=false→∀j∈Region.ready md ops listed,j<n):
 ∀(l:List Oper) (k:Nat) (dead:Bool) (listed:Array Bool) (a:Act),(∀j,j<l.length→l[j]? =ops[k+j]?)→k+l.length=n→HeadInv md ops n listed→(∀j,j<k→listed.getD j false=true)→
 Region.lexHead md ops g l.length k listed=true→oC P ops S T F L D X Q l k dead a→
 qM P md ops S T F L D X n (fun C a'=>Region.seqB md ops g n C=true∧(∀j,j<n→C.getD j false=true)∧Q a') l.length dead listed a
 | [],k,dead,listed,a,_,hk,_,hd,J,h=>by
  have:k=n:=by simpa using hk
  subst this;have J:Region.seqB md ops g k listed=true:=by simpa [Region.lexHead] using J
  exact fun _=>⟨seqB_ready J,fun R=>⟨J,hd,h R⟩⟩
 |o::l,k,dead,listed,a,hl,hk,inv,hd,J,h=>by(
 have h0:ops[k]? =some o:=by simpa using(hl 0 (by simp)).symm
 simp only[kI,Region.lexHead,gE] at J;obtain⟨⟨hr,hf⟩,a1⟩:=J;have Y:k<n:=by simp only[kI] at hk;omega
 have Z:k∈Region.ready md ops listed:=by simpa using hr
 obtain⟨V,hy,hK⟩:=h;have a6:k<listed.size:=by rw[inv.size];exact(mV.1 h0).1
 refine xx hm h0 (Region.noSelect_spec hs) hR Y l.length dead listed a inv (Region.free_spec h0 hf) Z hy
  fun v hv=>tU hm hs hR l (k+1) _ _ _ (fun j hj=>by have:=hl (j+1) (by simp;omega);simpa [Nat.add_assoc,Nat.add_comm 1 j] using this) (by simp only[kI] at hk;omega) (inv.set Z Y) (fun j hj=>?_) a1 (hK v hv)
 by_cases e:k=j;·subst e;simp[a6]
 rw[getD_set_ne false e];exact hd j (by omega))
def yZ (md:Region.Mode)(ops:Array Oper)(n:Nat):Bool:=
 Region.noSelect ops&&(n==ops.size||(decide (n<ops.size)&&Region.sinkB md ops n&&Region.chainB md ops n))&&Region.lexHead md ops (ops.size-n) n 0 (Array.replicate ops.size false)
def pM (ops:Array Oper)(T:List Tmp)(n:Nat):Bool:=T.all fun t=>(List.range n).any fun k=>match ops[k]? with|some x=>x.dst==some t|none=>false
theorem kG {id:Nat}{Q:Exit→Act→World→Prop}{a:Act}{w:World}{l:List Oper}(n:Nat)(S:World→Prop)(T:List Tmp)(F:Tmp→Value→World→Prop)(L:Nat→Option (Value→Prop))(D:Nat→Bool)(X:List PanicEntry→World→Prop)(J:Act→Prop)
 (hm:P.follows .mixedOrders=true) (hB:yZ .any l.toArray n=true) (hT:ns .any l.toArray T=true) (b1:pM l.toArray T n=true)
 (hS:S w.drew) (b2:J a) (hJ:∀(i:Nat) (o:Oper) (a:Act) (v:Value),l.toArray[i]? =some o→J a→J (a.put o.dst v)) (hX:∀Y ch w,X ch w→J Y→Q (.panic ch) Y w) (h:oC P l.toArray S T F L D X (fun Y=>∀Z,S Z→(∀t∈T,∀v,Y.tmps[t]? =some v→F t v Z)→wpList P l.toArray Q (l.drop n) Y Z) (l.take n) 0 false a):(Code.region id l.toArray true).wp P Q a w:=by
 simp only[yZ,gE,Bool.or_eq_true,cy,iH] at hB;obtain⟨⟨a1,hn⟩,a6⟩:=hB;have a7:=sU hT;have b7:n≤l.length:=by rcases hn with h|⟨⟨h,_⟩,_⟩<;>simp at h<;>omega
 have C:(l.take n).length=n:=by simp;omega
 have a8:(l.drop n).length=l.toArray.size-n:=by simp
 have b0:HeadInv .any l.toArray n (Array.replicate l.toArray.size false):=
  ⟨by simp,fun j oj _ hl=>(by rw[getD_replicate_false] at hl;cases hl),fun t _ ht=>getD_in (by simpa using ht) (getD_replicate_false _ _)⟩
 have hR:∀listed,HeadInv .any l.toArray n listed→∀i,i<n→listed.getD i true=false→∀j∈Region.ready .any l.toArray listed,j<n:=by(
 intro listed inv i hi b3 j hj;obtain⟨_,oj,b4,_⟩:=mem_ready.1 hj;have b8:=(mV.1 b4).1;rcases hn with h|⟨⟨h,hs⟩,hc⟩;·omega
 rcases Nat.lt_or_ge j n with h'|h';·exact h'
 exact absurd hj (tail_waits hs hc h inv _ i rfl hi b3 j h'))
 have H:=tU (md:=.any) (g:=l.toArray.size-n) a7 a1 hR (l.take n) 0 false _ a (fun j hj=>by
  have b5:j<n:=by rw[C] at hj;exact hj
  simp[b5]) (by simpa using C) b0 (fun j hj=>by omega) (by rw[C];exact a6) h
 refine wp_region_any hm ?_;have:=gM (Q':=Q) (J:=J) (g:=l.toArray.size-n) a7 hJ hX (fun listed Y Z b6 hf hL=>by
  have R:∀t∈T,∀v,Y.tmps[t]? =some v→F t v Z:=fun t ht v hv=>by(
 have h1:=List.all_eq_true.1 b1 t ht;obtain⟨k,hk,h2⟩:=mW.1 h1;cases hx:l.toArray[k]? with
 |none=>simp[hx] at h2
 |some x=>simp only[hx,cy] at h2;exact hf k x t (hL.2.1 k (fg.1 hk)) hx h2 ht v hv)
  have:=wpAny_of_seq (md:=.any) (Q':=Q) (l.drop n) n listed Y Z (fun j=>by simp[List.getElem?_drop]) (by rw[a8];exact hL.1) (hL.2.2 Z b6 R);rwa [a8] at this) _ _ _ w.drew b2 hS (fun k o d hk=>by exfalso;rw[getD_replicate_false] at hk;cases hk) H
 rw[C,show n+(l.toArray.size-n)=l.toArray.size by omega] at this;exact this
theorem bq {id:Nat}{Q:Exit→Act→World→Prop}{a:Act}{w:World}{l:List Oper}(n:Nat)(S:World→Prop)(T:List Tmp)(F:Tmp→Value→World→Prop)(L:Nat→Option (Value→Prop))(D:Nat→Bool)(X:List PanicEntry→World→Prop)
 (hm:P.follows .mixedOrders=true) (R:yZ .any l.toArray n=true) (Y:ns .any l.toArray T=true) (o:pM l.toArray T n=true)
 (Z:S w.drew) (hX:∀j J w,X J w→j.defers=a.defers→Q (.panic J) j w) (h:oC P l.toArray S T F L D X (fun j=>∀C,S C→(∀t∈T,∀v,j.tmps[t]? =some v→F t v C)→wpList P l.toArray Q (l.drop n) j C) (l.take n) 0 false a):(Code.region id l.toArray true).wp P Q a w:=
 kG n S T F L D X (fun j=>j.defers=a.defers) hm R Y o Z rfl (fun _ _ _ _ _ h=>(tA _ _ _).trans h) hX h
section steps
variable {Q:Act→Prop} {o:Oper} {rest:List Oper} {k:Nat} {dead:Bool} {a:Act}
theorem aG (h:Q a):oC P ops S T F L D X Q [] k dead a:=fun _=>h
theorem dG:oC P ops S T F L D X Q [] k true a:=fun h=>by cases h
theorem xy {v:Value}(hw:Region.wanted o (yielded ops a.tmps)=true)(l:L k=none)(j:D k=false)(C:∀d,o.dst=some d→d∉T)(h:∀w,S w→ij ops T F o a w→(execOp a.eval o).run P w=.ok (.value v) w)(J:oC P ops S T F L D X Q rest (k+1) dead (a.put o.dst v)):oC P ops S T F L D X Q (o::rest) k dead a:=
 ⟨_,.inl ⟨hw,l,j,v,rfl,fun w R Y=>⟨h w R Y,fun d j Z=>absurd Z (C d j)⟩⟩,fun _ e=>by subst e;rw[j,Bool.or_false];exact J⟩
theorem tW {v:Value}(hw:Region.wanted o (yielded ops a.tmps)=true)(Z:L k=some (·=v))(R:D k=false)(Y:∀d,o.dst=some d→d∉T)
 (h:∀w,S w→ij ops T F o a w→∃f args,(execOp a.eval o).run P w=.ok (.enter f args) w∧Calls P f args w fun e l=>e=.returned v∧S l∧∀t∈T,∀v,F t v w→F t v l) (hk:oC P ops S T F L D X Q rest (k+1) dead (a.put o.dst v)):oC P ops S T F L D X Q (o::rest) k dead a:=
 ⟨_,.inr (.inl ⟨hw,Z,fun w C hp=>by obtain⟨f,args,hr,hc⟩:=h w C hp;rw[hr];exact hc.mono fun e l ⟨h1,h2,h3⟩=>.inl ⟨R,v,h1,rfl,h2,h3,fun d j J=>absurd J (Y d j)⟩,fun w C _=>⟨v,w,rfl,C,fun _ _ _ h=>h,fun d j J=>absurd J (Y d j)⟩⟩),fun _ e=>by subst e;rw[R,Bool.or_false];exact hk⟩
theorem Ic (v:Value)(hw:Region.wanted o (yielded ops a.tmps)=true)(R:L k=some (·=v))(Y:D k=true)(Z:∀d,o.dst=some d→d∉T)
 (h:∀w,S w→ij ops T F o a w→∃f args,(execOp a.eval o).run P w=.ok (.enter f args) w∧Calls P f args w fun e C=>∃J,e=.panicked J∧X J C) (hk:oC P ops S T F L D X Q rest (k+1) true (a.put o.dst v)):oC P ops S T F L D X Q (o::rest) k dead a:=
 ⟨_,.inr (.inl ⟨hw,R,fun w j hp=>by obtain⟨f,args,hr,hc⟩:=h w j hp;rw[hr];exact hc.mono fun e C h'=>.inr h',fun w j _=>⟨v,w,rfl,j,fun _ _ _ h=>h,fun d l hT=>absurd hT (Z d l)⟩⟩),fun _ e=>by subst e;rw[Y,Bool.or_true];exact hk⟩
theorem Ey {V:Value→Prop}(hw:Region.wanted o (yielded ops a.tmps)=true)(C:L k=some V)(l:D k=false)(h:∀w,S w→ij ops T F o a w→xG P S T F X false V o w ((execOp a.eval o).run P w))(j:∀w,S w→ij ops T F o a w→∃u J,V u∧om S T F o w J u)(R:∀v,V v→oC P ops S T F L D X Q rest (k+1) dead (a.put o.dst v)):oC P ops S T F L D X Q (o::rest) k dead a:=
 ⟨V,.inr (.inl ⟨hw,C,by rw[l];exact h,j⟩),fun v Y=>by rw[l,Bool.or_false];exact R v Y⟩
theorem Ib (hw:Region.wanted o (yielded ops a.tmps)=false)(j:D k=false)(l:∀d,o.dst=some d→d∉T)(C:oC P ops S T F L D X Q rest (k+1) dead (a.put o.dst undef)):oC P ops S T F L D X Q (o::rest) k dead a:=
 ⟨_,.inr (.inr ⟨hw,j,rfl,l⟩),fun _ e=>by subst e;rw[j,Bool.or_false];exact C⟩
end steps
def mR (a:Act)(ts:List Tmp)(a':Act):Prop:=a'.defers=a.defers∧∀t∈ts,a'.tmps[t]? =a.tmps[t]?
def JN (ops:Array Oper)(ts:List Tmp):Bool:=ops.all fun o=>match o.dst with|some d=>!ts.contains d|none=>true
theorem mR.refl (a:Act)(ts:List Tmp):mR a ts a:=⟨rfl,fun _ _=>rfl⟩
theorem tN {ops:Array Oper}{a:Act}{ts:List Tmp}(h:JN ops ts=true)(i:Nat)(o:Oper)(j:Act)(v:Value)(hi:ops[i]? =some o)(l:mR a ts j):mR a ts (j.put o.dst v):=by
 refine⟨(tA _ _ _).trans l.1,fun t C=>?_⟩;have J:=Array.all_eq_true'.1 h o (Array.mem_of_getElem? hi);cases Y:o.dst with
 |none=>exact l.2 t C
 |some d=>
  rw[Y] at J;have R:d≠t:=by intro e;subst e;simp at J;exact J C
  show(j.tmps.setIfInBounds d v)[t]? =_;rw[Array.getElem?_setIfInBounds_ne R];exact l.2 t C
end
end
end Go.Proofs.YtncdbjponknakaaGreatDoor
