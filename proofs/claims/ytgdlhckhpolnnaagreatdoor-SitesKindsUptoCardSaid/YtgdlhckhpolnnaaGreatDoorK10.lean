/- Part 11 of the proof (its last part says what is proved). No condition. -/
import Derived.Test.YtgdlhckhpolnnaaGreatDoorK9
namespace Go.Proofs.YtgdlhckhpolnnaaGreatDoor
set_option maxRecDepth 100000
set_option maxHeartbeats 8000000
open Go.RowKit Go.Proofs.Tryz
def gG (l:List cX):List ByteArray:=(l.map fun x=>x.dst).filter fun s=>decide (s≠gR)
def gH (l:List eS):List ByteArray:=(l.flatMap fun b=>b.code.map fun x=>x.dst).filter fun s=>decide (s≠gR)
theorem zY (l:List eS)(b:eS):gH (l++[b])=gH l++gG b.code:=by simp[gH,gG]
theorem zX (l:List cX)(x:cX):gG (l++[x])=gG l++if x.dst=gR then [] else [x.dst]:=by
 unfold gG;rw[ic,mE];congr 1;by_cases h:x.dst=gR;·simp[h]
 simp[h]
theorem oN {l:List cX}{i:Nat}{x:cX}(h:l[i]? =some x):gG (l.take (i+1))=gG (l.take i)++if x.dst=gR then [] else [x.dst]:=by rw[cU,h];exact zX _ _
theorem oO {l:List eS}{i:Nat}{b:eS}(h:l[i]? =some b):gH (l.take (i+1))=gH (l.take i)++gG b.code:=by rw[cU,h];exact zY _ _
theorem uU (l:List cX)(i:Nat):∃r,gG l=gG (l.take i)++r:=⟨gG (l.drop i),by
 conv=>lhs;rw[←List.take_append_drop i l]
 unfold gG;rw[ic,mE]⟩
theorem uV (l:List eS)(i:Nat):∃r,gH l=gH (l.take i)++r:=⟨gH (l.drop i),by
 conv=>lhs;rw[←List.take_append_drop i l]
 unfold gH;rw[List.flatMap_append,mE]⟩
theorem nY (f:cD):bh f=f.params++gH f.Ng:=rfl
theorem tg {f:cD}{j i:Nat}{b:eS}{x:cX}(J:f.Ng[j]? =some b)(R:b.code[i]? =some x)(Y:x.dst≠gR)(hm:x.dst∈(f.params++gH (f.Ng.take j))++gG (b.code.take i)):¬(bh f).Nodup:=by
 intro h;obtain⟨r1,o⟩:=uV f.Ng (j+1);obtain⟨r2,C⟩:=uU b.code (i+1);rw[oO J] at o;rw[oN R,ae Y] at C;rw[nY,o,C] at h;have e:f.params++(gH (f.Ng.take j)++(gG (b.code.take i)++[x.dst]++r2)++r1)=(((f.params++gH (f.Ng.take j))++gG (b.code.take i))++[x.dst])++(r2++r1):=by simp
 rw[e] at h;have I:=(List.nodup_append.1 h).1;rw[List.nodup_append] at I;exact I.2.2 _ hm _ (by simp) rfl
theorem qgz {f:cD}{j i:Nat}{b:eS}(C:f.Ng[j]? =some b):((f.params++gH (f.Ng.take j))++gG (b.code.take i)).length≤(bh f).length:=by obtain⟨r1,o⟩:=uV f.Ng (j+1);obtain⟨r2,I⟩:=uU b.code i;rw[oO C] at o;rw[nY,o,I];simp only[iQ];omega
structure wd (w:World)(b1 b2:Nat)(f:cD):Prop where
 Ng:cK w b1 (cn f)
 values:cK w b2 (bh f)
def KE (f:cD)(w:World)(e:Ending)(w':World):Prop:=
 ql ((bh f).Nodup∧(cn f).Nodup) (fun e w'=>∃j o,e=.returned (.agg #[.map (some j),.map (some o)])∧wd w' j o f∧w.heap.size≤j∧j<w'.heap.size∧w.heap.size≤o∧o<w'.heap.size∧aa All w w') w e w'
theorem Ec (S:Nat→Prop)(r:Value)(f:cD)(pv qv:Value)(w:World)(hp:gB S w pv f.params)(hq:mJ S w qv f.Ng)(e6:aV f.Nj)(e7:∀s∈f.params,s.size≤140737488355328)(hn:(bh f).length≤900000)(hb:f.Ng.length≤900000)(hS:∀b,S b→b<w.heap.size):
 Calls prog 54 #[r,.agg #[.string f.name,pv,qv,.int .i64 f.Nj]] w (KE f w):=by
 have h6:f.params.length≤900000:=by rw[nY,iQ] at hn;omega
 have hP:=ax.la hp;have hQ:=eH.la hq;obtain⟨pA,pc,rfl,_⟩:=hp;obtain⟨qA,qc,rfl,m1,m2,m3,_⟩:=hq;unfold maxLen at m2;obtain⟨W0,a7⟩:=eQ ((w.alloc (.cells #[.string f.name,.slice pA f.params.length pc,.slice qA f.Ng.length qc,.int .i64 f.Nj] 110)).alloc (.cells #[.map none,.map none] 131));have e8:=aD2 a7;have e9:=aC2 a7;have bF:=aA1 a7;have bR:=aB0 a7 aE1;have c1:=bF.cl 1;have c2:=bF.cl 2;have HW:=J5 a7 e8 e9 bF bR;have HP:=J5 hP hQ e6 e7 hn;clear a7 e8 e9 bF bR hP hQ e6 e7 hn;go_enter func54,ntmps54;go_upto_region 1 with fail;rw[←HW.1];go_wp2_with fail;refine(un S (.slice pA f.params.length pc) f.params w.heap.size f.name (.slice pA f.params.length pc) (.slice qA f.Ng.length qc) f.Nj W0 (HP.1 _ HW.2.2.1) HW.2.2.2.1 HP.2.2.1 h6 HP.2.2.2.1).mono ?_;rintro e w2 (⟨C,b2,rfl,h0,d9,a6,a8⟩|⟨C,⟨an,nn,hn,ha,hi,rfl⟩,a8⟩)
 case inr=>have HS:=J5 (fun h:(bh f).Nodup∧(cn f).Nodup=>C (by have:=h.1;rw[nY,List.nodup_append] at this;exact this.1)) hn ha hi (HW.2.2.1.trans a8);clear C hn ha hi a8;go_wp2_with fail;exact⟨rfl,.inr ⟨HS.1,⟨an,nn,HS.2.1,HS.2.2.1,HS.2.2.2.1,rfl⟩,HS.2.2.2.2⟩⟩
 have d2:=(HW.2.2.2.1.kept a8 trivial).cl 2;have H2:=J5 C h0 d9 a6 a8;clear C h0 d9 a6 a8 c1 c2;go_wp2_with fail;refine(ul S (.slice qA f.Ng.length qc) f.Ng w2 (HP.2.1 _ (HW.2.2.1.trans H2.2.2.2.2)) hb).mono ?_;rintro e w3 (⟨C,b1,rfl,h1,j5,j6,Y⟩|⟨C,⟨an,nn,hn,ha,hi,rfl⟩,Y⟩)
 case inr=>have HS:=J5 (fun h:(bh f).Nodup∧(cn f).Nodup=>C h.2) hn ha hi ((HW.2.2.1.trans H2.2.2.2.2).trans Y);clear C hn ha hi Y d2;go_wp2_with fail;exact⟨rfl,.inr ⟨HS.1,⟨an,nn,HS.2.1,HS.2.2.1,HS.2.2.2.1,rfl⟩,HS.2.2.2.2⟩⟩
 obtain⟨W4,b9⟩:=eQ (w3.alloc (.cells #[.map (some b1),.map (some b2)] 131));have b0:=aC1 b9;have b4:=aA0 b9;have c7:=aD1 b9;have e2:=((HW.2.2.2.1.kept H2.2.2.2.2 trivial).kept (Y.trans b0) trivial).cl 2;have L2:=H2.2.2.1;have L3:=H2.2.2.2.1;have L1:=HW.2.1;have k1:=eE L1.symm;have k2:=eE c7;have k3:=eE c7.symm;have e0:aa All w W4:=(HW.2.2.1.trans H2.2.2.2.2).trans (Y.trans b0);have H4:=J8 b9 b4 (h1.keep b0 trivial) (H2.2.1.keep (Y.trans b0) trivial) e0 C (Y.trans b0) c7;clear b9 b0 b4 c7 h1 Y d2 C e0 L1;go_upto_region 3 with fail;rw[←H4.1];go_wp2_with fail;go_loopg [25] f.Ng.length (fun g h7 wr=>∃j:Nat,j≤f.Ng.length∧g=f.Ng.length-j∧h7=.int .i64 j∧aa (fun b=>b≠b2) W4 wr∧cK wr b2 (f.params++gH (f.Ng.take j))∧(f.params++gH (f.Ng.take j)).Nodup);·exact⟨0,by omega,by omega,rfl,kR,by rw[List.take_zero,show gH []=[] from rfl,List.append_nil];exact H4.2.2.2.1,by rw[List.take_zero,show gH []=[] from rfl,List.append_nil];exact H2.1⟩
 obtain⟨j,hj,rfl,rfl,I,hm,C⟩:=hrel;have j7:=I.size;have c0:aa All w wr:=am (H4.2.2.2.2.1.all.trans (I.mono fun b hb=>by show b≠_;omega));by_cases h8:j<f.Ng.length;·(
 obtain⟨b,e3⟩:=eG h8;obtain⟨bb,o,cs,rfl,k4,k5,hc,vb,rfl,h2,j8,j9⟩:=aZ (HP.2.1 wr c0) e3;have hV:=it.la h2;obtain⟨cA,cc,rfl,n1,n2,n3,_⟩:=h2;unfold maxLen at n2;have z0:=hc 0 _ rfl;rw[dj] at z0;have z1:=hc 1 _ rfl;have z2:=hc 2 _ rfl;obtain⟨W5,c8⟩:=eQ (wr.alloc (.cells #[.string b.name,.slice cA b.code.length cc,.int .i64 b.Nj] 135));have e4:=aC1 c8;have b5:=aA0 c8;have g1:=b5.cl 1;obtain⟨wo,rfl⟩:=eQ wr;have k6:=hm.lt;have k7:wo.heap.size≤W5.heap.size:=e4.size;have HO:=J8 I hm C c0 e3 hV c8 e4;clear I hm C c0 e3 hV hc c8 e4 b5;go_upto_region 6 with fail;rw[←HO.2.2.2.2.2.2.1];go_wp2_with fail;go_loopg [32] b.code.length (fun g j0 wr=>∃i:Nat,i≤b.code.length∧g=b.code.length-i∧j0=.int .i64 i∧aa (fun b=>b≠b2) W5 wr∧cK wr b2 ((f.params++gH (f.Ng.take j))++gG (b.code.take i))∧((f.params++gH (f.Ng.take j))++gG (b.code.take i)).Nodup);·exact⟨0,by omega,by omega,rfl,kR,by rw[List.take_zero,show gG []=[] from rfl,List.append_nil];exact HO.2.1.keep HO.2.2.2.2.2.2.2 trivial,by rw[List.take_zero,show gG []=[] from rfl,List.append_nil];exact HO.2.2.1⟩
 obtain⟨i,hi,rfl,rfl,I,hm,C⟩:=hrel;have j1:=I.size;by_cases a6:i<b.code.length;·(
 obtain⟨x,hx⟩:=eG a6;obtain⟨xb,xo,k8,rfl,k9,k0,R,xa,xf,rfl,j2,j3,c9⟩:=aZ (it.keep (HO.2.2.2.2.2.2.2.all.trans (I.mono fun b hb=>by have:=hS b hb;show b≠_;omega)) (HO.2.2.2.2.2.1 _ kR)) hx;obtain⟨ua,uc,rfl,_⟩:=j2;obtain⟨va,vc,rfl,_⟩:=j3;have z0:=R 0 _ rfl;rw[dj] at z0;have z1:=R 1 _ rfl;have z2:=R 2 _ rfl;have z3:=R 3 _ rfl;have z4:=R 4 _ rfl;have z5:=R 5 _ rfl;have z6:=R 6 _ rfl;have z7:=R 7 _ rfl;have z8:=R 8 _ rfl;obtain⟨W6,d7⟩:=eQ (wr.alloc (.cells #[.int .u8 x.kind,.int .u8 x.op,.string x.dst,.string x.ref,.string x.Ni,.slice ua x.args.length uc,.slice va x.Nh.length vc,.int .i64 x.num,.int .i64 x.Nj] 188));have a1:=aC1 d7;have b6:=aA0 d7;have b3:=(((H4.2.1.kept HO.1 (by show _≠_;omega)).kept HO.2.2.2.2.2.2.2 trivial).kept I (by show _≠_;omega)).kept a1 trivial;have s1:=b3.cl 1;have t2:=b6.cl 2;have t8:=b6.cl 8;have nr:=jY x.dst;have c4:=(hm.keep a1 trivial).look (s:=x.dst) (by have:=c9.dst;unfold maxLen;omega);have e5:=(hm.keep a1 trivial).len 3;have d8:=J3 c9.Nj c9.dst (qgz (i:=i) HO.2.2.2.2.1);have e1:aa All w W6:=am ((((H4.2.2.2.2.1.all.trans (HO.1.mono fun b hb=>by show b≠_;omega)).trans HO.2.2.2.2.2.2.2.all).trans (I.mono fun b hb=>by show b≠_;omega)).trans a1.all);have HR:=J8 I (hm.keep a1 trivial) C hx d7 a1 d8.out e1;clear I hm C hx d7 a1 b6 b3 R e1 c9;go_upto_region 9 with fail;rw[←HR.2.2.2.2.1];by_cases hd:x.dst=gR
 ·rw[bL hd] at nr;have HD:=oH hd;clear hd c4 e5;go_wp2_with fail;go_roundg (b.code.length-(i+1))
  ·have e:=oN HR.2.2.2.1;rw[ap HD.out,List.append_nil] at e;refine⟨i+1,by omega,rfl,by go_num,HR.1.trans HR.2.2.2.2.2.1.all,?_,?_⟩;·rw[e];exact HR.2.1
   rw[e];exact HR.2.2.1
  omega
 rw[cI hd] at nr;have HD:=oH hd;clear hd;obtain⟨NM,b7⟩:=eR (((f.params++gH (f.Ng.take j))++gG (b.code.take i)));rw[b7] at c4 e5 HR;obtain⟨q,hq⟩:=eR (aO NM x.dst);rw[hq] at c4;by_cases J:0≤q;·rw[Int.max_eq_left J,bL J] at c4;have HN:=oH (fun h:(bh f).Nodup∧(cn f).Nodup=>tg HO.2.2.2.2.1 HR.2.2.2.1 HD.out (by rw[b7];exact cm.1 (by rw[hq];exact J)) h.1);clear hq J e5 b7;go_wp2_with (go_at_call 48;refine(fP _ _ _).mono ?_;rintro e w4 ⟨rfl,rfl⟩);exact⟨rfl,.inr ⟨HN.out,⟨x.Nj,9,by decide,d8.1,by unfold aV;omega,rfl⟩,HR.2.2.2.2.2.2.2⟩⟩
 rw[cI J] at c4;have HN:=J3 (show aO NM x.dst<0 by rw[hq];omega) (show¬(x.dst∈NM) from fun h=>by have:=cm.2 h;omega) b7;have j4:=oH (show NM.length≤900000 by rw[←b7];exact fR d8.2.2 HP.2.2.2.2);clear hq J b7;go_wp2_with (
  first
  |(at_mapUpdate
    go_loud (refine gN rfl _ _ _ rfl b2 NM rfl HR.2.1 (by have:=j4.out;omega) x.dst rfl rfl (by have:=d8.2.1;unfold maxLen;omega) HN.1 ?_;intro w7 h3 h4;have H7:=J2 h3 h4;clear h3 h4))
  |(go_at_call 48;refine(dX _ _ _).mono ?_;rintro e w4 ⟨rfl,rfl⟩))
 go_roundg (b.code.length-(i+1))
 ·have e:=oN HR.2.2.2.1;rw[ae HD.out] at e;refine⟨i+1,by omega,rfl,by go_num,(HR.1.trans HR.2.2.2.2.2.1.all).grown H7.2 fun b hb=>.inl fun h=>h (by injection hb with hb;exact hb.symm),?_,?_⟩;·rw[e,←jM,HN.2.2];exact H7.1
  rw[e,←jM,HN.2.2];exact kB HR.2.2.1 HN.2.1
 omega)
 obtain rfl:i=b.code.length:=by omega
 rw[dZ] at hm C;have HR:=J3 I hm C;clear I hm C;go_wp2_with fail;go_roundg (f.Ng.length-(j+1))
 ·have e:=oO HO.2.2.2.2.1
  refine⟨j+1,by omega,rfl,by go_num,HO.1.trans (HO.2.2.2.2.2.2.2.all.trans HR.1),?_,?_⟩;·rw[e,←jM];exact HR.2.1
  rw[e,←jM];exact HR.2.2
 omega)
 obtain rfl:j=f.Ng.length:=by omega
 rw[dZ] at hm C;have b3:=H4.2.1.kept I (by show _≠_;omega);have b8:=((HW.2.2.2.2.kept H2.2.2.2.2 trivial).kept H4.2.2.2.2.2.2.1 trivial).kept I (by show _≠_;omega);have s0:=b3.cell 0;have s1:=b3.cell 1;have r0:=b8.cell 0;have r1:=b8.cell 1;have f0:=b8.free 0;have f1:=b8.free 1;have c5:=(b8.set 0 (.map (some b1))).set 1 (.map (some b2));have g0:=c5.cell 0;have g1:=c5.cell 1;simp only[ga,gc] at s0 s1 r0 r1 g0 g1;have c6:=((aa.refl (fun b=>b≠w.heap.size+1) wr).setCell (p:=⟨w.heap.size+1,0,none⟩) (.inl fun h=>h rfl) (.map (some b1))).setCell (p:=⟨w.heap.size+1,1,none⟩) (.inl fun h=>h rfl) (.map (some b2));have h5:=(H4.2.2.1.keep I (by show _≠_;omega)).keep c6 (by show _≠_;omega);have HF:=J5 (hm.keep c6 (by show _≠_;omega)) h5 C (am (c0.all.trans (c6.mono fun b hb=>by show b≠_;omega))) c6.size;clear I hm C b3 b8 c5 c6 h5 c0;go_wp2_with fail;have h9:=HF.2.2.2.2;refine bodyPost_ret (v:=.agg #[.map (some b1),.map (some b2)]) (by simp[results,Tryz.f54,go_sem,g0,g1]) rfl (.inl ⟨⟨HF.2.2.1,H4.2.2.2.2.2.1⟩,b1,b2,rfl,⟨HF.2.1,HF.1⟩,by omega,by omega,by omega,by omega,HF.2.2.2.1⟩)
theorem uq (j o C:Addr)(w:World):
 CallsD prog 47 #[.pointer (some j),.pointer (some o),.pointer (some C)] .returning w fun e I w'=>e=.returned (.tuple #[])∧I=.returning∧w'=w:=by
 refine callsD_of_wpS func47 rfl fun J cs hu=>?_;apply wpS_seq;apply wpS_region;simp[wpOpsS,go_sem,recoverD,hu,ntmps47,Exit.thenS];apply wpS_seq;apply wpS_region;simp[wpOpsS,go_sem,Exit.thenS];refine wpS_cond (t:=false) (by simp[Act.eval,Array.replicate]) ?_;simp only[jL,if_false];refine wpS_of_wp (wp_skip ?_);cases J;simp_all [bodyPostS,results,Tryz.results47]
theorem ur (j o C:Nat)(a n:Int)(v1 v2:Value)(m x5 x6:Int)(I:List PanicEntry)(w:World)(h4:al w j 30 #[v1,v2,.int .i64 m])(h5:al w o 3 #[.int .i64 x5])(h6:al w C 33 #[.int .i64 x6]):
 CallsD prog 47 #[.pointer (some ⟨j,0,none⟩),.pointer (some ⟨o,0,none⟩),.pointer (some ⟨C,0,none⟩)] (.panicking ({v:=.iface 116 (.agg #[.int .i64 a,.int .i64 n]),recovered:=false}::I)) w fun e u' w'=>e=.returned (.tuple #[])∧u'=.panicking ({v:=.iface 116 (.agg #[.int .i64 a,.int .i64 n]),recovered:=true}::I)∧
  aa (fun b=>b≠j∧b≠o∧b≠C) w w'∧al w' j 30 #[.slice none 0 0,.slice none 0 0,.int .i64 0]∧al w' o 3 #[.int .i64 a]∧al w' C 33 #[.int .i64 n]:=by
 refine callsD_of_wpS func47 rfl fun c₀ cs hu=>?_;apply wpS_seq;apply wpS_region;simp[wpOpsS,go_sem,recoverD,hu,ntmps47,Exit.thenS];apply wpS_seq;apply wpS_region;simp[wpOpsS,go_sem,Exit.thenS];refine wpS_cond (t:=true) (by simp[Act.eval,Array.replicate]) ?_;simp only[if_true];simp only[show Array.replicate 19 undef= #[undef,undef,undef,undef,undef,undef,undef,undef,undef,undef,undef,undef,undef,undef,undef,undef,undef,undef,undef] from rfl,List.setIfInBounds_toArray,List.set_cons_zero,List.set_cons_succ,List.append_toArray,List.cons_append,mF];refine wpS_of_wp ?_;have b1:(Instr.typeAssert (.iface 116 (.agg #[.int .i64 a,.int .i64 n])) 20 116 true).run prog w=.ok (.tuple #[.agg #[.int .i64 a,.int .i64 n],.bool true]) w:=by kernel_rfl
 go_upto_region 5 with fail;obtain⟨W1,J⟩:=eQ (w.alloc (.cells #[.int .i64 a,.int .i64 n] 116));rw[←J];have g4:=h4.alloc (.cells #[.int .i64 a,.int .i64 n] 116);have g5:=h5.alloc (.cells #[.int .i64 a,.int .i64 n] 116);have g6:=h6.alloc (.cells #[.int .i64 a,.int .i64 n] 116);rw[←J] at g4 g5 g6;have gs:=aA0 J;have a1:=aC1 J;have a6:j≠o:=fun e=>al.ne h4 h5 (by decide) e;have a7:j≠C:=fun e=>al.ne h4 h6 (by decide) e;have a8:o≠C:=fun e=>al.ne h5 h6 (by decide) e;have m4:j≠w.heap.size:=by have:=h4.lt;omega
 have m5:o≠w.heap.size:=by have:=h5.lt;omega
 have m6:C≠w.heap.size:=by have:=h6.lt;omega
 have R:=a6.symm;have Y:=a7.symm;have b0:=a8.symm;have r4:=m4.symm;have r5:=m5.symm;have r6:=m6.symm;have q0:=g4.cl 0;have q1:=g4.cl 1;have q2:=g4.cl 2;have q5:=g5.cl 0;have q6:=g6.cl 0;have s0:=gs.cl 0;have s1:=gs.cl 1;have f0:=g4.free 0;have f1:=g4.free 1;have f2:=g4.free 2;have f5:=g5.free 0;have f6:=g6.free 0;have HG:=J4 g4 g5 g6 a1;clear g4 g5 g6 gs a1 J
 go_region
 all_goals go_wp2_with fail
 have e4:=(((((HG.1.set 0 (.slice none 0 0)).set 1 (.slice none 0 0)).set 2 (.int .i64 0)).far (p:=⟨o,0,none⟩) a6 (.int .i64 a)).far (p:=⟨C,0,none⟩) a7 (.int .i64 n)).drew;have e5:=(((((HG.2.1.far (p:=⟨j,0,none⟩) R (.slice none 0 0)).far (p:=⟨j,1,none⟩) R (.slice none 0 0)).far (p:=⟨j,2,none⟩) R (.int .i64 0)).set 0 (.int .i64 a)).far (p:=⟨C,0,none⟩) a8 (.int .i64 n)).drew;have e6:=(((((HG.2.2.1.far (p:=⟨j,0,none⟩) Y (.slice none 0 0)).far (p:=⟨j,1,none⟩) Y (.slice none 0 0)).far (p:=⟨j,2,none⟩) Y (.int .i64 0)).far (p:=⟨o,0,none⟩) b0 (.int .i64 a)).set 0 (.int .i64 n)).drew;have ek:=((((((HG.2.2.2.mono fun b (_:¬b=j∧¬b=o∧¬b=C)=>trivial).setCell (p:=⟨j,0,none⟩) (.inl fun h=>h.1 rfl) (.slice none 0 0)).setCell (p:=⟨j,1,none⟩) (.inl fun h=>h.1 rfl) (.slice none 0 0)).setCell (p:=⟨j,2,none⟩) (.inl fun h=>h.1 rfl) (.int .i64 0)).setCell (p:=⟨o,0,none⟩) (.inl fun h=>h.2.1 rfl) (.int .i64 a)).setCell (p:=⟨C,0,none⟩) (.inl fun h=>h.2.2 rfl) (.int .i64 n)).drew;simp only[ga] at e4 e5 e6;generalize (((((W1.setCell _ _).setCell _ _).setCell _ _).setCell _ _).setCell _ _).drew=W2 at*;simp[bodyPostS,results,Tryz.results47,e4,e5,e6,ek]
def MC:List (Nat×rT):=[(1,⟨0,true,false,false⟩),(2,⟨2,true,false,false⟩),(4,⟨1,true,true,false⟩),(5,⟨1,true,true,false⟩),(6,⟨2,false,true,false⟩),(7,⟨-1,true,true,false⟩),(8,⟨0,true,true,false⟩),(9,⟨1,false,true,false⟩),(10,⟨1,true,true,false⟩),(11,⟨0,false,true,false⟩),(12,⟨1,false,true,true⟩),(13,⟨1,false,false,false⟩)]
def Ig (s:rT):Value:=.agg #[.int .i64 s.args,.bool s.dst,.bool s.ref,.bool s.Ni]
def mI (n:Nat):Array MapEntry:=((MC.take n).mapIdx fun i e=> {key:=.int .u8 e.1,val:=Ig e.2,born:=i}).toArray
theorem dC (es:Array MapEntry)(clock:Nat)(k:Int)(v:Value)(J:Instr.findNow (.int .u8) (.int .u8 k) es.toList 0=some none)(w:World):
 (Instr.mapUpdate 279 (.map (some w.heap.size)) (.int .u8 k) v).run prog (w.alloc (.map es clock))=.ok () (w.alloc (.map (es.push ⟨.int .u8 k,v,clock⟩) (clock+1))):=by
 have I:(w.alloc (.map es clock)).heap[w.heap.size]? =some (.map es clock):=by show(w.heap.push _)[w.heap.size]? =_;simp
 simp only[Instr.mapUpdate,Sem.run_bind,run_underlying underlying279,MapKept.run_getObj_map I,MapKept.run_checkKey underlying5 (show MapKept.IsKey (.int .u8) (.int .u8 k) from rfl),MapKept.run_findKey underlying5 J,MapKept.run_setObj_map _ I,Result.andThen];have e:∀o C:Obj,(w.heap.push o).setIfInBounds w.heap.size C=w.heap.push C:=by(
 intro o C;apply Array.ext_getElem?;intro j;rw[Array.getElem?_setIfInBounds,Array.getElem?_push,Array.getElem?_push];by_cases h:w.heap.size=j;·subst h;simp
 rw[ae h,ae (fun h'=>h h'.symm),ae (fun h'=>h h'.symm)])
 show Result.ok () ({w with heap:=(w.heap.push (.map es clock)).setIfInBounds w.heap.size _}:World)=Result.ok () ({w with heap:=w.heap.push _}:World);rw[e]
theorem fI (i:Nat)(k:Nat)(s:rT)(h:MC[i]? =some (k,s)):mI (i+1)=(mI i).push ⟨.int .u8 k,Ig s,i⟩:=by have hi:=(lS.1 h).1;unfold mI;rw[cU,h,List.mapIdx_append];simp only[Option.toList_some,List.mapIdx_cons,List.mapIdx_nil,fN,cN,List.push_toArray];rw[Nat.min_eq_left (by omega)]
theorem Bm (w:World):Calls prog 200 #[] w fun e w'=>e=.returned (.map (some w.heap.size))∧w.alloc (.map (mI 12) 12)=w':=by
 have j:=@run_makeMap prog;have i0:(Instr.mapUpdate 279 (.map (some w.heap.size)) (.int .u8 1) (.agg #[.int .i64 0,.bool true,.bool false,.bool false])).run prog (w.alloc (.map #[] 0))=.ok () (w.alloc (.map (mI 1) 1)):=by rw[fI 0 1 _ rfl];exact dC _ _ _ _ (by rfl) w
 have i1:(Instr.mapUpdate 279 (.map (some w.heap.size)) (.int .u8 2) (.agg #[.int .i64 2,.bool true,.bool false,.bool false])).run prog (w.alloc (.map (mI 1) 1))=.ok () (w.alloc (.map (mI 2) 2)):=by rw[fI 1 2 _ rfl];exact dC _ _ _ _ (by rfl) w
 have i2:(Instr.mapUpdate 279 (.map (some w.heap.size)) (.int .u8 4) (.agg #[.int .i64 1,.bool true,.bool true,.bool false])).run prog (w.alloc (.map (mI 2) 2))=.ok () (w.alloc (.map (mI 3) 3)):=by rw[fI 2 4 _ rfl];exact dC _ _ _ _ (by rfl) w
 have i3:(Instr.mapUpdate 279 (.map (some w.heap.size)) (.int .u8 5) (.agg #[.int .i64 1,.bool true,.bool true,.bool false])).run prog (w.alloc (.map (mI 3) 3))=.ok () (w.alloc (.map (mI 4) 4)):=by rw[fI 3 5 _ rfl];exact dC _ _ _ _ (by rfl) w
 have i4:(Instr.mapUpdate 279 (.map (some w.heap.size)) (.int .u8 6) (.agg #[.int .i64 2,.bool false,.bool true,.bool false])).run prog (w.alloc (.map (mI 4) 4))=.ok () (w.alloc (.map (mI 5) 5)):=by rw[fI 4 6 _ rfl];exact dC _ _ _ _ (by rfl) w
 have i5:(Instr.mapUpdate 279 (.map (some w.heap.size)) (.int .u8 7) (.agg #[.int .i64 (-1),.bool true,.bool true,.bool false])).run prog (w.alloc (.map (mI 5) 5))=.ok () (w.alloc (.map (mI 6) 6)):=by rw[fI 5 7 _ rfl];exact dC _ _ _ _ (by rfl) w
 have i6:(Instr.mapUpdate 279 (.map (some w.heap.size)) (.int .u8 8) (.agg #[.int .i64 0,.bool true,.bool true,.bool false])).run prog (w.alloc (.map (mI 6) 6))=.ok () (w.alloc (.map (mI 7) 7)):=by rw[fI 6 8 _ rfl];exact dC _ _ _ _ (by rfl) w
 have i7:(Instr.mapUpdate 279 (.map (some w.heap.size)) (.int .u8 9) (.agg #[.int .i64 1,.bool false,.bool true,.bool false])).run prog (w.alloc (.map (mI 7) 7))=.ok () (w.alloc (.map (mI 8) 8)):=by rw[fI 7 9 _ rfl];exact dC _ _ _ _ (by rfl) w
 have i8:(Instr.mapUpdate 279 (.map (some w.heap.size)) (.int .u8 10) (.agg #[.int .i64 1,.bool true,.bool true,.bool false])).run prog (w.alloc (.map (mI 8) 8))=.ok () (w.alloc (.map (mI 9) 9)):=by rw[fI 8 10 _ rfl];exact dC _ _ _ _ (by rfl) w
 have i9:(Instr.mapUpdate 279 (.map (some w.heap.size)) (.int .u8 11) (.agg #[.int .i64 0,.bool false,.bool true,.bool false])).run prog (w.alloc (.map (mI 9) 9))=.ok () (w.alloc (.map (mI 10) 10)):=by rw[fI 9 11 _ rfl];exact dC _ _ _ _ (by rfl) w
 have i10:(Instr.mapUpdate 279 (.map (some w.heap.size)) (.int .u8 12) (.agg #[.int .i64 1,.bool false,.bool true,.bool true])).run prog (w.alloc (.map (mI 10) 10))=.ok () (w.alloc (.map (mI 11) 11)):=by rw[fI 10 12 _ rfl];exact dC _ _ _ _ (by rfl) w
 have i11:(Instr.mapUpdate 279 (.map (some w.heap.size)) (.int .u8 13) (.agg #[.int .i64 1,.bool false,.bool false,.bool false])).run prog (w.alloc (.map (mI 11) 11))=.ok () (w.alloc (.map (mI 12) 12)):=by rw[fI 11 13 _ rfl];exact dC _ _ _ _ (by rfl) w
 go_enter func200,ntmps200;go_wp2;go_ret;exact⟨rfl,rfl⟩
theorem LG (k:Nat)(o:k<256):Instr.findNow (.int .u8) (.int .u8 k) (mI 12).toList 0=some (match cJ k with|some s=>some ((MC.findIdx fun e=>e.1==k),Ig s)|none=>none):=by
 have:∀k:Fin 256,Instr.findNow (.int .u8) (.int .u8 (k.1:Nat)) (mI 12).toList 0=some (match cJ k.1 with|some s=>some ((MC.findIdx fun e=>e.1==k.1),Ig s)|none=>none):=by(
 intro k;by_cases h:k.1<14
 ·obtain⟨k,o⟩:=k
  simp only at h;rcases k with _|_|_|_|_|_|_|_|_|_|_|_|_|_|k;all_goals first|rfl|(exfalso;omega)
 have C:cJ k.1=none:=by unfold cJ;split<;>first|omega|rfl
 rw[C];have j:∀m:Int,m<14→((k.1:Int)==m)=false:=fun m hm=>by rw[bE];omega
 simp[mI,MC,Instr.findNow,Instr.sameNow,j])
 exact this ⟨k,o⟩
theorem LH (w:World):(zeroValue 277).run prog w=.ok (Ig ⟨0,false,false,false⟩) w:=by kernel_rfl
theorem qG (b:Nat)(k:Nat)(I:k<256)(w:World)(o:w.heap[b]? =some (.map (mI 12) 12)):
 (Instr.lookup 279 (.map (some b)) (.int .u8 k) true).run prog w=.ok (.tuple #[Ig ((cJ k).getD ⟨0,false,false,false⟩),.bool (cJ k).isSome]) w:=by
 have j:=LG k I;have J:=LH w;cases C:cJ k with
 |some s=>rw[C] at j;simp[Instr.lookup,run_underlying underlying279,MapKept.run_getObj_map o,MapKept.run_checkKey underlying5 (show MapKept.IsKey (.int .u8) (.int .u8 k) from rfl),MapKept.run_findKey underlying5 j,Result.andThen]
 |none=>rw[C] at j;simp[Instr.lookup,run_underlying underlying279,MapKept.run_getObj_map o,MapKept.run_checkKey underlying5 (show MapKept.IsKey (.int .u8) (.int .u8 k) from rfl),MapKept.run_findKey underlying5 j,Result.andThen,J]

def lm (n k:Nat)(cs j:Array Value):Prop:=j.size=cs.size∧∀m,m<n→j[m]? =if m<k∨n≤m+k then cs[n-1-m]? else cs[m]?
theorem lm.step {n k:Nat}{cs j:Array Value}{x y:Value}(h:lm n k cs j)(hk:k+k+1<n)(hn:n≤cs.size)(Y:j[n-1-k]? =some x)(hy:j[k]? =some y):
 lm n (k+1) cs ((j.setIfInBounds k x).setIfInBounds (n-1-k) y):=by
 refine⟨by simp[h.1],fun m hm=>?_⟩;have o:=h.2 (n-1-k) (by omega);rw[ae (by omega),Y] at o;have C:=h.2 k (by omega);rw[ae (by omega),hy] at C;rw[Array.getElem?_setIfInBounds,Array.getElem?_setIfInBounds];simp only[Array.size_setIfInBounds,h.1];by_cases I:n-1-k=m
 ·rw[ap I,ap (by omega),ap (by omega),C]
  congr 1;omega
 rw[ae I];by_cases J:k=m
 ·rw[ap J,ap (by omega),ap (by omega),o]
  congr 1;omega
 rw[ae J,h.2 m hm];by_cases R:m<k∨n≤m+k;·rw[ap R,ap (by omega)]
 rw[ae R,ae (by omega)]
theorem lm.mid {n k:Nat}{cs j:Array Value}(h:lm n k cs j){m:Nat}(o:k≤m)(C:m+k<n):j[m]? =cs[m]?:=by rw[h.2 m (by omega),ae (by omega)]
theorem lm.full {n k:Nat}{cs j:Array Value}(h:lm n k cs j)(o:n≤k+k+1)(m:Nat)(hm:m<n):j[m]? =cs[n-1-m]?:=by
 rw[h.2 m hm];split;·rfl
 congr 1;omega
theorem xj (g n c:Nat)(t:TypeId)(cs:Array Value)(w:World)(hb:al w g t cs)(hn:n≤cs.size)(h1:1≤n)(h2:n≤4096)(_:n≤c)(a1:∀m,m<n→∃x:Int,cs[m]? =some (.int .u8 x)):
 Calls prog 259 #[.slice (some ⟨g,0,none⟩) n c] w fun e w'=>e=.returned (.tuple #[])∧aa (fun b=>b≠g) w w'∧∃I,al w' g t I∧∀m,m<n→I[m]? =cs[n-1-m]?:=by
 have HB:=oH hb;have HS:=oH a1;clear hb a1;have hl:n≤9223372036854775807:=by omega
 go_enter func259,ntmps259;go_wp2;go_loopg [2,3] n (fun gg i j wr=>∃(k:Nat) (I:Array Value),k≤n∧gg=n-k∧i=.int .i64 k∧j=.int .i64 ((n:Int)-1-k)∧aa (fun b=>b≠g) w wr∧al wr g t I∧lm n k cs I);·exact⟨0,cs,by omega,by omega,rfl,by go_num,kR,HB.out,rfl,fun m hm=>by rw[ae (by omega)]⟩
 obtain⟨k,I,hk,rfl,rfl,rfl,C,o,J⟩:=hrel;by_cases a6:k+k+1<n;·(
 have a7:I.size=cs.size:=J.1;obtain⟨x1,R⟩:=HS.out (n-1-k) (by omega);obtain⟨x2,Y⟩:=HS.out k (by omega);rw[←J.mid (by omega) (by omega)] at R;rw[←J.mid (by omega) (by omega)] at Y;have e:((n:Int)-1-k)=((n-1-k:Nat):Int):=by omega
 obtain⟨j,hj⟩:=eQ (n-1-k);rw[e,←hj];rw[←hj] at R;have c1:=o.cell j;have c2:=o.cell k;have f1:=o.free j;have f2:=o.free k;rw[R] at c1;rw[Y] at c2;have a8:k<j:=by omega
 have b0:j<n:=by omega
 have HT:=J6 o J R Y hj C;clear o J R Y C hj e;go_wp2_with fail
 go_region
 go_wp2;go_roundg (n-(k+1))
 ·obtain⟨o,J,R,Y,hj,C⟩:=HT.out;subst hj;refine⟨k+1,(I.setIfInBounds k (.int .u8 x1)).setIfInBounds (n-1-k) (.int .u8 x2),by omega,rfl,by go_num,by go_num,?_,?_,J.step a6 hn R Y⟩;·exact((C.setCell (.inl fun h=>h rfl) _).setCell (.inl fun h=>h rfl) _).drew
  exact((o.set k _).set (n-1-k) _).drew
 omega)
 go_wp2
 go_end0
 exact⟨rfl,C,I,o,fun m hm=>J.full (by omega) m hm⟩
theorem Mq:(prog.info? 5).map (fun i=>(i.zero,i.size,i.bytes))=some (some (.int .u8 0),1,1):=by kernel_rfl
theorem pu (a b:List UInt8):(⟨a.toArray⟩:ByteArray)++⟨b.toArray⟩=⟨(a++b).toArray⟩:=by apply ByteArray.ext;simp
def eX (l:List UInt8):List Value:=l.map fun x=>Value.int .u8 (x.toNat:Int)
def vQ (f u:Nat)(j:List UInt8):List UInt8:=if j≠[]∧u=0 then [] else Aw f u
theorem tE {f u:Nat}{o:List UInt8}(h:u≠0∨o=[]):vQ (f+1) u o=UInt8.ofNat (48+u%10)::vQ f (u/10) (o++[UInt8.ofNat (48+u%10)]):=by
 unfold vQ;rw[ae (by rintro⟨C,I⟩;rcases h with h|h;exact h I;exact C h),Aw];by_cases j:u/10=0;·rw[ap j,ap ⟨by simp,j⟩]
 rw[ae j,ae fun h=>j h.2]
theorem Hj (n:Int)(hn:aV n)(w:World):Calls prog 232 #[.int .i64 n] w fun e w'=>e=.returned (.string ⟨(iK n).toArray⟩)∧aa All w w':=by
 obtain⟨iB,IB⟩:=iH Mq;have Y:=rZ hn;unfold aV at hn;go_enter func232,ntmps232;go_upto_if 9 with fail;go_cut [3,4] (fun s3 s4 wx=>s3=.int .u64 (n.natAbs:Int)∧s4=.string ⟨(if n<0 then [45] else []:List UInt8).toArray⟩∧w=wx)
 case first=>(
 by_cases h:n<0
 ·have d1:decide (n<0)=true:=by simpa using h
  obtain⟨m,hm⟩:=eR (IntKind.u64.wrap n);have e2:IntKind.u64.wrap (-m)=(n.natAbs:Int):=by rw[←hm];simp only[IntKind.wrap,IntKind.signed,IntKind.bits];simp;omega
  have HA:=oH (show(n.natAbs:Int)=n.natAbs from rfl);generalize (n.natAbs:Int)=k at*;clear Y hn;go_wp2_with fail;go_meet;exact⟨rfl,by rw[ap h],rfl⟩
 have d1:decide (n<0)=false:=by simpa using h
 have e2:IntKind.u64.wrap n=(n.natAbs:Int):=by simp only[IntKind.wrap,IntKind.signed,IntKind.bits];simp;omega
 clear Y;go_wp2_with fail;go_meet;exact⟨rfl,by rw[ae (by omega)],rfl⟩)
 obtain⟨rfl,rfl,rfl⟩:=hcut;obtain⟨sg,a6⟩:∃sg:List UInt8,(if n<0 then [45] else [])=sg:=⟨_,rfl⟩;rw[a6];have c7:sg.length≤1:=by rw[←a6];split<;>simp
 have HG:=oH a6;clear a6;go_wp2_with fail;go_loopg [3,5] 21 (fun g s3 s5 wr=>∃(f u:Nat) (o:List UInt8),g=f+1∧s3=.int .u64 u∧f+o.length=20∧u<10^f∧aa All w wr∧wr.ownsRow w.heap.size 5 1 s5 o.length (eX o)∧o++vQ f u o=Aw 20 n.natAbs);·exact⟨20,n.natAbs,[],by omega,rfl,rfl,Y,kR,⟨rfl,.inl ⟨rfl,rfl⟩⟩,by rw[vQ,ae (fun h=>h.1 rfl)];rfl⟩
 obtain⟨f,u,o,rfl,rfl,hf,hu,hk,I,a1⟩:=hrel;obtain⟨A,c,rfl⟩:=aU I;by_cases hc:u≠0∨o=[];·(
 obtain⟨f,rfl⟩:∃f',f=f'+1:=⟨f-1,by
  rcases Nat.eq_zero_or_pos f with h|h
  ·subst h;rcases hc with hc|hc;·simp at hu;omega
   subst hc;simp at hf
  omega⟩
 have c8:u<10^20:=Nat.lt_of_lt_of_le hu (Nat.pow_le_pow_right (by omega) (by omega));have HD:=oH a1;have HC:=oH hc;have HK:=oH hk;have hB:=hk.size;have C:(wr.alloc (.cells #[.int .u8 (48+(u:Int)%10)] 5)).ownsRow w.heap.size 5 1 (.slice A o.length c) o.length (eX o):=be I ((aa.refl All wr).alloc _) (fun _ _=>trivial);clear a1 hk;by_cases a7:u=0;·(
 have b3:o=[]:=hc.resolve_left (fun h=>h a7);clear hc;subst a7;subst b3;have C:(wr.alloc (.cells #[.int .u8 48] 5)).ownsRow w.heap.size 5 1 (.slice A 0 c) 0 (eX []):=C;go_wp2_with (
  at_builtin;refine aR _ rfl (.tmp 19) (.tmp 24) 313 rfl w.heap.size 5 iB _ 1 1 underlying313 IB.1 IB.2.1 IB.2.2.1 IB.2.2.2 rfl (by decide) _ _ _ rfl C (some ⟨wr.heap.size,0,none⟩) 1 1 [.int .u8 (48)] rfl rfl ?_ ?_ (by unfold maxLen;omega) (by omega) (by simp;omega) ?_;·intro _;exact⟨_,_,rfl,fun j u hu=>by rw[cN,al.cell (al.new _ _ _)];simpa using hu⟩
  ·intro u hu
   rw[cx.1 hu];rfl
  intro v2 w2 J b0 b4)
 go_roundg (f+1);·(
 have hp:=Nat.pow_succ 10 f;refine⟨f,0/10,[]++[UInt8.ofNat (48+0%10)],rfl,by go_num,by simp at hf⊢;omega,?_,(HK.out.alloc _).grown b0 fun g hg=>.inr (aD I hg).1,?_,?_⟩
 ·generalize 10^f=p at*
  omega
 ·have e:eX ([]++[UInt8.ofNat (48+0%10)])=eX []++[.int .u8 (48)]:=by unfold eX;rw[ic];simp only[List.map_cons,List.map_nil,nL];congr 3
  rw[e,iQ];exact J
 rw[jM,←HD.out,tE (.inr rfl)];rfl)
 omega)
 have hp:0<u:=by omega
 clear hc;go_wp2_with (
  at_builtin;refine aR _ rfl (.tmp 19) (.tmp 24) 313 rfl w.heap.size 5 iB _ 1 1 underlying313 IB.1 IB.2.1 IB.2.2.1 IB.2.2.2 rfl (by decide) _ _ _ rfl C (some ⟨wr.heap.size,0,none⟩) 1 1 [.int .u8 (48+(u:Int)%10)] rfl rfl ?_ ?_ (by unfold maxLen;omega) (by omega) (by simp;omega) ?_;·intro _;exact⟨_,_,rfl,fun j u hu=>by rw[cN,al.cell (al.new _ _ _)];simpa using hu⟩
  ·intro u hu
   rw[cx.1 hu];rfl
  intro v2 w2 J b0 b4)
 go_roundg (f+1);·(
 have hp:=Nat.pow_succ 10 f;refine⟨f,u/10,o++[UInt8.ofNat (48+u%10)],rfl,by go_num,by simp;omega,?_,(HK.out.alloc _).grown b0 fun g hg=>.inr (aD I hg).1,?_,?_⟩
 ·generalize 10^f=p at*
  omega
 ·have e:eX (o++[UInt8.ofNat (48+u%10)])=eX o++[.int .u8 (48+(u:Int)%10)]:=by unfold eX;rw[ic];simp only[List.map_cons,List.map_nil,nL];congr 3
  rw[e,iQ];exact J
 rw[jM,←HD.out,tE HC.out];rfl)
 omega)
 have a7:u=0:=Classical.byContradiction fun h=>hc (.inl h);have b1:o≠[]:=fun h=>hc (.inr h);subst a7;have c0:o.length≠0:=fun h=>b1 (oD h);have t1:((o.length:Int)==0)=false:=by rw[bE];omega
 have d7:0<o.length:=by omega
 rw[vQ,ap ⟨b1,rfl⟩,List.append_nil] at a1;obtain⟨_,⟨h,_⟩|⟨g,cap,cur,hv,hg,hh,b5,c9,d8,c1⟩⟩:=I;·injection h with _ h;omega
 injection hv with c4 d9 c5;subst c4;subst c5;have R:∀m,m<o.length→cur[m]? =some (.int .u8 ((o.getD m 0).toNat:Int)):=by(
 intro m hm;have h1:(cur.toList.take (o.length*1))[m]? =(eX o)[m]?:=by rw[c1]
 rw[rY (by omega)] at h1;rw[←Array.getElem?_toList,h1];simp[eX,hm])
 have b6:o.length≤cur.size:=by omega
 have a8:=xj g o.length c 5 cur wr hh b6 (by omega) (by omega) b5 (fun m hm=>⟨_,R m hm⟩);have HR:=J4 a8 hk a1 R;clear a8 hk a1 R hh hc b1 c0;go_wp2_with fail;refine HR.1.mono ?_;rintro e w2 ⟨rfl,b7,e0,b8,b9⟩;have b2:=run_convert_bytes_back (P:=prog) w2 313 9 5 ⟨g,0,none⟩ c o.reverse underlying313 underlying5 underlying9 (fun j hj=>by
  rw[List.length_reverse] at hj;have:(⟨g,0,none⟩:Addr).add j=⟨g,j,none⟩:=by unfold Addr.add;split<;>simp_all
  rw[this,b8.cell,b9 j hj,HR.2.2.2 (o.length-1-j) (by omega)];rw[List.getElem_reverse];rw[iG,lG (by omega),Option.getD_some])
 rw[List.length_reverse] at b2;have H2:=oH b7;clear b7 b8 b9;go_wp2_with fail;go_ret;have c6:aa All w w2:=by have h1:=H2.out;have h0:=HR.2.1;refine⟨h1.os.trans h0.os,h1.output.trans h0.output,fR h0.size h1.size,fun b hb _=>?_⟩;rw[h1.block b (by have:=h0.size;omega) (fun e=>by subst e;omega)];exact h0.block b hb trivial
 refine⟨?_,c6⟩;have e:iK n=sg++o.reverse:=by unfold iK kK;rw[HG.out,HR.2.2.1]
 rw[e,←pu];rfl
theorem ez (c:UInt8)(n:Int)(o:aV n)(w:World):Calls prog 204 #[.string ⟨#[c]⟩,.int .i64 n] w fun e w'=>e=.returned (.string (aL c n))∧aa All w w':=by have C:=fun w=>Hj n o w;have hl:=vV n;have I:=oH (show(⟨[c].toArray⟩:ByteArray)++⟨(iK n).toArray⟩=aL c n from pu _ _);generalize iK n=l at*;go_enter func204,ntmps204;go_wp2_with (go_at_call 232;refine(C _).mono ?_;rintro e J ⟨rfl,j⟩;have H1:=oH j;clear j);go_ret;exact⟨by rw[←I.out];rfl,H1.out⟩
section
attribute [local go_sem] LK LL ms wL pD
end
section
attribute [local go_sem] lh qb xr ju nA nE nB nC Ku ms rq nD wL pD
attribute [local go_sem] pm lU jt mU List.getElem?_toArray List.getElem?_cons_zero
end

section
theorem JX (n:Nat)(h:n<256):IntKind.u8.wrap (n:Int)=n:=by simp[IntKind.wrap,IntKind.bits,IntKind.signed];omega
section
variable {P:Program} {w:World} (t:TypeId) (x:UInt8)
theorem ww (m:Nat)(hm:m<256):(binOp .and t (.int .u8 (x.toNat:Int)) (.int .u8 (m:Int))).run P w=.ok (.int .u8 ((x.toNat&&&m:Nat):Int)) w:=by
 show Result.ok (Value.int .u8 (IntKind.u8.wrap ((BitVec.ofInt 8 (x.toNat:Int)&&&BitVec.ofInt 8 (m:Int)).toNat:Int))) w=_;have j:=x.toNat_lt;have e:(BitVec.ofInt 8 (x.toNat:Int)&&&BitVec.ofInt 8 (m:Int)).toNat=x.toNat&&&m:=by rw[BitVec.toNat_and,BitVec.toNat_ofInt,BitVec.toNat_ofInt];congr 1<;>omega
 rw[e,JX _ (Nat.lt_of_le_of_lt Nat.and_le_left j)]
theorem Kh:(binOp .and t (.int .u8 (x.toNat:Int)) (.int .u8 31)).run P w=.ok (.int .u8 ((x.toNat%32:Nat):Int)) w:=by rw[←Nat.and_two_pow_sub_one_eq_mod x.toNat 5];exact ww t x 31 (by decide)
theorem Ki:(binOp .and t (.int .u8 (x.toNat:Int)) (.int .u8 63)).run P w=.ok (.int .u8 ((x.toNat%64:Nat):Int)) w:=by rw[←Nat.and_two_pow_sub_one_eq_mod x.toNat 6];exact ww t x 63 (by decide)
theorem Kg:(binOp .and t (.int .u8 (x.toNat:Int)) (.int .u8 15)).run P w=.ok (.int .u8 ((x.toNat%16:Nat):Int)) w:=by rw[←Nat.and_two_pow_sub_one_eq_mod x.toNat 4];exact ww t x 15 (by decide)
theorem Me:(binOp .and t (.int .u8 (x.toNat:Int)) (.int .u8 7)).run P w=.ok (.int .u8 ((x.toNat%8:Nat):Int)) w:=by rw[←Nat.and_two_pow_sub_one_eq_mod x.toNat 3];exact ww t x 7 (by decide)
end
attribute [local go_sem] Kh Ki Kg Me
end
section
attribute [local go_sem] Kh Ki Kg Me
end






end Go.Proofs.YtgdlhckhpolnnaaGreatDoor
