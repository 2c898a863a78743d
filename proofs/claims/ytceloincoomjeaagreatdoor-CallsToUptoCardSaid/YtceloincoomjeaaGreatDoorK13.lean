/- Part 14 of the proof of CallsTo (its last part says what is proved). No condition. -/
import Derived.Test.YtceloincoomjeaaGreatDoorK12
namespace Go.Proofs.YtceloincoomjeaaGreatDoor
set_option maxRecDepth 100000
set_option maxHeartbeats 8000000
open Go.RowKit Go.Proofs.Tryz
def gG (l:List cX):List ByteArray:=(l.map fun x=>x.dst).filter fun s=>decide (s≠gR)
def gH (l:List eS):List ByteArray:=(l.flatMap fun b=>b.code.map fun x=>x.dst).filter fun s=>decide (s≠gR)
theorem zY (l:List eS)(b:eS):gH (l++[b])=gH l++gG b.code:=by simp[gH,gG]
theorem zX (l:List cX)(x:cX):gG (l++[x])=gG l++if x.dst=gR then [] else [x.dst]:=by
 unfold gG;rw[ic,mE];congr 1;by_cases h:x.dst=gR;·simp[h]
 simp[h]
theorem oN {l:List cX}{i:Nat}{x:cX}(h:l[i]? =some x):gG (l.take (i+1))=gG (l.take i)++if x.dst=gR then [] else [x.dst]:=by rw[cU,h];exact zX _ _
theorem oO {l:List eS}{i:Nat}{b:eS}(h:l[i]? =some b):gH (l.take (i+1))=gH (l.take i)++gG b.code:=by rw[cU,h];exact zY _ _
theorem uU (l:List cX)(i:Nat):∃r,gG l=gG (l.take i)++r:=⟨gG (l.drop i),by
 conv=>lhs;rw[←List.take_append_drop i l]
 unfold gG;rw[ic,mE]⟩
theorem uV (l:List eS)(i:Nat):∃r,gH l=gH (l.take i)++r:=⟨gH (l.drop i),by
 conv=>lhs;rw[←List.take_append_drop i l]
 unfold gH;rw[List.flatMap_append,mE]⟩
theorem nY (f:cD):bh f=f.params++gH f.Ng:=rfl
theorem tg {f:cD}{j i:Nat}{b:eS}{x:cX}(I:f.Ng[j]? =some b)(J:b.code[i]? =some x)(R:x.dst≠gR)(hm:x.dst∈(f.params++gH (f.Ng.take j))++gG (b.code.take i)):¬(bh f).Nodup:=by
 intro h;obtain⟨r1,l⟩:=uV f.Ng (j+1);obtain⟨r2,o⟩:=uU b.code (i+1);rw[oO I] at l;rw[oN J,ae R] at o;rw[nY,l,o] at h;have e:f.params++(gH (f.Ng.take j)++(gG (b.code.take i)++[x.dst]++r2)++r1)=(((f.params++gH (f.Ng.take j))++gG (b.code.take i))++[x.dst])++(r2++r1):=by simp
 rw[e] at h;have C:=(List.nodup_append.1 h).1;rw[List.nodup_append] at C;exact C.2.2 _ hm _ (by simp) rfl
theorem Hx {f:cD}{j i:Nat}{b:eS}(o:f.Ng[j]? =some b):((f.params++gH (f.Ng.take j))++gG (b.code.take i)).length≤(bh f).length:=by obtain⟨r1,l⟩:=uV f.Ng (j+1);obtain⟨r2,C⟩:=uU b.code i;rw[oO o] at l;rw[nY,l,C];simp only[iQ];omega
structure wd (w:World)(b1 b2:Nat)(f:cD):Prop where
 Ng:cK w b1 (cn f)
 values:cK w b2 (bh f)
def KE (f:cD)(w:World)(e:Ending)(w':World):Prop:=
 ql ((bh f).Nodup∧(cn f).Nodup) (fun e w'=>∃b1 b2,e=.returned (.agg #[.map (some b1),.map (some b2)])∧wd w' b1 b2 f∧w.heap.size≤b1∧b1<w'.heap.size∧w.heap.size≤b2∧b2<w'.heap.size∧aa All w w') w e w'
theorem Le:True:=trivial
theorem Ec (S:Nat→Prop)(r:Value)(f:cD)(pv qv:Value)(w:World)(hp:gB S w pv f.params)(hq:mJ S w qv f.Ng)(e5:aV f.Nj)(e6:∀s∈f.params,s.size≤140737488355328)(hn:(bh f).length≤900000)(hb:f.Ng.length≤900000)(hS:∀b,S b→b<w.heap.size):
 Calls prog 111 #[r,.agg #[.string f.name,pv,qv,.int .i64 f.Nj]] w (KE f w):=by
 have h5:f.params.length≤900000:=by rw[nY,iQ] at hn;omega
 have hP:=ax.la hp;have hQ:=eH.la hq;obtain⟨pA,pc,rfl,_⟩:=hp;obtain⟨qA,qc,rfl,m1,m2,m3,_⟩:=hq;unfold maxLen at m2;obtain⟨W0,a7⟩:=eQ ((w.alloc (.cells #[.string f.name,.slice pA f.params.length pc,.slice qA f.Ng.length qc,.int .i64 f.Nj] 148)).alloc (.cells #[.map none,.map none] 171));have e7:W0.heap.size=w.heap.size+2:=by rw[a7];simp
 have e8:aa All w W0:=by rw[a7];exact(kR.alloc _).alloc _
 have bF:al W0 w.heap.size 148 #[.string f.name,.slice pA f.params.length pc,.slice qA f.Ng.length qc,.int .i64 f.Nj]:=by rw[a7];exact(al.new _ _ _).alloc _
 have bR:al W0 (w.heap.size+1) 171 #[.map none,.map none]:=by rw[a7];exact ac (by simp)
 have c1:=bF.cell 1;have c2:=bF.cell 2;simp only[gc] at c1 c2;have HW:=J5 a7 e7 e8 bF bR;have HP:=J5 hP hQ e5 e6 hn;clear a7 e7 e8 bF bR hP hQ e5 e6 hn;go_enter func111,ntmps111;go_upto_region 1 with fail;rw[←HW.1];go_wp2_with fail;refine(un S (.slice pA f.params.length pc) f.params w.heap.size f.name (.slice pA f.params.length pc) (.slice qA f.Ng.length qc) f.Nj W0 (HP.1 _ HW.2.2.1) HW.2.2.2.1 HP.2.2.1 h5 HP.2.2.2.1).mono ?_;rintro e w2 (⟨l,b2,rfl,e9,d8,a6,a8⟩|⟨l,⟨an,nn,hn,ha,hi,rfl⟩,a8⟩)
 case inr=>have HS:=J5 (fun h:(bh f).Nodup∧(cn f).Nodup=>l (by have:=h.1;rw[nY,List.nodup_append] at this;exact this.1)) hn ha hi (HW.2.2.1.trans a8);clear l hn ha hi a8;go_wp2_with fail;exact⟨rfl,.inr ⟨HS.1,⟨an,nn,HS.2.1,HS.2.2.1,HS.2.2.2.1,rfl⟩,HS.2.2.2.2⟩⟩
 have d2:=(HW.2.2.2.1.kept a8 trivial).cell 2;simp only[gc] at d2;have H2:=J5 l e9 d8 a6 a8;clear l e9 d8 a6 a8 c1 c2;go_wp2_with fail;refine(ul S (.slice qA f.Ng.length qc) f.Ng w2 (HP.2.1 _ (HW.2.2.1.trans H2.2.2.2.2)) hb).mono ?_;rintro e w3 (⟨l,b1,rfl,h0,i5,i6,Y⟩|⟨l,⟨an,nn,hn,ha,hi,rfl⟩,Y⟩)
 case inr=>have HS:=J5 (fun h:(bh f).Nodup∧(cn f).Nodup=>l h.2) hn ha hi ((HW.2.2.1.trans H2.2.2.2.2).trans Y);clear l hn ha hi Y d2;go_wp2_with fail;exact⟨rfl,.inr ⟨HS.1,⟨an,nn,HS.2.1,HS.2.2.1,HS.2.2.2.1,rfl⟩,HS.2.2.2.2⟩⟩
 obtain⟨W4,b9⟩:=eQ (w3.alloc (.cells #[.map (some b1),.map (some b2)] 171));have b0:aa All w3 W4:=by rw[b9];exact kR.alloc _
 have b4:al W4 w3.heap.size 171 #[.map (some b1),.map (some b2)]:=by rw[b9];exact ac rfl
 have c6:W4.heap.size=w3.heap.size+1:=by rw[b9];simp
 have e2:=((HW.2.2.2.1.kept H2.2.2.2.2 trivial).kept (Y.trans b0) trivial).cell 2;simp only[gc] at e2;have L2:=H2.2.2.1;have L3:=H2.2.2.2.1;have L1:=HW.2.1;have j3:=eE L1.symm;have j4:=eE c6;have j5:=eE c6.symm;have d9:aa All w W4:=(HW.2.2.1.trans H2.2.2.2.2).trans (Y.trans b0);have H4:=J8 b9 b4 (h0.keep b0 trivial) (H2.2.1.keep (Y.trans b0) trivial) d9 l (Y.trans b0) c6;clear b9 b0 b4 c6 h0 Y d2 l d9 L1;go_upto_region 3 with fail;rw[←H4.1];go_wp2_with fail;go_loopg [25] f.Ng.length (fun g h6 wr=>∃j:Nat,j≤f.Ng.length∧g=f.Ng.length-j∧h6=.int .i64 j∧aa (fun b=>b≠b2) W4 wr∧cK wr b2 (f.params++gH (f.Ng.take j))∧(f.params++gH (f.Ng.take j)).Nodup);·exact⟨0,by omega,by omega,rfl,kR,by rw[List.take_zero,show gH []=[] from rfl,List.append_nil];exact H4.2.2.2.1,by rw[List.take_zero,show gH []=[] from rfl,List.append_nil];exact H2.1⟩
 obtain⟨j,hj,rfl,rfl,C,hm,l⟩:=hrel;have i7:=C.size;have c0:aa All w wr:=am (H4.2.2.2.2.1.all.trans (C.mono fun b hb=>by show b≠_;omega));by_cases h7:j<f.Ng.length;·(
 obtain⟨b,e1⟩:=eG h7;obtain⟨bb,o,cs,rfl,j6,j7,hc,vb,rfl,h1,j0,j1⟩:=aZ (HP.2.1 wr c0) e1;have hV:=it.la h1;obtain⟨cA,cc,rfl,n1,n2,n3,_⟩:=h1;unfold maxLen at n2;have z0:=hc 0 _ rfl;rw[dj] at z0;have z1:=hc 1 _ rfl;have z2:=hc 2 _ rfl;obtain⟨W5,c7⟩:=eQ (wr.alloc (.cells #[.string b.name,.slice cA b.code.length cc,.int .i64 b.Nj] 151));have e3:aa All wr W5:=by rw[c7];exact kR.alloc _
 have b5:al W5 wr.heap.size 151 #[.string b.name,.slice cA b.code.length cc,.int .i64 b.Nj]:=by rw[c7];exact ac rfl
 have g1:=b5.cell 1;simp only[gc] at g1;obtain⟨wo,rfl⟩:=eQ wr;have j8:=hm.lt;have j9:wo.heap.size≤W5.heap.size:=e3.size;have Z:=J8 C hm l c0 e1 hV c7 e3;clear C hm l c0 e1 hV hc c7 e3 b5;go_upto_region 6 with fail;rw[←Z.2.2.2.2.2.2.1];go_wp2_with fail;go_loopg [32] b.code.length (fun g h8 wr=>∃i:Nat,i≤b.code.length∧g=b.code.length-i∧h8=.int .i64 i∧aa (fun b=>b≠b2) W5 wr∧cK wr b2 ((f.params++gH (f.Ng.take j))++gG (b.code.take i))∧((f.params++gH (f.Ng.take j))++gG (b.code.take i)).Nodup);·exact⟨0,by omega,by omega,rfl,kR,by rw[List.take_zero,show gG []=[] from rfl,List.append_nil];exact Z.2.1.keep Z.2.2.2.2.2.2.2 trivial,by rw[List.take_zero,show gG []=[] from rfl,List.append_nil];exact Z.2.2.1⟩
 obtain⟨i,hi,rfl,rfl,C,hm,l⟩:=hrel;have i0:=C.size;by_cases a6:i<b.code.length;·(
 obtain⟨x,hx⟩:=eG a6;obtain⟨xb,xo,k0,rfl,k1,j2,J,xa,xf,rfl,i1,i2,c8⟩:=aZ (it.keep (Z.2.2.2.2.2.2.2.all.trans (C.mono fun b hb=>by have:=hS b hb;show b≠_;omega)) (Z.2.2.2.2.2.1 _ kR)) hx;obtain⟨ua,uc,rfl,_⟩:=i1;obtain⟨va,vc,rfl,_⟩:=i2;have z0:=J 0 _ rfl;rw[dj] at z0;have z1:=J 1 _ rfl;have z2:=J 2 _ rfl;have z3:=J 3 _ rfl;have z4:=J 4 _ rfl;have z5:=J 5 _ rfl;have z6:=J 6 _ rfl;have z7:=J 7 _ rfl;have z8:=J 8 _ rfl;obtain⟨W6,c9⟩:=eQ (wr.alloc (.cells #[.int .u8 x.kind,.int .u8 x.op,.string x.dst,.string x.ref,.string x.Ni,.slice ua x.args.length uc,.slice va x.Nh.length vc,.int .i64 x.num,.int .i64 x.Nj] 153));have a1:aa All wr W6:=by rw[c9];exact kR.alloc _
 have b6:al W6 wr.heap.size 153 #[.int .u8 x.kind,.int .u8 x.op,.string x.dst,.string x.ref,.string x.Ni,.slice ua x.args.length uc,.slice va x.Nh.length vc,.int .i64 x.num,.int .i64 x.Nj]:=by rw[c9];exact ac rfl
 have b3:=(((H4.2.1.kept Z.1 (by show _≠_;omega)).kept Z.2.2.2.2.2.2.2 trivial).kept C (by show _≠_;omega)).kept a1 trivial;have s1:=b3.cell 1;have t2:=b6.cell 2;have t8:=b6.cell 8;simp only[gc] at s1 t2 t8;have nr:=jY x.dst;have c3:=(hm.keep a1 trivial).look (s:=x.dst) (by have:=c8.dst;unfold maxLen;omega);have e4:=(hm.keep a1 trivial).len 3;have d7:=J3 c8.Nj c8.dst (Hx (i:=i) Z.2.2.2.2.1);have e0:aa All w W6:=am ((((H4.2.2.2.2.1.all.trans (Z.1.mono fun b hb=>by show b≠_;omega)).trans Z.2.2.2.2.2.2.2.all).trans (C.mono fun b hb=>by show b≠_;omega)).trans a1.all);have R:=J8 C (hm.keep a1 trivial) l hx c9 a1 d7.out e0;clear C hm l hx c9 a1 b6 b3 J e0 c8;go_upto_region 9 with fail;rw[←R.2.2.2.2.1];by_cases hd:x.dst=gR
 ·rw[bL hd] at nr;have HD:=oH hd;clear hd c3 e4;go_wp2_with fail;go_roundg (b.code.length-(i+1))
  ·have e:=oN R.2.2.2.1;rw[ap HD.out,List.append_nil] at e;refine⟨i+1,by omega,rfl,by go_num,R.1.trans R.2.2.2.2.2.1.all,?_,?_⟩;·rw[e];exact R.2.1
   rw[e];exact R.2.2.1
  omega
 rw[cI hd] at nr;have HD:=oH hd;clear hd;obtain⟨NM,b7⟩:=eR (((f.params++gH (f.Ng.take j))++gG (b.code.take i)));rw[b7] at c3 e4 R;obtain⟨q,hq⟩:=eR (aO NM x.dst);rw[hq] at c3;by_cases I:0≤q;·rw[Int.max_eq_left I,bL I] at c3;have HN:=oH (fun h:(bh f).Nodup∧(cn f).Nodup=>tg Z.2.2.2.2.1 R.2.2.2.1 HD.out (by rw[b7];exact cm.1 (by rw[hq];exact I)) h.1);clear hq I e4 b7;go_wp2_with (go_at_call 106;refine(fP _ _ _).mono ?_;rintro e w4 ⟨rfl,rfl⟩);exact⟨rfl,.inr ⟨HN.out,⟨x.Nj,9,by decide,d7.1,by unfold aV;omega,rfl⟩,R.2.2.2.2.2.2.2⟩⟩
 rw[cI I] at c3;have HN:=J3 (show aO NM x.dst<0 by rw[hq];omega) (show¬(x.dst∈NM) from fun h=>by have:=cm.2 h;omega) b7;have i4:=oH (show NM.length≤900000 by rw[←b7];exact fR d7.2.2 HP.2.2.2.2);clear hq I b7;go_wp2_with (
  first
  |(at_mapUpdate
    go_loud (refine gN rfl _ _ _ rfl b2 NM rfl R.2.1 (by have:=i4.out;omega) x.dst rfl rfl (by have:=d7.2.1;unfold maxLen;omega) HN.1 ?_;intro w7 h2 h3;have H7:=J2 h2 h3;clear h2 h3))
  |(go_at_call 106;refine(dX _ _ _).mono ?_;rintro e w4 ⟨rfl,rfl⟩))
 go_roundg (b.code.length-(i+1))
 ·have e:=oN R.2.2.2.1;rw[ae HD.out] at e;refine⟨i+1,by omega,rfl,by go_num,(R.1.trans R.2.2.2.2.2.1.all).grown H7.2 fun b hb=>.inl fun h=>h (by injection hb with hb;exact hb.symm),?_,?_⟩;·rw[e,←jM,HN.2.2];exact H7.1
  rw[e,←jM,HN.2.2];exact kB R.2.2.1 HN.2.1
 omega)
 obtain rfl:i=b.code.length:=by omega
 rw[dZ] at hm l;have R:=J3 C hm l;clear C hm l;go_wp2_with fail;go_roundg (f.Ng.length-(j+1))
 ·have e:=oO Z.2.2.2.2.1
  refine⟨j+1,by omega,rfl,by go_num,Z.1.trans (Z.2.2.2.2.2.2.2.all.trans R.1),?_,?_⟩;·rw[e,←jM];exact R.2.1
  rw[e,←jM];exact R.2.2
 omega)
 obtain rfl:j=f.Ng.length:=by omega
 rw[dZ] at hm l;have b3:=H4.2.1.kept C (by show _≠_;omega);have b8:=((HW.2.2.2.2.kept H2.2.2.2.2 trivial).kept H4.2.2.2.2.2.2.1 trivial).kept C (by show _≠_;omega);have s0:=b3.cell 0;have s1:=b3.cell 1;have r0:=b8.cell 0;have r1:=b8.cell 1;have f0:=b8.free 0;have f1:=b8.free 1;have c4:=(b8.set 0 (.map (some b1))).set 1 (.map (some b2));have g0:=c4.cell 0;have g1:=c4.cell 1;simp only[ga,gc] at s0 s1 r0 r1 g0 g1;have c5:=((aa.refl (fun b=>b≠w.heap.size+1) wr).setCell (p:=⟨w.heap.size+1,0,none⟩) (.inl fun h=>h rfl) (.map (some b1))).setCell (p:=⟨w.heap.size+1,1,none⟩) (.inl fun h=>h rfl) (.map (some b2));have h4:=(H4.2.2.1.keep C (by show _≠_;omega)).keep c5 (by show _≠_;omega);have HF:=J5 (hm.keep c5 (by show _≠_;omega)) h4 l (am (c0.all.trans (c5.mono fun b hb=>by show b≠_;omega))) c5.size;clear C hm l b3 b8 c4 c5 h4 c0;go_wp2_with fail;have h9:=HF.2.2.2.2;refine bodyPost_ret (v:=.agg #[.map (some b1),.map (some b2)]) (by simp[results,Tryz.f111,go_sem,g0,g1]) rfl (.inl ⟨⟨HF.2.2.1,H4.2.2.2.2.2.1⟩,b1,b2,rfl,⟨HF.2.1,HF.1⟩,by omega,by omega,by omega,by omega,HF.2.2.2.1⟩)
section
open Go
section
variable {P:Program} {ops:Array Oper} {md:Region.Mode} {S:World→Prop} {T:List Tmp} {F:Tmp→Value→World→Prop} {L:Nat→Option (Value→Prop)} {D:Nat→Bool} {X:List PanicEntry→World→Prop}
def xG (P:Program)(S:World→Prop)(T:List Tmp)(F:Tmp→Value→World→Prop)(X:List PanicEntry→World→Prop)(d:Bool)(V:Value→Prop)(o:Oper)(w:World):Result Next→Prop
 |.ok (.value u) w'=>d=false∧V u∧om S T F o w w' u
 |.ok (.enter f args) w'=>Calls P f args w' (fun e w''=>(d=false∧∃u,e=.returned u∧V u∧om S T F o w w'' u)∨∃ch,e=.panicked ch∧X ch w'')
 |_=>False
def fq (P:Program)(ops:Array Oper)(S:World→Prop)(T:List Tmp)(F:Tmp→Value→World→Prop)(X:List PanicEntry→World→Prop)(o:Oper)(lab:Option (Value→Prop))(d:Bool)(a:Act)(V:Value→Prop):Prop:=
 (Region.wanted o (yielded ops a.tmps)=true∧lab=none∧d=false∧∃v,V=(·=v)∧Iq P ops S T F o a v)∨
 (Region.wanted o (yielded ops a.tmps)=true∧lab=some V∧(∀w,S w→ij ops T F o a w→xG P S T F X d V o w ((execOp a.eval o).run P w))∧∀w,S w→ij ops T F o a w→∃u w',V u∧om S T F o w w' u)∨
 (Region.wanted o (yielded ops a.tmps)=false∧d=false∧V=(·=undef)∧∀d,o.dst=some d→d∉T)
theorem fq.unique {o:Oper}{I:Option (Value→Prop)}{d:Bool}{a:Act}{V Y:Value→Prop}(h:fq P ops S T F X o I d a V)(h':fq P ops S T F X o I d a Y){w:World}(hw:S w)(Z:ij ops T F o a w):V=Y:=by
 rcases h with ⟨C,J,_,v,rfl,h3⟩|⟨C,J,_⟩|⟨C,_,rfl,_⟩
 ·rcases h' with ⟨j,l,_,v',rfl,k3⟩|⟨j,l,_⟩|⟨j,_⟩
  ·have R:=(h3 w hw Z).1;rw[(k3 w hw Z).1] at R;iterate 2 injection R with R
   subst R;rfl
  ·rw[J] at l;cases l
  rw[C] at j;cases j
 ·rcases h' with ⟨j,l,_⟩|⟨j,l,_⟩|⟨j,_⟩
  ·rw[J] at l;cases l
  ·rw[J] at l;injection l
  rw[C] at j;cases j
 rcases h' with ⟨j,_⟩|⟨j,_⟩|⟨_,_,rfl,_⟩;·rw[C] at j;cases j
 ·rw[C] at j;cases j
 rfl
theorem fq.some_ {o:Oper}{l:Option (Value→Prop)}{d:Bool}{a:Act}{V:Value→Prop}(h:fq P ops S T F X o l d a V){w:World}(hw:S w)(C:ij ops T F o a w):∃u I,V u∧om S T F o w I u:=by
 rcases h with ⟨_,_,_,v,rfl,j⟩|⟨_,_,_,j⟩|⟨_,_,rfl,j⟩;·exact⟨v,w,rfl,hw,fun _ _ _ h=>h,(j w hw C).2⟩
 ·exact j w hw C
 exact⟨undef,w,rfl,hw,fun _ _ _ h=>h,fun d J R=>absurd R (j d J)⟩
theorem fq.put {o:Oper}{j:Option (Value→Prop)}{b:Bool}{a:Act}{V:Value→Prop}{dst:Option Tmp}{u:Value}(l:∀cs b,o.op≠.select cs b)(h:∀d,dst=some d→d∉o.looksAt ops):
 fq P ops S T F X o j b (a.put dst u) V↔fq P ops S T F X o j b a V:=by
 unfold fq Iq;rw[execOp_put o l a dst u h,wanted_put o a dst u h];simp only[ij.put h]
def qM (P:Program)(md:Region.Mode)(ops:Array Oper)(S:World→Prop)(T:List Tmp)(F:Tmp→Value→World→Prop)(L:Nat→Option (Value→Prop))(D:Nat→Bool)(X:List PanicEntry→World→Prop)(n:Nat)(Q:Array Bool→Act→Prop):Nat→Bool→Array Bool→Act→Prop
 |0,dead,listed,a=>(∃w,S w∧eU ops T F listed a w)→(∀j∈Region.ready md ops listed,n≤j)∧(dead=false→Q listed a)
 |fuel+1,dead,listed,a=>(∃w,S w∧eU ops T F listed a w)→Region.ready md ops listed≠[]∧
  ∀i∈Region.ready md ops listed,i<n∧∀o,ops[i]? =some o→∃V,fq P ops S T F X o (L i) (D i) a V∧∀v,V v→qM P md ops S T F L D X n Q fuel (dead||D i) (listed.setIfInBounds i true) (a.put o.dst v)
theorem tA (a:Act)(d:Option Tmp)(v:Value):(a.put d v).defers=a.defers:=by cases d<;>rfl
theorem gM {n g:Nat}{Q:Array Bool→Act→Prop}{Q':Exit→Act→World→Prop}{J:Act→Prop}(hm:lk md ops T)(R:∀(i:Nat) (o:Oper) (a:Act) (v:Value),ops[i]? =some o→J a→J (a.put o.dst v))(hX:∀a ch w,X ch w→J a→Q' (.panic ch) a w)
 (hQ:∀listed a w,S w→eU ops T F listed a w→Q listed a→wpAny P md ops Q' g listed a w):∀(j:Nat) (listed:Array Bool) (a:Act) (w:World),J a→S w→eU ops T F listed a w→
 qM P md ops S T F L D X n Q j false listed a→wpAny P md ops Q' (j+g) listed a w
 |0,listed,a,w,_,hw,C,h=>by rw[cN];exact hQ _ _ _ hw C ((h ⟨w,hw,C⟩).2 rfl)
 |j+1,listed,a,w,h0,hw,C,h=>by(
 rw[show j+1+g=(j+g)+1 by omega];refine⟨fun Y=>absurd Y (h ⟨w,hw,C⟩).1,fun i hi=>?_⟩;obtain⟨_,o,l,_⟩:=mem_ready.1 hi;obtain⟨V,hy,hn⟩:=((h ⟨w,hw,C⟩).2 i hi).2 o l;have hp:=C.pre hm hi l;unfold wpOp;simp only[l];rcases hy with ⟨Y,_,Z,v,rfl,h3⟩|⟨Y,_,h3,_⟩|⟨Y,Z,rfl,h3⟩;·rw[ap Y];left;obtain⟨I,a1⟩:=h3 w hw hp;unfold Oper.wp;rw[I];have:=hn v rfl;rw[Z] at this;exact gM hm R hX hQ j _ _ w (R _ _ _ _ l h0) hw (C.next l ⟨hw,fun _ _ _ h=>h,a1⟩) this
 ·(
 rw[ap Y];left;have I:=h3 w hw hp;unfold Oper.wp;generalize (execOp a.eval o).run P w=r at I;cases r with
 |ok nx w'=>
  cases nx<;>simp only[xG] at I<;>simp only[Oper.upon]
  case value u=>(have:=hn u I.2.1;rw[I.1] at this;exact gM hm R hX hQ j _ _ w' (R _ _ _ _ l h0) I.2.2.1 (C.next l I.2.2) this)
  case enter f args=>(
 refine I.mono ?_;rintro e a6 (⟨Z,u,rfl,hv,hg⟩|⟨ch,rfl,hx⟩)
 ·have:=hn u hv
  rw[Z] at this;exact gM hm R hX hQ j _ _ a6 (R _ _ _ _ l h0) hg.1 (C.next l hg) this
 exact hX _ _ _ hx h0)
 |halt x w'=>simp only[xG] at I)
 rw[ae (by rw[Y];exact oG)];have:=hn undef rfl;rw[Z] at this;exact gM hm R hX hQ j _ _ w (R _ _ _ _ l h0) hw (C.next l ⟨hw,fun _ _ _ h=>h,fun d Z ht=>absurd ht (h3 d Z)⟩) this)
theorem xx {n:Nat}{Q:Array Bool→Act→Prop}{i:Nat}{oi:Oper}{V:Value→Prop}(hm:lk md ops T)(hi:ops[i]? =some oi)(a6:∀(j:Nat) (o:Oper) cs b,ops[j]? =some o→o.op≠.select cs b)
 (hR:∀listed,HeadInv md ops n listed→∀i,i<n→listed.getD i true=false→∀j∈Region.ready md ops listed,j<n) (b0:i<n):
 ∀(l:Nat) (dead:Bool) (listed:Array Bool) (a:Act),HeadInv md ops n listed→
  (∀j Y,ops[j]? =some Y→j≠i→listed.getD j true=false→(∀e∈Y.after,Region.binds md e=true→e.on≠i)→oi.apart ops Y=true)→
  i∈Region.ready md ops listed→fq P ops S T F X oi (L i) (D i) a V→
  (∀v,V v→qM P md ops S T F L D X n Q l (dead||D i) (listed.setIfInBounds i true) (a.put oi.dst v))→qM P md ops S T F L D X n Q (l+1) dead listed a:=by
 intro l;induction l with
 |zero=>
  intro dead listed a inv _ hr hy H J;obtain⟨w0,b1,Z⟩:=J;obtain⟨v0,w1,b5,hg⟩:=hy.some_ b1 (Z.pre hm hr hi);have h1:=H v0 b5 ⟨w1,hg.1,Z.next hi hg⟩;have R:=(mem_ready.1 hr).1;refine⟨fun h=>(by rw[h] at hr;cases hr),fun j hj=>⟨hR _ inv i b0 R j hj,fun o ho=>?_⟩⟩;by_cases C:j=i;·subst C;rw[hi] at ho;cases ho;exact⟨V,hy,H⟩
  have h2:=h1.1 j (ready_mono hj C);have h3:=hR _ inv i b0 R j hj;omega
 |succ l ih=>
  intro dead listed a inv a7 hr hy H J;obtain⟨w0,b1,Z⟩:=J;obtain⟨v0,w1,b5,hg⟩:=hy.some_ b1 (Z.pre hm hr hi);have h1:=H v0 b5 ⟨w1,hg.1,Z.next hi hg⟩;have R:=(mem_ready.1 hr).1;refine⟨fun h=>(by rw[h] at hr;cases hr),fun j hj=>⟨hR _ inv i b0 R j hj,fun Y I=>?_⟩⟩;have c2:=hR _ inv i b0 R j hj;by_cases C:j=i;·subst C;rw[hi] at I;cases I;exact⟨V,hy,H⟩
  obtain⟨a8,d8,b3,b7⟩:=mem_ready.1 hj;rw[I] at b3;cases b3;have b8:∀e∈Y.after,Region.binds md e=true→e.on≠i:=fun e he hb heq=>by have h1:=b7 e he hb;rw[heq,getD_both R] at h1;cases h1
  obtain⟨a1,a2,a3⟩:=Oper.apart_spec (a7 j Y I C a8 b8);obtain⟨Vj,c3,_⟩:=(h1.2 j (ready_mono hj C)).2 Y I;have b4:=(fq.put (fun cs b=>a6 j Y cs b I) a1).1 c3;have c4:=Z.pre hm hj I
  have b2:∀k ok,ops[k]? =some ok→k≠i→(listed.setIfInBounds j true).getD k true=false→
   (∀e∈ok.after,Region.binds md e=true→e.on≠i)→oi.apart ops ok=true:=fun k ok hk c5 R c6=>by
   refine a7 k ok hk c5 ?_ c6;by_cases b9:j=k;·subst b9;exact a8
   rw[getD_set_ne true b9] at R;exact R
  refine⟨Vj,b4,fun u hu=>ih (dead||D j) (listed.setIfInBounds j true) (a.put Y.dst u) (inv.set hj c2) b2 (ready_mono hr (Ne.symm C)) ((fq.put (fun cs b=>a6 i oi cs b hi) a3).2 hy) fun v hv=>?_⟩;have comm:=Act.put_comm a v u a2;have key:(∃w,S w∧eU ops T F ((listed.setIfInBounds j true).setIfInBounds i true) ((a.put Y.dst u).put oi.dst v) w)→qM P md ops S T F L D X n Q l (dead||D j||D i) ((listed.setIfInBounds j true).setIfInBounds i true) ((a.put Y.dst u).put oi.dst v):=by(
 rintro⟨w2,c7,c0⟩;rw[←comm,Array.setIfInBounds_comm _ _ C] at c0⊢;have b6:(listed.setIfInBounds i true).getD j true=false:=by rw[getD_set_ne true (Ne.symm C)];exact a8
 have c8:=c0.less hm I b6;obtain⟨V2,c9,d7⟩:=((H v hv ⟨w2,c7,c8⟩).2 j (ready_mono hj C)).2 Y I;have c1:=(fq.put (fun cs b=>a6 j Y cs b I) a1).1 c9;have:=b4.unique c1 b1 c4;subst this;rw[Bool.or_right_comm];exact d7 u hu)
  cases l with
  |zero=>exact fun J=>key J J
  |succ l=>exact fun J=>key J J
def oC (P:Program)(ops:Array Oper)(S:World→Prop)(T:List Tmp)(F:Tmp→Value→World→Prop)(L:Nat→Option (Value→Prop))(D:Nat→Bool)(X:List PanicEntry→World→Prop)(Q:Act→Prop):List Oper→Nat→Bool→Act→Prop
 | [],_,dead,a=>dead=false→Q a
 |o::rest,k,dead,a=>∃V,fq P ops S T F X o (L k) (D k) a V∧∀v,V v→oC P ops S T F L D X Q rest (k+1) (dead||D k) (a.put o.dst v)
theorem tU {n g:Nat}{Q:Act→Prop}(hm:lk md ops T)(hs:Region.noSelect ops=true)
 (hR:∀listed,HeadInv md ops n listed→∀i,i<n→listed.getD i true=false→∀j∈Region.ready md ops listed,j<n):
 ∀(l:List Oper) (k:Nat) (dead:Bool) (listed:Array Bool) (a:Act),(∀j,j<l.length→l[j]? =ops[k+j]?)→k+l.length=n→HeadInv md ops n listed→(∀j,j<k→listed.getD j false=true)→
 Region.lexHead md ops g l.length k listed=true→oC P ops S T F L D X Q l k dead a→
 qM P md ops S T F L D X n (fun C a'=>Region.seqB md ops g n C=true∧(∀j,j<n→C.getD j false=true)∧Q a') l.length dead listed a
 | [],k,dead,listed,a,_,Z,_,hd,I,h=>by
  have:k=n:=by simpa using Z
  subst this;have I:Region.seqB md ops g k listed=true:=by simpa [Region.lexHead] using I
  exact fun _=>⟨seqB_ready I,fun J=>⟨I,hd,h J⟩⟩
 |o::l,k,dead,listed,a,hl,Z,inv,hd,I,h=>by(
 have h0:ops[k]? =some o:=by simpa using(hl 0 (by simp)).symm
 simp only[kI,Region.lexHead,gE] at I;obtain⟨⟨hr,hf⟩,a1⟩:=I;have R:k<n:=by simp only[kI] at Z;omega
 have Y:k∈Region.ready md ops listed:=by simpa using hr
 obtain⟨V,hy,hK⟩:=h;have a6:k<listed.size:=by rw[inv.size];exact(mV.1 h0).1
 refine xx hm h0 (Region.noSelect_spec hs) hR R l.length dead listed a inv (Region.free_spec h0 hf) Y hy
  fun v hv=>tU hm hs hR l (k+1) _ _ _ (fun j hj=>by have:=hl (j+1) (by simp;omega);simpa [Nat.add_assoc,Nat.add_comm 1 j] using this) (by simp only[kI] at Z;omega) (inv.set Y R) (fun j hj=>?_) a1 (hK v hv)
 by_cases e:k=j;·subst e;simp[a6]
 rw[getD_set_ne false e];exact hd j (by omega))
def yZ (md:Region.Mode)(ops:Array Oper)(n:Nat):Bool:=
 Region.noSelect ops&&(n==ops.size||(decide (n<ops.size)&&Region.sinkB md ops n&&Region.chainB md ops n))&&Region.lexHead md ops (ops.size-n) n 0 (Array.replicate ops.size false)
def pM (ops:Array Oper)(T:List Tmp)(n:Nat):Bool:=T.all fun t=>(List.range n).any fun k=>match ops[k]? with|some x=>x.dst==some t|none=>false
theorem kG {id:Nat}{Q:Exit→Act→World→Prop}{a:Act}{w:World}{l:List Oper}(n:Nat)(S:World→Prop)(T:List Tmp)(F:Tmp→Value→World→Prop)(L:Nat→Option (Value→Prop))(D:Nat→Bool)(X:List PanicEntry→World→Prop)(J:Act→Prop)
 (hm:P.follows .mixedOrders=true) (hB:yZ .any l.toArray n=true) (hT:ns .any l.toArray T=true) (b1:pM l.toArray T n=true)
 (hS:S w.drew) (b2:J a) (hJ:∀(i:Nat) (o:Oper) (a:Act) (v:Value),l.toArray[i]? =some o→J a→J (a.put o.dst v)) (hX:∀R ch w,X ch w→J R→Q (.panic ch) R w) (h:oC P l.toArray S T F L D X (fun R=>∀Y,S Y→(∀t∈T,∀v,R.tmps[t]? =some v→F t v Y)→wpList P l.toArray Q (l.drop n) R Y) (l.take n) 0 false a):(Code.region id l.toArray true).wp P Q a w:=by
 simp only[yZ,gE,Bool.or_eq_true,cy,iH] at hB;obtain⟨⟨a1,hn⟩,a6⟩:=hB;have a7:=sU hT;have b7:n≤l.length:=by rcases hn with h|⟨⟨h,_⟩,_⟩<;>simp at h<;>omega
 have C:(l.take n).length=n:=by simp;omega
 have a8:(l.drop n).length=l.toArray.size-n:=by simp
 have b0:HeadInv .any l.toArray n (Array.replicate l.toArray.size false):=
  ⟨by simp,fun j oj _ hl=>(by rw[getD_replicate_false] at hl;cases hl),fun t _ ht=>getD_in (by simpa using ht) (getD_replicate_false _ _)⟩
 have hR:∀listed,HeadInv .any l.toArray n listed→∀i,i<n→listed.getD i true=false→∀j∈Region.ready .any l.toArray listed,j<n:=by(
 intro listed inv i hi b3 j Z;obtain⟨_,oj,b4,_⟩:=mem_ready.1 Z;have b8:=(mV.1 b4).1;rcases hn with h|⟨⟨h,hs⟩,hc⟩;·omega
 rcases Nat.lt_or_ge j n with h'|h';·exact h'
 exact absurd Z (tail_waits hs hc h inv _ i rfl hi b3 j h'))
 have H:=tU (md:=.any) (g:=l.toArray.size-n) a7 a1 hR (l.take n) 0 false _ a (fun j Z=>by
  have b5:j<n:=by rw[C] at Z;exact Z
  simp[b5]) (by simpa using C) b0 (fun j Z=>by omega) (by rw[C];exact a6) h
 refine wp_region_any hm ?_;have:=gM (Q':=Q) (J:=J) (g:=l.toArray.size-n) a7 hJ hX (fun listed R Y b6 hf hL=>by
  have I:∀t∈T,∀v,R.tmps[t]? =some v→F t v Y:=fun t ht v hv=>by(
 have h1:=List.all_eq_true.1 b1 t ht;obtain⟨k,hk,h2⟩:=mW.1 h1;cases hx:l.toArray[k]? with
 |none=>simp[hx] at h2
 |some x=>simp only[hx,cy] at h2;exact hf k x t (hL.2.1 k (fg.1 hk)) hx h2 ht v hv)
  have:=wpAny_of_seq (md:=.any) (Q':=Q) (l.drop n) n listed R Y (fun j=>by simp[List.getElem?_drop]) (by rw[a8];exact hL.1) (hL.2.2 Y b6 I);rwa [a8] at this) _ _ _ w.drew b2 hS (fun k o d hk=>by exfalso;rw[getD_replicate_false] at hk;cases hk) H
 rw[C,show n+(l.toArray.size-n)=l.toArray.size by omega] at this;exact this
theorem bq {id:Nat}{Q:Exit→Act→World→Prop}{a:Act}{w:World}{l:List Oper}(n:Nat)(S:World→Prop)(T:List Tmp)(F:Tmp→Value→World→Prop)(L:Nat→Option (Value→Prop))(D:Nat→Bool)(X:List PanicEntry→World→Prop)
 (hm:P.follows .mixedOrders=true) (J:yZ .any l.toArray n=true) (R:ns .any l.toArray T=true) (o:pM l.toArray T n=true)
 (Y:S w.drew) (Z:∀j I w,X I w→j.defers=a.defers→Q (.panic I) j w) (h:oC P l.toArray S T F L D X (fun j=>∀C,S C→(∀t∈T,∀v,j.tmps[t]? =some v→F t v C)→wpList P l.toArray Q (l.drop n) j C) (l.take n) 0 false a):(Code.region id l.toArray true).wp P Q a w:=
 kG n S T F L D X (fun j=>j.defers=a.defers) hm J R o Y rfl (fun _ _ _ _ _ h=>(tA _ _ _).trans h) Z h
section steps
variable {Q:Act→Prop} {o:Oper} {rest:List Oper} {k:Nat} {dead:Bool} {a:Act}
theorem aG (h:Q a):oC P ops S T F L D X Q [] k dead a:=fun _=>h
theorem dG:oC P ops S T F L D X Q [] k true a:=fun h=>by cases h
theorem xy {v:Value}(hw:Region.wanted o (yielded ops a.tmps)=true)(l:L k=none)(j:D k=false)(C:∀d,o.dst=some d→d∉T)(h:∀w,S w→ij ops T F o a w→(execOp a.eval o).run P w=.ok (.value v) w)(I:oC P ops S T F L D X Q rest (k+1) dead (a.put o.dst v)):oC P ops S T F L D X Q (o::rest) k dead a:=
 ⟨_,.inl ⟨hw,l,j,v,rfl,fun w J R=>⟨h w J R,fun d j Y=>absurd Y (C d j)⟩⟩,fun _ e=>by subst e;rw[j,Bool.or_false];exact I⟩
theorem tW {v:Value}(hw:Region.wanted o (yielded ops a.tmps)=true)(Y:L k=some (·=v))(J:D k=false)(R:∀d,o.dst=some d→d∉T)
 (h:∀w,S w→ij ops T F o a w→∃f args,(execOp a.eval o).run P w=.ok (.enter f args) w∧Calls P f args w fun e l=>e=.returned v∧S l∧∀t∈T,∀v,F t v w→F t v l) (Z:oC P ops S T F L D X Q rest (k+1) dead (a.put o.dst v)):oC P ops S T F L D X Q (o::rest) k dead a:=
 ⟨_,.inr (.inl ⟨hw,Y,fun w C hp=>by obtain⟨f,args,hr,hc⟩:=h w C hp;rw[hr];exact hc.mono fun e l ⟨h1,h2,h3⟩=>.inl ⟨J,v,h1,rfl,h2,h3,fun d j I=>absurd I (R d j)⟩,fun w C _=>⟨v,w,rfl,C,fun _ _ _ h=>h,fun d j I=>absurd I (R d j)⟩⟩),fun _ e=>by subst e;rw[J,Bool.or_false];exact Z⟩
theorem Ic (v:Value)(hw:Region.wanted o (yielded ops a.tmps)=true)(J:L k=some (·=v))(R:D k=true)(Y:∀d,o.dst=some d→d∉T)
 (h:∀w,S w→ij ops T F o a w→∃f args,(execOp a.eval o).run P w=.ok (.enter f args) w∧Calls P f args w fun e C=>∃I,e=.panicked I∧X I C) (Z:oC P ops S T F L D X Q rest (k+1) true (a.put o.dst v)):oC P ops S T F L D X Q (o::rest) k dead a:=
 ⟨_,.inr (.inl ⟨hw,J,fun w j hp=>by obtain⟨f,args,hr,hc⟩:=h w j hp;rw[hr];exact hc.mono fun e C h'=>.inr h',fun w j _=>⟨v,w,rfl,j,fun _ _ _ h=>h,fun d l hT=>absurd hT (Y d l)⟩⟩),fun _ e=>by subst e;rw[R,Bool.or_true];exact Z⟩
theorem Ey {V:Value→Prop}(hw:Region.wanted o (yielded ops a.tmps)=true)(C:L k=some V)(l:D k=false)(h:∀w,S w→ij ops T F o a w→xG P S T F X false V o w ((execOp a.eval o).run P w))(j:∀w,S w→ij ops T F o a w→∃u I,V u∧om S T F o w I u)(J:∀v,V v→oC P ops S T F L D X Q rest (k+1) dead (a.put o.dst v)):oC P ops S T F L D X Q (o::rest) k dead a:=
 ⟨V,.inr (.inl ⟨hw,C,by rw[l];exact h,j⟩),fun v R=>by rw[l,Bool.or_false];exact J v R⟩
theorem Ib (hw:Region.wanted o (yielded ops a.tmps)=false)(j:D k=false)(l:∀d,o.dst=some d→d∉T)(C:oC P ops S T F L D X Q rest (k+1) dead (a.put o.dst undef)):oC P ops S T F L D X Q (o::rest) k dead a:=
 ⟨_,.inr (.inr ⟨hw,j,rfl,l⟩),fun _ e=>by subst e;rw[j,Bool.or_false];exact C⟩
end steps
def mR (a:Act)(ts:List Tmp)(a':Act):Prop:=a'.defers=a.defers∧∀t∈ts,a'.tmps[t]? =a.tmps[t]?
def JN (ops:Array Oper)(ts:List Tmp):Bool:=ops.all fun o=>match o.dst with|some d=>!ts.contains d|none=>true
theorem mR.refl (a:Act)(j:List Tmp):mR a j a:=⟨rfl,fun _ _=>rfl⟩
theorem tN {ops:Array Oper}{a:Act}{j:List Tmp}(h:JN ops j=true)(i:Nat)(o:Oper)(l:Act)(v:Value)(hi:ops[i]? =some o)(C:mR a j l):mR a j (l.put o.dst v):=by
 refine⟨(tA _ _ _).trans C.1,fun t I=>?_⟩;have J:=Array.all_eq_true'.1 h o (Array.mem_of_getElem? hi);cases Y:o.dst with
 |none=>exact C.2 t I
 |some d=>
  rw[Y] at J;have R:d≠t:=by intro e;subst e;simp at J;exact J I
  show(l.tmps.setIfInBounds d v)[t]? =_;rw[Array.getElem?_setIfInBounds_ne R];exact C.2 t I
end
end
section
section
variable {P:Program} {ops:Array Oper} {S:World→Prop} {T:List Tmp} {F:Tmp→Value→World→Prop} {L:Nat→Option (Value→Prop)} {D:Nat→Bool} {X:List PanicEntry→World→Prop} {Q:Act→Prop} {o:Oper} {rest:List Oper} {k:Nat} {dead:Bool} {a:Act}
theorem O3 {v:Value}{l:Act}(h:∀w,S w→ij ops T F o a w→(execOp a.eval o).run P w=.ok (.value v) w)(C:oC P ops S T F L D X Q rest (k+1) dead l)(hw:Region.wanted o (yielded ops a.tmps)=true:=by rfl)(I:L k=none:=by rfl)(j:D k=false:=by rfl)(J:∀d,o.dst=some d→d∉T:=by intro d j;first|(intro R;cases R;done)|(cases j;decide))(Y:a.put o.dst v=l:=by conv=>lhs;simp only[PS]):oC P ops S T F L D X Q (o::rest) k dead a:=xy hw I j J h (by rw[Y];exact C)
theorem O0 {v:Value}{l:Act}(C:oC P ops S T F L D X Q rest (k+1) dead l)(h:∀w,S w→ij ops T F o a w→(execOp a.eval o).run P w=.ok (.value v) w:=by intro wn C I;go_simp;with_reducible rfl)(hw:Region.wanted o (yielded ops a.tmps)=true:=by rfl)(J:L k=none:=by rfl)(j:D k=false:=by rfl)(R:∀d,o.dst=some d→d∉T:=by intro d j;first|(intro Y;cases Y;done)|(cases j;decide))(I:a.put o.dst v=l:=by conv=>lhs;simp only[PS]):oC P ops S T F L D X Q (o::rest) k dead a:=xy hw J j R h (by rw[I];exact C)
theorem O4 {v:Value}{J:Act}{C:World→Prop}(f:∀w,S w→C w)(R:oC P ops S T F L D X Q rest (k+1) dead J)(h:∀w,S w→C w→ij ops T F o a w→(execOp a.eval o).run P w=.ok (.value v) w:=by intro wn R l j;(try dsimp only at l);(repeat obtain⟨_,l⟩:=l);go_simp;with_reducible rfl)(hw:Region.wanted o (yielded ops a.tmps)=true:=by rfl)(Z:L k=none:=by rfl)(I:D k=false:=by rfl)(ht:∀d,o.dst=some d→d∉T:=by intro d I;first|(intro hT;cases hT;done)|(cases I;decide))(j:a.put o.dst v=J:=by conv=>lhs;simp only[PS]):oC P ops S T F L D X Q (o::rest) k dead a:=xy hw Z I ht (fun w Y j=>h w Y (f w Y) j) (by rw[j];exact R)
theorem O2 {l:Act}(C:oC P ops S T F L D X Q rest (k+1) dead l)(hw:Region.wanted o (yielded ops a.tmps)=false:=by rfl)(j:D k=false:=by rfl)(I:∀d,o.dst=some d→d∉T:=by intro d j;first|(intro J;cases J;done)|(cases j;decide))(R:a.put o.dst undef=l:=by conv=>lhs;simp only[PS]):oC P ops S T F L D X Q (o::rest) k dead a:=Ib hw j I (by rw[R];exact C)
theorem O6 {V:Value→Prop}(h:∀w,S w→ij ops T F o a w→xG P S T F X false V o w ((execOp a.eval o).run P w))(j:∀w,S w→ij ops T F o a w→∃u l,V u∧om S T F o w l u)(C:∀v,V v→oC P ops S T F L D X Q rest (k+1) dead (a.put o.dst v))(hw:Region.wanted o (yielded ops a.tmps)=true:=by rfl)(I:L k=some V:=by rfl)(J:D k=false:=by rfl):oC P ops S T F L D X Q (o::rest) k dead a:=Ey hw I J h j C
theorem O5 {v:Value}{l:Act}(h:∀w,S w→ij ops T F o a w→∃f args,(execOp a.eval o).run P w=.ok (.enter f args) w∧Calls P f args w fun e C=>e=.returned v∧S C∧∀t∈T,∀v,F t v w→F t v C)(I:oC P ops S T F L D X Q rest (k+1) dead l)(hw:Region.wanted o (yielded ops a.tmps)=true:=by rfl)(J:L k=some (·=v):=by rfl)(j:D k=false:=by rfl)(R:∀d,o.dst=some d→d∉T:=by intro d j;first|(intro Y;cases Y;done)|(cases j;decide))(Z:a.put o.dst v=l:=by conv=>lhs;simp only[PS]):oC P ops S T F L D X Q (o::rest) k dead a:=tW hw J j R h (by rw[Z];exact I)
theorem O7 (v:Value){l:Act}(h:∀w,S w→ij ops T F o a w→∃f args,(execOp a.eval o).run P w=.ok (.enter f args) w∧Calls P f args w fun e I=>∃C,e=.panicked C∧X C I)(J:oC P ops S T F L D X Q rest (k+1) true l)(hw:Region.wanted o (yielded ops a.tmps)=true:=by rfl)(R:L k=some (·=v):=by rfl)(j:D k=true:=by rfl)(Y:∀d,o.dst=some d→d∉T:=by intro d j;first|(intro Z;cases Z;done)|(cases j;decide))(hp:a.put o.dst v=l:=by conv=>lhs;simp only[PS]):oC P ops S T F L D X Q (o::rest) k dead a:=Ic v hw R j Y h (by rw[hp];exact J)
theorem R1 {id:Nat}{Q':Exit→Act→World→Prop}{a:Act}{w:World}{l I:List Oper}(n:Nat)(W:World)(T:List Tmp)(F:Tmp→Value→World→Prop)(L:Nat→Option (Value→Prop))(h:oC P l.toArray (aa All W) T F L (fun _=>false) (fun _ _=>False) (fun J=>∀j,aa All W j→(∀t∈T,∀v,J.tmps[t]? =some v→F t v j)→wpList P l.toArray Q' (l.drop n) J j) I 0 false a)(hm:P.follows .mixedOrders=true:=by kernel_rfl)(R:yZ .any l.toArray n=true:=by kernel_rfl)(Y:ns .any l.toArray T=true:=by kernel_rfl)(C:pM l.toArray T n=true:=by kernel_rfl)(Z:aa All W w.drew:=by exact(aa.refl _ _).drew)(ht:l.take n=I:=by conv=>lhs;simp only[tK]):(Code.region id l.toArray true).wp P Q' a w:=bq n (aa All W) T F L (fun _=>false) (fun _ _=>False) hm R Y C Z (fun _ _ _ h=>False.elim h) (by rw[ht];exact h)
theorem R0 {id:Nat}{Q':Exit→Act→World→Prop}{a:Act}{w:World}{l C:List Oper}(n:Nat)(W:World)(L:Nat→Option (Value→Prop))(h:oC P l.toArray (aa All W) [] (fun _ _ _=>True) L (fun _=>false) (fun _ _=>False) (fun I=>∀J,aa All W J→(∀t∈([]:List Tmp),∀v,I.tmps[t]? =some v→True)→wpList P l.toArray Q' (l.drop n) I J) C 0 false a)(hm:P.follows .mixedOrders=true:=by kernel_rfl)(R:yZ .any l.toArray n=true:=by kernel_rfl)(Y:ns .any l.toArray []=true:=by kernel_rfl)(j:pM l.toArray [] n=true:=by kernel_rfl)(Z:aa All W w.drew:=by exact(aa.refl _ _).drew)(ht:l.take n=C:=by conv=>lhs;simp only[tK]):(Code.region id l.toArray true).wp P Q' a w:=R1 n W [] (fun _ _ _=>True) L h hm R Y j Z ht
end
end
end Go.Proofs.YtceloincoomjeaaGreatDoor
