/- Part 9 of the proof (its last part says what is proved). No condition. -/
import Derived.Deep.CutBlock
import Derived.Test.YtgdlhckhpolnnaaGreatDoorK7
namespace Go.Proofs.YtgdlhckhpolnnaaGreatDoor
set_option maxRecDepth 100000
set_option maxHeartbeats 8000000
open Go.RowKit Go.Proofs.Tryz
theorem Bh (s:ByteArray)(w:World):Calls prog 93 #[.string s] w fun e w'=>e=.returned (.string s)∧aa All w w':=by go_enter func93,ntmps93;go_wp2;go_ret;exact⟨rfl,kR⟩
theorem Bi (s:ByteArray)(j:Nat)(o:ByteArray)(p q:Value)(Nj:Int)(w:World)(C:al w j 110 #[.string o,p,q,.int .i64 Nj]):
 Calls prog 94 #[.string s,.pointer (some ⟨j,0,none⟩)] w fun e w'=>e=.returned (.int .i64 Nj)∧aa All w w':=by
 have c3:=C.cl 3;go_enter func94,ntmps94;go_wp2;go_ret;exact⟨rfl,kR⟩
theorem GR (j:ByteArray)(o:Option Addr)(C I:Nat)(J:Option Addr)(R Y:Nat)(Nj:Int)(w:World):Calls prog 52 #[.agg #[.string j,.slice o C I,.slice J R Y,.int .i64 Nj]] w fun e w'=>e=.returned (.string j)∧aa All w w':=by go_enter func52,ntmps52;go_wp2;go_ret;exact⟨rfl,kR.alloc _⟩
theorem GS (j:ByteArray)(o:Option Addr)(C I:Nat)(J:Option Addr)(R Y:Nat)(Nj:Int)(w:World):Calls prog 53 #[.agg #[.string j,.slice o C I,.slice J R Y,.int .i64 Nj]] w fun e w'=>e=.returned (.int .i64 Nj)∧aa All w w':=by go_enter func53,ntmps53;go_wp2;go_ret;exact⟨rfl,kR.alloc _⟩
theorem Bj (j:ByteArray)(o:Option Addr)(C I:Nat)(Nj:Int)(w:World):Calls prog 96 #[.agg #[.string j,.slice o C I,.int .i64 Nj]] w fun e w'=>e=.returned (.string j)∧aa All w w':=by go_enter func96,ntmps96;go_wp2;go_ret;exact⟨rfl,kR.alloc _⟩
theorem Bk (j:ByteArray)(o:Option Addr)(C I:Nat)(Nj:Int)(w:World):Calls prog 97 #[.agg #[.string j,.slice o C I,.int .i64 Nj]] w fun e w'=>e=.returned (.int .i64 Nj)∧aa All w w':=by go_enter func97,ntmps97;go_wp2;go_ret;exact⟨rfl,kR.alloc _⟩
theorem kB {l:List ByteArray}{s:ByteArray}(h:l.Nodup)(j:s∉l):(l++[s]).Nodup:=by rw[List.nodup_append];exact⟨h,by simp,fun a o b C e=>by rw[cx.1 C] at e;exact j (e▸o)⟩
theorem jR {l:List ByteArray}{k:Nat}{s:ByteArray}(C:l[k]? =some s)(hm:s∈l.take k):¬l.Nodup:=by intro h;obtain⟨i,hi⟩:=List.getElem?_of_mem hm;have j:=(lS.1 hi).1;rw[fN] at j;rw[rY (by omega)] at hi;have h1:=lS.1 hi;have o:=lS.1 C;have:=(List.getElem_inj (h₀:=h1.1) (h₁:=o.1) h).1 (h1.2.trans o.2.symm);omega
def rU (l:List ByteArray)(w:World)(e:Ending)(w':World):Prop:=ql l.Nodup (fun e w'=>∃b,e=.returned (.map (some b))∧cK w' b l∧w.heap.size≤b∧b<w'.heap.size∧aa All w w') w e w'
theorem am {w w':World}(h:aa (fun b=>b<w.heap.size) w w'):aa All w w':=⟨h.os,h.output,h.size,fun k j _=>h.block k j j⟩
theorem un (S:Nat→Prop)(v:Value)(l:List ByteArray)(bf:Nat)(nm:ByteArray)(p q:Value)(Nj:Int)(w:World)(hv:gB S w v l)(hf:al w bf 110 #[.string nm,p,q,.int .i64 Nj])(c9:aV Nj)(hl:l.length≤900000)(b5:∀s∈l,s.size≤140737488355328):
 Calls prog 92 #[v,.func (.func 93) #[] #[],.func (.func 94) #[] #[.pointer (some ⟨bf,0,none⟩)]] w (rU l w):=by
 have b6:=ax.la hv;obtain⟨A1,c1,rfl,l1,l2,l3,_⟩:=hv;unfold maxLen at l2;have HV:=oH b6;clear b6;obtain⟨W0,R⟩:=eQ (w.alloc (.map #[] 0));have b7:cK W0 w.heap.size []:=by rw[R];exact cK.new w
 have b8:=yf R;have b9:=aD1 R;have HF:=J2 hf b5;clear hf b5;have H0:=J4 R b7 b8 b9;clear R b7 b8 b9;have d7:=@run_makeMap prog;go_enter func92,ntmps92;go_upto_region 2 with fail;clear d7;rw[←H0.1];go_wp2_with fail;go_loopg [15] l.length (fun g d8 wr=>∃j:Nat,j≤l.length∧g=l.length-j∧d8=.int .i64 j∧aa (fun b=>b≠w.heap.size) W0 wr∧cK wr w.heap.size (l.take j)∧(l.take j).Nodup);·exact⟨0,by omega,by omega,rfl,kR,H0.2.1,by simp⟩
 obtain⟨j,hj,rfl,rfl,Y,hm,a1⟩:=hrel;have J:aa All w wr:=am (H0.2.2.1.all.trans (Y.mono fun b hb=>by show b≠_;omega));by_cases d9:j<l.length;·(
 obtain⟨s,hs⟩:=eG d9;obtain⟨bb,o,cc,rfl,e3,e4,rfl⟩:=bn (HV.out wr J) hs;have e5:=HF.2 s (mG hs);have c0:l[j]? =some s:=hs;obtain⟨W1,b0⟩:=eQ wr;have b1:aa All wr W1:=by rw[b0];exact kR
 have HA:=J2 (fun wn=>Bh s wn) (fun wn (hk:aa All W1 wn)=>Bi s bf nm p q Nj wn (((HF.1.kept J trivial).kept b1 trivial).kept hk trivial));have e0:=oH (show aV Nj from c9);have HR:=J7 Y hm a1 J c0 b0 b1;clear Y hm a1 J c0 b0 b1;go_upto_region 5 with fail;skip;go_wp2_with fail;refine(HA.1 _).mono ?_;rintro e w2 ⟨rfl,b2⟩;have a6:aa All wr w2:=b2;have c4:aa All W1 w2:=by rw[HR.2.2.2.2.2.1];exact b2
 have b3:=HR.2.1.keep a6 trivial;have a7:=b3.look (s:=s) (by unfold maxLen;omega);have H2:=J3 a6 c4 b3;clear a6 c4 b3 b2;obtain⟨r,hr⟩:=eR (aO (l.take j) s);rw[hr] at a7;by_cases C:0≤r;·rw[Int.max_eq_left C,bL C] at a7;have HN:=oH (fun h:l.Nodup=>jR HR.2.2.2.2.1 (cm.1 (by rw[hr];exact C)) h);clear hr C;go_wp2_with fail;refine(HA.2 _ H2.2.1).mono ?_;rintro e w3 ⟨rfl,I⟩;have c5:=oH I;clear I;go_wp2_with (go_at_call 48;refine(fP _ _ _).mono ?_;rintro e w4 ⟨rfl,rfl⟩);exact⟨rfl,.inr ⟨HN.out,⟨Nj,9,by decide,e0.out,by unfold aV;omega,rfl⟩,(HR.2.2.2.1.trans H2.1).trans c5.out⟩⟩
 rw[cI C] at a7;have HN:=J2 (show aO (l.take j) s<0 by rw[hr];omega) (show¬(s∈l.take j) from fun h=>by have:=cm.2 h;omega);clear hr C;go_wp2_with fail;refine(HA.2 _ H2.2.1).mono ?_;rintro e w3 ⟨rfl,I⟩;have c5:=oH (H2.2.1.trans I);have e1:=oH (H2.2.2.keep I trivial);have e2:=oH (H2.1.trans I);clear I a7;go_wp2_with (go_at_call 48;refine(dX _ _ _).mono ?_;rintro e w4 ⟨rfl,rfl⟩);refine(HA.1 _).mono ?_;rintro e w5 ⟨rfl,b4⟩;have a8:(l.take j).length=j:=by rw[fN];omega
 have c6:=J2 (e1.out.keep b4 trivial) (e2.out.trans b4);clear b4;go_wp2_with (at_mapUpdate;go_loud (refine gN rfl _ _ _ rfl w.heap.size _ rfl c6.1 (by rw[a8];omega) _ rfl (by rw[a8];rfl) (by unfold maxLen;omega) HN.1 ?_;intro w6 c7 c8;have H6:=J2 c7 c8;clear c7 c8));go_roundg (l.length-(j+1))
 ·have e:l.take (j+1)=l.take j++[s]:=by rw[cU,HR.2.2.2.2.1];rfl
  refine⟨j+1,by omega,rfl,by go_num,(HR.1.trans c6.2.all).grown H6.2 fun b hb=>.inl fun h=>h (by injection hb with hb;exact hb.symm),?_,?_⟩;·rw[e];exact H6.1
  rw[e];exact kB HR.2.2.1 HN.2
 omega)
 obtain rfl:j=l.length:=by omega
 rw[oF (by simp)] at hm a1;have HR:=J4 Y hm a1 J;clear Y hm a1 J;go_wp2_with fail;go_ret;have:=HR.1.size;have:=H0.2.2.2;exact .inl ⟨HR.2.2.1,_,rfl,HR.2.1,by omega,by omega,HR.2.2.2⟩
theorem um (S:Nat→Prop)(v:Value)(l:List cD)(w:World)(hv:BC S w v l)(hl:l.length≤900000):
 Calls prog 51 #[v,.func (.func 52) #[] #[],.func (.func 53) #[] #[]] w (rU (l.map fun x=>x.name) w):=by
 have b7:=iX.la hv;obtain⟨A1,c1,rfl,l1,l2,l3,_⟩:=hv;unfold maxLen at l2;have HV:=oH b7;clear b7;obtain⟨W0,Y⟩:=eQ (w.alloc (.map #[] 0));have b8:cK W0 w.heap.size []:=by rw[Y];exact cK.new w
 have b9:=yf Y;have c0:=aD1 Y;have H0:=J4 Y b8 b9 c0;clear Y b8 b9 c0;have d8:=@run_makeMap prog;go_enter func51,ntmps51;go_upto_region 2 with fail;clear d8;rw[←H0.1];go_wp2_with fail;go_loopg [15] l.length (fun g d9 wr=>∃j:Nat,j≤l.length∧g=l.length-j∧d9=.int .i64 j∧aa (fun b=>b≠w.heap.size) W0 wr∧cK wr w.heap.size ((l.map fun x=>x.name).take j)∧((l.map fun x=>x.name).take j).Nodup);·exact⟨0,by omega,by omega,rfl,kR,H0.2.1,by simp⟩
 obtain⟨j,hj,rfl,rfl,a1,hm,a6⟩:=hrel;have a7:aa All w wr:=am (H0.2.2.1.all.trans (a1.mono fun b hb=>by show b≠_;omega));by_cases e0:j<l.length;·(
 obtain⟨x,hx⟩:=eG e0;obtain⟨bb,o,cs,rfl,e8,e9,hc,vp,vb,rfl,e1,e2,e3,e4,_⟩:=aZ (HV.out wr a7) hx;obtain⟨p1,p3,rfl,_⟩:=e1;obtain⟨q1,q3,rfl,_⟩:=e2;have z0:=hc 0 _ rfl;rw[dj] at z0;have z1:=hc 1 _ rfl;have z2:=hc 2 _ rfl;have z3:=hc 3 _ rfl;have c4:(l.map fun x=>x.name)[j]? =some x.name:=by rw[cL,hx];rfl
 have h0:=e4;obtain⟨W1,b0⟩:=eQ (wr.alloc (.cells #[.string x.name,.slice p1 x.params.length p3,.slice q1 x.Ng.length q3,.int .i64 x.Nj] 110));have c5:=yf b0;have b1:=yv b0;have c6:∀wn,aa All W1 wn→∀i,wn.cell? ⟨wr.heap.size,i,none⟩=(#[.string x.name,.slice p1 x.params.length p3,.slice q1 x.Ng.length q3,.int .i64 x.Nj]:Array Value)[i]?:=fun wn hk i=>(b1.kept hk trivial).cell i;have HA:=J2 (fun wn=>GR x.name p1 x.params.length p3 q1 x.Ng.length q3 x.Nj wn) (fun wn (_:aa All W1 wn)=>GS x.name p1 x.params.length p3 q1 x.Ng.length q3 x.Nj wn);have R:=oH c6;have e5:=oH (show aV x.Nj from e3);clear c6 b1 hc;have HR:=J7 a1 hm a6 a7 c4 b0 c5;clear a1 hm a6 a7 c4 b0 c5;go_upto_region 5 with fail;rw[←HR.2.2.2.2.2.1];have g0:=R.out W1 kR 0;have g1:=R.out W1 kR 1;have g2:=R.out W1 kR 2;have g3:=R.out W1 kR 3;simp only[gc] at g0 g1 g2 g3;go_wp2_with fail;refine(HA.1 _).mono ?_;rintro e w2 ⟨rfl,b4⟩;have a8:aa All wr w2:=HR.2.2.2.2.2.2.trans b4;have c7:aa All W1 w2:=b4;have b5:=HR.2.1.keep a8 trivial;have b2:=b5.look (s:=x.name) (by unfold maxLen;omega);have H2:=J3 a8 c7 b5;clear a8 c7 b5 b4;have k0:=R.out w2 (H2.2.1) 0;have k1:=R.out w2 (H2.2.1) 1;have k2:=R.out w2 (H2.2.1) 2;have k3:=R.out w2 (H2.2.1) 3;simp only[gc] at k0 k1 k2 k3;obtain⟨r,hr⟩:=eR (aO ((l.map fun x=>x.name).take j) x.name);rw[hr] at b2;by_cases C:0≤r;·rw[Int.max_eq_left C,bL C] at b2;have HN:=oH (fun h:(l.map fun x=>x.name).Nodup=>jR HR.2.2.2.2.1 (cm.1 (by rw[hr];exact C)) h);clear hr C;go_wp2_with fail;refine(HA.2 _ H2.2.1).mono ?_;rintro e w3 ⟨rfl,I⟩;have J:=oH I;clear I;go_wp2_with (go_at_call 48;refine(fP _ _ _).mono ?_;rintro e w4 ⟨rfl,rfl⟩);exact⟨rfl,.inr ⟨HN.out,⟨x.Nj,9,by decide,e5.out,by unfold aV;omega,rfl⟩,(HR.2.2.2.1.trans H2.1).trans J.out⟩⟩
 rw[cI C] at b2;have HN:=J2 (show aO ((l.map fun x=>x.name).take j) x.name<0 by rw[hr];omega) (show¬(x.name∈(l.map fun x=>x.name).take j) from fun h=>by have:=cm.2 h;omega);clear hr C;go_wp2_with fail;refine(HA.2 _ H2.2.1).mono ?_;rintro e w3 ⟨rfl,I⟩;have J:=oH (H2.2.1.trans I);have e6:=oH (H2.2.2.keep I trivial);have e7:=oH (H2.1.trans I);clear I b2;have m0:=R.out w3 (J.out) 0;have m1:=R.out w3 (J.out) 1;have m2:=R.out w3 (J.out) 2;have m3:=R.out w3 (J.out) 3;simp only[gc] at m0 m1 m2 m3;go_wp2_with (go_at_call 48;refine(dX _ _ _).mono ?_;rintro e w4 ⟨rfl,rfl⟩);refine(HA.1 _).mono ?_;rintro e w5 ⟨rfl,b6⟩;have b3:((l.map fun x=>x.name).take j).length=j:=by rw[fN,ce];omega
 have c8:=J2 (e6.out.keep b6 trivial) (e7.out.trans b6);clear b6;go_wp2_with (at_mapUpdate;go_loud (refine gN rfl _ _ _ rfl w.heap.size _ rfl c8.1 (by rw[b3];omega) _ rfl (by rw[b3];rfl) (by unfold maxLen;omega) HN.1 ?_;intro w6 c9 d7;have H6:=J2 c9 d7;clear c9 d7));go_roundg (l.length-(j+1))
 ·have e:(l.map fun x=>x.name).take (j+1)=(l.map fun x=>x.name).take j++[x.name]:=by rw[cU,HR.2.2.2.2.1];rfl
  refine⟨j+1,by omega,rfl,by go_num,(HR.1.trans c8.2.all).grown H6.2 fun b hb=>.inl fun h=>h (by injection hb with hb;exact hb.symm),?_,?_⟩;·rw[e];exact H6.1
  rw[e];exact kB HR.2.2.1 HN.2
 omega)
 obtain rfl:j=l.length:=by omega
 rw[oF (by simp)] at hm a6;have HR:=J4 a1 hm a6 a7;clear a1 hm a6 a7;go_wp2_with fail;go_ret;have:=HR.1.size;have:=H0.2.2.2;exact .inl ⟨HR.2.2.1,_,rfl,HR.2.1,by omega,by omega,HR.2.2.2⟩
theorem ul (S:Nat→Prop)(v:Value)(l:List eS)(w:World)(hv:mJ S w v l)(hl:l.length≤900000):
 Calls prog 95 #[v,.func (.func 96) #[] #[],.func (.func 97) #[] #[]] w (rU (l.map fun x=>x.name) w):=by
 have b6:=eH.la hv;obtain⟨A1,c1,rfl,l1,l2,l3,_⟩:=hv;unfold maxLen at l2;have HV:=oH b6;clear b6;obtain⟨W0,J⟩:=eQ (w.alloc (.map #[] 0));have b7:cK W0 w.heap.size []:=by rw[J];exact cK.new w
 have b8:=yf J;have b9:=aD1 J;have H0:=J4 J b7 b8 b9;clear J b7 b8 b9;have d7:=@run_makeMap prog;go_enter func95,ntmps95;go_upto_region 2 with fail;clear d7;rw[←H0.1];go_wp2_with fail;go_loopg [15] l.length (fun g d8 wr=>∃j:Nat,j≤l.length∧g=l.length-j∧d8=.int .i64 j∧aa (fun b=>b≠w.heap.size) W0 wr∧cK wr w.heap.size ((l.map fun x=>x.name).take j)∧((l.map fun x=>x.name).take j).Nodup);·exact⟨0,by omega,by omega,rfl,kR,H0.2.1,by simp⟩
 obtain⟨j,hj,rfl,rfl,R,hm,Y⟩:=hrel;have a1:aa All w wr:=am (H0.2.2.1.all.trans (R.mono fun b hb=>by show b≠_;omega));by_cases d9:j<l.length;·(
 obtain⟨x,hx⟩:=eG d9;obtain⟨bb,o,cs,rfl,e6,e7,hc,vb,rfl,e0,e1,e2⟩:=aZ (HV.out wr a1) hx;obtain⟨q1,q3,rfl,_⟩:=e0;have z0:=hc 0 _ rfl;rw[dj] at z0;have z1:=hc 1 _ rfl;have z2:=hc 2 _ rfl;have c0:(l.map fun x=>x.name)[j]? =some x.name:=by rw[cL,hx];rfl
 have e8:=e2;obtain⟨W1,a8⟩:=eQ (wr.alloc (.cells #[.string x.name,.slice q1 x.code.length q3,.int .i64 x.Nj] 135));have c4:=yf a8;have b1:=yv a8;have c5:∀wn,aa All W1 wn→∀i,wn.cell? ⟨wr.heap.size,i,none⟩=(#[.string x.name,.slice q1 x.code.length q3,.int .i64 x.Nj]:Array Value)[i]?:=fun wn hk i=>(b1.kept hk trivial).cell i;have HA:=J2 (fun wn=>Bj x.name q1 x.code.length q3 x.Nj wn) (fun wn (_:aa All W1 wn)=>Bk x.name q1 x.code.length q3 x.Nj wn);have HC:=oH c5;have e3:=oH (show aV x.Nj from e1);clear c5 b1 hc;have HR:=J7 R hm Y a1 c0 a8 c4;clear R hm Y a1 c0 a8 c4;go_upto_region 5 with fail;rw[←HR.2.2.2.2.2.1];have g0:=HC.out W1 kR 0;have g1:=HC.out W1 kR 1;have g2:=HC.out W1 kR 2;simp only[gc] at g0 g1 g2;go_wp2_with fail;refine(HA.1 _).mono ?_;rintro e w2 ⟨rfl,b3⟩;have a6:aa All wr w2:=HR.2.2.2.2.2.2.trans b3;have c6:aa All W1 w2:=b3;have b4:=HR.2.1.keep a6 trivial;have b0:=b4.look (s:=x.name) (by unfold maxLen;omega);have H2:=J3 a6 c6 b4;clear a6 c6 b4 b3;have k0:=HC.out w2 (H2.2.1) 0;have k1:=HC.out w2 (H2.2.1) 1;have k2:=HC.out w2 (H2.2.1) 2;simp only[gc] at k0 k1 k2;obtain⟨r,hr⟩:=eR (aO ((l.map fun x=>x.name).take j) x.name);rw[hr] at b0;by_cases C:0≤r;·rw[Int.max_eq_left C,bL C] at b0;have HN:=oH (fun h:(l.map fun x=>x.name).Nodup=>jR HR.2.2.2.2.1 (cm.1 (by rw[hr];exact C)) h);clear hr C;go_wp2_with fail;refine(HA.2 _ H2.2.1).mono ?_;rintro e w3 ⟨rfl,I⟩;have a7:=oH I;clear I;go_wp2_with (go_at_call 48;refine(fP _ _ _).mono ?_;rintro e w4 ⟨rfl,rfl⟩);exact⟨rfl,.inr ⟨HN.out,⟨x.Nj,9,by decide,e3.out,by unfold aV;omega,rfl⟩,(HR.2.2.2.1.trans H2.1).trans a7.out⟩⟩
 rw[cI C] at b0;have HN:=J2 (show aO ((l.map fun x=>x.name).take j) x.name<0 by rw[hr];omega) (show¬(x.name∈(l.map fun x=>x.name).take j) from fun h=>by have:=cm.2 h;omega);clear hr C;go_wp2_with fail;refine(HA.2 _ H2.2.1).mono ?_;rintro e w3 ⟨rfl,I⟩;have a7:=oH (H2.2.1.trans I);have e4:=oH (H2.2.2.keep I trivial);have e5:=oH (H2.1.trans I);clear I b0;have m0:=HC.out w3 (a7.out) 0;have m1:=HC.out w3 (a7.out) 1;have m2:=HC.out w3 (a7.out) 2;simp only[gc] at m0 m1 m2;go_wp2_with (go_at_call 48;refine(dX _ _ _).mono ?_;rintro e w4 ⟨rfl,rfl⟩);refine(HA.1 _).mono ?_;rintro e w5 ⟨rfl,b5⟩;have b2:((l.map fun x=>x.name).take j).length=j:=by rw[fN,ce];omega
 have c7:=J2 (e4.out.keep b5 trivial) (e5.out.trans b5);clear b5;go_wp2_with (at_mapUpdate;go_loud (refine gN rfl _ _ _ rfl w.heap.size _ rfl c7.1 (by rw[b2];omega) _ rfl (by rw[b2];rfl) (by unfold maxLen;omega) HN.1 ?_;intro w6 c8 c9;have H6:=J2 c8 c9;clear c8 c9));go_roundg (l.length-(j+1))
 ·have e:(l.map fun x=>x.name).take (j+1)=(l.map fun x=>x.name).take j++[x.name]:=by rw[cU,HR.2.2.2.2.1];rfl
  refine⟨j+1,by omega,rfl,by go_num,(HR.1.trans c7.2.all).grown H6.2 fun b hb=>.inl fun h=>h (by injection hb with hb;exact hb.symm),?_,?_⟩;·rw[e];exact H6.1
  rw[e];exact kB HR.2.2.1 HN.2
 omega)
 obtain rfl:j=l.length:=by omega
 rw[oF (by simp)] at hm Y;have HR:=J4 R hm Y a1;clear R hm Y a1;go_wp2_with fail;go_ret;have:=HR.1.size;have:=H0.2.2.2;exact .inl ⟨HR.2.2.1,_,rfl,HR.2.1,by omega,by omega,HR.2.2.2⟩
theorem AC {p:aH}{k:Nat}{s:ByteArray}(h:p.MZ[k]? =some s):0≤eZ p s:=by unfold eZ gJ;have:p.MZ.any (fun y=>y.toList==s.toList)=true:=mW.2 ⟨s,mG h,by simp⟩;rw[ap this];omega
theorem Bs {S:Nat→Prop}{w:World}{A:Option Addr}{n c:Nat}{l:List ByteArray}(h:gB S w (.slice A n c) l){i:Nat}{s:ByteArray}(hi:l[i]? =some s):∃b o,A=some ⟨b,o,none⟩∧S b∧w.cell? ⟨b,o+i,none⟩=some (.string s):=by obtain⟨a,cap,j,_,_,_,h⟩:=h;injection j with C R Y;subst C;obtain⟨b,o,c',e,I,J,rfl⟩:=h i _ hi;exact⟨b,o,e,I,J⟩
def pk (p:aH)(i:Nat)(s:ByteArray):Prop:=aB s=true∧eZ p s=i
theorem mo (S:Nat→Prop)(v:Value)(p:aH)(w:World)(hv:dJ S w v p)(hl:gz w):
 Calls prog 45 #[v] w fun e w'=>e=.returned (.bool (pB (dD p)))∧aa All w w':=by
 have b3:=hv;obtain⟨a,b,c,d,rfl,h1,h2,h3,h4,h5⟩:=hv;have c6:=h1;have c7:=h2;obtain⟨a1,a8,rfl,k1,k2,k3,_⟩:=h1;obtain⟨a2,b0,rfl,m1,m2,m3,_⟩:=h2;unfold maxLen at k2 m2;have c8:aa All w (w.alloc (.cells #[.slice a1 p.MZ.length a8,.slice a2 p.up.length b0,c,d,.int .i64 p.Nc] 26)):=(aa.refl All w).alloc _;have c9:al (w.alloc (.cells #[.slice a1 p.MZ.length a8,.slice a2 p.up.length b0,c,d,.int .i64 p.Nc] 26)) w.heap.size 26 #[.slice a1 p.MZ.length a8,.slice a2 p.up.length b0,c,d,.int .i64 p.Nc]:=al.new _ _ _;have b6:=fun wn (hk:aa All w wn)=>wU S _ p.up wn (dU.keep hk.all c7) (hl.keep hk);have b7:=fun wn s (hk:aa All w wn)=>qB S _ p s wn (cB.keep hk.all b3);have d7:=fun wn (hk:aa All w wn)=>qU S S _ _ p p.Nb wn (cB.keep hk.all b3) (aX.keep hk.all h3);have b8:=fun wn (hk:aa All w wn)=>qU S S _ _ p p.Na wn (cB.keep hk.all b3) (aX.keep hk.all h4);obtain⟨d1,d2⟩:=rs h5;have Y:=J6 c6 b7 d7 b8 c8 c9;have b4:=oH b6;obtain⟨ai,h8,rfl,_⟩:=h3;obtain⟨ao,h9,rfl,_⟩:=h4;clear c6 c7 b7 d7 b8 c8 c9 b6 b3 hl h5;go_enter func45,ntmps45;by_cases hlen:p.MZ.length=p.up.length;·(
 have e8:((p.up.length:Int) !=(p.MZ.length:Int))=false:=by simp[hlen]
 by_cases hL:ue p.up;·(
 have c1:=oH (av hL);by_cases d8:p.Nc<1
 ·have e9:decide (p.Nc<1)=true:=by simpa using d8
  have J:=oH (au (P:=dD p) fun h=>by have:=h.2.2.1;omega);have HE:=oH hlen;clear hlen hL;go_wp2_with (go_at_call 76;refine(b4.out _ Y.2.2.2.2.1).mono ?_;rw[c1.out];rintro e w1 ⟨rfl,I⟩;have j:=Y.2.2.2.2.2.kept I trivial;have c4:=j.cell 4;simp only[gc] at c4;have H1:=J2 I j;clear I j);go_ret;exact⟨by rw[J.out];rfl,Y.2.2.2.2.1.trans H1.1⟩
 have e9:decide (p.Nc<1)=false:=by simpa using d8
 by_cases d9:64<p.Nc
 ·have h0:decide (64<p.Nc)=true:=by simpa using d9
  have J:=oH (au (P:=dD p) fun h=>by have:=h.2.2.2.1;omega);have HE:=oH hlen;clear hlen hL;go_wp2_with (go_at_call 76;refine(b4.out _ Y.2.2.2.2.1).mono ?_;rw[c1.out];rintro e w1 ⟨rfl,I⟩;have j:=Y.2.2.2.2.2.kept I trivial;have c4:=j.cell 4;simp only[gc] at c4;have H1:=J2 I j;clear I j);go_ret;exact⟨by rw[J.out];rfl,Y.2.2.2.2.1.trans H1.1⟩
 have h0:decide (64<p.Nc)=false:=by simpa using d9
 have HP:Hid ((∀(i:Nat) s,p.MZ[i]? =some s→pk p i s)∧cE p p.Nb∧cE p p.Na↔dD p):=oH ⟨fun h=>⟨hlen,hL,by omega,by omega,h.1,h.2.1,h.2.2⟩,fun h=>⟨h.2.2.2.2.1,h.2.2.2.2.2.1,h.2.2.2.2.2.2⟩⟩;have HE:=oH hlen;clear hlen hL;go_wp2_with (go_at_call 76;refine(b4.out _ Y.2.2.2.2.1).mono ?_;rw[c1.out];rintro e w1 ⟨rfl,I⟩;have j:=Y.2.2.2.2.2.kept I trivial;have c4:=j.cell 4;have c0:=j.cell 0;simp only[gc] at c4 c0;have H1:=J2 I j;clear I j);clear c4 c0;go_loopg [33] p.MZ.length (fun g i wr=>∃k:Nat,k≤p.MZ.length∧g=p.MZ.length-k∧i=.int .i64 k∧aa All w1 wr∧∀(i:Nat) s,i<k→p.MZ[i]? =some s→pk p i s);·exact⟨0,by omega,by omega,rfl,kR,fun i s hi=>by omega⟩
 obtain⟨k,hk,rfl,rfl,b5,b9⟩:=hrel;have e0:=(Y.2.2.2.2.1.trans H1.1).trans b5;have j:=H1.2.kept b5 trivial;obtain⟨j0,j1,j2,j3,j4⟩:=j.c5;have HA:=J4 b5 b9 e0 j;clear b5 b9 e0 j;by_cases e1:k<p.MZ.length;·(
 obtain⟨s,hs⟩:=eG e1;obtain⟨bb,o,rfl,_,hc⟩:=Bs (ax.keep (S:=S) HA.2.2.1.all Y.1) hs;have b1:=AC hs;have c5:=Y.2.1 wr s HA.2.2.1;have h6:=kT (fun x:ByteArray=>x.toList==s.toList) p.MZ;rw[show gJ (fun x:ByteArray=>x.toList==s.toList) p.MZ=eZ p s from rfl] at h6;rw[show lH (eZ p s)=.tuple #[.int .i64 (eZ p s),.bool true] by rw[lH,Int.max_eq_left b1,bL b1]] at c5;have a6:pk p k s↔aB s=true∧eZ p s=k:=Iff.rfl;have e2:=fun wn=>vK s wn;have HC:=J3 c5 e2 hs;clear c5 e2 hs;generalize aB s=nm at*;generalize eZ p s=r at*;cases nm with
 |false=>
  have J:=oH (au (P:=dD p) fun h=>by have:=a6.1 ((HP.2 h).1 k s HC.2.2);exact Bool.noConfusion this.1);clear a6
  go_wp2_with (first
   |(go_at_call 49;refine HC.1.mono ?_;rintro e w2 ⟨rfl,C⟩;have H2:=oH C;clear C)
   |(go_at_call 72;refine(HC.2.1 _).mono ?_;rintro e w3 ⟨rfl,R⟩;have H3:=oH R;clear R))
  go_ret;exact⟨by rw[J.out];rfl,(HA.2.2.1.trans H2.out).trans H3.out⟩
 |true=>
  by_cases a7:r=(k:Int);·(
 have hx:(r !=(k:Int))=false:=by simpa using a7
 have e3:=oH (a6.2 ⟨rfl,a7⟩);clear a6 a7
 go_wp2_with (first
  |(go_at_call 49;refine HC.1.mono ?_;rintro e w2 ⟨rfl,C⟩;have H2:=oH C;clear C)
  |(go_at_call 72;refine(HC.2.1 _).mono ?_;rintro e w3 ⟨rfl,R⟩;have H3:=oH R;clear R))
 go_roundg (p.MZ.length-(k+1))
 ·refine⟨k+1,by omega,rfl,by go_num,(HA.1.trans H2.out).trans H3.out,fun i t hi ht=>?_⟩
  by_cases e:i=k;·subst e;rw[HC.2.2] at ht;cases ht;exact e3.out
  exact HA.2.1 i t (by omega) ht
 omega)
  have hx:(r !=(k:Int))=true:=by simpa using a7
  have J:=oH (au (P:=dD p) fun h=>by have:=a6.1 ((HP.2 h).1 k s HC.2.2);exact a7 this.2);clear a6 a7
  go_wp2_with (first
   |(go_at_call 49;refine HC.1.mono ?_;rintro e w2 ⟨rfl,C⟩;have H2:=oH C;clear C)
   |(go_at_call 72;refine(HC.2.1 _).mono ?_;rintro e w3 ⟨rfl,R⟩;have H3:=oH R;clear R))
  go_ret;exact⟨by rw[J.out];rfl,(HA.2.2.1.trans H2.out).trans H3.out⟩)
 obtain rfl:k=p.MZ.length:=by omega
 have b2:∀(i:Nat) s,p.MZ[i]? =some s→pk p i s:=fun i s hs=>HA.2.1 i s (lS.1 hs).1 hs;have e4:=oH (kC (P:=dD p) (Q:=cE p p.Nb∧cE p p.Na) ⟨fun h=>(HP.2 h).2,fun h=>HP.1 ⟨b2,h⟩⟩);have HX:=oH (AK (P:=cE p p.Nb) (Q:=cE p p.Na));have e5:=Y.2.2.1 wr HA.2.2.1;have e6:=Y.2.2.2.1;generalize pB (cE p p.Nb)=bi at*;generalize pB (cE p p.Na)=bo at*;have HC:=J2 e5 e6;clear e5 e6 b2 hk e1;cases bi with
 |false=>go_wp2_with fail;refine HC.1.mono ?_;rintro e w2 ⟨rfl,C⟩;have H2:=oH C;clear C;go_wp2_with fail;go_ret;exact⟨by rw[e4.out,HX.out];rfl,HA.2.2.1.trans H2.out⟩
 |true=>go_wp2_with fail;refine HC.1.mono ?_;rintro e w2 ⟨rfl,C⟩;have e7:=HA.2.2.2.kept C trivial;obtain⟨j5,j6,j7,j8,j9⟩:=e7.c5;have H2:=oH (HA.2.2.1.trans C);clear C e7;go_wp2_with fail;refine(HC.2 w2 H2.out).mono ?_;rintro e w3 ⟨rfl,R⟩;have H3:=oH (H2.out.trans R);clear R;go_wp2_with fail;go_ret;exact⟨by rw[e4.out,HX.out,Bool.true_and];rfl,H3.out⟩)
 have h7:=oH (au hL);have J:=oH (au (P:=dD p) fun h=>hL h.2.1);have HE:=oH hlen;clear hlen hL;go_wp2_with (go_at_call 76;refine(b4.out _ Y.2.2.2.2.1).mono ?_;rw[h7.out];rintro e w1 ⟨rfl,I⟩;have H1:=oH I;clear I);go_ret;exact⟨by rw[J.out];rfl,Y.2.2.2.2.1.trans H1.out⟩)
 have e8:((p.up.length:Int) !=(p.MZ.length:Int))=true:=by simp;omega
 have J:=oH (au (P:=dD p) fun h=>hlen h.1);clear hlen;go_wp2_with fail;go_ret;exact⟨by rw[J.out];rfl,Y.2.2.2.2.1⟩
theorem gT (s:ByteArray)(w:World):Calls prog 88 #[.string s] w fun e w'=>e=.returned (.bool (aB s))∧aa All w w':=by
 have j:=yL s w;have hw:=fun w=>zC s w;unfold aB;cases h:dW s with
 |true=>rw[h] at j;have C:=J2 j hw;clear j hw h;generalize jv s=b at*;go_enter func88,ntmps88;go_wp2_with (first|(go_at_call 132;refine C.1.mono ?_;rintro e J ⟨rfl,o⟩;have I:=oH o;clear o)|(go_at_call 133;refine(C.2 _).mono ?_;rintro e w' ⟨rfl,rfl⟩));go_ret;exact⟨by simp,I.out⟩
 |false=>rw[h] at j;have C:=oH j;clear j hw h;go_enter func88,ntmps88;go_wp2_with (go_at_call 132;refine C.out.mono ?_;rintro e J ⟨rfl,o⟩;have I:=oH o;clear o);go_ret;exact⟨rfl,I.out⟩
def cC (l:List ByteArray):Prop:=∀s∈l,aB s=true
theorem wh {l:List ByteArray}:cC l↔∀(i:Nat) s,l[i]? =some s→aB s=true:=
 ⟨fun h _ _ j=>h _ (mG j),fun h s j=>by obtain⟨i,hi⟩:=cY.1 j;exact h i s hi⟩
theorem nw (S:Nat→Prop)(v:Value)(l:List ByteArray)(w:World)(hv:gB S w v l):Calls prog 152 #[v] w fun e w'=>e=.returned (.bool (pB (cC l)))∧aa All w w':=by
 have a1:=hv;obtain⟨A,cap,rfl,h1,h2,h3,_⟩:=hv;unfold maxLen at h2;have HV:=oH a1;clear a1;go_enter func152,ntmps152;go_wp2;go_loopg [7] l.length (fun g i wr=>∃k:Nat,k≤l.length∧g=l.length-k∧i=.int .i64 k∧aa All w wr∧∀(i:Nat) s,i<k→l[i]? =some s→aB s=true);·exact⟨0,by omega,by omega,rfl,kR,fun i s hi=>by omega⟩
 obtain⟨k,hk,rfl,rfl,J,C⟩:=hrel;have HA:=J2 J C;by_cases a6:k<l.length;·(
 obtain⟨s,R⟩:=eG a6;obtain⟨bb,o,rfl,_,hc⟩:=Bs (ax.keep (S:=S) J.all HV.out) R;clear J C;have j:=gT s wr;have HS:=oH R;clear R;cases Y:aB s with
 |true=>
  rw[Y] at j;have HN:=J2 Y j;clear Y j;go_wp2_with (go_at_call 88;refine HN.2.mono ?_;rintro e w1 ⟨rfl,I⟩;have H1:=oH I;clear I);go_roundg (l.length-(k+1))
  ·refine⟨k+1,by omega,rfl,by go_num,HA.1.trans H1.out,fun i t hi ht=>?_⟩;by_cases e:i=k;·subst e;rw[HS.out] at ht;cases ht;exact HN.1
   exact HA.2 i t (by omega) ht
  omega
 |false=>rw[Y] at j;have a7:=oH (au (P:=cC l) fun h=>by have:=h s (mG HS.out);rw[Y] at this;cases this);have HN:=oH j;clear Y j;go_wp2_with (go_at_call 88;refine HN.out.mono ?_;rintro e w1 ⟨rfl,I⟩;have H1:=oH I;clear I);go_ret;exact⟨by rw[a7.out];rfl,HA.1.trans H1.out⟩)
 obtain rfl:k=l.length:=by omega
 clear J C;have HY:=oH (av (P:=cC l) (wh.2 fun i s R=>HA.2 i s (lS.1 R).1 R));go_wp2;go_ret;exact⟨by rw[HY.out];rfl,HA.1⟩
theorem jY (s:ByteArray):s.toList.isEmpty=decide (s=gR):=by have h:=cM (x:=s) (y:=gR);rw[Bool.eq_iff_iff,decide_eq_true_iff,←h];simp[gR]
theorem lE (s:ByteArray)(b:Bool)(w:World):Calls prog 201 #[.string s,.bool b] w fun e w'=>e=.returned (.bool (pB (fS s b)))∧aa All w w':=by
 cases b with
 |true=>
  have J:=gT s w;have j:fS s true↔aB s=true:=by unfold fS;rw[ap rfl]
  generalize aB s=R at*;have C:=J2 J j;clear J j;cases R with
  |true=>have HR:=oH (av (C.2.2 rfl));go_enter func201,ntmps201;go_wp2_with (go_at_call 88;refine C.1.mono ?_;rintro e Y ⟨rfl,o⟩;have I:=oH o;clear o);go_ret;exact⟨by rw[HR.out];rfl,I.out⟩
  |false=>have HR:=oH (au (P:=fS s true) fun h=>Bool.noConfusion (C.2.1 h));go_enter func201,ntmps201;go_wp2_with (go_at_call 88;refine C.1.mono ?_;rintro e Y ⟨rfl,o⟩;have I:=oH o;clear o);go_ret;exact⟨by rw[HR.out];rfl,I.out⟩
 |false=>
  have j:fS s false↔s=gR:=by unfold fS;rw[ae oG]
  have HR:Hid (pB (fS s false)=decide (s=gR)):=oH (by
   by_cases h:s=gR;·rw[bL h];exact av (j.2 h)
   rw[cI h];exact au fun h'=>h (j.1 h'))
  clear j;go_enter func201,ntmps201;go_wp2_with fail;go_ret;exact⟨by rw[HR.out,←jY];simp,kR⟩
def gG (l:List cX):List ByteArray:=(l.map fun x=>x.dst).filter fun s=>decide (s≠gR)
def gH (l:List eS):List ByteArray:=(l.flatMap fun b=>b.code.map fun x=>x.dst).filter fun s=>decide (s≠gR)
theorem zY (l:List eS)(b:eS):gH (l++[b])=gH l++gG b.code:=by simp[gH,gG]
theorem zX (l:List cX)(x:cX):gG (l++[x])=gG l++if x.dst=gR then [] else [x.dst]:=by
 unfold gG;rw[ic,mE];congr 1;by_cases h:x.dst=gR;·simp[h]
 simp[h]
theorem oN {l:List cX}{i:Nat}{x:cX}(h:l[i]? =some x):gG (l.take (i+1))=gG (l.take i)++if x.dst=gR then [] else [x.dst]:=by rw[cU,h];exact zX _ _
theorem oO {l:List eS}{i:Nat}{b:eS}(h:l[i]? =some b):gH (l.take (i+1))=gH (l.take i)++gG b.code:=by rw[cU,h];exact zY _ _
theorem uU (l:List cX)(i:Nat):∃r,gG l=gG (l.take i)++r:=⟨gG (l.drop i),by
 conv=>lhs;rw[←List.take_append_drop i l]
 unfold gG;rw[ic,mE]⟩
theorem uV (l:List eS)(i:Nat):∃r,gH l=gH (l.take i)++r:=⟨gH (l.drop i),by
 conv=>lhs;rw[←List.take_append_drop i l]
 unfold gH;rw[List.flatMap_append,mE]⟩
theorem nY (f:cD):bh f=f.params++gH f.Ng:=rfl
theorem tg {f:cD}{j i:Nat}{b:eS}{x:cX}(I:f.Ng[j]? =some b)(J:b.code[i]? =some x)(R:x.dst≠gR)(hm:x.dst∈(f.params++gH (f.Ng.take j))++gG (b.code.take i)):¬(bh f).Nodup:=by
 intro h;obtain⟨r1,o⟩:=uV f.Ng (j+1);obtain⟨r2,C⟩:=uU b.code (i+1);rw[oO I] at o;rw[oN J,ae R] at C;rw[nY,o,C] at h;have e:f.params++(gH (f.Ng.take j)++(gG (b.code.take i)++[x.dst]++r2)++r1)=(((f.params++gH (f.Ng.take j))++gG (b.code.take i))++[x.dst])++(r2++r1):=by simp
 rw[e] at h;have h1:=(List.nodup_append.1 h).1;rw[List.nodup_append] at h1;exact h1.2.2 _ hm _ (by simp) rfl
theorem qgN {f:cD}{j i:Nat}{b:eS}(C:f.Ng[j]? =some b):((f.params++gH (f.Ng.take j))++gG (b.code.take i)).length≤(bh f).length:=by obtain⟨r1,o⟩:=uV f.Ng (j+1);obtain⟨r2,I⟩:=uU b.code i;rw[oO C] at o;rw[nY,o,I];simp only[iQ];omega
structure wd (w:World)(b1 b2:Nat)(f:cD):Prop where
 Ng:cK w b1 (cn f)
 values:cK w b2 (bh f)
def KE (f:cD)(w:World)(e:Ending)(w':World):Prop:=
 ql ((bh f).Nodup∧(cn f).Nodup) (fun e w'=>∃j o,e=.returned (.agg #[.map (some j),.map (some o)])∧wd w' j o f∧w.heap.size≤j∧j<w'.heap.size∧w.heap.size≤o∧o<w'.heap.size∧aa All w w') w e w'
theorem Ec (S:Nat→Prop)(r:Value)(f:cD)(pv qv:Value)(w:World)(hp:gB S w pv f.params)(hq:mJ S w qv f.Ng)(e6:aV f.Nj)(e7:∀s∈f.params,s.size≤140737488355328)(hn:(bh f).length≤900000)(hb:f.Ng.length≤900000)(hS:∀b,S b→b<w.heap.size):
 Calls prog 54 #[r,.agg #[.string f.name,pv,qv,.int .i64 f.Nj]] w (KE f w):=by
 have h6:f.params.length≤900000:=by rw[nY,iQ] at hn;omega
 have hP:=ax.la hp;have hQ:=eH.la hq;obtain⟨pA,pc,rfl,_⟩:=hp;obtain⟨qA,qc,rfl,m1,m2,m3,_⟩:=hq;unfold maxLen at m2;obtain⟨W0,a7⟩:=eQ ((w.alloc (.cells #[.string f.name,.slice pA f.params.length pc,.slice qA f.Ng.length qc,.int .i64 f.Nj] 110)).alloc (.cells #[.map none,.map none] 131));have e8:=aD2 a7;have e9:=zy a7;have bF:=aA1 a7;have bR:=zo a7 vI;have c1:=bF.cl 1;have c2:=bF.cl 2;have HW:=J5 a7 e8 e9 bF bR;have HP:=J5 hP hQ e6 e7 hn;clear a7 e8 e9 bF bR hP hQ e6 e7 hn;go_enter func54,ntmps54;go_upto_region 1 with fail;rw[←HW.1];go_wp2_with fail;refine(un S (.slice pA f.params.length pc) f.params w.heap.size f.name (.slice pA f.params.length pc) (.slice qA f.Ng.length qc) f.Nj W0 (HP.1 _ HW.2.2.1) HW.2.2.2.1 HP.2.2.1 h6 HP.2.2.2.1).mono ?_;rintro e w2 (⟨C,b2,rfl,h0,d9,a6,a8⟩|⟨C,⟨an,nn,hn,ha,hi,rfl⟩,a8⟩)
 case inr=>have HS:=J5 (fun h:(bh f).Nodup∧(cn f).Nodup=>C (by have:=h.1;rw[nY,List.nodup_append] at this;exact this.1)) hn ha hi (HW.2.2.1.trans a8);clear C hn ha hi a8;go_wp2_with fail;exact⟨rfl,.inr ⟨HS.1,⟨an,nn,HS.2.1,HS.2.2.1,HS.2.2.2.1,rfl⟩,HS.2.2.2.2⟩⟩
 have d2:=(HW.2.2.2.1.kept a8 trivial).cl 2;have H2:=J5 C h0 d9 a6 a8;clear C h0 d9 a6 a8 c1 c2;go_wp2_with fail;refine(ul S (.slice qA f.Ng.length qc) f.Ng w2 (HP.2.1 _ (HW.2.2.1.trans H2.2.2.2.2)) hb).mono ?_;rintro e w3 (⟨C,b1,rfl,h1,j5,j6,Y⟩|⟨C,⟨an,nn,hn,ha,hi,rfl⟩,Y⟩)
 case inr=>have HS:=J5 (fun h:(bh f).Nodup∧(cn f).Nodup=>C h.2) hn ha hi ((HW.2.2.1.trans H2.2.2.2.2).trans Y);clear C hn ha hi Y d2;go_wp2_with fail;exact⟨rfl,.inr ⟨HS.1,⟨an,nn,HS.2.1,HS.2.2.1,HS.2.2.2.1,rfl⟩,HS.2.2.2.2⟩⟩
 obtain⟨W4,b9⟩:=eQ (w3.alloc (.cells #[.map (some b1),.map (some b2)] 131));have b0:=yf b9;have b4:=yv b9;have c7:=aD1 b9;have e2:=((HW.2.2.2.1.kept H2.2.2.2.2 trivial).kept (Y.trans b0) trivial).cl 2;have L2:=H2.2.2.1;have L3:=H2.2.2.2.1;have L1:=HW.2.1;have k1:=eE L1.symm;have k2:=eE c7;have k3:=eE c7.symm;have e0:aa All w W4:=(HW.2.2.1.trans H2.2.2.2.2).trans (Y.trans b0);have H4:=J8 b9 b4 (h1.keep b0 trivial) (H2.2.1.keep (Y.trans b0) trivial) e0 C (Y.trans b0) c7;clear b9 b0 b4 c7 h1 Y d2 C e0 L1;go_upto_region 3 with fail;rw[←H4.1];go_wp2_with fail;go_loopg [25] f.Ng.length (fun g h7 wr=>∃j:Nat,j≤f.Ng.length∧g=f.Ng.length-j∧h7=.int .i64 j∧aa (fun b=>b≠b2) W4 wr∧cK wr b2 (f.params++gH (f.Ng.take j))∧(f.params++gH (f.Ng.take j)).Nodup);·exact⟨0,by omega,by omega,rfl,kR,by rw[List.take_zero,show gH []=[] from rfl,List.append_nil];exact H4.2.2.2.1,by rw[List.take_zero,show gH []=[] from rfl,List.append_nil];exact H2.1⟩
 obtain⟨j,hj,rfl,rfl,I,hm,C⟩:=hrel;have j7:=I.size;have c0:aa All w wr:=am (H4.2.2.2.2.1.all.trans (I.mono fun b hb=>by show b≠_;omega));by_cases h8:j<f.Ng.length;·(
 obtain⟨b,e3⟩:=eG h8;obtain⟨bb,o,cs,rfl,k4,k5,hc,vb,rfl,h2,j8,j9⟩:=aZ (HP.2.1 wr c0) e3;have hV:=it.la h2;obtain⟨cA,cc,rfl,n1,n2,n3,_⟩:=h2;unfold maxLen at n2;have z0:=hc 0 _ rfl;rw[dj] at z0;have z1:=hc 1 _ rfl;have z2:=hc 2 _ rfl;obtain⟨W5,c8⟩:=eQ (wr.alloc (.cells #[.string b.name,.slice cA b.code.length cc,.int .i64 b.Nj] 135));have e4:=yf c8;have b5:=yv c8;have g1:=b5.cl 1;obtain⟨wo,rfl⟩:=eQ wr;have k6:=hm.lt;have k7:wo.heap.size≤W5.heap.size:=e4.size;have HO:=J8 I hm C c0 e3 hV c8 e4;clear I hm C c0 e3 hV hc c8 e4 b5;go_upto_region 6 with fail;rw[←HO.2.2.2.2.2.2.1];go_wp2_with fail;go_loopg [32] b.code.length (fun g j0 wr=>∃i:Nat,i≤b.code.length∧g=b.code.length-i∧j0=.int .i64 i∧aa (fun b=>b≠b2) W5 wr∧cK wr b2 ((f.params++gH (f.Ng.take j))++gG (b.code.take i))∧((f.params++gH (f.Ng.take j))++gG (b.code.take i)).Nodup);·exact⟨0,by omega,by omega,rfl,kR,by rw[List.take_zero,show gG []=[] from rfl,List.append_nil];exact HO.2.1.keep HO.2.2.2.2.2.2.2 trivial,by rw[List.take_zero,show gG []=[] from rfl,List.append_nil];exact HO.2.2.1⟩
 obtain⟨i,hi,rfl,rfl,I,hm,C⟩:=hrel;have j1:=I.size;by_cases a6:i<b.code.length;·(
 obtain⟨x,hx⟩:=eG a6;obtain⟨xb,xo,k8,rfl,k9,k0,R,xa,xf,rfl,j2,j3,c9⟩:=aZ (it.keep (HO.2.2.2.2.2.2.2.all.trans (I.mono fun b hb=>by have:=hS b hb;show b≠_;omega)) (HO.2.2.2.2.2.1 _ kR)) hx;obtain⟨ua,uc,rfl,_⟩:=j2;obtain⟨va,vc,rfl,_⟩:=j3;have z0:=R 0 _ rfl;rw[dj] at z0;have z1:=R 1 _ rfl;have z2:=R 2 _ rfl;have z3:=R 3 _ rfl;have z4:=R 4 _ rfl;have z5:=R 5 _ rfl;have z6:=R 6 _ rfl;have z7:=R 7 _ rfl;have z8:=R 8 _ rfl;obtain⟨W6,d7⟩:=eQ (wr.alloc (.cells #[.int .u8 x.kind,.int .u8 x.op,.string x.dst,.string x.ref,.string x.Ni,.slice ua x.args.length uc,.slice va x.Nh.length vc,.int .i64 x.num,.int .i64 x.Nj] 188));have a1:=yf d7;have b6:=yv d7;have b3:=(((H4.2.1.kept HO.1 (by show _≠_;omega)).kept HO.2.2.2.2.2.2.2 trivial).kept I (by show _≠_;omega)).kept a1 trivial;have s1:=b3.cl 1;have t2:=b6.cl 2;have t8:=b6.cl 8;have nr:=jY x.dst;have c4:=(hm.keep a1 trivial).look (s:=x.dst) (by have:=c9.dst;unfold maxLen;omega);have e5:=(hm.keep a1 trivial).len 3;have d8:=J3 c9.Nj c9.dst (qgN (i:=i) HO.2.2.2.2.1);have e1:aa All w W6:=am ((((H4.2.2.2.2.1.all.trans (HO.1.mono fun b hb=>by show b≠_;omega)).trans HO.2.2.2.2.2.2.2.all).trans (I.mono fun b hb=>by show b≠_;omega)).trans a1.all);have HR:=J8 I (hm.keep a1 trivial) C hx d7 a1 d8.out e1;clear I hm C hx d7 a1 b6 b3 R e1 c9;go_upto_region 9 with fail;rw[←HR.2.2.2.2.1];by_cases hd:x.dst=gR
 ·rw[bL hd] at nr;have HD:=oH hd;clear hd c4 e5;go_wp2_with fail;go_roundg (b.code.length-(i+1))
  ·have e:=oN HR.2.2.2.1;rw[ap HD.out,List.append_nil] at e;refine⟨i+1,by omega,rfl,by go_num,HR.1.trans HR.2.2.2.2.2.1.all,?_,?_⟩;·rw[e];exact HR.2.1
   rw[e];exact HR.2.2.1
  omega
 rw[cI hd] at nr;have HD:=oH hd;clear hd;obtain⟨NM,b7⟩:=eR (((f.params++gH (f.Ng.take j))++gG (b.code.take i)));rw[b7] at c4 e5 HR;obtain⟨q,hq⟩:=eR (aO NM x.dst);rw[hq] at c4;by_cases J:0≤q;·rw[Int.max_eq_left J,bL J] at c4;have HN:=oH (fun h:(bh f).Nodup∧(cn f).Nodup=>tg HO.2.2.2.2.1 HR.2.2.2.1 HD.out (by rw[b7];exact cm.1 (by rw[hq];exact J)) h.1);clear hq J e5 b7;go_wp2_with (go_at_call 48;refine(fP _ _ _).mono ?_;rintro e w4 ⟨rfl,rfl⟩);exact⟨rfl,.inr ⟨HN.out,⟨x.Nj,9,by decide,d8.1,by unfold aV;omega,rfl⟩,HR.2.2.2.2.2.2.2⟩⟩
 rw[cI J] at c4;have HN:=J3 (show aO NM x.dst<0 by rw[hq];omega) (show¬(x.dst∈NM) from fun h=>by have:=cm.2 h;omega) b7;have j4:=oH (show NM.length≤900000 by rw[←b7];exact fR d8.2.2 HP.2.2.2.2);clear hq J b7;go_wp2_with (
  first
  |(at_mapUpdate
    go_loud (refine gN rfl _ _ _ rfl b2 NM rfl HR.2.1 (by have:=j4.out;omega) x.dst rfl rfl (by have:=d8.2.1;unfold maxLen;omega) HN.1 ?_;intro w7 h3 h4;have H7:=J2 h3 h4;clear h3 h4))
  |(go_at_call 48;refine(dX _ _ _).mono ?_;rintro e w4 ⟨rfl,rfl⟩))
 go_roundg (b.code.length-(i+1))
 ·have e:=oN HR.2.2.2.1;rw[ae HD.out] at e;refine⟨i+1,by omega,rfl,by go_num,(HR.1.trans HR.2.2.2.2.2.1.all).grown H7.2 fun b hb=>.inl fun h=>h (by injection hb with hb;exact hb.symm),?_,?_⟩;·rw[e,←jM,HN.2.2];exact H7.1
  rw[e,←jM,HN.2.2];exact kB HR.2.2.1 HN.2.1
 omega)
 obtain rfl:i=b.code.length:=by omega
 rw[dZ] at hm C;have HR:=J3 I hm C;clear I hm C;go_wp2_with fail;go_roundg (f.Ng.length-(j+1))
 ·have e:=oO HO.2.2.2.2.1
  refine⟨j+1,by omega,rfl,by go_num,HO.1.trans (HO.2.2.2.2.2.2.2.all.trans HR.1),?_,?_⟩;·rw[e,←jM];exact HR.2.1
  rw[e,←jM];exact HR.2.2
 omega)
 obtain rfl:j=f.Ng.length:=by omega
 rw[dZ] at hm C;have b3:=H4.2.1.kept I (by show _≠_;omega);have b8:=((HW.2.2.2.2.kept H2.2.2.2.2 trivial).kept H4.2.2.2.2.2.2.1 trivial).kept I (by show _≠_;omega);have s0:=b3.cell 0;have s1:=b3.cell 1;have r0:=b8.cell 0;have r1:=b8.cell 1;have f0:=b8.free 0;have f1:=b8.free 1;have c5:=(b8.set 0 (.map (some b1))).set 1 (.map (some b2));have g0:=c5.cell 0;have g1:=c5.cell 1;simp only[ga,gc] at s0 s1 r0 r1 g0 g1;have c6:=((aa.refl (fun b=>b≠w.heap.size+1) wr).setCell (p:=⟨w.heap.size+1,0,none⟩) (.inl fun h=>h rfl) (.map (some b1))).setCell (p:=⟨w.heap.size+1,1,none⟩) (.inl fun h=>h rfl) (.map (some b2));have h5:=(H4.2.2.1.keep I (by show _≠_;omega)).keep c6 (by show _≠_;omega);have HF:=J5 (hm.keep c6 (by show _≠_;omega)) h5 C (am (c0.all.trans (c6.mono fun b hb=>by show b≠_;omega))) c6.size;clear I hm C b3 b8 c5 c6 h5 c0;go_wp2_with fail;have h9:=HF.2.2.2.2;refine bodyPost_ret (v:=.agg #[.map (some b1),.map (some b2)]) (by simp[results,Tryz.f54,go_sem,g0,g1]) rfl (.inl ⟨⟨HF.2.2.1,H4.2.2.2.2.2.1⟩,b1,b2,rfl,⟨HF.2.1,HF.1⟩,by omega,by omega,by omega,by omega,HF.2.2.2.1⟩)
def MC:List (Nat×rT):=[(1,⟨0,true,false,false⟩),(2,⟨2,true,false,false⟩),(4,⟨1,true,true,false⟩),(5,⟨1,true,true,false⟩),(6,⟨2,false,true,false⟩),(7,⟨-1,true,true,false⟩),(8,⟨0,true,true,false⟩),(9,⟨1,false,true,false⟩),(10,⟨1,true,true,false⟩),(11,⟨0,false,true,false⟩),(12,⟨1,false,true,true⟩),(13,⟨1,false,false,false⟩)]
def Ig (s:rT):Value:=.agg #[.int .i64 s.args,.bool s.dst,.bool s.ref,.bool s.Ni]
def mI (n:Nat):Array MapEntry:=((MC.take n).mapIdx fun i e=> {key:=.int .u8 e.1,val:=Ig e.2,born:=i}).toArray
theorem dC (es:Array MapEntry)(clock:Nat)(k:Int)(v:Value)(J:Instr.findNow (.int .u8) (.int .u8 k) es.toList 0=some none)(w:World):
 (Instr.mapUpdate 279 (.map (some w.heap.size)) (.int .u8 k) v).run prog (w.alloc (.map es clock))=.ok () (w.alloc (.map (es.push ⟨.int .u8 k,v,clock⟩) (clock+1))):=by
 have I:(w.alloc (.map es clock)).heap[w.heap.size]? =some (.map es clock):=by show(w.heap.push _)[w.heap.size]? =_;simp
 simp only[Instr.mapUpdate,Sem.run_bind,run_underlying underlying279,MapKept.run_getObj_map I,MapKept.run_checkKey underlying5 (show MapKept.IsKey (.int .u8) (.int .u8 k) from rfl),MapKept.run_findKey underlying5 J,MapKept.run_setObj_map _ I,Result.andThen];have e:∀o C:Obj,(w.heap.push o).setIfInBounds w.heap.size C=w.heap.push C:=by(
 intro o C;apply Array.ext_getElem?;intro j;rw[Array.getElem?_setIfInBounds,Array.getElem?_push,Array.getElem?_push];by_cases h:w.heap.size=j;·subst h;simp
 rw[ae h,ae (fun h'=>h h'.symm),ae (fun h'=>h h'.symm)])
 show Result.ok () ({w with heap:=(w.heap.push (.map es clock)).setIfInBounds w.heap.size _}:World)=Result.ok () ({w with heap:=w.heap.push _}:World);rw[e]
theorem fI (i:Nat)(k:Nat)(s:rT)(h:MC[i]? =some (k,s)):mI (i+1)=(mI i).push ⟨.int .u8 k,Ig s,i⟩:=by have hi:=(lS.1 h).1;unfold mI;rw[cU,h,List.mapIdx_append];simp only[Option.toList_some,List.mapIdx_cons,List.mapIdx_nil,fN,cN,List.push_toArray];rw[Nat.min_eq_left (by omega)]
theorem Bm (w:World):Calls prog 200 #[] w fun e w'=>e=.returned (.map (some w.heap.size))∧w.alloc (.map (mI 12) 12)=w':=by
 have j:=@run_makeMap prog;have i0:(Instr.mapUpdate 279 (.map (some w.heap.size)) (.int .u8 1) (.agg #[.int .i64 0,.bool true,.bool false,.bool false])).run prog (w.alloc (.map #[] 0))=.ok () (w.alloc (.map (mI 1) 1)):=by rw[fI 0 1 _ rfl];exact dC _ _ _ _ (by rfl) w
 have i1:(Instr.mapUpdate 279 (.map (some w.heap.size)) (.int .u8 2) (.agg #[.int .i64 2,.bool true,.bool false,.bool false])).run prog (w.alloc (.map (mI 1) 1))=.ok () (w.alloc (.map (mI 2) 2)):=by rw[fI 1 2 _ rfl];exact dC _ _ _ _ (by rfl) w
 have i2:(Instr.mapUpdate 279 (.map (some w.heap.size)) (.int .u8 4) (.agg #[.int .i64 1,.bool true,.bool true,.bool false])).run prog (w.alloc (.map (mI 2) 2))=.ok () (w.alloc (.map (mI 3) 3)):=by rw[fI 2 4 _ rfl];exact dC _ _ _ _ (by rfl) w
 have i3:(Instr.mapUpdate 279 (.map (some w.heap.size)) (.int .u8 5) (.agg #[.int .i64 1,.bool true,.bool true,.bool false])).run prog (w.alloc (.map (mI 3) 3))=.ok () (w.alloc (.map (mI 4) 4)):=by rw[fI 3 5 _ rfl];exact dC _ _ _ _ (by rfl) w
 have i4:(Instr.mapUpdate 279 (.map (some w.heap.size)) (.int .u8 6) (.agg #[.int .i64 2,.bool false,.bool true,.bool false])).run prog (w.alloc (.map (mI 4) 4))=.ok () (w.alloc (.map (mI 5) 5)):=by rw[fI 4 6 _ rfl];exact dC _ _ _ _ (by rfl) w
 have i5:(Instr.mapUpdate 279 (.map (some w.heap.size)) (.int .u8 7) (.agg #[.int .i64 (-1),.bool true,.bool true,.bool false])).run prog (w.alloc (.map (mI 5) 5))=.ok () (w.alloc (.map (mI 6) 6)):=by rw[fI 5 7 _ rfl];exact dC _ _ _ _ (by rfl) w
 have i6:(Instr.mapUpdate 279 (.map (some w.heap.size)) (.int .u8 8) (.agg #[.int .i64 0,.bool true,.bool true,.bool false])).run prog (w.alloc (.map (mI 6) 6))=.ok () (w.alloc (.map (mI 7) 7)):=by rw[fI 6 8 _ rfl];exact dC _ _ _ _ (by rfl) w
 have i7:(Instr.mapUpdate 279 (.map (some w.heap.size)) (.int .u8 9) (.agg #[.int .i64 1,.bool false,.bool true,.bool false])).run prog (w.alloc (.map (mI 7) 7))=.ok () (w.alloc (.map (mI 8) 8)):=by rw[fI 7 9 _ rfl];exact dC _ _ _ _ (by rfl) w
 have i8:(Instr.mapUpdate 279 (.map (some w.heap.size)) (.int .u8 10) (.agg #[.int .i64 1,.bool true,.bool true,.bool false])).run prog (w.alloc (.map (mI 8) 8))=.ok () (w.alloc (.map (mI 9) 9)):=by rw[fI 8 10 _ rfl];exact dC _ _ _ _ (by rfl) w
 have i9:(Instr.mapUpdate 279 (.map (some w.heap.size)) (.int .u8 11) (.agg #[.int .i64 0,.bool false,.bool true,.bool false])).run prog (w.alloc (.map (mI 9) 9))=.ok () (w.alloc (.map (mI 10) 10)):=by rw[fI 9 11 _ rfl];exact dC _ _ _ _ (by rfl) w
 have i10:(Instr.mapUpdate 279 (.map (some w.heap.size)) (.int .u8 12) (.agg #[.int .i64 1,.bool false,.bool true,.bool true])).run prog (w.alloc (.map (mI 10) 10))=.ok () (w.alloc (.map (mI 11) 11)):=by rw[fI 10 12 _ rfl];exact dC _ _ _ _ (by rfl) w
 have i11:(Instr.mapUpdate 279 (.map (some w.heap.size)) (.int .u8 13) (.agg #[.int .i64 1,.bool false,.bool false,.bool false])).run prog (w.alloc (.map (mI 11) 11))=.ok () (w.alloc (.map (mI 12) 12)):=by rw[fI 11 13 _ rfl];exact dC _ _ _ _ (by rfl) w
 go_enter func200,ntmps200;go_wp2;go_ret;exact⟨rfl,rfl⟩
theorem LG (k:Nat)(o:k<256):Instr.findNow (.int .u8) (.int .u8 k) (mI 12).toList 0=some (match cJ k with|some s=>some ((MC.findIdx fun e=>e.1==k),Ig s)|none=>none):=by
 have:∀k:Fin 256,Instr.findNow (.int .u8) (.int .u8 (k.1:Nat)) (mI 12).toList 0=some (match cJ k.1 with|some s=>some ((MC.findIdx fun e=>e.1==k.1),Ig s)|none=>none):=by(
 intro k;by_cases h:k.1<14
 ·obtain⟨k,o⟩:=k
  simp only at h;rcases k with _|_|_|_|_|_|_|_|_|_|_|_|_|_|k;all_goals first|rfl|(exfalso;omega)
 have h1:cJ k.1=none:=by unfold cJ;split<;>first|omega|rfl
 rw[h1];have j:∀m:Int,m<14→((k.1:Int)==m)=false:=fun m hm=>by rw[bE];omega
 simp[mI,MC,Instr.findNow,Instr.sameNow,j])
 exact this ⟨k,o⟩
theorem LH (w:World):(zeroValue 277).run prog w=.ok (Ig ⟨0,false,false,false⟩) w:=by kernel_rfl
theorem qG (b:Nat)(k:Nat)(I:k<256)(w:World)(o:w.heap[b]? =some (.map (mI 12) 12)):
 (Instr.lookup 279 (.map (some b)) (.int .u8 k) true).run prog w=.ok (.tuple #[Ig ((cJ k).getD ⟨0,false,false,false⟩),.bool (cJ k).isSome]) w:=by
 have j:=LG k I;have J:=LH w;cases C:cJ k with
 |some s=>rw[C] at j;simp[Instr.lookup,run_underlying underlying279,MapKept.run_getObj_map o,MapKept.run_checkKey underlying5 (show MapKept.IsKey (.int .u8) (.int .u8 k) from rfl),MapKept.run_findKey underlying5 j,Result.andThen]
 |none=>rw[C] at j;simp[Instr.lookup,run_underlying underlying279,MapKept.run_getObj_map o,MapKept.run_checkKey underlying5 (show MapKept.IsKey (.int .u8) (.int .u8 k) from rfl),MapKept.run_findKey underlying5 j,Result.andThen,J]

def lm (n k:Nat)(cs j:Array Value):Prop:=j.size=cs.size∧∀m,m<n→j[m]? =if m<k∨n≤m+k then cs[n-1-m]? else cs[m]?
theorem lm.step {n k:Nat}{cs j:Array Value}{x y:Value}(h:lm n k cs j)(Y:k+k+1<n)(hn:n≤cs.size)(R:j[n-1-k]? =some x)(hy:j[k]? =some y):
 lm n (k+1) cs ((j.setIfInBounds k x).setIfInBounds (n-1-k) y):=by
 refine⟨by simp[h.1],fun m hm=>?_⟩;have o:=h.2 (n-1-k) (by omega);rw[ae (by omega),R] at o;have C:=h.2 k (by omega);rw[ae (by omega),hy] at C;rw[Array.getElem?_setIfInBounds,Array.getElem?_setIfInBounds];simp only[Array.size_setIfInBounds,h.1];by_cases h1:n-1-k=m
 ·rw[ap h1,ap (by omega),ap (by omega),C]
  congr 1;omega
 rw[ae h1];by_cases I:k=m
 ·rw[ap I,ap (by omega),ap (by omega),o]
  congr 1;omega
 rw[ae I,h.2 m hm];by_cases J:m<k∨n≤m+k;·rw[ap J,ap (by omega)]
 rw[ae J,ae (by omega)]
theorem lm.mid {n k:Nat}{cs j:Array Value}(h:lm n k cs j){m:Nat}(h1:k≤m)(o:m+k<n):j[m]? =cs[m]?:=by rw[h.2 m (by omega),ae (by omega)]
theorem lm.full {n k:Nat}{cs j:Array Value}(h:lm n k cs j)(o:n≤k+k+1)(m:Nat)(hm:m<n):j[m]? =cs[n-1-m]?:=by
 rw[h.2 m hm];split;·rfl
 congr 1;omega
end Go.Proofs.YtgdlhckhpolnnaaGreatDoor
