/- Part 31 of the proof (its last part says what is proved). No condition. -/
import Derived.Test.YtgdlhckhpolnnaaGreatDoorK29
namespace Go.Proofs.YtgdlhckhpolnnaaGreatDoor
set_option maxRecDepth 100000
set_option maxHeartbeats 8000000
open Go.RowKit Go.Proofs.Tryz
section
theorem Xh:(prog.info? 110).map (fun i=>(i.zero,i.size,i.bytes))=some (some (.agg #[.string ⟨#[]⟩,.slice none 0 0,.slice none 0 0,.int .i64 0]),4,72):=by kernel_rfl
theorem WA (s:ByteArray):TQ s<256∧(TQ s=1→jv s=false):=by
 unfold TQ;cases jv s with
 |true=>exact⟨by simp,fun h=>by simp at h⟩
 |false=>exact⟨by simp only[jL,if_false];split;decide;split<;>decide,fun _=>rfl⟩
theorem Yd {s:ByteArray}{q:Nat}{t:Um}(h:Vu s q=some (some t)):t.beg≤t.fin∧t.kind<256∧(t.kind=1→jv (s.extract t.beg t.fin)=false):=by
 unfold Vu at h;simp only at h;split at h
 ·split at h;·cases h;exact⟨Nat.le_succ _,by show 4<256;decide,fun h=>absurd (show 4=1 from h) (by decide)⟩
  split at h;·cases h
  split at h;·cases h
  cases h;exact⟨Nat.le_add_right _ _,(WA _).1,(WA _).2⟩
 cases h
theorem Vz {s:ByteArray}(o:Ab s=true):∀ {f q:Nat} {l:List Um},Tt s f q=some l→∀t∈l,(t.beg≤t.fin∧t.fin≤s.size∧t.kind<256)∧(t.kind=1→jv (s.extract t.beg t.fin)=false)
 |0,_,_,h=>by cases h
 |f+1,q,l,h=>by(
 rw[Tt] at h;split at h;·cases h
 ·cases h;intro t j;cases j
 rename_i t0 C;cases hm:Tt s f t0.fin with
 |none=>rw[hm] at h;cases h
 |some r=>
  rw[hm] at h;cases h;intro t j;rcases fX.1 j with rfl|j
  ·have:=Yd C
   exact⟨⟨this.1,Xn o C,this.2.1⟩,this.2.2⟩
  exact Vz o hm t j)
theorem Yh {s:ByteArray}{l:List Um}(h1:s.size≤65536)(j:Ab s=true)(h:Tt s (s.size+1) 0=some l):(cr.mk s l).Ok:=
 ⟨h1,by have:=UW h;show l.length≤_;omega,fun t o=>(Vz j h t o).1,j,fun t o=>(Vz j h t o).2⟩
theorem qef (j o C:Addr)(w:World):
 CallsD prog 39 #[.pointer (some j),.pointer (some o),.pointer (some C)] .returning w fun e I w'=>e=.returned (.tuple #[])∧I=.returning∧w'=w:=by
 refine callsD_of_wpS func39 rfl fun J cs hu=>?_;apply wpS_seq;apply wpS_region;simp[wpOpsS,go_sem,recoverD,hu,ntmps39,Exit.thenS];apply wpS_seq;apply wpS_region;simp[wpOpsS,go_sem,Exit.thenS];refine wpS_cond (t:=false) (by simp[Act.eval,Array.replicate]) ?_;simp only[jL,if_false];refine wpS_of_wp (wp_skip ?_);cases J;simp_all [bodyPostS,results,Tryz.results39]
theorem gz.keepLow {w w':World}(h:gz w)(k:aa (fun b=>b<w.heap.size) w w'):gz w':=
 ⟨fun i hi=>k.cell (p:=⟨4,i,none⟩) (jy _ _ (h.1 i hi)) (h.1 i hi),fun i hi=>k.cell (p:=⟨3,i,none⟩) (jy _ _ (h.2 i hi)) (h.2 i hi)⟩
section
variable {w W W':World} {rb pb:Nat} {p:cr} {A:Option Addr} {C k k' m':Nat} {l:List cD}
end
def Vc (q:dN)(w:World)(e:Ending)(w':World):Prop:=aa All w w'∧∃v,e=.returned (.tuple #[v,.int .i64 0,.int .i64 0])∧BF (fun b=>w.heap.size≤b∧b<w'.heap.size) w' v q
theorem WO (R:Ending→World→Prop)(j:Act)(wn:World)(I J Y:Nat)(v0 v1:Value)(h4:al wn I 69 #[v0,v1])(h5:al wn J 3 #[.int .i64 0])(h6:al wn Y 33 #[.int .i64 0])
 (hd:j.defers=[{target:=.fn (.func 39) #[.pointer (some ⟨I,0,none⟩),.pointer (some ⟨J,0,none⟩),.pointer (some ⟨Y,0,none⟩)],args:=#[]}])
 (t4:j.tmps[2]? =some (.pointer (some ⟨I,0,none⟩))) (t5:j.tmps[3]? =some (.pointer (some ⟨J,0,none⟩))) (t6:j.tmps[4]? =some (.pointer (some ⟨Y,0,none⟩)))
 (o:R (.returned (.tuple #[.agg #[v0,v1],.int .i64 0,.int .i64 0])) wn):bodyPostD prog Tryz.f21 R .ret j wn:=by
 show Leaves prog Tryz.f21 j.tmps R j.defers .returning wn;rw[hd];refine leaves_cons (f:=39) (args:=#[.pointer (some ⟨I,0,none⟩),.pointer (some ⟨J,0,none⟩),.pointer (some ⟨Y,0,none⟩)]) (by simp) (by simp[go_sem]) ?_;refine(qef _ _ _ wn).mono ?_;rintro e u' a1 ⟨rfl,rfl,rfl⟩;have r0:=h4.cl 0;have r1:=h4.cl 1;have r5:=h5.cl 0;have r6:=h6.cl 0;simpa [Leaves,settle,results,Tryz.results21,go_sem,t4,t5,t6,r0,r1,r5,r6] using o
end
def Ws (w:World):Prop:=∃m,w.cell? ⟨0,0,none⟩=some (.int .i64 m)
theorem Ws.keep {w w':World}(h:Ws w)(k:aa All w w'):Ws w':=by obtain⟨m,hm⟩:=h;exact⟨m,k.cell (p:=⟨0,0,none⟩) trivial hm⟩
theorem Zn {w w':World}(h:Below w.heap.size w w'):aa All w w':=⟨h.os,h.output,h.size,fun k j _=>h.block k j⟩
theorem Zj (L j:ByteArray)(ws:List ByteArray)(w:World)(I:L.size≤100)(he:Lib.goFieldsP Zo L=j::ws)(hl:ws.length≤2):Calls prog 33 #[.string L,.func (.func 34) #[] #[]] w fun e w'=>∃A,e=.returned (.slice (some ⟨A,0,none⟩) (ws.length+1) (ws.length+1))∧aa All w w'∧gB (fun b=>w.heap.size≤b) w' (.slice (some ⟨A,0,none⟩) (ws.length+1) (ws.length+1)) (j::ws):=by refine(Tryz.strings_FieldsFunc_runes 34 #[] (enters_of func34 (by kernel_rfl) rfl) Zo L w (by omega) (fun W x J _=>(Zv x W (by omega)).mono fun e w' h=>⟨h.1,0,h.2.symm⟩)).mono fun e w' h=>?_;rw[he] at h;obtain⟨A,C,R,hr,o⟩:=h;exact⟨A,C,Zn o,ax.wide (fun b o=>o.1) (YX (l:=j::ws) hr (by simp;omega))⟩
section
attribute [local go_sem] pm lU jt mU List.getElem?_toArray List.getElem?_cons_zero
theorem qhZ:ue [1#64]:=by unfold ue dI;decide
theorem qgp {w:World}{b:Nat}{x:BitVec 64}(h:al w b 163 #[U x]):nZ (fun i=>i=b) w (.slice (some ⟨b,0,none⟩) 1 1) [x]:=by
 have o:=h.cl 0;refine⟨_,1,rfl,cf _,by unfold maxLen;decide,by show 1*8≤_;decide,fun i z j=>?_⟩
 match i,j with
 |0,j=>cases j;exact⟨b,0,U x,rfl,rfl,o,rfl⟩
theorem qez (w:World)(hl:gz w):
 Calls prog 37 #[.int .i64 1,.slice none 0 0] w fun e w'=>e=.returned (.tuple #[.slice (some ⟨w.heap.size,0,none⟩) 1 1,.int .i64 0])∧aa All w w'∧al w' w.heap.size 163 #[U 1#64]:=by
 have HL:=oH hl;clear hl;have hm:(Instr.makeSlice 23 (.int .i64 1) (.int .i64 1)).run prog w=.ok (.slice (some ⟨w.heap.size,0,none⟩) 1 1) (w.alloc (.cells (kM 1 fun _=>0#64) 163)):=Jv 1 (by decide) w;obtain⟨W1,R⟩:=eQ (w.alloc (.cells (kM 1 fun _=>0#64) 163));have a1:=yf R;have b1:al W1 w.heap.size 163 #[U 0#64]:=by rw[R];exact al.new w _ _
 rw[←R] at hm;obtain⟨Y,J⟩:=eQ w.heap.size;rw[←J] at hm b1⊢;have H1:=J3 a1 b1 J;clear a1 b1 J R;go_enter func37,ntmps37;go_upto_region 5 with fail;go_loopg [21] 1 (fun g a7 wr=>∃i:Nat,g=1-i∧i≤1∧a7=.int .i64 i∧aa All w wr∧al wr Y 163 #[U (if 0<i then 1#64 else 0#64)]);·exact⟨0,rfl,by decide,rfl,H1.1,H1.2.1⟩
 obtain⟨i,a8,hi,rfl,o,C⟩:=hrel;obtain⟨wo,I⟩:=eQ wr;subst I;have J:w.heap.size≤Y:=by have:=H1.2.2;omega
 have HB:=J2 o C;clear o;rcases (by omega:i=0∨i=1) with rfl|rfl
 ·have x0:=C.cl 0;have y0:=C.free 0;have b0:=C.set 0 (U 1#64);clear C;go_wp2_with (refine(Dq 0#64 0 (by decide) _).mono ?_;rintro e w' ⟨rfl,rfl⟩);go_roundg 0;·exact⟨1,rfl,by decide,rfl,YM HB.1 J,b0⟩
  omega
 clear C;go_upto_region 10 with fail;go_loopg [32] 0 (fun g b2 wr=>b2=.int .i64 0∧aa All w wr∧al wr Y 163 #[U 1#64]);·exact⟨rfl,HB.1,HB.2⟩
 obtain⟨rfl,o,C⟩:=hrel;obtain⟨wo,I⟩:=eQ wr;subst I;have HC:=J2 o C;clear o C;go_upto_region 17 with fail;go_loopg [70] 1 (fun g b3 wr=>∃i:Nat,g=1-i∧i≤1∧b3=.int .i64 i∧aa All w wr∧al wr Y 163 #[U 1#64]);·exact⟨0,rfl,by decide,rfl,HC.out⟩
 obtain⟨i,a8,hi,rfl,o,C⟩:=hrel;obtain⟨wo,I⟩:=eQ wr;subst I;have HE:=J2 o C;clear o C;rcases (by omega:i=0∨i=1) with rfl|rfl;·(
 go_upto_region 20 with fail;go_loopg [74] 1 (fun g b4 wr=>∃j:Nat,g=1-j∧j≤1∧b4=.int .i64 j∧aa All w wr∧al wr Y 163 #[U 1#64]);·exact⟨0,rfl,by decide,rfl,HE.out⟩
 obtain⟨j,b7,hj,rfl,o,C⟩:=hrel;obtain⟨wo,I⟩:=eQ wr;subst I;have HD:=J2 o C;clear o;rcases (by omega:j=0∨j=1) with rfl|rfl
 ·have x0:=C.cl 0;have y0:=C.free 0;have hg:(1#64).getLsbD 0=true:=by decide
  have HM:=oH (yJ 1#64 0 (by decide) wo);rw[hg] at HM;clear hg C;go_upto_region 23 with (refine HM.out.mono ?_;rintro e w' ⟨rfl,rfl⟩);have HV:=oH (fun wn (o:aa All wo wn)=>show wn.cell? ⟨Y,0,none⟩=some (U 1#64)∧True from⟨(HD.2.kept o trivial).cell 0,trivial⟩);refine R0 10 wo (fun _=>none) ?_;iterate 10 refine O3 (fun wn o hp=>by(obtain⟨q0,_⟩:=HV.out wn o;have o1:=YL wn 1#64 1#64 1#64 rfl;go_simp;with_reducible rfl)) ?_
  refine aG fun wt a6 hF=>?_;have HT:=oH a6;clear a6 hF;simp only[dK];have b5:=HD.2.kept HT.out trivial;have x5:=b5.cl 0;have y5:=b5.free 0;have b6:=b5.set 0 (U 1#64);have H5:=J2 (HD.1.trans HT.out) b6;clear b5 b6 x0 y0;go_wp2_with fail;go_roundg 0;·exact⟨1,rfl,by decide,rfl,YM H5.1 J,H5.2⟩
  omega
 clear C;go_wp2_with fail;go_roundg 0;·exact⟨1,rfl,by decide,rfl,HD.out⟩
 omega)
 have HR:=oH (wU (fun b=>b=Y) (.slice (some ⟨Y,0,none⟩) 1 1) [1#64] wo (qgp HE.2) (HL.out.keep HE.1));rw[av qhZ] at HR;go_wp2_with (refine HR.out.mono ?_;rintro e w' ⟨rfl,o⟩);have HF:=J2 (HE.1.trans o) (HE.2.kept o trivial);clear o;go_ret2;exact⟨rfl,HF.out⟩
end
section
def qaX:ByteArray:=bs [108,101,118,101,108,32,108,111,119,10,105,110,112,117,116,32,107,101,121,32,108,111,119,10,100,101,112,116,104,32,56]
def qbq:aH:=⟨[Zc],[1#64],[(bs [107,101,121],0)],[],8⟩
def qbm:List ByteArray:=Lib.splitB ⟨#[10]⟩ 0 (Lib.countB qaX ⟨#[10]⟩) qaX
def qaU:Nat→ByteArray×List ByteArray
 |0=>(bs [108,101,118,101,108],[Zc])
 |1=>(bs [105,110,112,117,116],[bs [107,101,121],Zc])
 |_=>(bs [100,101,112,116,104],[bs [56]])
def qeh:Nat→aH
 |0=>⟨[],[],[],[],0⟩
 |1=>⟨[Zc],[],[],[],0⟩
 |2=>⟨[Zc],[],[(bs [107,101,121],0)],[],0⟩
 |_=>⟨[Zc],[],[(bs [107,101,121],0)],[],8⟩
theorem qbh:qaX.size=31∧Ab qaX=true∧Lib.countB qaX ⟨#[10]⟩=2:=⟨by kernel_rfl,by kernel_rfl,by kernel_rfl⟩
theorem qdZ (k:Nat)(j:k<3):qbm[k]? =some (qbm.getD k gR)∧(qbm.getD k gR).size≤100∧Lib.goFieldsP Zo (qbm.getD k gR)=(qaU k).1::(qaU k).2∧0<(qaU k).1.size∧Ai (qaU k).1 0≠35∧(qaU k).2.length≤2:=by rcases (by omega:k=0∨k=1∨k=2) with rfl|rfl|rfl;all_goals exact⟨by kernel_rfl,of_decide_eq_true (by kernel_rfl),by kernel_rfl,of_decide_eq_true (by kernel_rfl),of_decide_eq_true (by kernel_rfl),of_decide_eq_true (by kernel_rfl)⟩
theorem qhT:∀k,k<3→∀s∈(qaU k).2,WU (qaU k).1 s:=by intro k j;rcases (by omega:k=0∨k=1∨k=2) with rfl|rfl|rfl;all_goals exact of_decide_eq_true (by kernel_rfl)
def qcL (B rd k:Nat)(w w':World):Prop:=aa (fun b=>b<B∧b≠rd) w w'∧Yx B rd w' (qeh (k+1)) ([])
section
variable {B rd:Nat} {wo w wn:World} {S:Nat→Prop}
theorem qbL {p:aH}{fl:List (Nat×Nat)}{k:Nat}{e:Ending}{w':World}(j:aa All w wn)(h:YS B rd wn p fl e w')(o:p=qeh (k+1))(C:fl=[]):e=.returned (.int .i64 0)∧qcL B rd k w w':=by subst o;subst C;exact⟨h.1,j.all.trans h.2.1,h.2.2⟩
end
theorem qeO (B rd k:Nat)(hk:k<3)(wo w:World)(A:Option Addr)(n c:Nat)(h:Yx B rd wo (qeh k) [])(j:aa All wo w)(Y:gB (fun b=>wo.heap.size≤b) w (.slice A n c) ((qaU k).1::(qaU k).2)):
 Calls prog 35 #[.pointer (some ⟨rd,0,none⟩),.slice A n c] w fun e w'=>e=.returned (.int .i64 0)∧qcL B rd k w w':=by
 have o:=qhT k hk;have a1:n=(qaU k).2.length+1:=by obtain⟨_,_,e,_⟩:=Y;injection e
 subst a1;rcases (by omega:k=0∨k=1∨k=2) with rfl|rfl|rfl;·exact YQ 125 1 (enters_of func125 (by kernel_rfl) rfl) rd _ _ _ A c w Y (by kernel_rfl) rfl (by decide) (by decide) (of_decide_eq_true (by kernel_rfl)) o _ fun wn I J C R=>(Za B rd _ wn (h.at_ j C) rfl rfl _ _ I J R (fun b hb=>⟨wo,h,hb,(j.trans C).all⟩) (of_decide_eq_true (by kernel_rfl)) (by decide)).mono fun e w' q=>qbL C q rfl rfl
 ·exact YQ 127 2 (enters_of func127 (by kernel_rfl) rfl) rd _ _ _ A c w Y (by kernel_rfl) rfl (by decide) (by decide) (of_decide_eq_true (by kernel_rfl)) o _ fun wn I J C R=>(Zu B rd _ _ wn (h.at_ j C) rfl _ _ _ I J R 0 (by kernel_rfl) (by decide) (of_decide_eq_true (by kernel_rfl))).mono fun e w' q=>qbL C q rfl rfl
 exact YQ 129 1 (enters_of func129 (by kernel_rfl) rfl) rd _ _ _ A c w Y (by kernel_rfl) rfl (by decide) (by decide) (of_decide_eq_true (by kernel_rfl)) o _ fun wn I J C R=>(Zt B rd _ _ wn (h.at_ j C) rfl _ _ I J 8 R (of_decide_eq_true (by kernel_rfl)) (by kernel_rfl) (o _ (cx.2 rfl)).2.1 (by kernel_rfl) (by decide) (by decide)).mono fun e w' q=>qbL C q rfl rfl
end
theorem qdv (w:World)(h:Ws w):Calls prog 32 #[.string qaX,.string ⟨#[10]⟩] w fun e w'=>e=.returned (.slice (some ⟨w.heap.size,0,none⟩) 3 3)∧w'=w.alloc (.cells (qbm.map Value.string).toArray 9):=by obtain⟨m,hm⟩:=h;refine(Tryz.strings_Split qaX ⟨#[10]⟩ m w (by rw[qbh.1];decide) hm (by decide)).mono fun e w' h=>?_;rw[qbh.2.2] at h;exact⟨h.1,by rw[h.2];unfold qbm;rw[qbh.2.2]⟩
def qfU (w:World)(e:Ending)(w':World):Prop:=aa All w w'∧∃v,e=.returned (.tuple #[v,.int .i64 0,.int .i64 0])∧dJ (fun b=>w.heap.size≤b∧b<w'.heap.size) w' v qbq
def qeY (W:World)(v:Value)(wn:World):Prop:=∃j,v=.tuple #[.slice (some ⟨j,0,none⟩) 1 1,.int .i64 0]∧W.heap.size≤j∧al wn j 163 #[U 1#64]
theorem qeY.keep {W wn j:World}{v:Value}(h:qeY W v wn)(k:aa All wn j):qeY W v j:=by obtain⟨o,e,h1,C⟩:=h;exact⟨o,e,h1,C.kept k trivial⟩
theorem qbT (w:World)(hl:gz w)(hm:Ws w):Calls prog 20 #[.string qaX] w (qfU w):=by
 obtain⟨W0,a6⟩:=eQ (w.alloc (.cells #[.slice none 0 0,.slice none 0 0,.slice none 0 0,.slice none 0 0,.int .i64 0] 26));have a7:=yf a6;have b0:=yv a6;have H0:=J5 a6 a7 b0 (hl.keep a7) (hm.keep a7);have j1:(decide ((qaX.size:Int)>65536))=false:=by rw[qbh.1];decide
 have j2:=oH hl;clear a6 a7 b0 hl hm;go_enter func20,ntmps20;go_upto_region 1 with fail;rw[show w.alloc (.cells #[.slice none 0 0,.slice none 0 0,.slice none 0 0,.slice none 0 0,.int .i64 0] 26)=W0 from H0.1.symm];go_wp2_with fail;refine(qel qaX W0 qbh.2.1).mono ?_;rintro e w1 ⟨rfl,o⟩;have H1:=J4 (H0.2.1.trans o) (H0.2.2.1.kept o trivial) (H0.2.2.2.1.keep o) (H0.2.2.2.2.keep o);have k7:=oH o.size;clear o j1;go_upto_region 8 with fail;have k2:aa All w1 (w1.alloc (.cells #[.slice none 0 0,.slice none 0 0,.slice none 0 0,.slice none 0 0,.int .i64 0,.slice none 0 0] 86)):=kR.alloc _;have b2:al (w1.alloc (.cells #[.slice none 0 0,.slice none 0 0,.slice none 0 0,.slice none 0 0,.int .i64 0,.slice none 0 0] 86)) w1.heap.size 86 #[.slice none 0 0,.slice none 0 0,.slice none 0 0,.slice none 0 0,.int .i64 0,.slice none 0 0]:=al.new _ _ _;have b4:(w1.alloc (.cells #[.slice none 0 0,.slice none 0 0,.slice none 0 0,.slice none 0 0,.int .i64 0,.slice none 0 0] 86)).heap.size=w1.heap.size+1:=by simp
 obtain⟨rd,b5⟩:=eQ w1.heap.size;obtain⟨pb,a8⟩:=eQ w.heap.size;rw[←b5] at b2 b4⊢;rw[←a8];generalize w1.alloc _=W2 at*;have H2:=J6 (H1.1.trans k2) (by rw[a8];exact H1.2.1.kept k2 trivial:al W2 pb 26 #[.slice none 0 0,.slice none 0 0,.slice none 0 0,.slice none 0 0,.int .i64 0]) (H1.2.2.1.keep k2) (H1.2.2.2.keep k2) b2 b4;have c8:pb<rd:=by have h1:=H1.2.1.lt;omega
 have b6:=J3 c8 a8 b5;clear k2 b2 b4 c8 a8 b5;go_wp2_with fail;refine(qdv W2 H2.2.2.2.1).mono ?_;rintro e w3 ⟨rfl,e3⟩;have k3:=yf e3;have bL:al w3 W2.heap.size 9 (qbm.map Value.string).toArray:=by rw[e3];exact al.new _ _ _
 have c9:=aD1 e3;obtain⟨lb,d7⟩:=eQ W2.heap.size;rw[←d7] at bL c9⊢;obtain⟨B,hB⟩:=eQ w3.heap.size;have b3:rd<lb∧lb<B∧B=w3.heap.size:=by have:=H2.2.2.2.2.2;omega
 have h0:Yx B rd w3 (qeh 0) ([]):=⟨by omega,by omega,rfl,⟨by decide,by decide⟩,⟨by decide,by decide,by decide⟩,none,0,none,0,none,0,none,0,H2.2.2.2.2.1.kept k3 trivial,⟨rfl,.inl ⟨rfl,rfl⟩⟩,⟨fun _=>rfl,dR.nil⟩,⟨fun _=>rfl,dR.nil⟩,⟨fun _=>rfl,dR.nil⟩⟩;have H3:=J6 (H2.1.trans k3) (H2.2.1.kept k3 trivial) (H2.2.2.1.keep k3) bL h0 b3;clear k3 bL c9 d7 hB b3 h0 e3;go_upto_region 9 with fail;go_loopg [7,29] 3 (fun g s7 j3 wr=>∃(k:Nat) (at_:Int),g=3-k∧k≤3∧s7=.int .i64 at_∧0≤at_∧at_≤1000*k∧j3=.int .i64 k∧aa (fun b=>b<B∧b≠rd) w3 wr∧Yx B rd wr (qeh k) []);·exact⟨0,0,by omega,Nat.zero_le _,rfl,by omega,by omega,rfl,kR,H3.2.2.2.2.1⟩
 obtain⟨k,at_,k9,l0,rfl,l1,l2,rfl,d8,j⟩:=hrel;obtain⟨J,j4⟩:=eQ wr;subst j4;have R:=J2 d8 j;clear d8 j;by_cases d9:k<3;·(
 have hd:decide ((k:Int)<3)=true:=by rw[qal];omega
 obtain⟨c0,e6,e7,e8,j5,j6⟩:=qdZ k d9;have j7:J.cell? ⟨lb,k,none⟩=some (.string (qbm.getD k gR)):=by rw[(H3.2.2.2.1.kept R.1 ⟨H3.2.2.2.2.2.2.1,by have:=H3.2.2.2.2.2.1;omega⟩).cell k,List.getElem?_toArray,cL,c0];rfl
 have h6:=fun(n:Nat) w4 (A:Option Addr) c (b1:aa All J w4) hv=>qeO B rd k d9 J w4 A n c R.2 b1 hv;generalize qbm.getD k gR=L at*;generalize (qaU k).1=w0 at*;generalize (qaU k).2=ws at*;have HR:=J2 h6 e7;clear h6 c0 e7;go_wp2_with fail;refine(Zj L w0 ws J e6 HR.2 j6).mono ?_;rintro e w4 ⟨A,rfl,b1,j⟩;obtain⟨n,hn⟩:=eQ (ws.length+1);rw[←hn] at j⊢;obtain⟨b9,o9,e9,_,j8⟩:=Bs j (i:=0) rfl;cases e9;have l3:1≤n:=by omega
 have l4:decide ((n:Int)>0)=true:=by simp;omega
 have j9:=TG w0 0 e8;have e0:((((w0[0]' e8).toNat:Nat):Int)==35)=false:=by rw[bE];omega
 have c6:=J2 b1 j;clear b1 j j9 j5 hn j7;go_wp2_with fail;refine(HR.1 n w4 (some ⟨A,0,none⟩) n c6.1 c6.2).mono ?_;rintro e w5 ⟨rfl,h7⟩;have HL:=oH h7;clear h7 j8 e0;have l5:(L.size:Int)≤100:=by omega
 go_wp2_with fail;go_roundg (3-(k+1));·exact⟨k+1,at_+(L.size+1),rfl,by omega,by go_num,by omega,by omega,by go_num,(R.1.trans c6.1.all).trans HL.1,HL.2⟩
 omega)
 obtain rfl:k=3:=by omega
 have hd:decide ((3:Int)<3)=false:=by decide
 go_upto_region 18 with fail;obtain⟨a1,c1,a3,c3,a4,c4,a5,c5,h1,h2,h3,h4,h5⟩:=R.2.box;have e4:=h4.1 rfl;have e5:=h5.1 rfl;injection e4 with k0 _ k1;injection e5 with k4 _ k5;subst k0 k1 k4 k5;have k6:=Yx.pol R.2.up R.2.dep R.2.few h2 h3 h4;change al J rd _ #[.slice a1 1 c1,.slice none 0 0,.slice a3 1 c3,.slice none 0 0,.int .i64 8,.slice none 0 0] at h1;have HE:=J5 h1 h2 h3 h4 h5;clear h2 h3 h4 h5 k6;obtain⟨e0,e1,e2,e3,e4,e5⟩:=h1.c6;clear h1;go_upto_region 20 with fail;clear e0 e1 e2 e3 e4 e5;have h8:aa (fun b=>b<w.heap.size) w J:=H3.1.all.trans (R.1.mono fun b (Y:b<w.heap.size)=>by have h1:=b6.out;have h2:=H3.2.2.2.2.2;exact⟨by omega,by omega⟩);have h9:=oH h8;clear h8;have HB:=oH (fun wt (C:aa All J wt)=>qez wt (j2.out.keepLow (h9.out.trans C.all)));refine R1 16 J [94] (fun _ v wn=>qeY J v wn) (fun i=>if i=10 then some (fun v=>∃ub,v=.tuple #[.slice (some ⟨ub,0,none⟩) 1 1,.int .i64 0]) else none) ?_;iterate 10 refine O3 (fun wn C hp=>by(have qb:=HE.1.kept C trivial;have q0:=qb.cell 0;have q5:=qb.cell 5;simp only[gc] at q0 q5;go_simp;with_reducible rfl)) ?_
 refine O6 (fun wn C hp=>?_) (fun wn C hp=>?_) ?_
 ·go_simp
  refine(HB.out wn C).mono ?_;rintro e wq ⟨rfl,I,hu⟩;exact .inl ⟨rfl,_,rfl,⟨_,rfl⟩,C.trans I,fun t _ v h=>h.keep I,fun d hd _=>by cases hd;exact⟨_,rfl,C.size,hu⟩⟩
 ·obtain⟨e,wq,_,⟨rfl,I,hu⟩,_⟩:=(HB.out wn C) []
  exact⟨_,wq,⟨_,rfl⟩,C.trans I,fun t _ v h=>h.keep I,fun d hd _=>by cases hd;exact⟨_,rfl,C.size,hu⟩⟩
 rintro v ⟨ub,rfl⟩;simp only[PS];iterate 5 refine O0 ?_
 refine aG fun w7 j0 hF=>?_;obtain⟨l6,e9,c7,bU⟩:=hF 94 (by decide) _ rfl;cases e9;simp only[dK];have H7:=J3 j0 bU c7;clear j0 hF;have b7:=HE.1.kept H7.1 trivial;have e1:=b7.cell 1;have f1:=b7.free 1;have b8:=b7.set 1 (.slice (some ⟨ub,0,none⟩) 1 1);simp only[gc,ga] at e1 b8;have k8:aa (fun b=>b≠rd) w7 (w7.setCell ⟨rd,1,none⟩ (.slice (some ⟨ub,0,none⟩) 1 1)):=kR.setCell (.inl fun h=>h rfl) _;have H8:=J2 k8 b8;clear k8 b7 bU c7;go_upto_region 24 with fail;clear e1 f1;generalize w7.setCell _ _=W8 at*;obtain⟨e0,e1,e2,e3,e4⟩:=H8.2.c5;have kp:aa (fun b=>b<B∧b≠rd) w3 W8:=(R.1.trans H7.1.all).trans (H8.1.mono fun b Y=>Y.2);have bp:=H3.2.1.kept kp (by have h1:=b6.out;have h2:=H3.2.2.2.2.2;exact⟨by omega,by omega⟩);obtain⟨t0,t1,t2,t3,t4⟩:=bp.c5;have f0:=bp.free 0;have f1:=bp.free 1;have f2:=bp.free 2;have f3:=bp.free 3;have f4:=bp.free 4;have HP:=J2 kp bp;clear kp bp;go_wp2_with fail;have bF:=((((HP.2.set 0 (.slice a1 1 c1)).set 1 (.slice (some ⟨ub,0,none⟩) 1 1)).set 2 (.slice a3 1 c3)).set 3 (.slice none 0 0)).set 4 (.int .i64 8);have kF:=(((((aa.refl (fun b=>b≠pb) W8).setCell (p:=⟨pb,0,none⟩) (.inl fun h=>h rfl) (.slice a1 1 c1)).setCell (p:=⟨pb,1,none⟩) (.inl fun h=>h rfl) (.slice (some ⟨ub,0,none⟩) 1 1)).setCell (p:=⟨pb,2,none⟩) (.inl fun h=>h rfl) (.slice a3 1 c3)).setCell (p:=⟨pb,3,none⟩) (.inl fun h=>h rfl) (.slice none 0 0)).setCell (p:=⟨pb,4,none⟩) (.inl fun h=>h rfl) (.int .i64 8);simp only[ga] at bF;clear e0 e1 e2 e3 e4 t0 t1 t2 t3 t4 f0 f1 f2 f3 f4;generalize World.setCell _ ⟨pb,4,none⟩ _=WF at*;have c0:=b6.out;have e6:=H3.2.2.2.2.2;have kA:aa (fun b=>B≤b) J WF:=(H7.1.all.trans (H8.1.mono fun b (Y:B≤b)=>by show b≠rd;omega)).trans (kF.mono fun b (Y:B≤b)=>by show b≠pb;omega);have c7:=H7.2.2;have l7:=R.2.size;have kU:aa (fun b=>B≤b) w7 WF:=(H8.1.mono fun b (Y:B≤b)=>by show b≠rd;omega).trans (kF.mono fun b (Y:B≤b)=>by show b≠pb;omega);have bU:=H7.2.1.kept kU (by show B≤ub;omega);have r1:=YX (be HE.2.1 kA fun g hg=>(aD HE.2.1 hg).1) (by decide);have r3:=(HE.2.2.1.keep FM kA fun b h _=>h).2.read (bw:=24) FM (by decide);have r4:=(HE.2.2.2.1.keep FM kA fun b h _=>h).2.read (bw:=24) FM (by decide);have hw:∀b,B≤b∧b<WF.heap.size→w.heap.size≤b∧b<WF.heap.size:=fun b Y=>⟨by omega,Y.2⟩;have kw:aa All w WF:=by have h1:aa (fun b=>b<w.heap.size) w WF:=((h9.out.trans H7.1.all).trans (H8.1.mono fun b (Y:b<w.heap.size)=>by show b≠rd;omega)).trans (kF.mono fun b (Y:b<w.heap.size)=>by show b≠pb;omega);exact⟨h1.os,h1.output,h1.size,fun i hi _=>h1.block i hi hi⟩
 obtain⟨q0,q1,q2,q3,q4⟩:=bF.c5;have hv:dJ (fun b=>w.heap.size≤b∧b<WF.heap.size) WF (.agg #[.slice a1 1 c1,.slice (some ⟨ub,0,none⟩) 1 1,.slice a3 1 c3,.slice none 0 0,.int .i64 8]) qbq:=by
  refine⟨_,_,_,_,rfl,ax.wide hw r1,Sl.of_blk (l:=[1#64]) bU ⟨by omega,by have:=bU.lt;omega⟩ (by decide) (by decide) (by decide) (fun i x hx=>?_),aX.wide hw r3,aX.wide hw r4,YW (by decide) (by decide)⟩
  match i,hx with
  |0,hx=>cases hx;exact⟨_,rfl,rfl⟩
  |(i+1),hx=>simp at hx
 exact bodyPost_ret (v:=.tuple #[.agg #[.slice a1 1 c1,.slice (some ⟨ub,0,none⟩) 1 1,.slice a3 1 c3,.slice none 0 0,.int .i64 8],.int .i64 0,.int .i64 0]) (by simp[results,Tryz.results20,go_sem,q0,q1,q2,q3,q4]) rfl ⟨kw,_,rfl,hv⟩
def qdD (w:World)(B j gp pb:Nat)(l:List ByteArray):Prop:=∃o aC,al w j 22 #[.slice o l.length aC]∧w.ownsRow B 9 1 (.slice o l.length aC) l.length (l.map Value.string)∧al w gp 100 #[.pointer (some ⟨pb,0,none⟩)]∧B≤j∧B≤gp
theorem qdD.kept {w w':World}{B o gp pb:Nat}{l:List ByteArray}{S:Nat→Prop}(h:qdD w B o gp pb l)(k:aa S w w')(j:∀b,B≤b→S b):qdD w' B o gp pb l:=by obtain⟨R,aC,h1,C,Y,I,J⟩:=h;exact⟨R,aC,h1.kept k (j _ I),be C k fun g hg=>j _ (aD C hg).1,Y.kept k (j _ J),I,J⟩
def qhR (B pb j gp:Nat)(p:cr)(A:Option Addr)(C m k':Nat)(o:List ByteArray)(w:World)(e:Ending)(w':World):Prop:=e=.returned (.tuple #[])∧aa (fun b=>b≠pb∧b<B) w w'∧PB w' B pb p A C k' m∧qdD w' B j gp pb o
theorem qhe (B pb I gp:Nat)(p:cr)(A:Option Addr)(C k m:Nat)(l:List ByteArray)(w:World)(h:PB w B pb p A C k m)(hn:qdD w B I gp pb l)(hp:p.Ok)(hq:p.is k 1=true)(hl:l.length≤100):
 Calls prog 148 #[.pointer (some ⟨I,0,none⟩),.pointer (some ⟨gp,0,none⟩)] w (qhR B pb I gp p A C m (k+1) (l++[p.txt k]) w):=by
 obtain⟨iS,IS⟩:=iH UP;obtain⟨aA,aC,n1,n2,n3,n4,n5⟩:=hn;have a8:=h.low;have R:I≠pb:=by omega
 have Y:gp≠pb:=by omega
 have HC:=oH (fun wn (hn:PB wn B pb p A C k m)=>xi pb p A C _ m wn hn.pat hp hq);have HV:=oH (fun wn (hn:aa (fun i=>(Value.ownBlock (.slice aA l.length aC))≠some i∧i≠pb) w wn)=>show wn.cell? ⟨I,0,none⟩=some (.slice aA l.length aC)∧wn.cell? ⟨gp,0,none⟩=some (.pointer (some ⟨pb,0,none⟩)) from⟨(n1.kept hn ⟨eo n2 n1 (by decide),R⟩).cell 0,(n3.kept hn ⟨eo n2 n3 (by decide),Y⟩).cell 0⟩);have HG:=oH (Ue (k:=k) (S:=fun y=>y=.string (p.txt k)) h n2);have HR:=J3 n2 (show PB w.drew B pb p A C (if false=true then k+1 else k) m from h.kept (S:=All) kR.drew fun _ _=>trivial) h.size;have o:=J6 n1 n3 n4 n5 R Y;clear n1 n2 n3 n4 n5 h R Y a8;go_enter func148,ntmps148;refine hH 5 2 [3,4] (SY w (fun i=>i≠pb) B 9 1 (.slice aA l.length aC) l.length (l.map Value.string) (fun b w=>PB w B pb p A C (if b then k+1 else k) m)) [4,5,6] (FY w (fun i=>i≠pb) B 9 1 (.slice aA l.length aC) l.length (l.map Value.string) (fun y=>[y]) (fun y _=>y=.string (p.txt k)) 5 4) (fun i=>if i=2 then some (fun y=>y=.string (p.txt k)) else if i=3 then some Oa else if i=4 then some (NT l.length) else none) (fun _=>false) (fun _ _=>False) (by kernel_rfl) (by kernel_rfl) (by kernel_rfl) (by kernel_rfl) (VJ _ _ _) (by kernel_rfl) (by decide) (SY.first HR.1 HR.2.1) (fun _ _ _ h=>h.elim) ?_;simp only[tK];iterate 2 refine OY (fun b wn hs hp=>by(obtain⟨q0,q1⟩:=HV.out wn hs.1;skip;go_simp;with_reducible rfl)) ?_
 refine Hy (V:=(fun y=>y=.string (p.txt k))) HG.out (by rfl) (by rfl) (by rfl) rfl (by decide) (fun wn hs=>⟨_,_,by(obtain⟨q0,q1⟩:=HV.out wn hs.1;go_simp<;>with_reducible rfl),(HC.out wn hs.2.2).mono fun e w' h=>⟨_,h.1,rfl,h.2.1,hs.2.2.moved h.2,rfl⟩⟩) ?_;rintro u rfl;simp only[PS];refine Tv HG.out (by decide) (by rfl) (by rfl) (by rfl) rfl (by decide) _ rfl (by decide) (fun wn hs=>by(skip;go_simp<;>with_reducible rfl)) ?_;intro g;simp only[PS];refine Tu HG.out (by decide) (by rfl) (by rfl) (by rfl) rfl (by decide) (by decide) (.tmp 2) 22 rfl iS _ 16 underlying22 IS.1 IS.2.1 IS.2.2.1 IS.2.2.2 rfl (by decide) rfl g rfl (by decide) (fun y w hy=>by subst hy;exact⟨rfl,fun u hu=>by rw[cx.1 hu];rfl⟩) (by unfold maxLen;show l.length+1≤_;omega) (by show(l.length+1)*16≤_;omega) HR.2.2 ?_;intro A5 c5;simp only[PS];refine TE fun wt a1 hF=>?_;have J:=hF 6 (by simp) _ rfl;unfold FY at J;rw[ae (by decide),ae (by decide)] at J;have HT:=oH (show SY _ _ _ _ _ _ _ _ _ _ _ from a1);have HA:=oH J;clear a1 hF J;simp only[dK];have j:=o.1.kept HT.1 ⟨eo HR.1 o.1 (by decide),o.2.2.2.2.1⟩;have b5:=j.cl 0;have f5:=j.free 0;clear j;go_wp2_with fail
 go_end0
 obtain⟨y,wz,q1,rfl,q3,q4,q5⟩:=HA.out;have j:=o.1.kept HT.1 ⟨eo HR.1 o.1 (by decide),o.2.2.2.2.1⟩;have a6:=o.2.1.kept HT.1 ⟨eo HR.1 o.2.1 (by decide),o.2.2.2.2.2⟩;have kx:aa (fun b=>b≠I) wt (wt.setCell ⟨I,0,none⟩ (.slice A5 (l.length+1) c5)):=kR.setCell (.inl fun h=>h rfl) _;have a7:(l++[p.txt k]).length=l.length+1:=by simp
 have h3:=j.set 0 (.slice A5 (l.length+1) c5);simp only[ga] at h3;have ho:=o.2.2.1;refine⟨rfl,(HT.1.mono fun b hb=>⟨fun e=>by have:=(aD HR.1 e).1;have:=hb.2;omega,hb.1⟩).trans (kx.mono fun b hb=>by have:=hb.2;show b≠I;omega),HT.2.2.kept kx fun b hb=>by show b≠I;omega,A5,c5,?_,?_,a6.kept kx (by show gp≠I;exact a6.ne j (by decide)),ho,o.2.2.2.1⟩;·rw[a7];exact h3
 rw[a7,ic];exact be q1 kx fun g hg=>by rintro rfl;exact eo q1 j (by decide) hg
section
def qcx (p:cr):Nat→Nat→Nat→List ByteArray→Option (List ByteArray×Nat)
 |0,_,_,_=>none
 |f+1,n,k,l=>if p.is k 1=true∧6≤n then none else do
  let(a,k)←Ty p 1 k
  if p.txt k=Ym then qcx p f (n+1) (k+1) (l++[a]) else some (l++[a],k)
def qbp (p:cr)(k:Nat):Option (List ByteArray×Nat):=do
 let k←TR p Yu k
 let(l,k)←if p.txt k=Yn then some ([],k) else qcx p 7 0 k []
 let k←TR p Yn k
 some (l,k)
theorem qbZ {p:cr}{f n k:Nat}{l:List ByteArray}{r:List ByteArray×Nat}(h:qcx p (f+1) n k l=some r):
 p.is k 1=true∧n<6∧if p.txt (k+1)=Ym then qcx p f (n+1) (k+1+1) (l++[p.txt k])=some r else r=(l++[p.txt k],k+1):=by
 rw[qcx] at h;split at h;·cases h
 rename_i C;unfold Ty at h;by_cases h1:p.is k 1=true
 ·simp only[h1,if_true,Option.bind_eq_bind,Option.bind_some] at h;refine⟨h1,by rcases Nat.lt_or_ge n 6 with j|j;exact j;exact absurd ⟨h1,j⟩ C,?_⟩;split at h;·rename_i o;rw[ap o];exact h
  rename_i o;rw[ae o];cases h;rfl
 simp[h1] at h
theorem qbB {p:cr}{k k':Nat}{l:List ByteArray}(h:qbp p k=some (l,k')):
 p.txt k=Yu∧∃j,((p.txt (k+1)=Yn∧l=[]∧j=k+1)∨(p.txt (k+1)≠Yn∧qcx p 7 0 (k+1) []=some (l,j)))∧p.txt j=Yn∧k'=j+1:=by
 unfold qbp TR at h;by_cases h1:p.txt k=Yu;·(
 simp only[h1,if_true,Option.bind_eq_bind,Option.bind_some] at h;refine⟨h1,?_⟩;by_cases o:p.txt (k+1)=Yn
 ·simp only[o,if_true,Option.bind_some] at h
  cases h;exact⟨_,.inl ⟨o,rfl,rfl⟩,o,rfl⟩
 simp only[o,if_false] at h;cases I:qcx p 7 0 (k+1) [] with
 |none=>rw[I] at h;cases h
 |some y=>
  rw[I] at h;simp only[Option.bind_some] at h;by_cases C:p.txt y.2=Yn;·simp only[C,if_true,Option.bind_some] at h;cases h;exact⟨_,.inr ⟨o,rfl⟩,C,rfl⟩
  simp[C] at h)
 simp[h1] at h
structure NSt (w0:World)(B pb ob gp:Nat)(p:cr)(A:Option Addr)(C m k:Nat)(l:List ByteArray)(w:World):Prop where
 kept:aa (fun b=>b≠pb∧b<B) w0 w
 par:PB w B pb p A C k m
 nms:qdD w B ob gp pb l
section
variable {w0 w w':World} {B pb ob gp:Nat} {p:cr} {A:Option Addr} {C m m' k k':Nat} {l l':List ByteArray}
theorem NSt.moved (h:NSt w0 B pb ob gp p A C m k l w)(hm:wi pb p A C k' m' w w'):NSt w0 B pb ob gp p A C m' k' l w':=
 ⟨h.kept.trans (hm.1.mono fun _ j=>j.1),h.par.moved hm,h.nms.kept hm.1 fun b j=>by have:=h.par.low;show b≠pb;omega⟩
theorem NSt.all (h:NSt w0 B pb ob gp p A C m k l w)(j:aa All w w'):NSt w0 B pb ob gp p A C m k l w':=
 ⟨h.kept.trans j.all,h.par.kept j fun _ _=>trivial,h.nms.kept j fun _ _=>trivial⟩
theorem NSt.after (h:NSt w0 B pb ob gp p A C m k l w)(h':aa (fun b=>b≠pb∧b<B) w w'∧PB w' B pb p A C k' m∧qdD w' B ob gp pb l'):NSt w0 B pb ob gp p A C m k' l' w':=
 ⟨h.kept.trans h'.1,h'.2.1,h'.2.2⟩
theorem NSt.moves (h:NSt w w.heap.size pb ob gp p A C m k l w'):wi pb p A C k m w w':=⟨⟨h.kept.os,h.kept.output,h.kept.size,fun b j o=>h.kept.block b j ⟨o,j⟩⟩,h.par.pat⟩
end
theorem qfD (B pb ob gp:Nat)(p:cr)(A:Option Addr)(C k m k':Nat)(l:List ByteArray)(w:World)(h:PB w B pb p A C k m)(hn:qdD w B ob gp pb [])(hp:p.Ok)(hr:qcx p 7 0 k []=some (l,k')):
 Calls prog 147 #[.pointer (some ⟨pb,0,none⟩),.int .i64 6,.func (.func 148) #[] #[.pointer (some ⟨ob,0,none⟩),.pointer (some ⟨gp,0,none⟩)]] w (fun e w'=>e=.returned (.tuple #[])∧NSt w B pb ob gp p A C m k' l w'):=by
 have H0:=J2 (show NSt w B pb ob gp p A C m k [] w from⟨kR,h,hn⟩) hr;have hlen:=hp.len;clear h hn hr;go_enter func147,ntmps147;go_wp2_with fail;go_loopg [6] 7 (fun g s6 wr=>∃(f n I:Nat) (l1:List ByteArray),g=f∧s6=.int .i64 n∧n+f=7∧l1.length≤n∧qcx p f n I l1=some (l,k')∧NSt w B pb ob gp p A C m I l1 wr);·exact⟨7,0,k,[],rfl,rfl,rfl,cf _,H0.2,H0.1⟩
 obtain⟨f,n,I,l1,b6,rfl,b7,b8,R,a6⟩:=hrel;obtain⟨wo,b3⟩:=eQ wr;subst b3;cases f with
 |zero=>cases R
 |succ f=>
 obtain⟨q1,q2,q5⟩:=qbZ R;have HS:=oH a6;have HQ:=J2 q1 q5;clear a6 R q1 q5;go_wp2_with fail;refine(TC pb p A C I m 1 wo HS.out.par.pat hp).mono ?_;rintro e w1 ⟨rfl,a7⟩;rw[HQ.1];have Y:=oH (HS.out.all a7);clear a7;go_wp2_with fail;refine(To pb n 6 w1 q2).mono ?_;rintro e w2 ⟨rfl,rfl⟩;go_wp2_with fail;refine(qhe B pb ob gp p A C I m l1 w1 Y.out.par Y.out.nms hp HQ.1 (by omega)).mono ?_;rintro e w3 ⟨rfl,a8⟩;have b0:=oH (Y.out.after a8);clear a8;go_wp2_with fail;refine(xt pb p A C (I+1) m 0 w3 b0.out.par.pat hp (by omega)).mono ?_;rintro e w4 ⟨rfl,b1⟩;rw[dj];have J:=oH (b0.out.all b1);clear b1;by_cases j:p.txt (I+1)=Ym;·(
 have o:=HQ.2;rw[ap j] at o;have b9:=TM (p:=p) (k:=I+1) (by rw[j];decide);have b4:((p.txt (I+1)).toList==[44])=true:=by rw[TY _ _ Ym (by kernel_rfl),bL j]
 have HZ:=oH o;have a1:=J.out.par.box;have b2:=a1.cl 2;have f2:=a1.free 2;clear o j a1;go_wp2_with fail;go_roundg f
 ·have b5:wi pb p A C (I+1+1) m w4 (w4.setCell ⟨pb,2,none⟩ (.int .i64 ((I+1+1:Nat)))):=wi.of J.out.par.pat kR (by omega)
  refine⟨f,n+1,I+1+1,_,rfl,by go_num,by omega,?_,HZ.out,?_⟩;·rw[iQ];show l1.length+1≤_;omega
  simpa using J.out.moved b5
 omega)
 have o:=HQ.2;rw[ae j] at o;have b4:((p.txt (I+1)).toList==[44])=false:=by rw[TY _ _ Ym (by kernel_rfl),cI j]
 have HZ:=oH o;clear o j;go_wp2_with fail;have e:=HZ.out;injection e with e1 e2;subst e1;subst e2;exact bodyPost_ret (results_none rfl _ _ _) rfl ⟨rfl,J.out⟩
def qft (pb:Nat)(p:cr)(A:Option Addr)(C k' m:Nat)(l:List ByteArray)(w:World)(e:Ending)(w':World):Prop:=
 ∃a c,e=.returned (.slice a l.length c)∧wi pb p A C k' m w w'∧Tx w.heap.size w' (.slice a l.length c) l
theorem qci (pb:Nat)(p:cr)(A:Option Addr)(C k m k':Nat)(l:List ByteArray)(w:World)(h:Uo w pb p A C k m)(hp:p.Ok)(hq:qbp p k=some (l,k')):
 Calls prog 83 #[.pointer (some ⟨pb,0,none⟩)] w (qft pb p A C k' m l w):=by
 obtain⟨q1,j,q2,q3,rfl⟩:=qbB hq;obtain⟨W1,o⟩:=eQ ((w.alloc (.cells #[.pointer (some ⟨pb,0,none⟩)] 100)).alloc (.cells #[.slice none 0 0] 22));have J:=zy o;have g0:al W1 w.heap.size 100 #[.pointer (some ⟨pb,0,none⟩)]:=by rw[o];exact(al.new w _ _).alloc _
 have g1:al W1 (w.heap.size+1) 22 #[.slice none 0 0]:=by
  rw[o];have h1:(w.alloc (.cells #[.pointer (some ⟨pb,0,none⟩)] 100)).heap.size=w.heap.size+1:=by simp
  rw[←h1];exact al.new _ _ _
 have hN:NSt w w.heap.size pb (w.heap.size+1) w.heap.size p A C m k [] W1:=
  ⟨J.all,h.pb.kept J fun _ _=>trivial,none,0,g1,⟨by simp,.inl ⟨rfl,rfl⟩⟩,g0,by omega,cf _⟩
 have R:=J4 o hN q2 q3;obtain⟨gp,b1⟩:=eQ w.heap.size;clear h o J g0 g1 hN q2 q3 hq;go_enter func83,ntmps83;go_upto_region 2 with fail;rw[←R.1];have g0:=R.2.1.nms.choose_spec.choose_spec.2.2.1.cl 0;go_wp2_with fail;refine(Ar pb p A C k m ⟨#[40]⟩ W1 R.2.1.par.pat hp q1 (by decide)).mono ?_;rintro e W2 ⟨rfl,a1⟩;have H2:=oH (R.2.1.moved a1);clear a1 g0;have g0:=H2.out.nms.choose_spec.choose_spec.2.2.1.cl 0;go_wp2_with fail;refine(xt pb p A C (k+1) m 0 W2 H2.out.par.pat hp (by omega)).mono ?_;rintro e W3 ⟨rfl,a6⟩;rw[dj];have Y:=oH (H2.out.all a6);clear a6 g0;have g0:=Y.out.nms.choose_spec.choose_spec.2.2.1.cl 0;rcases R.2.2.1 with ⟨r1,r2,r3⟩|⟨r1,r2⟩
 ·have b0:((p.txt (k+1)).toList==[41])=true:=by rw[TY _ _ Yn (by kernel_rfl),bL r1]
  subst r2;subst r3;clear r1;go_wp2_with fail;refine(Ar pb p A C (k+1) m ⟨#[41]⟩ W3 Y.out.par.pat hp R.2.2.2 (by decide)).mono ?_;rintro e W4 ⟨rfl,a7⟩;have H4:=oH (Y.out.moved a7);clear a7 g0;obtain⟨aA,aC,n1,n2,n3,n4,n5⟩:=H4.out.nms;have g1:=n1.cl 0;have HN:=oH n2;clear n1 n2 n3 n4 n5;go_wp2_with fail;go_ret;exact⟨_,_,rfl,H4.out.moves,HN.out⟩
 have b0:((p.txt (k+1)).toList==[41])=false:=by rw[TY _ _ Yn (by kernel_rfl),cI r1]
 have HR:=oH r2;clear r1 r2;go_wp2_with fail;refine(qfD w.heap.size pb (w.heap.size+1) w.heap.size p A C (k+1) m j l W3 Y.out.par Y.out.nms hp HR.out).mono ?_;rintro e W4 ⟨rfl,I⟩;have H4:=oH (Y.out.after ⟨I.kept,I.par,I.nms⟩);clear I g0;have g0:=H4.out.nms.choose_spec.choose_spec.2.2.1.cl 0;go_wp2_with fail;refine(Ar pb p A C j m ⟨#[41]⟩ W4 H4.out.par.pat hp R.2.2.2 (by decide)).mono ?_;rintro e W5 ⟨rfl,a8⟩;have H5:=oH (H4.out.moved a8);clear a8 g0;obtain⟨aA,aC,n1,n2,n3,n4,n5⟩:=H5.out.nms;have g1:=n1.cl 0;have HN:=oH n2;clear n1 n2 n3 n4 n5;go_wp2_with fail;go_ret;exact⟨_,_,rfl,H5.out.moves,HN.out⟩
end
theorem qhq {w:World}{B:Nat}{t:TypeId}{v:Value}(hB:B≤w.heap.size):(w.alloc (.cells #[v] t)).ownsRow B t 1 (.slice (some ⟨w.heap.size,0,none⟩) 1 1) 1 [v]:=
 ⟨rfl,.inr ⟨w.heap.size,1,#[v],rfl,hB,al.new _ _ _,cf 1,by unfold maxLen;decide,by simp,by simp⟩⟩
theorem qgI {w0 w:World}{B pb j k m:Nat}{p:cr}{A:Option Addr}{C:Nat}{x:cX}{s:ByteArray}(h:St w0 B pb j p A C m k x w):
 St w0 B pb j p A C m k {x with args:=[s]} ((w.alloc (.cells #[.string s] 9)).setCell ⟨j,5,none⟩ (.slice (some ⟨w.heap.size,0,none⟩) 1 1)):=by
 have J:aa All w (w.alloc (.cells #[.string s] 9)):=kR.alloc _;obtain⟨aA,aC,fA,fC,R,a8,I,a7,Y⟩:=h.Nb;have o:=R.kept J trivial;have rf:=be I J fun _ _=>trivial;have ho:=qhq (w:=w) (B:=B) (t:=9) (v:=.string s) h.par.size;generalize hW:w.alloc (.cells #[.string s] 9)=W at*;have kx:aa (fun b=>b≠j) W (W.setCell ⟨j,5,none⟩ (.slice (some ⟨w.heap.size,0,none⟩) 1 1)):=kR.setCell (.inl fun h=>h rfl) _;have h3:=o.set 5 (.slice (some ⟨w.heap.size,0,none⟩) 1 1);simp only[ga] at h3;have hp:=h.all J;refine⟨hp.kept.trans (kx.mono fun b o=>by have:=o.2;show b≠j;omega),hp.par.kept kx fun b o=>by show b≠j;omega,some ⟨w.heap.size,0,none⟩,1,fA,fC,h3,?_,be rf kx fun g hg=>by rintro rfl;exact eo rf o (by decide) hg,?_,Y⟩;·exact be ho kx fun g hg=>by rintro rfl;exact eo ho o (by decide) hg
 intro b a1 a6;cases a1;exact absurd (aD I a6).2 (Nat.lt_irrefl _)
theorem qeu (B pb j:Nat)(p:cr)(A:Option Addr)(C k m:Nat)(x:cX)(w:World)(h:PB w B pb p A C k m)(o:Uh w B j x)(J:p.Ok)(R:p.is k 1=true):
 Calls prog 254 #[.pointer (some ⟨pb,0,none⟩),.pointer (some ⟨j,0,none⟩)] w (Ua B pb j p A C m (k+1) {x with kind:=8,ref:=p.txt k} w):=by
 have I:=oH (St.first h o);clear h o;go_enter func254,ntmps254;go_wp2_with fail;refine(xi pb p A C _ m _ I.out.par.pat J R).mono ?_;rintro e w1 ⟨rfl,hm⟩;have H1:=oH (I.out.moved hm);clear hm;obtain⟨u0,Y⟩:=H1.out.Nb.cellAt 0 (by decide);have a1:=H1.out.Nb.free 0;obtain⟨u3,a6⟩:=H1.out.Nb.cellAt 3 (by decide);have a7:=H1.out.Nb.free 3;go_wp2_with fail
 go_end0
 exact⟨rfl,(H1.out.set 0 (.int .u8 8) (x':= {x with kind:=8}) rfl rfl (fun _ _=>rfl)).set 3 (.string (p.txt k)) rfl rfl (fun _ _=>rfl)⟩
theorem qdJ (B pb xb:Nat)(p:cr)(A:Option Addr)(C k m:Nat)(x:cX)(w:World)(h:PB w B pb p A C k m)(hx:Uh w B xb x)(hp:p.Ok)(hq:p.is k 1=true)(a7:p.is (k+1) 1=true)(hl:x.args.length≤1000):
 Calls prog 226 #[.pointer (some ⟨pb,0,none⟩),.pointer (some ⟨xb,0,none⟩)] w (Ua B pb xb p A C m (k+1+1) {x with kind:=9,ref:=p.txt k,args:=x.args++[p.txt (k+1)]} w):=by
 obtain⟨iS,IS⟩:=iH UP;have H0:=oH (St.first h hx);clear h hx;go_enter func226,ntmps226;go_wp2_with fail;refine(xi pb p A C _ m _ H0.out.par.pat hp hq).mono ?_;rintro e w1 ⟨rfl,hm⟩;have H1:=oH (H0.out.moved hm);clear hm;obtain⟨u0,a8⟩:=H1.out.Nb.cellAt 0 (by decide);have b0:=H1.out.Nb.free 0;obtain⟨u3,b1⟩:=H1.out.Nb.cellAt 3 (by decide);have b2:=H1.out.Nb.free 3;go_upto_region 1 with fail;have h2:=(H1.out.set 0 (.int .u8 9) (x':= {x with kind:=9}) rfl rfl (fun _ _=>rfl)).set 3 (.string (p.txt k)) (x':= {x with kind:=9,ref:=p.txt k}) rfl rfl (fun _ _=>rfl);generalize World.setCell (World.setCell w1 _ _) _ _=W2 at*;have I:=oH h2;clear h2 a8 b0 b1 b2;obtain⟨aA,aC,fA,fC,hb,ra,rf,R,a1⟩:=I.out.Nb;have HC:=oH (fun wn (hn:PB wn B pb p A C (k+1) m)=>xi pb p A C _ m wn hn.pat hp a7);have HV:=oH (fun wn (hn:aa (fun i=>(Value.ownBlock (.slice aA (x).args.length aC))≠some i∧i≠pb) W2 wn)=>show wn.cell? ⟨xb,5,none⟩=some (.slice aA (x).args.length aC) from(hb.kept hn ⟨eo ra hb (by decide),I.out.ne⟩).cell 5);have HG:=oH (Ue (k:=k+1) (S:=fun y=>y=.string (p.txt (k+1))) I.out.par ra);have HR:=J3 ra (show PB W2.drew B pb p A C (if false=true then(k+1)+1 else(k+1)) m from I.out.par.kept (S:=All) kR.drew fun _ _=>trivial) I.out.par.size;have o:=J4 hb rf R a1;clear hb ra rf R a1;refine hH 11 6 [7,8] (SY W2 (fun i=>i≠pb) B 9 1 (.slice aA (x).args.length aC) (x).args.length ((x).args.map Value.string) (fun b w=>PB w B pb p A C (if b then(k+1)+1 else(k+1)) m)) [18,19,20] (FY W2 (fun i=>i≠pb) B 9 1 (.slice aA (x).args.length aC) (x).args.length ((x).args.map Value.string) (fun y=>[y]) (fun y _=>y=.string (p.txt (k+1))) 19 18) (fun i=>if i=6 then some (fun y=>y=.string (p.txt (k+1))) else if i=7 then some Oa else if i=8 then some (NT (x).args.length) else none) (fun _=>false) (fun _ _=>False) (by kernel_rfl) (by kernel_rfl) (by kernel_rfl) (by kernel_rfl) (VJ _ _ _) (by kernel_rfl) (by decide) (SY.first HR.1 HR.2.1) (fun _ _ _ h=>h.elim) ?_;simp only[tK];iterate 6 refine OY (fun b wn Y hp=>by(have q:=HV.out wn Y.1;skip;go_simp;with_reducible rfl)) ?_
 refine Hy (V:=(fun y=>y=.string (p.txt (k+1)))) HG.out (by rfl) (by rfl) (by rfl) rfl (by decide) (fun wn Y=>⟨_,_,by(have q:=HV.out wn Y.1;go_simp<;>with_reducible rfl),(HC.out wn Y.2.2).mono fun e w' h=>⟨_,h.1,rfl,h.2.1,Y.2.2.moved h.2,rfl⟩⟩) ?_;rintro u rfl;simp only[PS];refine Tv HG.out (by decide) (by rfl) (by rfl) (by rfl) rfl (by decide) _ rfl (by decide) (fun wn Y=>by(skip;go_simp<;>with_reducible rfl)) ?_;intro g;simp only[PS];refine Tu HG.out (by decide) (by rfl) (by rfl) (by rfl) rfl (by decide) (by decide) (.tmp 16) 22 rfl iS _ 16 underlying22 IS.1 IS.2.1 IS.2.2.1 IS.2.2.2 rfl (by decide) rfl g rfl (by decide) (fun y w hy=>by subst hy;exact⟨rfl,fun u hu=>by rw[cx.1 hu];rfl⟩) (by unfold maxLen;show x.args.length+1≤_;omega) (by show(x.args.length+1)*16≤_;omega) HR.2.2 ?_;intro A5 c5;simp only[PS];iterate 2 refine OY (fun b wn Y hp=>by(have q:=HV.out wn Y.1;skip;go_simp;with_reducible rfl)) ?_
 refine TE fun wt a6 hF=>?_;have J:=hF 20 (by simp) _ rfl;unfold FY at J;rw[ae (by decide),ae (by decide)] at J;have HT:=oH (show SY _ _ _ _ _ _ _ _ _ _ _ from a6);have HA:=oH J;clear a6 hF J;simp only[dK];have j:=o.1.kept HT.1 ⟨eo HR.1 o.1 (by decide),I.out.ne⟩;have b5:=j.cl 5;have f5:=j.free 5;clear j;go_wp2_with fail
 go_end0
 obtain⟨y,wz,q1,rfl,q3,q4,q5⟩:=HA.out;have j:=o.1.kept HT.1 ⟨eo HR.1 o.1 (by decide),I.out.ne⟩;have b3:=be o.2.1 HT.1 fun g hg=>⟨fun e=>o.2.2.1 g e hg,by rintro rfl;exact eo o.2.1 I.out.par.box (by decide) hg⟩;have hX:=Uh.put_args (x:= {x with kind:=9,ref:=p.txt k}) j q1 b3 (UL o.2.1 o.2.2.1 q3 q5) o.2.2.2;have b4:=Vy I.out HR.1 HT.1 HT.2.2 hX;exact⟨rfl,b4⟩
theorem qfW (B pb J:Nat)(p:cr)(A:Option Addr)(C k m:Nat)(x:cX)(w:World)(h:PB w B pb p A C k m)(hx:Uh w B J x)(hp:p.Ok)(hq:p.is k 1=true)(R:p.is (k+1) 1=true):
 Calls prog 256 #[.pointer (some ⟨pb,0,none⟩),.pointer (some ⟨J,0,none⟩)] w (Ua B pb J p A C m (k+1+1) {x with kind:=10,args:=[p.txt k],ref:=p.txt (k+1)} w):=by
 have Y:=oH (St.first h hx);clear h hx;go_enter func256,ntmps256;obtain⟨u0,a1⟩:=Y.out.Nb.cellAt 0 (by decide);have a6:=Y.out.Nb.free 0;go_upto_region 1 with fail;have h2:=Y.out.set 0 (.int .u8 10) (x':= {x with kind:=10}) rfl rfl (fun _ _=>rfl);generalize w.setCell _ _=W1 at*;have H1:=oH h2;clear h2 a1 a6;go_wp2_with fail;refine(xi pb p A C _ m _ H1.out.par.pat hp hq).mono ?_;rintro e w2 ⟨rfl,hm⟩;have j:=oH (H1.out.moved hm);clear hm;obtain⟨u5,a7⟩:=j.out.Nb.cellAt 5 (by decide);have a8:=j.out.Nb.free 5;have o:=(j.out.all ((aa.refl All w2).alloc (.cells #[.string (p.txt k)] 9))).Nb.free 5;obtain⟨b0,I⟩:=(j.out.all ((aa.refl All w2).alloc (.cells #[.string (p.txt k)] 9))).Nb.cellAt 5 (by decide);go_upto_region 2 with fail;have h3:=qgI (s:=p.txt k) j.out;generalize World.setCell (World.alloc w2 _) _ _=W3 at*;have H3:=oH h3;clear h3 a7 a8 I o;go_wp2_with fail;refine(xi pb p A C _ m _ H3.out.par.pat hp R).mono ?_;rintro e w4 ⟨rfl,hm⟩;have H4:=oH (H3.out.moved hm);clear hm;obtain⟨u3,b1⟩:=H4.out.Nb.cellAt 3 (by decide);have b2:=H4.out.Nb.free 3;go_wp2_with fail
 go_end0
 exact⟨rfl,H4.out.set 3 (.string (p.txt (k+1))) rfl rfl (fun _ _=>rfl)⟩
theorem qee {w:World}{B j:Nat}{t:TypeId}{s n:Nat}{v:Value}{xs:List Value}(h:w.ownsRow j t s v n xs)(hB:B≤j):w.ownsRow B t s v n xs:=by
 refine⟨h.1,?_⟩;rcases h.2 with o|⟨g,cap,cur,C,I,J⟩;·exact .inl o
 exact .inr ⟨g,cap,cur,C,fR hB I,J⟩
theorem qiq {w0 R w:World}{B pb j k k' m:Nat}{p:cr}{A:Option Addr}{C:Nat}{x:cX}{l:List ByteArray}{a:Option Addr}{c:Nat}(h1:St w0 B pb j p A C m k x R)(hm:wi pb p A C k' m R w)(hr:Tx R.heap.size w (.slice a l.length c) l):
 St w0 B pb j p A C m k' {x with args:=l} (w.setCell ⟨j,5,none⟩ (.slice a l.length c)):=by
 obtain⟨aA,aC,fA,fC,Y,b0,o,a8,a1⟩:=h1.Nb;have I:=Y.kept hm.1 h1.ne;have rf:=be o hm.1 fun g J=>by rintro rfl;exact eo o h1.par.box (by decide) J
 have hp:=h1.moved hm;have ho:=qee hr h1.par.size;have kx:aa (fun b=>b≠j) w (w.setCell ⟨j,5,none⟩ (.slice a l.length c)):=kR.setCell (.inl fun h=>h rfl) _;have h3:=I.set 5 (.slice a l.length c);simp only[ga] at h3;refine⟨hp.kept.trans (kx.mono fun b I=>by have:=I.2;show b≠j;omega),hp.par.kept kx fun b I=>by show b≠j;omega,a,c,fA,fC,h3,?_,be rf kx fun g J=>by rintro rfl;exact eo rf I (by decide) J,?_,a1⟩;·exact be ho kx fun g J=>by rintro rfl;exact eo ho I (by decide) J
 intro b a6 a7;have e1:=(aD hr a6).1;have e2:=(aD o a7).2;omega
theorem qfu (B pb o:Nat)(p:cr)(A:Option Addr)(C k m k':Nat)(x:cX)(l:List ByteArray)(w:World)(h:PB w B pb p A C k m)(hx:Uh w B o x)(hp:p.Ok)(hq:p.is k 1=true)(I:qbp p (k+1)=some (l,k')):
 Calls prog 255 #[.pointer (some ⟨pb,0,none⟩),.pointer (some ⟨o,0,none⟩)] w (Ua B pb o p A C m k' {x with kind:=7,ref:=p.txt k,args:=l} w):=by
 have H0:=oH (St.first h hx);clear h hx;go_enter func255,ntmps255;go_wp2_with fail;refine(xi pb p A C _ m _ H0.out.par.pat hp hq).mono ?_;rintro e w1 ⟨rfl,hm⟩;have H1:=oH (H0.out.moved hm);clear hm;obtain⟨u0,J⟩:=H1.out.Nb.cellAt 0 (by decide);have R:=H1.out.Nb.free 0;obtain⟨u3,Y⟩:=H1.out.Nb.cellAt 3 (by decide);have a1:=H1.out.Nb.free 3;go_upto_region 1 with fail;have h2:=(H1.out.set 0 (.int .u8 7) (x':= {x with kind:=7}) rfl rfl (fun _ _=>rfl)).set 3 (.string (p.txt k)) (x':= {x with kind:=7,ref:=p.txt k}) rfl rfl (fun _ _=>rfl);generalize World.setCell (World.setCell w1 _ _) _ _=W2 at*;have j:=oH h2;clear h2 J R Y a1;go_wp2_with fail;refine(qci pb p A C (k+1) m k' l W2 j.out.par.pat hp I).mono ?_;rintro e w3 ⟨a,c,rfl,hm,hr⟩;have H3:=oH (qiq j.out hm hr);obtain⟨u5,a6⟩:=(j.out.moved hm).Nb.cellAt 5 (by decide);have a7:=(j.out.moved hm).Nb.free 5;clear hm hr;go_wp2_with fail
 go_end0
 exact⟨rfl,H3.out⟩
def qbY (p:cr)(k:Nat):Option (EL×Nat):=do
 let(s,j)←Ty p 1 (k+1)
 let(t,j)←Ty p 3 j
 let n←ia t
 if n<1∨256<n then none else
  let(v,j)←Ty p 1 j
  some (⟨s,n,v,p.pos k⟩,j)
end Go.Proofs.YtgdlhckhpolnnaaGreatDoor
