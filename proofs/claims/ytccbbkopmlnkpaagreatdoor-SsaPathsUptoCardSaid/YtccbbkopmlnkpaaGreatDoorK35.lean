/- Part 36 of the proof (its last part says what is proved). No condition. -/
import Derived.Test.YtccbbkopmlnkpaaGreatDoorK34
namespace Go.Proofs.YtccbbkopmlnkpaaGreatDoor
set_option maxRecDepth 100000
set_option maxHeartbeats 8000000
open Go.RowKit Go.Proofs.Tryz
section
theorem Jm (f:FuncId)(w:World):(binOp .neq 198 (.func (.func f) #[] #[]) .nilFunc).run prog w=.ok (.bool true) w:=by kernel_rfl
theorem Jl (f:FuncId)(w:World):(binOp .eql 198 (.func (.func f) #[] #[]) .nilFunc).run prog w=.ok (.bool false) w:=by kernel_rfl
attribute [local go_sem] Jm Jl
theorem Ed {S:Nat→Prop}{w:World}{A:Option Addr}{n c:Nat}{s:ByteArray}{l:List ByteArray}(h:cC S w (.slice A (n+1) c) (s::l))(J:l.length=n):∃b o,A=some ⟨b,o,none⟩∧n+1≤c∧c≤maxLen∧w.cell? ⟨b,o,none⟩=some (.string s)∧S b∧cC S w (.slice (some ⟨b,o+1,none⟩) n (c-1)) l:=by obtain⟨b,o,e,R,Y⟩:=ic h (i:=0) rfl;obtain⟨a,cap,hv,h1,h2,h3,h4⟩:=h;injection hv with e1 e2 e3;subst e1;subst e3;subst e;simp only[lD] at h1 h3;refine⟨b,o,rfl,by omega,h2,Y,R,some ⟨b,o+1,none⟩,c-1,by rw[J],by omega,by omega,by omega,fun i x hx=>?_⟩;obtain⟨b',o',c',e',j,C,I⟩:=h4 (i+1) x (by simpa using hx);cases e';exact⟨b,o+1,c',rfl,j,by rw[Nat.add_right_comm,Nat.add_assoc];exact C,I⟩
def Bi (w0 s:ByteArray):Prop:=dD s=true∧(s.size=0∨dN s 0≠45)∧s.size≤65536∧(if w0.toList==[100,101,112,116,104] then(fM s).isSome=true else ax s=true)
def EK (W:World)(t:Tmp)(v:Value)(wn:World):Prop:=if t=10 then∃b,v=.map (some b)∧ft wn b ou else∃g,v=.pointer (some ⟨g,0,none⟩)∧W.heap.size≤g∧al wn g 200 #[.nilFunc,.int .i64 0]
theorem EK.keep {W wn C:World}(I:aa All wn C)(t:Tmp){v:Value}(h:EK W t v wn):EK W t v C:=by
 unfold EK at h⊢;split
 ·rename_i e;rw[am e] at h
  obtain⟨b,j,o⟩:=h;exact⟨b,j,o.kept I⟩
 rename_i e;rw[ah e] at h;obtain⟨g,j,o,J⟩:=h;exact⟨g,j,o,J.kept I trivial⟩
theorem Eu (w:World):(zeroValue 200).run prog w=.ok (.agg #[.nilFunc,.int .i64 0]) w:=by kernel_rfl
theorem jm (K n:Nat)(eg:∀args w,(callFunc K args).run prog w=.ok (.enter K args) w)(rd:Nat)(w0:ByteArray)(ws:List ByteArray)(S:Nat→Prop)(A:Option Addr)(c:Nat)(w:World)(hv:cC S w (.slice A (n+1) c) (w0::ws))(b0:gD ou w0=some (.agg #[.func (.func K) #[] #[],.int .i64 n]))(b1:ws.length=n)(e5:1≤n)(hn:n<100)(e6:w0.size≤65536)(b2:∀s∈ws,Bi w0 s)(R:World→Prop)
 (b3:∀wn A' c',aa All w wn→cC S wn (.slice A' n c') ws→Calls prog K #[.pointer (some ⟨rd,0,none⟩),.slice A' n c'] wn fun e w'=>e=.returned (.int .i64 0)∧R w'):
 Calls prog 71 #[.pointer (some ⟨rd,0,none⟩),.slice A (n+1) c] w fun e w'=>e=.returned (.int .i64 0)∧R w':=by
 obtain⟨b,o,rfl,h0,h1,J,c8,b4⟩:=Ed hv b1;have HV:=oH (fun wn (j:aa All w wn)=>j.cell (p:=⟨b,o,none⟩) trivial J);have c9:=oH b4;have d7:=oH b3;have d8:=oH b2;have b5:=J2 b0 (show w0.size≤maxLen by unfold maxLen;omega);have d9:=oH eg;have h2:¬c=1:=by omega
 clear hv J b4 b3 b2 b0 c8 eg;go_enter func71,ntmps71;go_upto_region 1 with fail;refine R1 6 w [10,5] (EK w) (fun i=>if i=0 then some (fun v=>∃b,v=.map (some b)) else if i=5 then some (fun v=>∃g,v=.pointer (some ⟨g,0,none⟩)) else none) ?_;refine O6 (fun wn j hp=>?_) (fun wn j hp=>?_) ?_
 ·go_simp
  refine(vk wn).mono ?_;rintro e wq ⟨b9,rfl,hm,Y⟩;exact .inl ⟨rfl,_,rfl,⟨_,rfl⟩,j.trans Y,fun t _ v h=>h.keep Y t,fun d hd _=>by cases hd;exact⟨b9,rfl,hm⟩⟩
 ·obtain⟨e,wq,_,⟨b9,rfl,hm,Y⟩,_⟩:=(vk wn) []
  exact⟨_,wq,⟨_,rfl⟩,j.trans Y,fun t _ v h=>h.keep Y t,fun d hd _=>by cases hd;exact⟨b9,rfl,hm⟩⟩
 rintro v ⟨b9,rfl⟩;simp only[PS];iterate 2 refine O0 ?_
 refine O3 (fun wn j hp=>by(have q0:=HV.out wn j;go_simp;with_reducible rfl)) ?_;refine rO (v:=(.agg #[.func (.func K) #[] #[],.int .i64 n])) (by rfl) (by rfl) (by rfl) (by intro d hd;cases hd;decide) (fun wn j hp=>by(obtain⟨b8,e8,hm⟩:=hp 10 (by decide) (by decide) _ rfl;cases e8;have hl:=DV w0 b5.2 hm;rw[b5.1] at hl;simp only[Option.getD_some] at hl;go_simp<;>with_reducible rfl)) ?_;simp only[PS];refine O6 (fun wn j hp=>?_) (fun wn j hp=>?_) ?_
 ·have hz:=Eu wn
  go_simp;exact⟨rfl,⟨_,rfl⟩,j.alloc _,fun t _ v h=>h.keep (kR.alloc _) t,fun d hd _=>by cases hd;exact⟨_,rfl,j.size,al.new _ _ _⟩⟩
 ·exact⟨.pointer (some ⟨wn.heap.size,0,none⟩),wn.alloc (.cells #[.nilFunc,.int .i64 0] 200),⟨_,rfl⟩,j.alloc _,fun t _ v h=>h.keep (kR.alloc _) t,fun d hd _=>by cases hd;exact⟨_,rfl,j.size,al.new _ _ _⟩⟩
 rintro v ⟨g,rfl⟩;simp only[PS];refine aD fun wt a6 hF=>?_;obtain⟨g9,e9,b6,I⟩:=hF 5 (by decide) _ rfl;cases e9;have HG:=J3 a6 b6 I;have c0:=I.cell 0;have c1:=I.cell 1;have f0:=I.free 0;have f1:=I.free 1;simp only[gc] at c0 c1;clear a6 hF b6 I;simp only[dK];go_upto_region 2 with fail;have a7:=(HG.2.2.set 0 (.func (.func K) #[] #[])).set 1 (.int .i64 n);simp only[ga] at a7;have k2:=(HG.1.setCell (p:=⟨g,0,none⟩) (.inr HG.2.1) (.func (.func K) #[] #[])).setCell (p:=⟨g,1,none⟩) (.inr HG.2.1) (.int .i64 n);clear c0 c1 f0 f1;generalize World.setCell _ ⟨g,1,none⟩ _=W2 at*;obtain⟨d0,d1⟩:=a7.c2;have H2:=J2 k2 a7;have c2:=oH (ap.keep k2.all c9.out);clear k2 a7;go_upto_region 4 with fail;clear d0 d1;go_upto_region 5 with fail;go_loopg [29] n (fun g e0 wr=>∃i:Nat,g=n-i∧i≤n∧e0=.int .i64 i∧aa All W2 wr);·exact⟨0,by omega,Nat.zero_le _,rfl,kR⟩
 obtain⟨i,h3,hi,rfl,j⟩:=hrel;obtain⟨wo,e1⟩:=eQ wr;subst e1;have HK:=oH j;clear j;by_cases c3:i<n;·(
 have hd:decide ((i:Int)<(n:Int))=true:=by simpa using c3
 obtain⟨s,hs⟩:∃s,ws[i]? =some s:=⟨_,lG (by omega)⟩;obtain⟨b7,o7,e7,_,e2⟩:=ic (ap.keep HK.out.all c2.out) hs;cases e7;obtain⟨a1,a2,a3,a4⟩:=d8.out s (mG hs);have HA:=oH a4;clear a4 hs;go_wp2_with fail;refine(pY s wo a1 a2 a3).mono ?_;rintro e w3 ⟨c4,v,rfl,_⟩;have a8:=oH (HK.out.trans c4);have h4:=HV.out w3 (H2.1.trans a8.out);clear c4 e2 a1 a2 a3;cases c5:(w0.toList==[100,101,112,116,104])
 case true=>(
 have C:=HA.out;rw[c5,am rfl] at C;rw[C];clear C;go_wp2;go_roundg (n-(i+1));·exact⟨i+1,rfl,by omega,by go_num,a8.out⟩
 omega)
 have C:=HA.out;rw[c5,ah (by decide)] at C;have HN:=oH C;clear C;go_wp2_with fail;refine(qD s w3).mono ?_;rintro e w4 ⟨rfl,c6⟩;rw[HN.out];have e3:=oH (a8.out.trans c6);clear c6;go_wp2;go_roundg (n-(i+1));·exact⟨i+1,rfl,by omega,by go_num,e3.out⟩
 omega)
 have hd:decide ((i:Int)<(n:Int))=false:=by simpa using c3
 go_upto_region 11 with fail;refine R0 5 wo (fun _=>none) ?_;iterate 4 refine O3 (fun wn j hp=>by(have q0:=(H2.2.kept (HK.out.trans j) trivial).cell 0;simp only[gc] at q0;go_simp;with_reducible rfl)) ?_
 refine O3 (fun wn j hp=>by(have q0:=(H2.2.kept (HK.out.trans j) trivial).cell 0;simp only[gc] at q0;go_simp;rw[am (by omega)])) ?_;refine aD fun wt a6 hF=>?_;have HT:=oH a6;clear a6 hF;simp only[List.drop_succ_cons];have h5:=d9.out;have c7:=oH (d7.out wt (some ⟨b,o+1,none⟩) (c-1) (H2.1.trans (HK.out.trans HT.out)) (ap.keep (HK.out.trans HT.out).all c2.out));go_wp2_with fail;refine c7.out.mono ?_;rintro e w9 ⟨rfl,hr⟩;have e4:=oH hr;clear hr;go_wp2_with fail;go_ret;exact⟨rfl,e4.out⟩
end
section
def zC (c:Nat):Bool:=c==32||c==9
def lN:List ByteArray:=Lib.splitB ⟨#[10]⟩ 0 (Lib.countB kD ⟨#[10]⟩) kD
def wL:ByteArray:=bs [108,111,119]
def re:ByteArray:=bs [104,105,103,104]
def iW:Nat→ByteArray×List ByteArray
 |0=>(bs [108,101,118,101,108],[wL])
 |1=>(bs [108,101,118,101,108],[re])
 |2=>(bs [102,108,111,119],[wL,re])
 |3=>(bs [105,110,112,117,116],[bs [107,101,121],re])
 |4=>(bs [111,117,116,112,117,116],[bs [110,101,116],wL])
 |_=>(bs [100,101,112,116,104],[bs [56]])
def GD:Nat→aI
 |0=>⟨[],[],[],[],0⟩
 |1=>⟨[wL],[],[],[],0⟩
 |2=>⟨[wL,re],[],[],[],0⟩
 |3=>⟨[wL,re],[],[],[],0⟩
 |4=>⟨[wL,re],[],[(bs [107,101,121],1)],[],0⟩
 |5=>⟨[wL,re],[],[(bs [107,101,121],1)],[(bs [110,101,116],0)],0⟩
 |_=>⟨[wL,re],[],[(bs [107,101,121],1)],[(bs [110,101,116],0)],8⟩
def Mb:Nat→List (Nat×Nat)
 |0=>[]|1=>[]|2=>[]|_=>[(0,1)]
theorem mZ:kD.size=72∧dD kD=true∧Lib.countB kD ⟨#[10]⟩=5:=⟨by kernel_rfl,by kernel_rfl,by kernel_rfl⟩
theorem Ad (k:Nat)(j:k<6):lN[k]? =some (lN.getD k dQ)∧(lN.getD k dQ).size≤100∧Lib.goFieldsP zC (lN.getD k dQ)=(iW k).1::(iW k).2∧0<(iW k).1.size∧dN (iW k).1 0≠35∧(iW k).2.length≤2:=by rcases (by omega:k=0∨k=1∨k=2∨k=3∨k=4∨k=5) with rfl|rfl|rfl|rfl|rfl|rfl;all_goals exact⟨by kernel_rfl,of_decide_eq_true (by kernel_rfl),by kernel_rfl,of_decide_eq_true (by kernel_rfl),of_decide_eq_true (by kernel_rfl),of_decide_eq_true (by kernel_rfl)⟩
instance (w0 s:ByteArray):Decidable (Bi w0 s):=by unfold Bi;infer_instance
theorem KB:∀k,k<6→∀s∈(iW k).2,Bi (iW k).1 s:=by intro k j;rcases (by omega:k=0∨k=1∨k=2∨k=3∨k=4∨k=5) with rfl|rfl|rfl|rfl|rfl|rfl;all_goals exact of_decide_eq_true (by kernel_rfl)
def xu (B rd k:Nat)(w w':World):Prop:=aa (fun b=>b<B∧b≠rd) w w'∧sd B rd w' (GD (k+1)) (Mb (k+1))
section
variable {B rd:Nat} {wo w wn:World} {S:Nat→Prop}
theorem sd.at_ {p:aI}{j:List (Nat×Nat)}(h:sd B rd wo p j)(o:aa All wo w)(C:aa All w wn):sd B rd wn p j:=h.keep (o.trans C).all
theorem jr {p:aI}{j:List (Nat×Nat)}{k:Nat}{e:Ending}{o:World}(C:aa All w wn)(h:kO B rd wn p j e o)(I:p=GD (k+1))(J:j=Mb (k+1)):e=.returned (.int .i64 0)∧xu B rd k w o:=by subst I;subst J;exact⟨h.1,C.all.trans h.2.1,h.2.2⟩
end
theorem DQ (B rd k:Nat)(hk:k<6)(wo w:World)(A:Option Addr)(n c:Nat)(h:sd B rd wo (GD k) (Mb k))(o:aa All wo w)(Y:cC (fun b=>wo.heap.size≤b) w (.slice A n c) ((iW k).1::(iW k).2)):
 Calls prog 71 #[.pointer (some ⟨rd,0,none⟩),.slice A n c] w fun e w'=>e=.returned (.int .i64 0)∧xu B rd k w w':=by
 have C:=KB k hk;have a1:n=(iW k).2.length+1:=by obtain⟨_,_,e,_⟩:=Y;injection e
 subst a1;rcases (by omega:k=0∨k=1∨k=2∨k=3∨k=4∨k=5) with rfl|rfl|rfl|rfl|rfl|rfl;·exact jm 177 1 (enters_of func177 (by kernel_rfl) rfl) rd _ _ _ A c w Y (by kernel_rfl) rfl (by decide) (by decide) (of_decide_eq_true (by kernel_rfl)) C _ fun wn I J j R=>(tO B rd _ wn (h.at_ o j) rfl rfl _ _ I J R (fun b hb=>⟨wo,h,hb,(o.trans j).all⟩) (of_decide_eq_true (by kernel_rfl)) (by decide)).mono fun e w' q=>jr j q rfl rfl
 ·exact jm 177 1 (enters_of func177 (by kernel_rfl) rfl) rd _ _ _ A c w Y (by kernel_rfl) rfl (by decide) (by decide) (of_decide_eq_true (by kernel_rfl)) C _ fun wn I J j R=>(tO B rd _ wn (h.at_ o j) rfl rfl _ _ I J R (fun b hb=>⟨wo,h,hb,(o.trans j).all⟩) (of_decide_eq_true (by kernel_rfl)) (by decide)).mono fun e w' q=>jr j q rfl rfl
 ·exact jm 178 2 (enters_of func178 (by kernel_rfl) rfl) rd _ _ _ A c w Y (by kernel_rfl) rfl (by decide) (by decide) (of_decide_eq_true (by kernel_rfl)) C _ fun wn I J j R=>(Ec B rd _ wn (h.at_ o j) _ _ _ I J R 0 1 (by kernel_rfl) (by kernel_rfl)).mono fun e w' q=>jr j q rfl rfl
 ·exact jm 179 2 (enters_of func179 (by kernel_rfl) rfl) rd _ _ _ A c w Y (by kernel_rfl) rfl (by decide) (by decide) (of_decide_eq_true (by kernel_rfl)) C _ fun wn I J j R=>(AY B rd _ _ wn (h.at_ o j) rfl _ _ _ I J R 1 (by kernel_rfl) (by decide) (of_decide_eq_true (by kernel_rfl))).mono fun e w' q=>jr j q rfl rfl
 ·exact jm 180 2 (enters_of func180 (by kernel_rfl) rfl) rd _ _ _ A c w Y (by kernel_rfl) rfl (by decide) (by decide) (of_decide_eq_true (by kernel_rfl)) C _ fun wn I J j R=>(zd B rd _ _ wn (h.at_ o j) rfl _ _ _ I J R 0 (by kernel_rfl) (by decide) (of_decide_eq_true (by kernel_rfl))).mono fun e w' q=>jr j q rfl rfl
 exact jm 181 1 (enters_of func181 (by kernel_rfl) rfl) rd _ _ _ A c w Y (by kernel_rfl) rfl (by decide) (by decide) (of_decide_eq_true (by kernel_rfl)) C _ fun wn I J j R=>(AX B rd _ _ wn (h.at_ o j) rfl _ _ I J 8 R (of_decide_eq_true (by kernel_rfl)) (by kernel_rfl) (C _ (ce.2 rfl)).2.1 (by kernel_rfl) (by decide) (by decide)).mono fun e w' q=>jr j q rfl rfl
end
section
def pr:Value→List Value
 |.agg xs=>xs.toList
 |_=>[]
section
variable {α:Type} {n:Nat} {e:TypeId} {El:aT α} {B pb:Nat} {W w:World} {v:Value} {l:List α} {x:α}
def im (El:aT α)(W:World)(n:Nat)(x:α)(y:Value)(w:World):Prop:=∃cs:List Value,y=.agg cs.toArray∧cs.length=n∧(∀u∈cs,u.oneCell'=true)∧El (fun b=>W.heap.size≤b∧b<w.heap.size) w cs x
theorem im.cells {y:Value}(h:im El W n x y w):(pr y).length=n∧∀u∈pr y,u.oneCell'=true:=by obtain⟨cs,rfl,j,o,_⟩:=h;exact⟨by simpa [pr] using j,by simpa [pr] using o⟩
theorem nL (g:aT.Good El){PS:Bool→World→Prop}{xs:List Value}(R:pb<W.heap.size)(r:W.ownsRow B e n v l.length xs)(o:v.ownBlock≠some pb)(C:∀b w I,aa (fun i=>v.ownBlock≠some i) w I→PS b w→PS b I):
 uA W (fun i=>i≠pb) v PS (im El W n x) where
 big:=fun i hi e=>by omega
 own:=fun b j=>⟨fun e=>o (e▸j),(au r j).2⟩
 ps:=C
 c:=fun y w I J ⟨cs,Y,h2,h3,h4⟩=>⟨cs,Y,h2,h3,g.wide (fun b j=>⟨j.1,by have:=J.size;omega⟩) (g.keep (J.mono fun b j=>⟨fun e=>by have:=(au r e).2;have:=j.1;omega,fun e=>by have:=j.1;omega⟩) h4)⟩
theorem pV (g:aT.Good El){wt Y:World}{u y:Value}{o:List (List Value)}{P:Nat→Prop}(a6:pb<B)(a7:B≤W.heap.size)(r:W.ownsRow B e n v l.length o.flatten)(h2:o.length=l.length)(h3:∀cs∈o,cs.length=n)
 (h4:∀b,P b→B≤b∧b<W.heap.size∧v.ownBlock≠some b) (h5:∀(i:Nat) x,l[i]? =some x→∃cs,o[i]? =some cs∧El P W cs x)
 (hk:aa (fun i=>v.ownBlock≠some i∧i≠pb) W wt) (q1:wt.ownsRow B e n u (l.length+1) (o.flatten++pr y)) (q2:im El W n x y Y) (q3:W.heap.size≤Y.heap.size) (q4:aa (fun b=>v.ownBlock≠some b∧b≠pb) Y wt) (I:u.ownBlock=v.ownBlock∨∀g,u.ownBlock=some g→Y.heap.size≤g):
 cq n e El B wt u (l++[x]):=by
 obtain⟨cs,rfl,c1,c2,c3⟩:=q2;have hz:=q4.size;refine⟨o++[cs],fun b=>P b∨(W.heap.size≤b∧b<Y.heap.size),?_,by simp[h2],?_,fun b j=>?_,fun i z C=>?_⟩
 ·rw[List.flatten_append,eV]
  simpa [pr] using q1
 ·intro c R
  rcases dV.1 R with R|R;·exact h3 c R
  rw[ce.1 R];exact c1
 ·rcases j with j|j
  ·have h:=h4 b j;refine⟨h.1,by have:=hk.size;omega,?_⟩;rcases I with I|I;·rw[I];exact h.2.2
   intro J;have:=I b J;omega
  refine⟨by omega,by omega,?_⟩;rcases I with I|I;·rw[I];intro J;have:=(au r J).2;omega
  intro J;have:=I b J;omega
 by_cases hi:i<l.length
 ·rw[lC hi] at C
  obtain⟨c,R,hE⟩:=h5 i z C;refine⟨c,by rw[lC (by omega)];exact R,g.wide (fun b j=>.inl j) (g.keep (hk.mono fun b j=>⟨(h4 b j).2.2,fun J=>by have:=(h4 b j).1;omega⟩) hE)⟩
 rw[jQ (by omega)] at C;have a1:i-l.length=0:=by have:=(lS.1 C).1;simp at this;omega
 rw[a1] at C;cases C;refine⟨cs,by rw[jQ (by omega),h2,a1];rfl,g.wide (fun b j=>.inr j) (g.keep (q4.mono fun b j=>⟨fun J=>by have:=(au r J).2;have:=j.1;omega,fun J=>by have:=j.1;omega⟩) c3)⟩
end
end
theorem fP {p:aL}(j:p.Ok)(k:Nat):(p.txt k).size≤140737488355328:=by have:=(lu j k).2;omega
theorem fL:dQ.size≤140737488355328:=by show 0≤140737488355328;omega
theorem Au {p:aL}(j:p.Ok)(k:Nat):p.pos k≤65536:=by
 unfold aL.pos;have o:=j.size;cases C:p.l[k]? with
 |none=>exact o
 |some t=>have h:=j.tok t (mG C);show t.beg≤_;omega
theorem vz {p:aL}(R:p.Ok):∀ {f n k:Nat} {I J o C:List ByteArray} {k':Nat},(∀s∈I,s.size≤140737488355328)→(∀s∈J,s.size≤140737488355328)→ry p f n k I J=some (o,C,k')→(∀s∈o,s.size≤140737488355328)∧(∀s∈C,s.size≤140737488355328)∧k<k'
 |0,_,_,_,_,_,_,_,_,_,h=>by cases h
 |f+1,n,k,I,J,o,C,k',h1,h2,h=>by(
 obtain⟨_,_,_,_,Y⟩:=qC h;have e1:∀s∈I++[p.txt k],s.size≤140737488355328:=fun s j=>by
  rcases dV.1 j with j|j;·exact h1 s j
  rw[ce.1 j];exact fP R k
 have e2:∀s∈J++[p.txt (k+1+1)],s.size≤140737488355328:=fun s j=>by
  rcases dV.1 j with j|j;·exact h2 s j
  rw[ce.1 j];exact fP R _
 split at Y
 ·have h6:=vz R e1 e2 Y
  exact⟨h6.1,h6.2.1,by omega⟩
 injection Y with f1 f2;injection f2 with f2 f3;subst f1;subst f2;subst f3;exact⟨e1,e2,by omega⟩)
theorem FX {p:aL}(j:p.Ok){k k':Nat}{x:aB}(h:mP p k=some (x,k')):qR x∧k<k':=by
 have R:=Au j k;have o:aS (p.pos k):=by unfold aS;omega
 have C:aS 0:=by unfold aS;omega
 have nil:∀s∈([]:List ByteArray),s.size≤140737488355328:=fun s J=>by cases J
 have one:∀i,∀s∈[p.txt i],s.size≤140737488355328:=fun i s J=>by rw[ce.1 J];exact fP j i
 rcases mQ h with ⟨_,_,hv⟩|⟨_,⟨_,_,rfl,rfl⟩|⟨_,_,_,_,rfl,rfl⟩|⟨_,_,rfl,rfl⟩⟩;·(
 rcases nt hv with ⟨_,n,_,I,rfl,rfl⟩|⟨_,_,fr,ar,k2,hq,_,rfl,rfl⟩
 ·have a1:n<9223372036854775808:=by(
 unfold fM at I;split at I;·cases I
 exact of_decide_eq_true (Option.filter_eq_some_iff.1 I).2)
  exact⟨⟨by show(1:Nat)<256;decide,by show(0:Nat)<256;decide,by unfold aS;show(-9223372036854775808:Int)≤(n:Int)∧(n:Int)≤9223372036854775807;omega,o,fP j k,fL,fL,nil,nil⟩,by omega⟩
 have Y:=vz j nil nil hq;exact⟨⟨by show(3:Nat)<256;decide,by show(0:Nat)<256;decide,C,o,fP j k,fL,fL,Y.2.1,Y.1⟩,by omega⟩)
 ·exact⟨⟨by show(11:Nat)<256;decide,by show(0:Nat)<256;decide,C,o,fL,fP j _,fL,nil,nil⟩,by omega⟩
 ·exact⟨⟨by show(12:Nat)<256;decide,by show(0:Nat)<256;decide,C,o,fL,fP j _,fP j _,one _,nil⟩,by omega⟩
 exact⟨⟨by show(13:Nat)<256;decide,by show(0:Nat)<256;decide,C,o,fL,fL,fL,one _,nil⟩,by omega⟩
theorem FR:(prog.info? 185).map (fun i=>(i.zero,i.size,i.bytes))=some (some (.agg #[.int .u8 0,.int .u8 0,.string ⟨#[]⟩,.string ⟨#[]⟩,.string ⟨#[]⟩,.slice none 0 0,.slice none 0 0,.int .i64 0,.int .i64 0]),9,120):=by kernel_rfl
theorem zL {p:aL}{f k k':Nat}{l c:List aB}(h:qX p (f+1) k l=some (c,k')):
 ((p.txt k=Hy∨ig p k=true)∧c=l∧k'=k)∨(¬p.txt k=Hy∧ig p k=false∧∃x j,mP p k=some (x,j)∧qX p f j (l++[x])=some (c,k')):=by
 rw[qX] at h;split at h;·rename_i o;cases h;exact .inl ⟨o,rfl,rfl⟩
 rename_i o;right;refine⟨fun e=>o (.inl e),by cases e:ig p k with|false=>rfl|true=>exact absurd (.inr e) o,?_⟩;cases hi:mP p k with
 |none=>rw[hi] at h;cases h
 |some y=>rw[hi] at h;exact⟨y.1,y.2,rfl,h⟩
theorem xJ {p:aL}{k k':Nat}{b:bM}(h:lF p k=some (b,k')):
 p.is k 1=true∧p.txt (k+1)=Kb∧∃c,qX p (p.l.length+1) (k+1+1) []=some (c,k')∧b=⟨p.txt k,c,p.pos k⟩:=by
 unfold lF jJ mn at h;by_cases j:p.is k 1=true
 ·by_cases o:p.txt (k+1)=Kb
  ·simp only[j,o,if_true,Option.bind_eq_bind,Option.bind_some] at h;cases C:qX p (p.l.length+1) (k+1+1) [] with
   |none=>rw[C] at h;cases h
   |some y=>rw[C] at h;cases h;exact⟨j,o,_,rfl,rfl⟩
  simp[j,o] at h
 simp[j] at h
theorem cP.moved {w j:World}{pb:Nat}{p:aL}{A:Option Addr}{C k m:Nat}(h:cP w)(I:pe w pb p A C k m)(o:aa (fun i=>i≠pb∧i<w.heap.size) w j):cP j:=by
 obtain⟨J,R⟩:=I.box.c2;refine⟨fun i hi=>o.cell (p:=⟨4,i,none⟩) ⟨fun e=>?_,gx _ _ (h.1 i hi)⟩ (h.1 i hi),fun i hi=>o.cell (p:=⟨3,i,none⟩) ⟨fun e=>?_,gx _ _ (h.2 i hi)⟩ (h.2 i hi)⟩
 ·have:=h.1 0 (by decide)
  rw[show 4=pb from e,J] at this;cases this
 have:=h.2 1 (by decide);rw[show 3=pb from e,R] at this;cases this
theorem FV {pb:Nat}{p:aL}{A:Option Addr}{C k' I:Nat}{x:aB}{W w j:World}{e:Ending}(h:vW pb p A C k' I x w e j)(hw:qR x)(Y:W.heap.size≤w.heap.size):
 ∃u,e=.returned u∧(∃a f,u=.agg (di x a f))∧aa (fun i=>i≠pb) w j∧pe j pb p A C k' I∧im rV W 9 x u j:=by
 obtain⟨hm,a,f,rfl,J,R⟩:=h;refine⟨_,rfl,⟨a,f,rfl⟩,hm.1,hm.2,_,rfl,rfl,?_,a,f,rfl,ap.wide (fun b o=>⟨by omega,o.2⟩) J,ap.wide (fun b o=>⟨by omega,o.2⟩) R,hw⟩;obtain⟨a1,a2,rfl,_⟩:=J;obtain⟨f1,f2,rfl,_⟩:=R;intro u hu;simp at hu;rcases hu with rfl|rfl|rfl|rfl|rfl|rfl|rfl|rfl|rfl<;>rfl
def Bl (pb:Nat)(p:aL)(A:Option Addr)(C k':Nat)(b:bM)(w:World)(e:Ending)(w':World):Prop:=
 ∃y m',e=.returned y∧m'≤k'∧aa (fun i=>i≠pb) w w'∧pe w' pb p A C k' m'∧im gO w 3 b y w'
structure Ez (w:World)(rb cb pb:Nat)(p:aL)(A:Option Addr)(C k0 k m:Nat)(l:List aB)(W:World):Prop where
 kept:aa (Wm pb w.heap.size) w W
 par:PB W w.heap.size pb p A C k m
 res:al W rb 171 #[.string ⟨#[]⟩,.slice none 0 0,.int .i64 0]
 box:∃A1 C1,al W cb 171 #[.string (p.txt k0),.slice A1 l.length C1,.int .i64 (p.pos k0)]∧cq 9 185 rV (cb+1) W (.slice A1 l.length C1) l
 low:w.heap.size≤rb∧rb<cb∧cb<W.heap.size
 few:m≤k∧l.length≤m
theorem Ez.moved {w W R:World}{o I pb:Nat}{p:aL}{A:Option Addr}{C Y k k' m j:Nat}{l:List aB}(h:Ez w o I pb p A C Y k m l W)(hm:dm pb p A C k' j W R)(hf:j≤k'∧l.length≤j):Ez w o I pb p A C Y k' j l R:=by have hl:=h.par.low;obtain⟨A1,C1,J,hr⟩:=h.box;have:=h.low;exact⟨h.kept.trans (hm.1.mono fun b J=>J.1),h.par.moved hm,h.res.kept hm.1 (by show o≠pb;omega),⟨A1,C1,J.kept hm.1 (by show I≠pb;omega),hr.keep fS hm.1 fun b h1 h2=>by show b≠pb;omega⟩,⟨this.1,this.2.1,by have:=hm.1.size;omega⟩,hf⟩
theorem Ez.all {w W j:World}{o I pb:Nat}{p:aL}{A:Option Addr}{C J k m:Nat}{l:List aB}(h:Ez w o I pb p A C J k m l W)(R:aa All W j):Ez w o I pb p A C J k m l j:=
 h.moved ⟨R.all,h.par.pat.keep R⟩ h.few
theorem Ez.laid {w W:World}{j o pb:Nat}{p:aL}{A:Option Addr}{C I k m J m1:Nat}{l:List aB}(h:Ez w j o pb p A C I k m l W)(R:cP w)(Y:pe w pb p A C J m1):cP W:=R.moved Y h.kept
theorem FW {p:aL}{k k':Nat}{x:aB}(h:mP p k=some (x,k')):k<p.l.length:=by
 rcases mQ h with ⟨h,_,_⟩|⟨_,⟨h,_⟩|⟨h,_⟩|⟨h,_⟩⟩;·exact FZ h
 all_goals exact lX (by rw[h];decide)
theorem BE (pb o cb:Nat)(p:aL)(hp:p.Ok)(A:Option Addr)(C j k m k1 m1:Nat)(code:List aB)(w W:World)(J:Option Addr)(R:Nat)(a:Act)(ht:a.tmps[2]? =some (.pointer (some ⟨o,0,none⟩)))(hd:a.defers=[])(_:pe w pb p A C k1 m1)(h4:p.l.length≤4096)
 (I:Ez w o cb pb p A C j k m code W) (hr:cq 9 185 rV (cb+1) W (.slice J code.length R) code):
 bodyPost prog Tryz.f128 (Bl pb p A C k ⟨p.txt j,code,p.pos j⟩ w) .ret a (((W.setCell ⟨o,0,none⟩ (.string (p.txt j))).setCell ⟨o,1,none⟩ (.slice J code.length R)).setCell ⟨o,2,none⟩ (.int .i64 (p.pos j))):=by
 have bF:=((I.res.set 0 (.string (p.txt j))).set 1 (.slice J code.length R)).set 2 (.int .i64 (p.pos j));have kF:=(((aa.refl (fun b=>b≠o) W).setCell (p:=⟨o,0,none⟩) (.inl fun h=>h rfl) (.string (p.txt j))).setCell (p:=⟨o,1,none⟩) (.inl fun h=>h rfl) (.slice J code.length R)).setCell (p:=⟨o,2,none⟩) (.inl fun h=>h rfl) (.int .i64 (p.pos j));simp only[ga] at bF;generalize World.setCell _ ⟨o,2,none⟩ _=WF at*;have a1:=I.low;have Y:=I.few;have a6:=I.par.le;have a7:=I.par.low;have r2:=(hr.keep fS kF (fun b h1 h2=>by show b≠o;omega)).read (bw:=120) fS (by omega);have a8:=kF.size;have kw:aa (fun b=>b≠pb) w WF:=by have h1:aa (fun b=>b≠pb∧b<w.heap.size) w WF:=I.kept.trans (kF.mono fun b hb=>by have:=hb.2;show b≠o;omega);exact⟨h1.os,h1.output,h1.size,fun i hi hS=>h1.block i hi ⟨hS,hi⟩⟩
 obtain⟨c0,c1,c2⟩:=bF.c3;refine bodyPost_ret (v:=.agg #[.string (p.txt j),.slice J code.length R,.int .i64 (p.pos j)]) (by simp[results,Tryz.results128,go_sem,ht,c0,c1,c2]) hd ⟨_,m,rfl,Y.1,kw,(I.par.kept kF fun b hb=>by show b≠o;omega).pat,[_,_,_],rfl,rfl,?_,_,rfl,?_,?_,?_⟩
 ·intro u hu
  simp at hu;rcases hu with rfl|rfl|rfl<;>rfl
 ·exact fK.wide (fun b hb=>⟨by omega,hb.2⟩) r2
 ·have:=Au hp j
  show aS ((p.pos j:Nat):Int);unfold aS;omega
 exact fP hp j
theorem tr (pb:Nat)(p:aL)(A:Option Addr)(C k m k':Nat)(b:bM)(w:World)(h:pe w pb p A C k m)(hp:p.Ok)(hl:cP w)(hm:m≤k)(h4:p.l.length≤4096)(hr:lF p k=some (b,k')):
 Calls prog 128 #[.pointer (some ⟨pb,0,none⟩)] w (Bl pb p A C k' b w):=by
 obtain⟨iI,d9,e0,e6,e7⟩:=info_parts FR;have IS:=J4 d9 e0 e6 e7;clear d9 e0 e6 e7;obtain⟨q1,q2,code,b1,rfl⟩:=xJ hr;have j3:=hp.len;have a6:=J3 h hl b1;obtain⟨W0,b8⟩:=eQ (w.alloc (.cells #[.string ⟨#[]⟩,.slice none 0 0,.int .i64 0] 171));have c8:aa All w W0:=by rw[b8];exact kR.alloc _
 have bR:al W0 w.heap.size 171 #[.string ⟨#[]⟩,.slice none 0 0,.int .i64 0]:=by rw[b8];exact al.new _ _ _
 have H0:=J4 b8 c8 bR (h.keep c8);clear h hl hr b1 b8 c8 bR;go_enter func128,ntmps128;go_upto_region 1 with fail;rw[show w.alloc (.cells #[.string ⟨#[]⟩,.slice none 0 0,.int .i64 0] 171)=W0 from H0.1.symm];go_wp2_with fail;refine(wP pb p A C k m W0 H0.2.2.2 hp).mono ?_;rintro e w1 ⟨rfl,a7⟩;have H1:=J3 (H0.2.2.2.keep a7) (H0.2.2.1.kept a7 trivial) (H0.2.1.trans a7);clear a7;go_wp2_with fail;refine(dE pb p A C k m w1 H1.1 hp q1).mono ?_;rintro e Y ⟨rfl,b9⟩;have b0:=H1.1.box.lt;have c6:=H0.2.2.1.lt;go_upto_region 2 with fail;have k3:aa All Y (Y.alloc (.cells #[.string (p.txt k),.slice none 0 0,.int .i64 (p.pos k)] 171)):=kR.alloc _;have b3:al (Y.alloc (.cells #[.string (p.txt k),.slice none 0 0,.int .i64 (p.pos k)] 171)) Y.heap.size 171 #[.string (p.txt k),.slice none 0 0,.int .i64 (p.pos k)]:=al.new _ _ _;obtain⟨rb,c9⟩:=eQ w.heap.size;obtain⟨cb,c3⟩:=eQ Y.heap.size;have c7:Y.heap.size<(Y.alloc (.cells #[.string (p.txt k),.slice none 0 0,.int .i64 (p.pos k)] 171)).heap.size:=by simp
 have e8:=a6.1.box.lt;have e9:Ez w rb cb pb p A C k (k+1) m [] (Y.alloc (.cells #[.string (p.txt k),.slice none 0 0,.int .i64 (p.pos k)] 171)):=by have kz:=b9.1.trans k3.all;have j4:=b9.1.size;have j5:=H1.2.2.size;have hP:=(a6.1.pb.kept H1.2.2 (fun _ _=>trivial)).moved b9;exact⟨(H1.2.2.all.trans (kz.mono fun b hb=>hb.1)),hP.kept k3 (fun _ _=>trivial),by rw[c9];exact H1.2.1.kept kz (by show w.heap.size≠pb;omega),⟨none,0,by rw[c3];exact b3,cq.nil⟩,⟨by omega,by have:=c6;have:=H1.2.1.lt;omega,by rw[c3];exact c7⟩,by omega,Nat.zero_le _⟩
 rw[←c3];generalize Y.alloc _=W3 at*;have H3:=oH e9;have HR:=J2 c9 e8;clear k3 b3 c7 c3 e9 b9 b0 c6 c9 e8;rw[←HR.1];go_wp2_with fail;refine(fm pb p A C (k+1) m ⟨#[58]⟩ W3 H3.out.par.pat hp q2 (by decide)).mono ?_;rintro e W4 ⟨rfl,h0⟩;have H4:=oH (H3.out.moved h0 ⟨by omega,Nat.zero_le _⟩);clear h0;go_wp2_with fail;go_loopg [] (p.l.length+1) (fun g wr=>∃(f k1 m1:Nat) (R:List aB),g=f∧qX p f k1 R=some (code,k')∧Ez w rb cb pb p A C k k1 m1 R wr);·exact⟨p.l.length+1,k+1+1,m,[],rfl,a6.2.2,H4.out⟩
 obtain⟨f,k1,m1,R,j8,d7,h3⟩:=hrel;obtain⟨wo,j2⟩:=eQ wr;subst j2;cases f with
 |zero=>cases d7
 |succ f=>
 have HS:=J2 h3 d7;clear h3 d7;go_wp2_with fail;refine(dS pb p A C k1 m1 0 wo HS.1.par.pat hp (by omega)).mono ?_;rintro e w1 ⟨rfl,a7⟩;rw[cJ];have J:=oH (HS.1.all a7);clear a7;rcases zL HS.2 with ⟨hex,e1,e2⟩|⟨a1,b2,x,j,h5,h6⟩
 ·subst e1;subst e2;by_cases a1:p.txt k'=Hy
  ·have h7:((p.txt k').toList==[125])=true:=by rw[nh _ _ Hy (by kernel_rfl),be a1]
   clear a1 hex;go_upto_region 5 with fail;obtain⟨A1,C1,I,b4⟩:=J.out.box;obtain⟨c0,c1,c2⟩:=I.c3;obtain⟨t0,t1,t2⟩:=J.out.res.c3;have f0:=J.out.res.free 0;have f1:=J.out.res.free 1;have f2:=J.out.res.free 2;have HB:=J2 I b4;clear I b4;go_wp2_with fail;exact BE pb rb cb p hp A C k k' m1 k m code w w1 A1 C1 _ rfl rfl a6.1 h4 J.out HB.2
  have b2:ig p k'=true:=hex.resolve_left a1;have h7:((p.txt k').toList==[125])=false:=by rw[nh _ _ Hy (by kernel_rfl),cN a1]
  have HE:=oH b2;clear a1 hex b2;go_wp2_with fail;refine(mV pb p A C k' m1 w1 J.out.par.pat hp).mono ?_;rintro e Y ⟨rfl,b6⟩;rw[HE.out];have o:=oH (J.out.all b6);clear b6;go_upto_region 5 with fail;obtain⟨A1,C1,I,b4⟩:=o.out.box;obtain⟨c0,c1,c2⟩:=I.c3;obtain⟨t0,t1,t2⟩:=o.out.res.c3;have f0:=o.out.res.free 0;have f1:=o.out.res.free 1;have f2:=o.out.res.free 2;have HB:=J2 I b4;clear I b4;go_wp2_with fail;exact BE pb rb cb p hp A C k k' m1 k m code w Y A1 C1 _ rfl rfl a6.1 h4 o.out HB.2
 have h7:((p.txt k1).toList==[125])=false:=by rw[nh _ _ Hy (by kernel_rfl),cN a1]
 have HE:=J3 b2 h5 h6;clear a1 b2 h5 h6;go_wp2_with fail;refine(mV pb p A C k1 m1 w1 J.out.par.pat hp).mono ?_;rintro e Y ⟨rfl,b6⟩;rw[HE.1];have o:=oH (J.out.all b6);clear b6;go_upto_region 4 with fail;obtain⟨A1,C1,I,h8,P,r1,r2,r3,r4,r5⟩:=o.out.box;have b0:=o.out.low;have j6:=o.out.few;have j7:=o.out.par.low;have j9:=FW HE.2.1;have h9:=FX hp HE.2.1;have d8:Value.ownBlock (.slice A1 R.length C1)≠some cb:=fun e=>by have:=(au r1 e).1;omega
 have i1:Value.ownBlock (.slice A1 R.length C1)≠some rb:=fun e=>by have:=(au r1 e).1;omega
 have i6:Value.ownBlock (.slice A1 R.length C1)≠some pb:=fun e=>by have:=(au r1 e).1;omega
 have HC:=oH (fun wn (hk:aa (fun i=>Value.ownBlock (.slice A1 R.length C1)≠some i∧i≠pb) Y wn) (hn:PB wn w.heap.size pb p A C k1 m1)=>Ap pb p A C k1 m1 j x wn hn.pat hp (a6.2.1.moved a6.1 (o.out.kept.trans (hk.mono fun b hb=>⟨fun e=>by have:=(au r1 e).1;have:=hb.2;omega,hb.1⟩))) (by omega) HE.2.1);have HV:=oH (fun wn (hk:aa (fun i=>Value.ownBlock (.slice A1 R.length C1)≠some i∧i≠pb) Y wn)=>show wn.cell? ⟨cb,1,none⟩=some (.slice A1 R.length C1) from(I.kept hk ⟨d8,by omega⟩).cell 1);have HG:=oH (nL fS (pb:=pb) (W:=Y) (x:=x) (PS:=(fun b wn=>PB wn w.heap.size pb p A C (if b then j else k1) (if b then m1+1 else m1))) (v:=(.slice A1 R.length C1)) (by omega) r1 i6 fun b wa wb hk hP=>hP.kept hk fun i hi e=>by have:=(au r1 e).1;omega);have HR:=J10 r1 (show PB Y.drew w.heap.size pb p A C (if false=true then j else k1) (if false=true then m1+1 else m1) from o.out.par.kept (S:=All) kR.drew fun _ _=>trivial) h9 d8 i1 r2 r3 r4 r5 I;clear r1 r2 r3 r4 r5 I h9 i6 d8 i1;refine cL 7 3 [4,5] (SY Y (fun i=>i≠pb) (cb+1) 185 9 (.slice A1 R.length C1) R.length h8.flatten (fun b wn=>PB wn w.heap.size pb p A C (if b then j else k1) (if b then m1+1 else m1))) [22,23,24] (FY Y (fun i=>i≠pb) (cb+1) 185 9 (.slice A1 R.length C1) R.length h8.flatten pr (im rV Y 9 x) 23 22) (fun i=>if i=3 then some (fun u=>∃a f,u=.agg (di x a f)) else if i=4 then some kI else if i=5 then some (jv R.length) else none) (fun _=>false) (fun _ _=>False) (by kernel_rfl) (by kernel_rfl) (by kernel_rfl) (by kernel_rfl) (yn _ _ _) (by kernel_rfl) (by decide) (SY.first HR.1 HR.2.1) (fun _ _ _ h=>h.elim) ?_;simp only[tK];refine aJ (by rfl) (by rfl) (by rfl) (by decide) (by intro d hd;cases hd;decide) (fun b wn hs hp=>by(have q:=HV.out wn hs.1;skip;go_simp;with_reducible rfl)) ?_;simp only[PS];refine aJ (by rfl) (by rfl) (by rfl) (by decide) (by intro d hd;cases hd;decide) (fun b wn hs hp=>by(have q:=HV.out wn hs.1;skip;go_simp;with_reducible rfl)) ?_;simp only[PS];refine aJ (by rfl) (by rfl) (by rfl) (by decide) (by intro d hd;cases hd;decide) (fun b wn hs hp=>by(have q:=HV.out wn hs.1;skip;go_simp;with_reducible rfl)) ?_;simp only[PS];refine gr (V:=(fun u=>∃a f,u=.agg (di x a f))) HG.out (by rfl) (by rfl) (by rfl) rfl (by decide) (fun wn hs=>⟨_,_,by(have q:=HV.out wn hs.1;go_simp<;>with_reducible rfl),(HC.out wn hs.1 hs.2.2).mono fun e w' h=>by obtain⟨u,e1,e2,e3,e4,e5⟩:=FV h HR.2.2.1.1 hs.1.size;exact⟨u,e1,e2,e3,hs.2.2.moved ⟨e3,e4⟩,e5⟩⟩) ?_;rintro u ⟨a0,f0,rfl⟩;simp only[PS];refine iG HG.out (by decide) (by rfl) (by rfl) (by rfl) rfl (by decide) _ rfl (by decide) (fun wn hs=>by(simp only[di,pr];go_simp<;>with_reducible rfl)) ?_;intro g;simp only[PS];refine iE HG.out (by decide) (by rfl) (by rfl) (by rfl) rfl (by decide) (by decide) (.tmp 20) 169 rfl iI _ 120 underlying169 IS.1 IS.2.1 IS.2.2.1 IS.2.2.2 rfl (by decide) rfl g rfl (by decide) (fun y w hy=>hy.cells) (by unfold maxLen;omega) (by omega) (by omega) ?_;intro A5 c5;simp only[PS];refine aJ (by rfl) (by rfl) (by rfl) (by decide) (by intro d hd;cases hd;decide) (fun b wn hs hp=>by(have q:=HV.out wn hs.1;skip;go_simp;with_reducible rfl)) ?_;simp only[PS];refine ku fun wt i7 hF=>?_;have c4:=hF 24 (by simp) _ rfl;unfold FY at c4;rw[ah (by decide),ah (by decide)] at c4;have HT:=oH (show SY _ _ _ _ _ _ _ _ _ _ _ from i7);have HA:=oH c4;clear i7 hF c4;simp only[dK];have b7:=HR.2.2.2.2.2.2.2.2.2.kept HT.1 ⟨HR.2.2.2.1,by omega⟩;have b5:=b7.cell 1;have f5:=b7.free 1;simp only[gc] at b5;clear b7;go_wp2_with fail;go_roundg f
 ·refine⟨f,j,m1+1,R++[x],rfl,HE.2.2,?_⟩;obtain⟨y,wz,q1,q2,q3,q4,q5⟩:=HA.out;have b7:=HR.2.2.2.2.2.2.2.2.2.kept HT.1 ⟨HR.2.2.2.1,by omega⟩;have j0:=pV fS (pb:=pb) (B:=cb+1) (by omega) (by omega) HR.1 HR.2.2.2.2.2.1 HR.2.2.2.2.2.2.1 HR.2.2.2.2.2.2.2.1 HR.2.2.2.2.2.2.2.2.1 HT.1 q1 q2 q3 q4 q5;have kc:aa (fun b=>b≠cb) wt (wt.setCell ⟨cb,1,none⟩ (.slice A5 (R.length+1) c5)):=kR.setCell (.inl fun h=>h rfl) _;have j1:=b7.set 1 (.slice A5 (R.length+1) c5);simp only[ga] at j1;have a8:(R++[x]).length=R.length+1:=by simp
  refine⟨(o.out.kept.trans (HT.1.mono fun b hb=>⟨fun e=>by have:=(au HR.1 e).1;have:=hb.2;omega,hb.1⟩)).trans (kc.mono fun b hb=>by have:=hb.2;show b≠cb;omega),(show PB wt w.heap.size pb p A C j (m1+1) from HT.2.2).kept kc (fun b hb=>by show b≠cb;omega),(o.out.res.kept HT.1 ⟨HR.2.2.2.2.1,by omega⟩).kept kc (by show rb≠cb;omega),⟨A5,c5,by rw[a8];exact j1,by rw[a8];exact j0.keep fS kc fun b h1 h2=>by show b≠cb;omega⟩,⟨b0.1,b0.2.1,by have:=HT.1.size;have:=kc.size;omega⟩,?_,?_⟩;·have:=HR.2.2.1.2;omega
  rw[a8];omega
 omega
end Go.Proofs.YtccbbkopmlnkpaaGreatDoor
