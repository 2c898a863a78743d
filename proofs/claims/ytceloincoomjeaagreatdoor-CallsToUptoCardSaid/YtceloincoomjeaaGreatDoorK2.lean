/- Part 3 of the proof of CallsTo (its last part says what is proved). No condition. -/
import Derived.Test.YtceloincoomjeaaGreatDoorK1
namespace Go.Proofs.YtceloincoomjeaaGreatDoor
set_option maxRecDepth 100000
set_option maxHeartbeats 8000000
open Go.RowKit Go.Proofs.Tryz
section
def ji (W:World)(B:Nat)(s:ByteArray)(p:Nat):World:= {W with heap:=W.heap.setIfInBounds B (.stringIter s p)}
theorem Bl {W:World}{B:Nat}{s:ByteArray}{p:Nat}(h:B<W.heap.size):(ji W B s p).heap[B]? =some (.stringIter s p):=by simp[ji,h]
theorem xm {S:Nat→Prop}{w W:World}{B:Nat}{s:ByteArray}{p:Nat}(h:aa S w W)(j:¬S B∨w.heap.size≤B):aa S w (ji W B s p):=by
 refine⟨h.os,h.output,by simpa [ji] using h.size,fun k C o=>?_⟩;have l:B≠k:=by rintro rfl;rcases j with j|j;exact j o;omega
 rw[←h.block k C o];simp[ji,Array.getElem?_setIfInBounds_ne l]
section
variable {P:Program}
theorem Jw (W:World)(B:Nat)(s:ByteArray)(pos:Nat)(ty:TypeId)(j:W.heap[B]? =some (.stringIter s pos))(h:pos<s.size):
 (Instr.next (.pointer (some ⟨B,0,none⟩)) true ty).run P W=.ok (.tuple #[.bool true,.int .i64 pos,.int .i32 (Utf8.decode s pos).1]) (ji W B s (pos+(Utf8.decode s pos).2)):=by
 simp only[Instr.next,getObj,setObj,Sem.run_bind,Sem.run,j,Result.andThen,h,if_true,ji];simp[goInt]
theorem Gl (W:World)(B:Nat)(s:ByteArray)(pos:Nat)(ty:TypeId)(j:W.heap[B]? =some (.stringIter s pos))(h:¬pos<s.size):
 (Instr.next (.pointer (some ⟨B,0,none⟩)) true ty).run P W=.ok (.tuple #[.bool false]) W:=by
 simp[Instr.next,getObj,Sem.run,j,h]
end
theorem ks (s:ByteArray)(pos:Nat)(h:pos<s.size):1≤(Utf8.decode s pos).2:=by
 by_cases j:(s[pos]' h).toNat<128;·rw[decode_ascii s pos h j];exact cf _
 exact(decode_high s pos h (by omega)).2
def fH (s:ByteArray):Nat→Nat→Nat→Bool
 |0,_,_=>false
 |f+1,pos,n=>if pos<s.size then
   (ey (Utf8.decode s pos).1||(pos !=0&&fY (Utf8.decode s pos).1))&&decide (n+1≤24)&&fH s f (pos+(Utf8.decode s pos).2) (n+1)
  else decide (0<n)
def dW (s:ByteArray):Bool:=fH s (s.size+1) 0 0
theorem jQ {s:ByteArray}{f pos n:Nat}(h:¬pos<s.size):fH s (f+1) pos n=decide (0<n):=by simp[fH,h]
theorem gK {s:ByteArray}{f pos n:Nat}(h:pos<s.size):fH s (f+1) pos n=((ey (Utf8.decode s pos).1||(pos !=0&&fY (Utf8.decode s pos).1))&&decide (n+1≤24)&&fH s f (pos+(Utf8.decode s pos).2) (n+1)):=by simp[fH,h]
theorem yL (s:ByteArray)(w:World):Calls prog 132 #[.string s] w fun e w'=>e=.returned (.bool (dW s))∧aa All w w':=by
 have b0:(w.iter s 0).heap[w.heap.size]? =some (.stringIter s 0):=World.iter_heap w s 0;have b1:aa All w (w.iter s 0):=(aa.refl _ w).alloc _;have H0:=J2 b0 b1;clear b0 b1;go_enter func132,ntmps132;go_wp2;go_loopg [3] (s.size+1) (fun g m wr=>∃pos n f:Nat,g=s.size+1-pos∧m=.int .i64 n∧n≤24∧s.size+1≤pos+f∧1≤f∧wr.heap[w.heap.size]? =some (.stringIter s pos)∧aa All w wr∧fH s f pos n=dW s);·exact⟨0,0,s.size+1,by omega,rfl,by omega,by omega,by omega,H0.1,H0.2,rfl⟩
 obtain⟨pos,n,f,rfl,rfl,hn,hf,b7,C,o,j⟩:=hrel;by_cases R:pos<s.size;·(
 obtain⟨f,rfl⟩:∃f',f=f'+1:=⟨f-1,by omega⟩;rw[gK R] at j;have b2:=fun ty=>Jw (P:=prog) wr w.heap.size s pos ty C R;have b5:=ks s pos R;have hB:w.heap.size<wr.heap.size:=by
  rcases Nat.lt_or_ge w.heap.size wr.heap.size with h|h;·exact h
  rw[jK h] at C;cases C
 have b3:aa All w (ji wr w.heap.size s (pos+(Utf8.decode s pos).2)):=xm o (.inr (cf _));have a6:=Bl (W:=wr) (s:=s) (p:=pos+(Utf8.decode s pos).2) hB;have b4:(ji wr w.heap.size s (pos+(Utf8.decode s pos).2)).heap.size=wr.heap.size:=by simp[ji]
 have Y:=J3 b3 a6 b4;clear b3 a6 b4 C o;generalize Utf8.decode s pos=rk at*;obtain⟨r,k⟩:=rk;have a7:=fun W=>Ay (r:Int) W;have a8:=fun W=>CM (r:Int) W;simp only at j b2 b5 Y⊢;generalize ey (r:Int)=L at*;generalize fY (r:Int)=D at*;have J:=J2 a7 a8;clear a7 a8;cases L with
 |true=>
  by_cases Z:n+1≤24
  ·have hd:decide ((24:Int)<(n:Int)+1)=false:=by simp;omega
   have I:=oH (show fH s f (pos+k) (n+1)=dW s by rw[←j,bL Z];simp);clear j;go_wp2_with (first|(go_at_call 171;refine(J.1 _).mono ?_;rintro e w1 ⟨rfl,l⟩;have H1:=oH l;clear l)|(go_at_call 172;refine(J.2 _).mono ?_;rintro e w' ⟨rfl,rfl⟩));go_roundg (s.size+1-(pos+k));·exact⟨pos+k,n+1,f,rfl,by go_num,by omega,by omega,by omega,(H1.out.block _ (by rw[Y.2.2];exact hB) trivial).trans Y.2.1,Y.1.trans H1.out,I.out⟩
   omega
  have hd:decide ((24:Int)<(n:Int)+1)=true:=by simp;omega
  have I:=oH (show dW s=false by rw[←j,cI Z];simp);clear j;go_wp2_with (first|(go_at_call 171;refine(J.1 _).mono ?_;rintro e w1 ⟨rfl,l⟩;have H1:=oH l;clear l)|(go_at_call 172;refine(J.2 _).mono ?_;rintro e w' ⟨rfl,rfl⟩));go_ret;exact⟨by rw[I.out];rfl,Y.1.trans H1.out⟩
 |false=>
  by_cases hp:pos=0
  ·have b6:((pos:Int)==0)=true:=by rw[cy];omega
   have a1:(pos !=0)=false:=by simpa using hp
   rw[a1] at j;clear a1 hp;have I:=oH (show dW s=false by rw[←j];simp);clear j;go_wp2_with (first|(go_at_call 171;refine(J.1 _).mono ?_;rintro e w1 ⟨rfl,l⟩;have H1:=oH l;clear l)|(go_at_call 172;refine(J.2 _).mono ?_;rintro e w' ⟨rfl,rfl⟩));go_ret;exact⟨by rw[I.out];rfl,Y.1.trans H1.out⟩
  have b6:((pos:Int)==0)=false:=by rw[bE];omega
  have a1:(pos !=0)=true:=by simpa using hp
  rw[a1] at j;clear a1;cases D with
  |false=>have I:=oH (show dW s=false by rw[←j];simp);clear j;go_wp2_with (first|(go_at_call 171;refine(J.1 _).mono ?_;rintro e w1 ⟨rfl,l⟩;have H1:=oH l;clear l)|(go_at_call 172;refine(J.2 _).mono ?_;rintro e w' ⟨rfl,rfl⟩));go_ret;exact⟨by rw[I.out];rfl,Y.1.trans H1.out⟩
  |true=>
   by_cases Z:n+1≤24;·(
 have hd:decide ((24:Int)<(n:Int)+1)=false:=by simp;omega
 have I:=oH (show fH s f (pos+k) (n+1)=dW s by rw[←j,bL Z];simp);clear j;go_wp2_with (first|(go_at_call 171;refine(J.1 _).mono ?_;rintro e w1 ⟨rfl,l⟩;have H1:=oH l;clear l)|(go_at_call 172;refine(J.2 _).mono ?_;rintro e w' ⟨rfl,rfl⟩));go_roundg (s.size+1-(pos+k));·exact⟨pos+k,n+1,f,rfl,by go_num,by omega,by omega,by omega,(H1.out.block _ (by rw[Y.2.2];exact hB) trivial).trans Y.2.1,Y.1.trans H1.out,I.out⟩
 omega)
   have hd:decide ((24:Int)<(n:Int)+1)=true:=by simp;omega
   have I:=oH (show dW s=false by rw[←j,cI Z];simp);clear j;go_wp2_with (first|(go_at_call 171;refine(J.1 _).mono ?_;rintro e w1 ⟨rfl,l⟩;have H1:=oH l;clear l)|(go_at_call 172;refine(J.2 _).mono ?_;rintro e w' ⟨rfl,rfl⟩));go_ret;exact⟨by rw[I.out];rfl,Y.1.trans H1.out⟩)
 obtain⟨f,rfl⟩:∃f',f=f'+1:=⟨f-1,by omega⟩;rw[jQ R] at j;have b2:=fun ty=>Gl (P:=prog) wr w.heap.size s pos ty C R;have I:=oH j;have HK:=oH o;clear j o C;go_wp2;go_ret;exact⟨by rw[←I.out];simp,HK.out⟩
end
def mu:List (List UInt8):=[[97,114,114,97,121],
 [102,110],
 [99,111,110,115,116],
 [112,104,105],
 [108,111,97,100],
 [119,114,97,112],
 [115,116,111,114,101],
 [99,97,108,108],
 [105,110,112,117,116],
 [111,117,116,112,117,116],
 [114,101,108,101,97,115,101],
 [106,117,109,112],
 [98,114,97,110,99,104],
 [114,101,116,117,114,110],
 [97,100,100],
 [115,117,98],
 [109,117,108],
 [100,105,118],
 [109,111,100],
 [97,110,100],
 [111,114],
 [120,111,114],
 [115,104,108],
 [115,104,114],
 [101,113],
 [108,101,115,115]]
def jv (s:ByteArray):Bool:=mu.any fun l=>s.toList==l
theorem zC (s:ByteArray)(w:World):Calls prog 133 #[.string s] w fun e j=>e=.returned (.bool (jv s))∧w=j:=by
 cases h:jv s with
 |false=>simp only[jv,mu,List.any_cons,List.any_nil,Bool.or_false,Bool.or_eq_false_iff] at h;obtain⟨h0,h1,h2,h3,h4,h5,h6,h7,h8,h9,l,o,C,I,J,R,Y,Z,a1,a6,a7,a8,b0,b1,b2,b3⟩:=h;go_enter func133,ntmps133;go_wp2;go_ret;exact⟨rfl,rfl⟩
 |true=>
  simp only[jv,mu,List.any_cons,List.any_nil,Bool.or_false,Bool.or_eq_true,cy] at h;rcases h with h|h|h|h|h|h|h|h|h|h|h|h|h|h|h|h|h|h|h|h|h|h|h|h|h|h
  all_goals
   go_enter func133,ntmps133;go_wp2;go_ret;exact⟨rfl,rfl⟩
def dM (N:Nat)(f:Nat→Value):Array Value:=((List.range N).map f).toArray
theorem cq {N:Nat}{f:Nat→Value}{i:Nat}(h:i<N):(dM N f)[i]? =some (f i):=by simp[dM,h]
theorem ew (N:Nat)(f:Nat→Value):(dM N f).size=N:=by simp[dM]
def qd (f:Nat→Value)(i:Nat)(v:Value):Nat→Value:=fun k=>if k=i then v else f k
theorem jd (f:Nat→Value)(i:Nat)(v:Value):qd f i v i=v:=by simp[qd]
theorem li {f:Nat→Value}{i k:Nat}{v:Value}(h:k≠i):qd f i v k=f k:=by simp[qd,h]
theorem jo {N:Nat}{f:Nat→Value}{i:Nat}{v:Value}:(dM N f).setIfInBounds i v=dM N (qd f i v):=by
 apply Array.ext_getElem?;intro j;rw[Array.getElem?_setIfInBounds];by_cases l:j<N
 ·rw[cq l,cq l,ew]
  by_cases e:i=j;·subst e;simp[l,jd]
  rw[ae e,li (fun x=>e x.symm)]
 have o:(dM N f)[j]? =none:=by rw[jK];rw[ew];omega
 have C:(dM N (qd f i v))[j]? =none:=by rw[jK];rw[ew];omega
 rw[o,C];split;·rw[ae (by rw[ew];omega)]
 rfl
theorem Lc:(prog.info? 38).map (fun i=>(i.zero,i.size,i.bytes))=some (some (.slice none 0 0),1,24):=by kernel_rfl
theorem vC (n:Nat)(R:n≤1048576)(w:World):(Instr.makeSlice 61 (.int .i64 n) (.int .i64 n)).run prog w=.ok (.slice (some ⟨w.heap.size,0,none⟩) n n) (w.alloc (.cells (dM n fun _=>.slice none 0 0) 38)):=by
 obtain⟨l,hi,C,I,J⟩:=info_parts Lc;rw[run_make (P:=prog) w 61 38 l (.slice none 0 0) underlying61 hi C .i64 .i64 n n (by omega) (by omega) (by rw[J];omega) (by omega)];have e:madeCells (Value.slice none 0 0).cells ((n:Int).toNat*l.size)=dM n fun _=>.slice none 0 0:=by(
 rw[I,dP,Nat.mul_one];apply Array.ext_getElem?;intro j;by_cases o:j<n;·rw[cq o];simp[madeCells,o,Value.cells,Nat.mod_one]
 rw[jK (by rw[size_madeCells];omega),jK (by rw[ew];omega)])
 rw[e,dP]
noncomputable def dB (ll:List (List Int)):List (List Bool):=(List.range ll.length).map (en ll)
def rP (ll:List (List Int))(B:Nat)(w wr:World)(k:Nat):Prop:=
 aa All w wr∧∃F:Nat→Value,al wr B 38 (dM ll.length F)∧∀i,i<k→gD (fun b=>B<b) wr (F i) (en ll i)
theorem qX {ll:List (List Int)}{w wr j:World}{k:Nat}{A:Option Addr}{n c:Nat}(h:rP ll w.heap.size w wr k)(hw:w.heap.size<wr.heap.size)(R:k<ll.length)(o:aa All wr j)
 (hu:gD (fun b=>wr.heap.size≤b) j (.slice A n c) (en ll k)):rP ll w.heap.size w (j.setCell ⟨w.heap.size,k,none⟩ (.slice A n c)) (k+1):=by
 obtain⟨C,F,I,J⟩:=h;have l:aa (fun b=>w.heap.size<b) j (j.setCell ⟨w.heap.size,k,none⟩ (.slice A n c)):=(aa.refl _ j).setCell (p:=⟨w.heap.size,k,none⟩) (.inl (Nat.lt_irrefl _)) _;refine⟨(C.trans o).setCell (.inr (cf _)) _,qd F k (.slice A n c),?_,fun i hi=>?_⟩;·rw[←jo];exact(I.kept o trivial).set _ _
 by_cases e:i=k
 ·subst e
  rw[jd];exact cR.keep l (cR.wide (fun b Y=>by omega) hu)
 rw[li e];exact cR.keep l (cR.keep o.all (J i (by omega)))
theorem sA {ll:List (List Int)}{w wr:World}(Y:ll.length≤256)(h:rP ll w.heap.size w wr ll.length):jE (fun b=>w.heap.size≤b) wr (.slice (some ⟨w.heap.size,0,none⟩) ll.length ll.length) (dB ll):=by
 obtain⟨Z,F,o,R⟩:=h;have e:(dB ll).length=ll.length:=by simp[dB]
 have:=Sl.of_blk (bw:=24) (E:=Sl 1 xC) (S:=fun b=>w.heap.size≤b) (l:=dB ll) (cap:=ll.length) o (cf _) (by omega) (by unfold maxLen;omega) (by omega) (fun i x J=>by
  simp only[dB,cL,oE] at J;obtain⟨j,C,rfl⟩:=J;have hi:i<ll.length:=by(
 rcases Nat.lt_or_ge i ll.length with h|h;·exact h
 rw[jz (by simp;omega)] at C;cases C)
  have I:j=i:=by
   have o:(List.range ll.length)[i]? =some i:=by simp[hi]
   rw[C] at o;exact kJ o
  subst I;exact⟨F j,cq hi,cR.wide (fun b hb=>by omega) (R j hi)⟩)
 rwa [e] at this
theorem rj (S:Nat→Prop)(v:Value)(ll:List (List Int))(w:World)(hv:Rows S w v ll)(hR:aP ll):
 Calls prog 22 #[v] w fun e w'=>∃u,e=.returned u∧aa All w w'∧jE (fun b=>w.heap.size≤b) w' u (dB ll):=by
 have l:=fun f hf w1 (hk:aa All w w1)=>ri S v ll f w1 (aq.keep hk.all hv) hR hf;obtain⟨a,cap,rfl,h1,h2,a6,h⟩:=hv;have hl:ll.length≤256:=hR.2.1;have HR:=J2 hR l;clear h h1 h2 a6 hR l;have b1:=fun w=>vC ll.length (by omega) w;go_enter func22,ntmps22;go_wp2;go_loopg [10] ll.length (fun g i wr=>∃k:Nat,k≤ll.length∧g=ll.length-k∧i=.int .i64 k∧w.heap.size<wr.heap.size∧rP ll w.heap.size w wr k);·exact⟨0,by omega,by omega,rfl,by simp,kR.alloc _,_,al.new _ _ _,fun i hi=>by omega⟩
 obtain⟨k,hk,rfl,rfl,a7,j⟩:=hrel;by_cases I:k<ll.length
 ·have Y:=oH j;clear j;go_wp2_with fail;refine(HR.2 k I _ Y.1).mono ?_;rintro e w1 ⟨u,rfl,C,hb⟩;have Z:=hb;obtain⟨A,c,rfl,_⟩:=hb;obtain⟨F,hF,_⟩:=Y.2;have J:=hF.kept C trivial;have R:=J.cell k;rw[cq I] at R;have a8:=J.free k;have o:=qX Y.out a7 I C Z;have a1:=C.size;have HS:=J2 o a1;clear C Z hF J o;go_wp2_with fail;go_roundg (ll.length-(k+1));·exact⟨k+1,by omega,rfl,by go_num,by simp;omega,HS.1⟩
  omega
 have b0:k=ll.length:=by omega
 subst b0;have Y:=oH j;clear j;go_wp2;go_ret;exact⟨_,rfl,Y.1,sA hl Y.out⟩
theorem tD (S:Nat→Prop)(v:Value)(ll:List (List Int))(w:World)(hv:Rows S w v ll)(hR:aP ll):
 Calls prog 32 #[v] w fun e w'=>∃u,e=.returned u∧aa All w w'∧jE (fun b=>w.heap.size≤b) w' u (dB ll):=by
 have l:=fun f hf w1 (hk:aa All w w1)=>nF S v ll f w1 (aq.keep hk.all hv) hR hf;obtain⟨a,cap,rfl,h1,h2,a6,h⟩:=hv;have hl:ll.length≤256:=hR.2.1;have HR:=J2 hR l;clear h h1 h2 a6 hR l;have b1:=fun w=>vC ll.length (by omega) w;go_enter func32,ntmps32;go_wp2;go_loopg [4] ll.length (fun g i wr=>∃k:Nat,k≤ll.length∧g=ll.length-k∧i=.int .i64 k∧w.heap.size<wr.heap.size∧rP ll w.heap.size w wr k);·exact⟨0,by omega,by omega,rfl,by simp,kR.alloc _,_,al.new _ _ _,fun i hi=>by omega⟩
 obtain⟨k,hk,rfl,rfl,a7,j⟩:=hrel;by_cases I:k<ll.length
 ·have Y:=oH j;clear j;go_wp2_with fail;refine(HR.2 k I _ Y.1).mono ?_;rintro e w1 ⟨u,rfl,C,hb⟩;have Z:=hb;obtain⟨A,c,rfl,_⟩:=hb;obtain⟨F,hF,_⟩:=Y.2;have J:=hF.kept C trivial;have R:=J.cell k;rw[cq I] at R;have a8:=J.free k;have o:=qX Y.out a7 I C Z;have a1:=C.size;have HS:=J2 o a1;clear C Z hF J o;go_wp2_with fail;go_roundg (ll.length-(k+1));·exact⟨k+1,by omega,rfl,by go_num,by simp;omega,HS.1⟩
  omega
 have b0:k=ll.length:=by omega
 subst b0;have Y:=oH j;clear j;go_wp2;go_ret;exact⟨_,rfl,Y.1,sA hl Y.out⟩
abbrev cO (α:Type):=(Nat→Prop)→World→List Value→α→Prop
def rx {α:Type}(n bw:Nat)(E:cO α):bT (List α):=fun S w v l=>
 ∃a cap,v=.slice a l.length cap∧l.length≤cap∧cap≤maxLen∧l.length*bw≤140737488355328∧
  ∀(i:Nat) (x:α),l[i]? =some x→∃b off cs,a=some ⟨b,off,none⟩∧S b∧cs.length=n∧(∀(j:Nat) c,cs[j]? =some c→w.cell? ⟨b,off+i*n+j,none⟩=some c)∧E S w cs x
structure cO.Good {α:Type}(E:cO α):Prop where
 keep:∀ {S w w' c x},aa S w w'→E S w c x→E S w' c x
 wide:∀ {S T:Nat→Prop} {w c x},(∀k,S k→T k)→E S w c x→E T w c x
theorem cH {α:Type}{n bw:Nat}{E:cO α}(g:cO.Good E):bT.Good (rx n bw E):=by
 constructor;·intro S w w' v l k h;obtain⟨a,cap,C,I,J,R,h⟩:=h;refine⟨a,cap,C,I,J,R,fun i x Y=>?_⟩;obtain⟨b,off,cs,e,o,Z,hc,he⟩:=h i x Y;exact⟨b,off,cs,e,o,Z,fun j c hj=>k.cell (p:=⟨b,off+i*n+j,none⟩) o (hc j c hj),g.keep k he⟩
 intro S T w v l k h;obtain⟨a,cap,C,I,J,R,h⟩:=h;refine⟨a,cap,C,I,J,R,fun i x Y=>?_⟩;obtain⟨b,off,cs,e,o,Z,hc,he⟩:=h i x Y;exact⟨b,off,cs,e,k b o,Z,hc,g.wide k he⟩
theorem rx.nil {α:Type}{n bw:Nat}{E:cO α}{S:Nat→Prop}{w:World}:rx n bw E S w (.slice none 0 0) []:=
 ⟨none,0,rfl,cf _,Nat.zero_le _,by simp,fun i x j=>by simp at j⟩
def EQ:bT ByteArray:=fun _ _ c s=>c=.string s
theorem iu:bT.Good EQ:=⟨fun _ h=>h,fun _ h=>h⟩
abbrev gB:=Sl 16 EQ
theorem ax:bT.Good gB:=oR iu
def U (x:BitVec 64):Value:=.int .u64 x.toNat
def Cz:bT (BitVec 64):=fun _ _ c x=>c=U x
theorem jO:bT.Good Cz:=⟨fun _ h=>h,fun _ h=>h⟩
abbrev nZ:=Sl 8 Cz
theorem dU:bT.Good nZ:=oR jO
def uy:cO (ByteArray×Int):=fun _ _ cs x=>cs=[.string x.1,.int .i64 x.2]∧(Lit.int .i64 x.2).wf=true
theorem FM:cO.Good uy:=⟨fun _ h=>h,fun _ h=>h⟩
abbrev kh:=rx 2 24 uy
theorem aX:bT.Good kh:=cH FM
structure aH where
 MZ:List ByteArray
 up:List (BitVec 64)
 Nb:List (ByteArray×Int)
 Na:List (ByteArray×Int)
 Nc:Int
def dJ (S:Nat→Prop)(w:World)(v:Value)(p:aH):Prop:=
 ∃a b c d,v=.agg #[a,b,c,d,.int .i64 p.Nc]∧gB S w a p.MZ∧nZ S w b p.up∧kh S w c p.Nb∧kh S w d p.Na∧(Lit.int .i64 p.Nc).wf=true
theorem cB:bT.Good dJ:=by
 constructor
 ·rintro S w J v p k ⟨a,b,c,d,rfl,j,l,o,C,I⟩
  exact⟨a,b,c,d,rfl,ax.keep k j,dU.keep k l,aX.keep k o,aX.keep k C,I⟩
 rintro S T w v p k ⟨a,b,c,d,rfl,j,l,o,C,I⟩;exact⟨a,b,c,d,rfl,ax.wide k j,dU.wide k l,aX.wide k o,aX.wide k C,I⟩
def gJ {α:Type}(p:α→Bool)(l:List α):Int:=if l.any p then(l.findIdx p:Int) else-1
theorem lL {α:Type}{p:α→Bool}{l:List α}{k:Nat}{x:α}(C:l[k]? =some x)(h:p x=true)(o:∀y∈l.take k,p y=false):gJ p l=k:=by
 obtain⟨j,rfl⟩:=lS.1 C;have I:l.any p=true:=mW.2 ⟨_,eL j,h⟩;have J:l.findIdx p=k:=by rw[List.findIdx_eq j];exact⟨h,fun m hm=>o _ (List.mem_take_iff_getElem.2 ⟨m,by omega,rfl⟩)⟩
 unfold gJ;rw[ap I,J]
theorem lM {α:Type}{p:α→Bool}{l:List α}(j:∀y∈l,p y=false):gJ p l= -1:=by
 have o:l.any p=false:=List.any_eq_false.2 fun x C=>by rw[j x C];simp
 unfold gJ;rw[o];rfl
theorem kT {α:Type}(p:α→Bool)(l:List α): -1≤gJ p l∧gJ p l<(l.length:Int)+1:=by unfold gJ;have:=List.findIdx_le_length (xs:=l) (p:=p);split<;>omega
theorem pP {α:Type}{p:α→Bool}{l:List α}{k:Nat}{x:α}(C:l[k]? =some x)(h:p x=false)(o:∀y∈l.take k,p y=false):∀y∈l.take (k+1),p y=false:=by
 intro y j;rw[cU,C] at j;rcases eD.1 j with j|j;·exact o y j
 rw[show y=x by simpa using j];exact h
section
open Go
section
variable {P:Program} {ops:Array Oper} {md:Region.Mode} {S:World→Prop} {T:List Tmp} {F:Tmp→Value→World→Prop} {L:Nat→Option (Value→Prop)}
def ij (ops:Array Oper)(T:List Tmp)(F:Tmp→Value→World→Prop)(o:Oper)(a:Act)(w:World):Prop:=
 ∀t∈o.looksAt ops,t∈T→∀v,a.tmps[t]? =some v→F t v w
def om (S:World→Prop)(T:List Tmp)(F:Tmp→Value→World→Prop)(o:Oper)(w w':World)(u:Value):Prop:=
 S w'∧(∀t∈T,∀v,F t v w→F t v w')∧∀d,o.dst=some d→d∈T→F d u w'
def kl (P:Program)(S:World→Prop)(T:List Tmp)(F:Tmp→Value→World→Prop)(V:Value→Prop)(o:Oper)(w:World):Result Next→Prop
 |.ok (.value u) w'=>V u∧om S T F o w w' u
 |.ok (.enter f args) w'=>Calls P f args w' (fun e w''=>∃u,e=.returned u∧V u∧om S T F o w w'' u)
 |_=>False
def Iq (P:Program)(ops:Array Oper)(S:World→Prop)(T:List Tmp)(F:Tmp→Value→World→Prop)(o:Oper)(a:Act)(v:Value):Prop:=
 ∀w,S w→ij ops T F o a w→(execOp a.eval o).run P w=.ok (.value v) w∧∀d,o.dst=some d→d∈T→F d v w
def fm (P:Program)(ops:Array Oper)(S:World→Prop)(T:List Tmp)(F:Tmp→Value→World→Prop)(o:Oper)(lab:Option (Value→Prop))(a:Act)(V:Value→Prop):Prop:=
 (Region.wanted o (yielded ops a.tmps)=true∧lab=none∧∃v,V=(·=v)∧Iq P ops S T F o a v)∨
 (Region.wanted o (yielded ops a.tmps)=true∧lab=some V∧∀w,S w→ij ops T F o a w→kl P S T F V o w ((execOp a.eval o).run P w))∨
 (Region.wanted o (yielded ops a.tmps)=false∧V=(·=undef)∧∀d,o.dst=some d→d∉T)
theorem fm.unique {o:Oper}{I:Option (Value→Prop)}{a:Act}{V Y:Value→Prop}(h:fm P ops S T F o I a V)(h':fm P ops S T F o I a Y){w:World}(hw:S w)(Z:ij ops T F o a w):V=Y:=by
 rcases h with ⟨C,J,v,rfl,h3⟩|⟨C,J,_⟩|⟨C,rfl,_⟩
 ·rcases h' with ⟨j,l,v',rfl,k3⟩|⟨j,l,_⟩|⟨j,_⟩
  ·have R:=(h3 w hw Z).1;rw[(k3 w hw Z).1] at R;iterate 2 injection R with R
   subst R;rfl
  ·rw[J] at l;cases l
  rw[C] at j;cases j
 ·rcases h' with ⟨j,l,_⟩|⟨j,l,_⟩|⟨j,_⟩
  ·rw[J] at l;cases l
  ·rw[J] at l;injection l
  rw[C] at j;cases j
 rcases h' with ⟨j,_⟩|⟨j,_⟩|⟨_,rfl,_⟩;·rw[C] at j;cases j
 ·rw[C] at j;cases j
 rfl
theorem fm.some_ {o:Oper}{C:Option (Value→Prop)}{a:Act}{V:Value→Prop}(h:fm P ops S T F o C a V){w:World}(hw:S w)(J:ij ops T F o a w):∃u l,V u∧om S T F o w l u:=by
 rcases h with ⟨_,_,v,rfl,j⟩|⟨_,_,j⟩|⟨_,rfl,j⟩;·exact⟨v,w,rfl,hw,fun _ _ _ h=>h,(j w hw J).2⟩
 ·(
 have h:=j w hw J;generalize (execOp a.eval o).run P w=r at h;cases r with
 |ok n l=>
  cases n<;>simp only[kl] at h
  case value u=>exact⟨u,l,h⟩
  case enter f args=>obtain⟨e,I,_,⟨u,_,R,Y⟩,_⟩:=h [];exact⟨u,I,R,Y⟩
 |halt x l=>simp only[kl] at h)
 exact⟨undef,w,rfl,hw,fun _ _ _ h=>h,fun d Z ht=>absurd ht (j d Z)⟩
theorem ij.put {o:Oper}{a:Act}{w:World}{dst:Option Tmp}{u:Value}(h:∀d,dst=some d→d∉o.looksAt ops):ij ops T F o (a.put dst u) w↔ij ops T F o a w:=by
 unfold ij;constructor
 ·intro I t l J v C;refine I t l J v ?_;cases dst with
  |none=>exact C
  |some d=>have j:d≠t:=fun e=>h d rfl (e▸l);simpa [Act.put,Array.getElem?_setIfInBounds_ne j] using C
 intro I t l J v C;refine I t l J v ?_;cases dst with
 |none=>exact C
 |some d=>have j:d≠t:=fun e=>h d rfl (e▸l);simpa [Act.put,Array.getElem?_setIfInBounds_ne j] using C
theorem fm.put {o:Oper}{j:Option (Value→Prop)}{a:Act}{V:Value→Prop}{dst:Option Tmp}{u:Value}(l:∀cs b,o.op≠.select cs b)(h:∀d,dst=some d→d∉o.looksAt ops):
 fm P ops S T F o j (a.put dst u) V↔fm P ops S T F o j a V:=by
 unfold fm Iq;rw[execOp_put o l a dst u h,wanted_put o a dst u h];simp only[ij.put h]
def eU (ops:Array Oper)(T:List Tmp)(F:Tmp→Value→World→Prop)(listed:Array Bool)(a:Act)(w:World):Prop:=
 ∀k o d,listed.getD k false=true→ops[k]? =some o→o.dst=some d→d∈T→∀v,a.tmps[d]? =some v→F d v w
def lk (md:Region.Mode)(ops:Array Oper)(T:List Tmp):Prop:=
 (∀(i j:Nat) (x y:Oper) (t:Tmp),ops[i]? =some x→ops[j]? =some y→x.dst=some t→y.dst=some t→t∈T→i=j)∧
 (∀(j:Nat) (y:Oper) (t:Tmp),ops[j]? =some y→t∈y.looksAt ops→t∈T→∃(k:Nat) (x:Oper),ops[k]? =some x∧x.dst=some t∧∃e∈y.after,Region.binds md e=true∧e.on=k)∧
 (∀t∈T,∃(k:Nat) (x:Oper),ops[k]? =some x∧x.dst=some t)
def ns (md:Region.Mode)(ops:Array Oper)(T:List Tmp):Bool:=
 (List.range ops.size).all (fun i=>(List.range ops.size).all fun j=>match ops[i]?,ops[j]? with
  |some x,some y=>(match x.dst,y.dst with|some t,some u=>!(t==u)||!T.contains t||i==j|_,_=>true)
  |_,_=>true)&&
 (List.range ops.size).all (fun j=>match ops[j]? with
  |some y=>(y.looksAt ops).all fun t=>!T.contains t||(List.range ops.size).any fun k=>match ops[k]? with
   |some x=>x.dst==some t&&y.after.any fun e=>Region.binds md e&&e.on==k
   |none=>false
  |none=>true)&&
 T.all fun t=>(List.range ops.size).any fun k=>match ops[k]? with|some x=>x.dst==some t|none=>false
theorem sU (h:ns md ops T=true):lk md ops T:=by
 unfold ns at h;simp only[gE,List.all_eq_true,fg] at h;obtain⟨⟨J,R⟩,Y⟩:=h;refine⟨fun i j x y t hi o l Z C=>?_,fun j y t o hl C=>?_,fun t C=>?_⟩
 ·have:=J i (mV.1 hi).1 j (mV.1 o).1
  simp only[hi,o,l,Z] at this;simpa [C] using this
 ·have:=R j (mV.1 o).1;simp only[o,List.all_eq_true] at this;have:=this t hl;simp only[Bool.or_eq_true,Bool.not_eq_true',List.contains_eq_mem,decide_eq_false_iff_not,C,not_true_eq_false,false_or,mW,fg] at this;obtain⟨k,hk,h⟩:=this;cases l:ops[k]? with
  |none=>simp[l] at h
  |some x=>simp only[l,gE,cy] at h;obtain⟨hd,he⟩:=h;obtain⟨e,he,I⟩:=Array.any_eq_true'.1 he;simp only[gE,cy] at I;exact⟨k,x,l,hd,e,he,I.1,I.2⟩
 have:=Y t C;simp only[mW,fg] at this;obtain⟨k,_,h⟩:=this;cases l:ops[k]? with
 |none=>simp[l] at h
 |some x=>simp only[l,cy] at h;exact⟨k,x,l,h⟩
theorem eU.pre {listed:Array Bool}{a:Act}{w:World}(hm:lk md ops T)(h:eU ops T F listed a w){j:Nat}{y:Oper}(R:j∈Region.ready md ops listed)(C:ops[j]? =some y):ij ops T F y a w:=by intro t Y I v Z;obtain⟨k,x,hx,hd,e,he,hb,hk⟩:=hm.2.1 j y t C Y I;obtain⟨_,o,J,l⟩:=mem_ready.1 R;rw[C] at J;cases J;have:=l e he hb;rw[hk] at this;exact h k x t this hx hd I v Z
theorem Az {listed:Array Bool}{i k:Nat}(h:(listed.setIfInBounds i true).getD k false=true):k=i∨listed.getD k false=true:=by
 by_cases e:i=k;·exact .inl e.symm
 rw[getD_set_ne false e] at h;exact .inr h
theorem eU.next {listed:Array Bool}{a:Act}{w Z:World}{i:Nat}{o:Oper}{u:Value}(h:eU ops T F listed a w)(hi:ops[i]? =some o)(g:om S T F o w Z u):eU ops T F (listed.setIfInBounds i true) (a.put o.dst u) Z:=by
 intro k x d I J hd R v j;by_cases e:o.dst=some d
 ·have l:v=u:=by(
 rw[e] at j;simp only[Act.put,Array.getElem?_setIfInBounds] at j;split at j
 ·split at j
  ·exact(kJ j).symm
  cases j
 rename_i h;exact absurd trivial h)
  subst l;exact g.2.2 d e R
 have l:a.tmps[d]? =some v:=by(
 cases C:o.dst with
 |none=>rw[C] at j;exact j
 |some d'=>rw[C] at j e;have Y:d'≠d:=fun x=>e (by rw[x]);simpa [Act.put,Array.getElem?_setIfInBounds_ne Y] using j)
 rcases Az I with rfl|I;·rw[hi] at J;cases J;exact absurd hd e
 exact g.2.1 d R v (h k x d I J hd R v l)
theorem eU.less {listed:Array Bool}{a:Act}{w:World}{j:Nat}{y:Oper}{u:Value}(hm:lk md ops T)(hj:ops[j]? =some y)(l:listed.getD j true=false)(h:eU ops T F (listed.setIfInBounds j true) (a.put y.dst u) w):eU ops T F listed a w:=by
 intro k x d C R Y Z v hv;have I:k≠j:=by
  rintro rfl;rcases Nat.lt_or_ge k listed.size with h'|h';·simp[h'] at C l;rw[C] at l;cases l
  simp[jK h'] at C
 have o:y.dst≠some d:=fun e=>I (hm.1 k j x y d R hj Y e Z);refine h k x d (getD_set_true C) R Y Z v ?_;cases J:y.dst with
 |none=>exact hv
 |some d'=>rw[J] at o;have:d'≠d:=fun x=>o (by rw[x]);simpa [Act.put,Array.getElem?_setIfInBounds_ne this] using hv
def oZ (P:Program)(md:Region.Mode)(ops:Array Oper)(S:World→Prop)(T:List Tmp)(F:Tmp→Value→World→Prop)(L:Nat→Option (Value→Prop))(Q:Act→Prop):Nat→Array Bool→Act→Prop
 |0,listed,a=>(∃w,S w∧eU ops T F listed a w)→Region.ready md ops listed=[]∧Q a
 |fuel+1,listed,a=>(∃w,S w∧eU ops T F listed a w)→(Region.ready md ops listed=[]→Q a)∧
  ∀i∈Region.ready md ops listed,∀o,ops[i]? =some o→∃V,fm P ops S T F o (L i) a V∧∀v,V v→oZ P md ops S T F L Q fuel (listed.setIfInBounds i true) (a.put o.dst v)
theorem iD {Q:Act→Prop}{Q':Exit→Act→World→Prop}(hm:lk md ops T)
 (R:∀listed a w,listed.size=ops.size→Region.ready md ops listed=[]→S w→eU ops T F listed a w→Q a→Q' .normal a w):∀(j:Nat) (listed:Array Bool) (a:Act) (w:World),listed.size=ops.size→S w→eU ops T F listed a w→
 oZ P md ops S T F L Q j listed a→wpAny P md ops Q' j listed a w
 |0,listed,a,w,hz,hw,l,h=>⟨(h ⟨w,hw,l⟩).1,R _ _ _ hz (h ⟨w,hw,l⟩).1 hw l (h ⟨w,hw,l⟩).2⟩
 |j+1,listed,a,w,hz,hw,l,h=>by(
 refine⟨fun h0=>R _ _ _ hz h0 hw l ((h ⟨w,hw,l⟩).1 h0),fun i hi=>?_⟩;have C:(listed.setIfInBounds i true).size=ops.size:=by rw[Array.size_setIfInBounds];exact hz
 obtain⟨_,o,J,_⟩:=mem_ready.1 hi;obtain⟨V,hy,hn⟩:=(h ⟨w,hw,l⟩).2 i hi o J;have hp:=l.pre hm hi J;unfold wpOp;simp only[J];rcases hy with ⟨Y,_,v,rfl,Z⟩|⟨Y,_,Z⟩|⟨Y,rfl,Z⟩;·rw[ap Y];left;obtain⟨I,hd⟩:=Z w hw hp;unfold Oper.wp;rw[I];exact iD hm R j _ _ w C hw (l.next J ⟨hw,fun _ _ _ h=>h,hd⟩) (hn v rfl)
 ·(
 rw[ap Y];left;have I:=Z w hw hp;unfold Oper.wp;generalize (execOp a.eval o).run P w=r at I;cases r with
 |ok n w'=>
  cases n<;>simp only[kl] at I<;>simp only[Oper.upon]
  case value u=>exact iD hm R j _ _ w' C I.2.1 (l.next J I.2) (hn u I.1)
  case enter f args=>(refine I.mono ?_;rintro e a1 ⟨u,rfl,hv,hg⟩;exact iD hm R j _ _ a1 C hg.1 (l.next J hg) (hn u hv))
 |halt x w'=>simp only[kl] at I)
 rw[ae (by rw[Y];exact oG)];exact iD hm R j _ _ w C hw (l.next J ⟨hw,fun _ _ _ h=>h,fun d hd ht=>absurd ht (Z d hd)⟩) (hn undef rfl))
theorem xw {Q:Act→Prop}{i:Nat}{oi:Oper}{V:Value→Prop}(hm:lk md ops T)(hi:ops[i]? =some oi)(Z:∀(j:Nat) (o:Oper) cs b,ops[j]? =some o→o.op≠.select cs b):
 ∀(l:Nat) (listed:Array Bool) (a:Act),
  (∀j R,ops[j]? =some R→j≠i→listed.getD j true=false→(∀e∈R.after,Region.binds md e=true→e.on≠i)→oi.apart ops R=true)→
  i∈Region.ready md ops listed→fm P ops S T F oi (L i) a V→
  (∀v,V v→oZ P md ops S T F L Q l (listed.setIfInBounds i true) (a.put oi.dst v))→oZ P md ops S T F L Q (l+1) listed a:=by
 intro l;induction l with
 |zero=>
  intro listed a _ hr hy H J;obtain⟨w0,a8,Y⟩:=J;obtain⟨v0,w1,b3,hg⟩:=hy.some_ a8 (Y.pre hm hr hi);have h1:=H v0 b3 ⟨w1,hg.1,Y.next hi hg⟩;refine⟨fun h=>(by rw[h] at hr;cases hr),fun j hj o ho=>?_⟩;by_cases C:j=i;·subst C;rw[hi] at ho;cases ho;exact⟨V,hy,H⟩
  have:=ready_mono hj C;rw[h1.1] at this;cases this
 |succ l ih=>
  intro listed a a6 hr hy H J;obtain⟨w0,a8,Y⟩:=J;obtain⟨v0,w1,b3,hg⟩:=hy.some_ a8 (Y.pre hm hr hi);have h1:=H v0 b3 ⟨w1,hg.1,Y.next hi hg⟩;refine⟨fun h=>(by rw[h] at hr;cases hr),fun j hj R I=>?_⟩;by_cases C:j=i;·subst C;rw[hi] at I;cases I;exact⟨V,hy,H⟩
  obtain⟨a7,c9,b1,b5⟩:=mem_ready.1 hj;rw[I] at b1;cases b1;have b6:∀e∈R.after,Region.binds md e=true→e.on≠i:=fun e he hb heq=>by(
 have h1:=b5 e he hb;have h0:=(mem_ready.1 hr).1;rw[heq] at h1;rcases Nat.lt_or_ge i listed.size with h'|h';·simp[h'] at h0 h1;rw[h0] at h1;cases h1
 simp[jK h'] at h1)
  obtain⟨a1,a2,a3⟩:=Oper.apart_spec (a6 j R I C a7 b6);obtain⟨Vj,c1,_⟩:=h1.2 j (ready_mono hj C) R I;have b2:=(fm.put (fun cs b=>Z j R cs b I) a1).1 c1;have c2:=Y.pre hm hj I
  have b0:∀k ok,ops[k]? =some ok→k≠i→(listed.setIfInBounds j true).getD k true=false→
   (∀e∈ok.after,Region.binds md e=true→e.on≠i)→oi.apart ops ok=true:=fun k ok hk c3 b7 c4=>by
   refine a6 k ok hk c3 ?_ c4;by_cases b8:j=k;·subst b8;exact a7
   rw[getD_set_ne true b8] at b7;exact b7
  refine⟨Vj,b2,fun u hu=>ih (listed.setIfInBounds j true) (a.put R.dst u) b0 (ready_mono hr (Ne.symm C)) ((fm.put (fun cs b=>Z i oi cs b hi) a3).2 hy) fun v hv=>?_⟩;have comm:=Act.put_comm a v u a2;have key:(∃w,S w∧eU ops T F ((listed.setIfInBounds j true).setIfInBounds i true) ((a.put R.dst u).put oi.dst v) w)→oZ P md ops S T F L Q l ((listed.setIfInBounds j true).setIfInBounds i true) ((a.put R.dst u).put oi.dst v):=by(
 rintro⟨w2,c5,b9⟩;rw[←comm,Array.setIfInBounds_comm _ _ C] at b9⊢;have b4:(listed.setIfInBounds i true).getD j true=false:=by rw[getD_set_ne true (Ne.symm C)];exact a7
 have c6:=b9.less hm I b4;obtain⟨V2,c7,c8⟩:=(H v hv ⟨w2,c5,c6⟩).2 j (ready_mono hj C) R I;have c0:=(fm.put (fun cs b=>Z j R cs b I) a1).1 c7;have:=b2.unique c0 a8 c2;subst this;exact c8 u hu)
  cases l with
  |zero=>exact fun J=>key J J
  |succ l=>exact fun J=>key J J
def nG (P:Program)(ops:Array Oper)(S:World→Prop)(T:List Tmp)(F:Tmp→Value→World→Prop)(L:Nat→Option (Value→Prop))(Q:Act→Prop):List Oper→Nat→Act→Prop
 | [],_,a=>Q a
 |o::rest,k,a=>∃V,fm P ops S T F o (L k) a V∧∀v,V v→nG P ops S T F L Q rest (k+1) (a.put o.dst v)
theorem pd {Q:Act→Prop}(hm:lk md ops T)(J:Region.noSelect ops=true):∀(l:List Oper) (k:Nat) (listed:Array Bool) (a:Act),(∀j,l[j]? =ops[k+j]?)→
 Region.lexFrom md ops l.length k listed=true→nG P ops S T F L Q l k a→oZ P md ops S T F L Q l.length listed a
 | [],_,_,_,_,C,h=>fun _=>⟨by simpa [Region.lexFrom] using C,h⟩
 |o::l,k,listed,a,R,C,h=>by(
 have Y:ops[k]? =some o:=by simpa using(R 0).symm
 simp only[kI,Region.lexFrom,gE] at C;obtain⟨⟨Z,hf⟩,I⟩:=C;obtain⟨V,hy,hK⟩:=h
 exact xw hm Y (Region.noSelect_spec J) l.length listed a (Region.free_spec Y hf) (by simpa using Z) hy
  fun v hv=>pd hm J l (k+1) _ _ (fun j=>by have:=R (j+1);simpa [Nat.add_assoc,Nat.add_comm 1 j] using this) I (hK v hv))
theorem vO {listed:Array Bool}(I:listed.size=ops.size)(h:Region.ready md ops listed=[])(J:∀(k:Nat) o,ops[k]? =some o→∀e∈o.after,Region.binds md e=true→e.on<k):∀n k,k≤n→k<ops.size→listed.getD k false=true:=by
 intro n;induction n with
 |zero=>
  intro k R j;obtain rfl:k=0:=by omega
  cases l:listed.getD 0 true with
  |true=>simpa [I,j] using l
  |false=>have:0∈Region.ready md ops listed:=mem_ready.2 ⟨l,_,Array.getElem?_eq_getElem j,fun e he C=>by have:=J 0 _ (Array.getElem?_eq_getElem j) e he C;omega⟩;rw[h] at this;cases this
 |succ n Y=>
  intro k R j;cases l:listed.getD k true with
  |true=>simpa [I,j] using l
  |false=>have:k∈Region.ready md ops listed:=mem_ready.2 ⟨l,_,Array.getElem?_eq_getElem j,fun e he C=>by have Z:=J k _ (Array.getElem?_eq_getElem j) e he C;exact Y e.on (by omega) (by omega)⟩;rw[h] at this;cases this
def BH (md:Region.Mode)(ops:Array Oper):Bool:=(List.range ops.size).all fun k=>match ops[k]? with|some o=>o.after.all fun e=>!Region.binds md e||decide (e.on<k)|none=>true
theorem BI (h:BH md ops=true):∀(k:Nat) o,ops[k]? =some o→∀e∈o.after,Region.binds md e=true→e.on<k:=by intro k o j e he l;unfold BH at h;simp only[List.all_eq_true,fg] at h;have:=h k (mV.1 j).1;simp only[j] at this;have:=Array.all_eq_true_iff_forall_mem.1 this e he;simpa [l] using this
theorem eK {id:Nat}{Q:Exit→Act→World→Prop}{a:Act}{w:World}{l:List Oper}(S:World→Prop)(T:List Tmp)(F:Tmp→Value→World→Prop)(L:Nat→Option (Value→Prop))(hm:P.follows .mixedOrders=true)(J:Region.lexB .any l.toArray=true)(hT:ns .any l.toArray T=true)(hA:BH .any l.toArray=true)
 (hS:S w.drew) (h:nG P l.toArray S T F L (fun I=>∀j,S j→(∀t∈T,∀v,I.tmps[t]? =some v→F t v j)→Q .normal I j) l 0 a):(Code.region id l.toArray true).wp P Q a w:=by
 simp only[Region.lexB,gE] at J;have C:=sU hT;refine wp_region_any hm (iD (S:=S) (T:=T) (F:=F) (L:=L) (Q:=fun I=>∀j,S j→(∀t∈T,∀v,I.tmps[t]? =some v→F t v j)→Q .normal I j) C (fun listed I j hz hr R hf h=>h j R fun t Z v hv=>?_) _ _ _ _ (by simp) hS (fun k o d Y=>by exfalso;simp only[Array.getD_eq_getD_getElem?,Array.getElem?_replicate] at Y;split at Y<;>simp at Y) ?_)
 ·obtain⟨k,x,hx,hd⟩:=C.2.2 t Z
  exact hf k x t (vO hz hr (BI hA) _ k (cf _) (mV.1 hx).1) hx hd Z v hv
 have:=pd (P:=P) (S:=S) (F:=F) (L:=L) C J.1 l 0 (Array.replicate l.toArray.size false) a (by simp) (by simpa using J.2) h;simpa using this
section steps
variable {Q:Act→Prop} {o:Oper} {rest:List Oper} {k:Nat} {a:Act}
theorem dQ (h:Q a):nG P ops S T F L Q [] k a:=h
theorem bG {v:Value}(hw:Region.wanted o (yielded ops a.tmps)=true)(j:L k=none)(l:∀d,o.dst=some d→d∉T)(h:∀w,S w→ij ops T F o a w→(execOp a.eval o).run P w=.ok (.value v) w)(C:nG P ops S T F L Q rest (k+1) (a.put o.dst v)):nG P ops S T F L Q (o::rest) k a:=
 ⟨_,.inl ⟨hw,j,v,rfl,fun w I J=>⟨h w I J,fun d R Y=>absurd Y (l d R)⟩⟩,fun _ e=>by subst e;exact C⟩
theorem gi {V:Value→Prop}(hw:Region.wanted o (yielded ops a.tmps)=true)(j:L k=some V)(h:∀w,S w→ij ops T F o a w→kl P S T F V o w ((execOp a.eval o).run P w))(l:∀v,V v→nG P ops S T F L Q rest (k+1) (a.put o.dst v)):nG P ops S T F L Q (o::rest) k a:=
 ⟨V,.inr (.inl ⟨hw,j,h⟩),l⟩
theorem jf (hw:Region.wanted o (yielded ops a.tmps)=false)(j:∀d,o.dst=some d→d∉T)(l:nG P ops S T F L Q rest (k+1) (a.put o.dst undef)):nG P ops S T F L Q (o::rest) k a:=
 ⟨_,.inr (.inr ⟨hw,rfl,j⟩),fun _ e=>by subst e;exact l⟩
end steps
end
end
end Go.Proofs.YtceloincoomjeaaGreatDoor
