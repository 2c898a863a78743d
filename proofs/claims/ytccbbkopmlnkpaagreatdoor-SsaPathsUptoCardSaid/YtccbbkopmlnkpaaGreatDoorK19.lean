/- Part 20 of the proof (its last part says what is proved). No condition. -/
import Derived.Test.YtccbbkopmlnkpaaGreatDoorK17
namespace Go.Proofs.YtccbbkopmlnkpaaGreatDoor
set_option maxRecDepth 100000
set_option maxHeartbeats 8000000
open Go.RowKit Go.Proofs.Tryz
def iY (B:Nat)(wr:World)(o:Value)(L:List (List Int)):Prop:=
 ∃vs:List Value,wr.ownsRow B 38 1 o L.length vs∧∀(i:Nat) x,L[i]? =some x→∃c,vs[i]? =some c∧bu (fun b=>B≤b∧b<wr.heap.size∧o.ownBlock≠some b) wr c x
theorem iY.nil {B:Nat}{w:World}:iY B w (.slice none 0 0) []:=⟨[],⟨rfl,.inl ⟨rfl,rfl⟩⟩,fun i x j=>by simp at j⟩
theorem iY.keep {B:Nat}{wr C:World}{o:Value}{L:List (List Int)}(h:iY B wr o L)(k:aa (fun b=>B≤b∧b<wr.heap.size) wr C):iY B C o L:=by obtain⟨J,I,R⟩:=h;refine⟨J,ay I k fun g Y=>au I Y,fun i x hx=>?_⟩;obtain⟨c,hc,hE⟩:=R i x hx;exact⟨c,hc,ae.wide (fun b j=>⟨j.1,Nat.lt_of_lt_of_le j.2.1 k.size,j.2.2⟩) (ae.keep (k.mono fun b j=>⟨j.1,j.2.1⟩) hE)⟩
theorem iY.app {B:Nat}{C R:World}{o v2 c:Value}{L:List (List Int)}{row:List Int}{Y:List Value}
 (b0:∀(i:Nat) x,L[i]? =some x→∃c,Y[i]? =some c∧bu (fun b=>B≤b∧b<C.heap.size∧o.ownBlock≠some b) C c x) (a1:C.ownsRow B 38 1 o L.length Y)
 (hr:bu (fun b=>B≤b∧b<C.heap.size∧o.ownBlock≠some b) C c row)
 (I:R.ownsRow B 38 1 v2 (L.length+1) (Y++[c])) (a6:(C.alloc (.cells #[c] 38)).grownBy R o.ownBlock)
 (b1:v2.ownBlock=o.ownBlock∨v2.ownBlock=some (C.alloc (.cells #[c] 38)).heap.size):iY B R v2 (L++[row]):=by
 have k2:aa (fun b=>o.ownBlock≠some b) C R:=((aa.refl _ C).alloc _).grown a6 fun g hg=>.inl fun h=>h hg;have b3:C.heap.size+1≤R.heap.size:=by have:=a6.size;simpa using this
 have a7:∀b,b<C.heap.size→o.ownBlock≠some b→v2.ownBlock≠some b:=by
  intro b j ho;rcases b1 with h|h;·rw[h];exact ho
  rw[h];simp;omega
 have b2:Y.length=L.length:=by have:=a1.1;omega
 refine⟨Y++[c],by simpa using I,fun i x J=>?_⟩;by_cases hi:i<L.length
 ·rw[lC hi] at J
  obtain⟨c',hc,hE⟩:=b0 i x J;refine⟨c',by rw[lC (by omega)];exact hc,?_⟩;exact ae.wide (fun b j=>⟨j.1,by have:=j.2.1;omega,a7 b j.2.1 j.2.2⟩) (ae.keep (k2.mono fun b j=>j.2.2) hE)
 rw[jQ (by omega)] at J;have a8:i-L.length=0:=by
  rcases Nat.eq_zero_or_pos (i-L.length) with h|h;·exact h
  rw[kS (by simp;omega)] at J;cases J
 rw[a8] at J;cases J;refine⟨c,by rw[jQ (by omega),b2,a8];rfl,?_⟩;exact ae.wide (fun b j=>⟨j.1,by have:=j.2.1;omega,a7 b j.2.1 j.2.2⟩) (ae.keep (k2.mono fun b j=>j.2.2) hr)
theorem iY.rows {B:Nat}{w:World}{o:Value}{L:List (List Int)}(h:iY B w o L)(hl:L.length≤1048576):Rows (fun b=>B≤b) w o L:=by obtain⟨vs,j,C⟩:=h;refine Sl.of_own j (by omega) (fun g I=>(au j I).1) fun i x J=>?_;obtain⟨c,R,Y⟩:=C i x J;exact⟨c,R,ae.wide (fun b hb=>hb.1) Y⟩
def lB (n k:Nat)(cs cs':Array Value):Prop:=cs'.size=cs.size∧∀m,m<n→cs'[m]? =if m<k∨n≤m+k then cs[n-1-m]? else cs[m]?
theorem lB.step {n k:Nat}{cs j:Array Value}{x y:Value}(h:lB n k cs j)(hk:k+k+1<n)(hn:n≤cs.size)(Y:j[n-1-k]? =some x)(hy:j[k]? =some y):
 lB n (k+1) cs ((j.setIfInBounds k x).setIfInBounds (n-1-k) y):=by
 refine⟨by simp[h.1],fun m hm=>?_⟩;have o:=h.2 (n-1-k) (by omega);rw[ah (by omega),Y] at o;have C:=h.2 k (by omega);rw[ah (by omega),hy] at C;rw[Array.getElem?_setIfInBounds,Array.getElem?_setIfInBounds];simp only[Array.size_setIfInBounds,h.1];by_cases I:n-1-k=m
 ·rw[am I,am (by omega),am (by omega),C]
  congr 1;omega
 rw[ah I];by_cases J:k=m
 ·rw[am J,am (by omega),am (by omega),o]
  congr 1;omega
 rw[ah J,h.2 m hm];by_cases R:m<k∨n≤m+k;·rw[am R,am (by omega)]
 rw[ah R,ah (by omega)]
theorem lB.mid {n k:Nat}{cs j:Array Value}(h:lB n k cs j){m:Nat}(o:k≤m)(C:m+k<n):j[m]? =cs[m]?:=by rw[h.2 m (by omega),ah (by omega)]
theorem lB.full {n k:Nat}{cs j:Array Value}(h:lB n k cs j)(o:n≤k+k+1)(m:Nat)(hm:m<n):j[m]? =cs[n-1-m]?:=by
 rw[h.2 m hm];split;·rfl
 congr 1;omega
theorem wT (g n c:Nat)(t:TypeId)(cs:Array Value)(w:World)(hb:al w g t cs)(hn:n≤cs.size)(h1:1≤n)(h2:n≤4096)(_:n≤c)(a1:∀m,m<n→∃x:Int,cs[m]? =some (.int .u8 x)):
 Calls prog 214 #[.slice (some ⟨g,0,none⟩) n c] w fun e w'=>e=.returned (.tuple #[])∧aa (fun b=>b≠g) w w'∧∃I,al w' g t I∧∀m,m<n→I[m]? =cs[n-1-m]?:=by
 have HB:=oH hb;have HS:=oH a1;clear hb a1;have hl:n≤9223372036854775807:=by omega
 go_enter func214,ntmps214;go_wp2;go_loopg [2,3] n (fun gg i j wr=>∃(k:Nat) (I:Array Value),k≤n∧gg=n-k∧i=.int .i64 k∧j=.int .i64 ((n:Int)-1-k)∧aa (fun b=>b≠g) w wr∧al wr g t I∧lB n k cs I);·exact⟨0,cs,by omega,by omega,rfl,by go_num,kR,HB.out,rfl,fun m hm=>by rw[ah (by omega)]⟩
 obtain⟨k,I,hk,rfl,rfl,rfl,C,o,J⟩:=hrel;by_cases a6:k+k+1<n;·(
 have a7:I.size=cs.size:=J.1;obtain⟨x1,R⟩:=HS.out (n-1-k) (by omega);obtain⟨x2,Y⟩:=HS.out k (by omega);rw[←J.mid (by omega) (by omega)] at R;rw[←J.mid (by omega) (by omega)] at Y;have e:((n:Int)-1-k)=((n-1-k:Nat):Int):=by omega
 obtain⟨j,hj⟩:=eQ (n-1-k);rw[e,←hj];rw[←hj] at R;have c1:=o.cell j;have c2:=o.cell k;have f1:=o.free j;have f2:=o.free k;rw[R] at c1;rw[Y] at c2;have a8:k<j:=by omega
 have b0:j<n:=by omega
 have HT:=J6 o J R Y hj C;clear o J R Y C hj e;go_wp2_with fail
 go_region
 go_wp2;go_roundg (n-(k+1))
 ·obtain⟨o,J,R,Y,hj,C⟩:=HT.out;subst hj;refine⟨k+1,(I.setIfInBounds k (.int .u8 x1)).setIfInBounds (n-1-k) (.int .u8 x2),by omega,rfl,by go_num,by go_num,?_,?_,J.step a6 hn R Y⟩;·exact((C.setCell (.inl fun h=>h rfl) _).setCell (.inl fun h=>h rfl) _).drew
  exact((o.set k _).set (n-1-k) _).drew
 omega)
 go_wp2
 go_end0
 exact⟨rfl,C,I,o,fun m hm=>J.full (by omega) m hm⟩
theorem Mf:(prog.info? 5).map (fun i=>(i.zero,i.size,i.bytes))=some (some (.int .u8 0),1,1):=by kernel_rfl
theorem px (a b:List UInt8):(⟨a.toArray⟩:ByteArray)++⟨b.toArray⟩=⟨(a++b).toArray⟩:=by apply ByteArray.ext;simp
def dM (l:List UInt8):List Value:=l.map fun x=>Value.int .u8 (x.toNat:Int)
def vJ (f u:Nat)(ds:List UInt8):List UInt8:=if ds≠[]∧u=0 then [] else Ab f u
theorem tH {f u:Nat}{o:List UInt8}(h:u≠0∨o=[]):vJ (f+1) u o=UInt8.ofNat (48+u%10)::vJ f (u/10) (o++[UInt8.ofNat (48+u%10)]):=by
 unfold vJ;rw[ah (by rintro⟨C,I⟩;rcases h with h|h;exact h I;exact C h),Ab];by_cases j:u/10=0;·rw[am j,am ⟨by simp,j⟩]
 rw[ah j,ah fun h=>j h.2]
theorem GX (n:Int)(hn:aS n)(w:World):Calls prog 157 #[.int .i64 n] w fun e w'=>e=.returned (.string ⟨(gN n).toArray⟩)∧aa All w w':=by
 obtain⟨iB,b3,b4,b5,b6⟩:=info_parts Mf;have IB:=J4 b3 b4 b5 b6;clear b3 b4 b5 b6;have Y:=sk hn;unfold aS at hn;go_enter func157,ntmps157;go_upto_if 9 with fail;go_cut [3,4] (fun s3 s4 wx=>s3=.int .u64 (n.natAbs:Int)∧s4=.string ⟨(if n<0 then [45] else []:List UInt8).toArray⟩∧w=wx)
 case first=>(
 by_cases h:n<0
 ·have d1:decide (n<0)=true:=by simpa using h
  obtain⟨m,hm⟩:=eR (IntKind.u64.wrap n);have e2:IntKind.u64.wrap (-m)=(n.natAbs:Int):=by rw[←hm];simp only[IntKind.wrap,IntKind.signed,IntKind.bits];simp;omega
  have HA:=oH (show(n.natAbs:Int)=n.natAbs from rfl);generalize (n.natAbs:Int)=k at*;clear Y hn;go_wp2_with fail;go_meet;exact⟨rfl,by rw[am h],rfl⟩
 have d1:decide (n<0)=false:=by simpa using h
 have e2:IntKind.u64.wrap n=(n.natAbs:Int):=by simp only[IntKind.wrap,IntKind.signed,IntKind.bits];simp;omega
 clear Y;go_wp2_with fail;go_meet;exact⟨rfl,by rw[ah (by omega)],rfl⟩)
 obtain⟨rfl,rfl,rfl⟩:=hcut;obtain⟨sg,a6⟩:∃sg:List UInt8,(if n<0 then [45] else [])=sg:=⟨_,rfl⟩;rw[a6];have c9:sg.length≤1:=by rw[←a6];split<;>simp
 have HG:=oH a6;clear a6;go_wp2_with fail;go_loopg [3,5] 21 (fun g s3 s5 wr=>∃(f u:Nat) (o:List UInt8),g=f+1∧s3=.int .u64 u∧f+o.length=20∧u<10^f∧aa All w wr∧wr.ownsRow w.heap.size 5 1 s5 o.length (dM o)∧o++vJ f u o=Ab 20 n.natAbs);·exact⟨20,n.natAbs,[],by omega,rfl,rfl,Y,kR,⟨rfl,.inl ⟨rfl,rfl⟩⟩,by rw[vJ,ah (fun h=>h.1 rfl)];rfl⟩
 obtain⟨f,u,o,rfl,rfl,hf,hu,hk,I,a1⟩:=hrel;obtain⟨A,c,rfl⟩:=cd I;by_cases hc:u≠0∨o=[];·(
 obtain⟨f,rfl⟩:∃f',f=f'+1:=⟨f-1,by
  rcases Nat.eq_zero_or_pos f with h|h
  ·subst h;rcases hc with hc|hc;·simp at hu;omega
   subst hc;simp at hf
  omega⟩
 have d7:u<10^20:=Nat.lt_of_lt_of_le hu (Nat.pow_le_pow_right (by omega) (by omega));have HD:=oH a1;have HC:=oH hc;have HK:=oH hk;have hB:=hk.size;have C:(wr.alloc (.cells #[.int .u8 (48+(u:Int)%10)] 5)).ownsRow w.heap.size 5 1 (.slice A o.length c) o.length (dM o):=ay I ((aa.refl All wr).alloc _) (fun _ _=>trivial);clear a1 hk;by_cases a7:u=0;·(
 have b7:o=[]:=hc.resolve_left (fun h=>h a7);clear hc;subst a7;subst b7;have C:(wr.alloc (.cells #[.int .u8 48] 5)).ownsRow w.heap.size 5 1 (.slice A 0 c) 0 (dM []):=C;go_wp2_with (
  at_builtin;refine cW _ rfl (.tmp 19) (.tmp 24) 272 rfl w.heap.size 5 iB _ 1 1 underlying272 IB.1 IB.2.1 IB.2.2.1 IB.2.2.2 rfl (by decide) _ _ _ rfl C (some ⟨wr.heap.size,0,none⟩) 1 1 [.int .u8 (48)] rfl rfl ?_ ?_ (by unfold maxLen;omega) (by omega) (by simp;omega) ?_;·intro _;exact⟨_,_,rfl,fun j u hu=>by rw[dU,al.cell (al.new _ _ _)];simpa using hu⟩
  ·intro u hu
   rw[ce.1 hu];rfl
  intro v2 w2 J b0 b8)
 go_roundg (f+1);·(
 have hp:=Nat.pow_succ 10 f;refine⟨f,0/10,[]++[UInt8.ofNat (48+0%10)],rfl,by go_num,by simp at hf⊢;omega,?_,(HK.out.alloc _).grown b0 fun g hg=>.inr (au I hg).1,?_,?_⟩
 ·generalize 10^f=p at*
  omega
 ·have e:dM ([]++[UInt8.ofNat (48+0%10)])=dM []++[.int .u8 (48)]:=by unfold dM;rw[gU];simp only[List.map_cons,List.map_nil,nF];congr 3
  rw[e,eV];exact J
 rw[jR,←HD.out,tH (.inr rfl)];rfl)
 omega)
 have hp:0<u:=by omega
 clear hc;go_wp2_with (
  at_builtin;refine cW _ rfl (.tmp 19) (.tmp 24) 272 rfl w.heap.size 5 iB _ 1 1 underlying272 IB.1 IB.2.1 IB.2.2.1 IB.2.2.2 rfl (by decide) _ _ _ rfl C (some ⟨wr.heap.size,0,none⟩) 1 1 [.int .u8 (48+(u:Int)%10)] rfl rfl ?_ ?_ (by unfold maxLen;omega) (by omega) (by simp;omega) ?_;·intro _;exact⟨_,_,rfl,fun j u hu=>by rw[dU,al.cell (al.new _ _ _)];simpa using hu⟩
  ·intro u hu
   rw[ce.1 hu];rfl
  intro v2 w2 J b0 b8)
 go_roundg (f+1);·(
 have hp:=Nat.pow_succ 10 f;refine⟨f,u/10,o++[UInt8.ofNat (48+u%10)],rfl,by go_num,by simp;omega,?_,(HK.out.alloc _).grown b0 fun g hg=>.inr (au I hg).1,?_,?_⟩
 ·generalize 10^f=p at*
  omega
 ·have e:dM (o++[UInt8.ofNat (48+u%10)])=dM o++[.int .u8 (48+(u:Int)%10)]:=by unfold dM;rw[gU];simp only[List.map_cons,List.map_nil,nF];congr 3
  rw[e,eV];exact J
 rw[jR,←HD.out,tH HC.out];rfl)
 omega)
 have a7:u=0:=Classical.byContradiction fun h=>hc (.inl h);have b1:o≠[]:=fun h=>hc (.inr h);subst a7;have c4:o.length≠0:=fun h=>b1 (zv h);have t1:((o.length:Int)==0)=false:=by rw[bE];omega
 have d9:0<o.length:=by omega
 rw[vJ,am ⟨b1,rfl⟩,List.append_nil] at a1;obtain⟨_,⟨h,_⟩|⟨g,cap,cur,hv,hg,hh,b9,d8,e0,c5⟩⟩:=I;·injection h with _ h;omega
 injection hv with c6 e1 c7;subst c6;subst c7;have R:∀m,m<o.length→cur[m]? =some (.int .u8 ((o.getD m 0).toNat:Int)):=by(
 intro m hm;have h1:(cur.toList.take (o.length*1))[m]? =(dM o)[m]?:=by rw[c5]
 rw[Cu (by omega)] at h1;rw[←Array.getElem?_toList,h1];simp[dM,hm])
 have c0:o.length≤cur.size:=by omega
 have a8:=wT g o.length c 5 cur wr hh c0 (by omega) (by omega) b9 (fun m hm=>⟨_,R m hm⟩);have HR:=J4 a8 hk a1 R;clear a8 hk a1 R hh hc b1 c4;go_wp2_with fail;refine HR.1.mono ?_;rintro e w2 ⟨rfl,c1,e3,c2,c3⟩;have b2:=run_convert_bytes_back (P:=prog) w2 272 9 5 ⟨g,0,none⟩ c o.reverse underlying272 underlying5 underlying9 (fun j hj=>by
  rw[List.length_reverse] at hj;have:(⟨g,0,none⟩:Addr).add j=⟨g,j,none⟩:=by unfold Addr.add;split<;>simp_all
  rw[this,c2.cell,c3 j hj,HR.2.2.2 (o.length-1-j) (by omega)];rw[List.getElem_reverse];rw[iL,lG (by omega),Option.getD_some])
 rw[List.length_reverse] at b2;have H2:=oH c1;clear c1 c2 c3;go_wp2_with fail;go_ret;have c8:aa All w w2:=by have h1:=H2.out;have h0:=HR.2.1;refine⟨h1.os.trans h0.os,h1.output.trans h0.output,dA h0.size h1.size,fun b hb _=>?_⟩;rw[h1.block b (by have:=h0.size;omega) (fun e=>by subst e;omega)];exact h0.block b hb trivial
 refine⟨?_,c8⟩;have e:gN n=sg++o.reverse:=by unfold gN jS;rw[HG.out,HR.2.2.1]
 rw[e,←px];rfl
theorem dB (c:UInt8)(n:Int)(o:aS n)(w:World):Calls prog 106 #[.string ⟨#[c]⟩,.int .i64 n] w fun e C=>e=.returned (.string (aG c n))∧aa All w C:=by have I:=fun w=>GX n o w;have R:=vP n;have J:=oH (show(⟨[c].toArray⟩:ByteArray)++⟨(gN n).toArray⟩=aG c n from px _ _);generalize gN n=l at*;go_enter func106,ntmps106;go_wp2_with (go_at_call 157;refine(I _).mono ?_;rintro e Y ⟨rfl,j⟩;have H1:=oH j;clear j);go_ret;exact⟨by rw[←J.out];rfl,H1.out⟩
def rg (r:Int)(n:Nat):Bool:=decide (0≤r)&&decide (r<n)
theorem yg (o:Nat)(r:Int)(n:Nat)(hn:n≤1000000000000000)(R:aS r)(w:World)(C:al w o 4 #[.bool true]):
 Calls prog 158 #[.int .i64 r,.int .i64 n,.pointer (some ⟨o,0,none⟩)] w fun e Y=>(∃k:Int,e=.returned (.int .i64 k)∧(rg r n=true→k=r))∧Y=w.setCell ⟨o,0,none⟩ (.bool (rg r n)):=by
 have c0:=C.cell 0;have f0:=C.free 0;simp only[gc] at c0;clear C;unfold aS at R;by_cases I:0≤r;·(
 have d0:decide (0≤r)=true:=by simpa using I
 by_cases J:r<n
 ·have d1:decide (r<(n:Int))=true:=by simpa using J
  have j:=oH (show rg r n=true by unfold rg;rw[d0,d1];rfl);go_enter func158,ntmps158;go_wp2;go_ret;exact⟨⟨_,rfl,fun _=>rfl⟩,by rw[j.out]⟩
 have d1:decide (r<(n:Int))=false:=by simpa using J
 have j:=oH (show rg r n=false by unfold rg;rw[d0,d1];rfl);go_enter func158,ntmps158;go_wp2;all_goals(go_ret;exact⟨⟨_,rfl,fun h=>absurd (j.out.symm.trans h) (by decide)⟩,by rw[j.out]⟩))
 have d0:decide (0≤r)=false:=by simpa using I
 have j:=oH (show rg r n=false by unfold rg;rw[d0];rfl);go_enter func158,ntmps158;go_wp2;all_goals(go_ret;exact⟨⟨_,rfl,fun h=>absurd (j.out.symm.trans h) (by decide)⟩,by rw[j.out]⟩)
theorem qz (S:Nat→Prop)(v:Value)(l:List ByteArray)(bf bx j bY:Nat)(xs ys:Array Value)(r:Int)(s:ByteArray)(w:World)(hv:cC S w v l)(hS:∀b,S b→b≠j)(hr:aS r)
 (hf:al w bf 117 #[.func (.func 158) #[] #[.pointer (some ⟨j,0,none⟩)]]) (hx:al w bx 40 xs) (a1:xs[3]? =some (.int .i64 r))
 (ho:al w j 4 #[.bool true]) (hy:al w bY 185 ys) (C:∃z,ys[3]? =some (.string z)) (J:rg r l.length=true) (hs:l[r.toNat]? =some s):
 Calls prog 159 #[v,.pointer (some ⟨bf,0,none⟩),.pointer (some ⟨bx,0,none⟩),.pointer (some ⟨j,0,none⟩),.pointer (some ⟨bY,0,none⟩)] w fun e w'=>e=.returned (.tuple #[])∧w'=(w.setCell ⟨j,0,none⟩ (.bool true)).setCell ⟨bY,3,none⟩ (.string s):=by
 obtain⟨z,C⟩:=C;have c1:=hf.cell 0;have c2:=hx.cell 3;have c3:=ho.cell 0;have c4:=hy.cell 3;have f3:=ho.free 0;have f4:=hy.free 3;rw[a1] at c2;rw[C] at c4;simp only[gc] at c1 c3;have I:=fun n hn=>yg j r n hn hr w ho;have a7:bY≠j:=fun e=>by subst e;have:=al.ne hy ho (by decide);exact this rfl
 have R:al (w.setCell ⟨j,0,none⟩ (.bool true)) bY 185 ys:=hy.far a7 _;have c5:=R.cell 3;have f5:=R.free 3;rw[C] at c5;obtain⟨A,cap,rfl,k1,k2,k3,k⟩:=hv;unfold maxLen at k2;obtain⟨b,o,c,rfl,a6,hc,rfl⟩:=k _ _ hs;have a8:=(lS.1 hs).1;have b0:0≤r∧r<l.length:=by unfold rg at J;simpa using J
 obtain⟨rn,rfl⟩:∃rn:Nat,r=rn:=⟨r.toNat,by omega⟩;rw[fD] at hc a8;have Y:=I l.length (by omega);rw[J] at Y;have b1:(w.setCell ⟨j,0,none⟩ (.bool true)).cell? ⟨b,o+rn,none⟩=some (.string s):=by rw[World.cell?_of_block (pI w ⟨j,0,none⟩ (.bool true) b (hS b a6))];exact hc
 have b2:(w.setCell ⟨j,0,none⟩ (.bool true)).cell? ⟨j,0,none⟩=some (.bool true):=by have:=(ho.set 0 (.bool true)).cell 0;simpa using this
 have HF:=oH Y;clear k I Y hf hx ho hy R a1 C J hs a6 hS hr;go_enter func159,ntmps159;go_wp2_with fail;refine HF.out.mono ?_;rintro e w' ⟨⟨k,rfl,hk⟩,rfl⟩;have hk:=hk trivial;subst hk;go_wp2_with fail
 go_end0
 exact⟨rfl,rfl⟩
theorem sT (S:Nat→Prop)(v:Value)(l:List ByteArray)(Y bx o bY:Nat)(xs:Array Value)(r:Int)(w:World)(hv:cC S w v l)(hr:aS r)
 (hf:al w Y 117 #[.func (.func 158) #[] #[.pointer (some ⟨o,0,none⟩)]]) (hx:al w bx 40 xs) (I:xs[3]? =some (.int .i64 r))
 (R:al w o 4 #[.bool true]) (J:rg r l.length=false):
 Calls prog 159 #[v,.pointer (some ⟨Y,0,none⟩),.pointer (some ⟨bx,0,none⟩),.pointer (some ⟨o,0,none⟩),.pointer (some ⟨bY,0,none⟩)] w fun e w'=>e=.returned (.tuple #[])∧w'=w.setCell ⟨o,0,none⟩ (.bool false):=by
 have c1:=hf.cell 0;have c2:=hx.cell 3;have c3:=R.cell 0;rw[I] at c2;simp only[gc] at c1 c3;have j:=fun n hn=>yg o r n hn hr w R;obtain⟨A,cap,rfl,k1,k2,k3,k⟩:=hv;have C:=j l.length (by omega);rw[J] at C;have a1:(w.setCell ⟨o,0,none⟩ (.bool false)).cell? ⟨o,0,none⟩=some (.bool false):=by have:=(R.set 0 (.bool false)).cell 0;simpa using this
 have HF:=oH C;clear k j C hf hx R I J hr;go_enter func159,ntmps159;go_wp2_with fail;refine HF.out.mono ?_;rintro e w' ⟨⟨k,rfl,hk⟩,rfl⟩;clear hk;go_wp2_with fail
 go_end0
 exact⟨rfl,rfl⟩
def cw (l:List ByteArray):List Value:=l.map fun s=>Value.string s
theorem FU:(prog.info? 9).map (fun i=>(i.zero,i.size,i.bytes))=some (some (.string ⟨#[]⟩),1,16):=by kernel_rfl
theorem pX {S:Nat→Prop}{w:World}{base:Nat}{e:TypeId}{v:Value}{n:Nat}{l:List ByteArray}(h:w.ownsRow base e 1 v n (cw l))(j:n=l.length)(o:l.length*16≤140737488355328)
 (C:∀g,v.ownBlock=some g→S g):cC S w v l:=by
 subst j;refine Sl.of_own h o C fun i x I=>⟨_,?_,rfl⟩;simp[cw,I]
theorem jb (S:Nat→Prop)(v:Value)(l:List (ByteArray×Int))(w:World)(hv:mc S w v l)(hl:l.length≤6000000000000):
 Calls prog 160 #[v] w fun e w'=>∃u,e=.returned u∧aa All w w'∧cC (fun b=>w.heap.size≤b) w' u (l.map fun x=>x.1):=by
 obtain⟨iS,a6,a7,a8,b0⟩:=info_parts FU;have IS:=J4 a6 a7 a8 b0;clear a6 a7 a8 b0;have b1:=hv;obtain⟨A,cap,rfl,h1,h2,h3,_⟩:=hv;unfold maxLen at h2;have HV:=oH b1;clear b1;go_enter func160,ntmps160;go_wp2_with fail;go_loopg [2,7] l.length (fun g s2 s7 wr=>∃k:Nat,k≤l.length∧g=l.length-k∧s7=.int .i64 k∧aa All w wr∧wr.ownsRow w.heap.size 9 1 s2 k (cw ((l.take k).map fun x=>x.1)));·exact⟨0,by omega,by omega,rfl,kR,⟨rfl,.inl ⟨rfl,rfl⟩⟩⟩
 obtain⟨k,hk,rfl,rfl,J,I⟩:=hrel;have HK:=oH J;have hB:=J.size;by_cases b2:k<l.length;·(
 obtain⟨x,hx⟩:=eG b2;obtain⟨bb,o,cs,rfl,_,_,R,rfl,b5⟩:=bh (cG.keep (S:=S) J.all HV.out) hx;have z0:=R 0 _ rfl;rw[cJ] at z0;have z1:=R 1 _ rfl;have Y:((wr.alloc (.cells #[.string x.1,.int .i64 x.2] 228)).alloc (.cells #[.string x.1] 9)).ownsRow w.heap.size 9 1 u2 k (cw ((l.take k).map fun x=>x.1)):=ay I (((aa.refl All wr).alloc _).alloc _) (fun _ _=>trivial);obtain⟨C,c,rfl⟩:=cd I;have HX:=J2 hx I;clear hx I R J;go_wp2_with (
  at_builtin;refine cW _ rfl (.tmp 11) (.tmp 14) 22 rfl w.heap.size 9 iS _ 1 16 underlying22 IS.1 IS.2.1 IS.2.2.1 IS.2.2.2 rfl (by decide) _ _ _ rfl Y (some ⟨wr.heap.size+1,0,none⟩) 1 1 [.string x.1] rfl rfl ?_ ?_ (by unfold maxLen;omega) (by omega) (by simp;omega) ?_;·intro _;exact⟨_,_,rfl,fun j u hu=>by rw[dU,al.cell (ac (by simp))];simpa using hu⟩
  ·intro u hu
   rw[ce.1 hu];rfl
  intro v2 w2 a1 b3 b4)
 go_roundg (l.length-(k+1))
 ·refine⟨k+1,by omega,rfl,by go_num,((HK.out.alloc _).alloc _).grown b3 fun g hg=>.inr (au HX.2 hg).1,?_⟩;have e:cw ((l.take (k+1)).map fun x=>x.1)=cw ((l.take k).map fun x=>x.1)++[.string x.1]:=by rw[dT,HX.1];simp[cw]
  rw[e];exact a1
 omega)
 obtain rfl:k=l.length:=by omega
 rw[jx] at I;have hs:=pX I (l:=l.map fun x=>x.1) (by rw[aZ]) (by rw[aZ];omega) (S:=fun b=>w.heap.size≤b) fun g hg=>(au I hg).1;have HS:=oH hs;clear hs I J;go_wp2_with fail;go_ret;exact⟨_,rfl,HK.out,HS.out⟩
end Go.Proofs.YtccbbkopmlnkpaaGreatDoor
