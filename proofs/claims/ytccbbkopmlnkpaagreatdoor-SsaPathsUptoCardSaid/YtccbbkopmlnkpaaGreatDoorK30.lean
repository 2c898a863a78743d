/- Part 31 of the proof (its last part says what is proved). No condition. -/
import Derived.Shelf.Small.Strs
import Derived.Shelf.Small.Wraps
import Derived.Shelf.Strings.Shaped
import Derived.Shelf.Sort.Plain
import Derived.Shelf.Strings.SplitShaped
import Derived.Shelf.Unicode.DecodeSlow
import Derived.Shelf.Strings.FieldsFuncAny
import Derived.Shelf.Slices.Turned
import Derived.Shelf.Slices.Clone
import Derived.Shelf.Slices.SearchI
import Derived.Shelf.Slices.Cells
import Derived.Shelf.Slices.In.SortNone
import Derived.Shelf.Slices.Empties2
import Derived.Test.YtccbbkopmlnkpaaGreatDoorK5
namespace Go.Proofs.YtccbbkopmlnkpaaGreatDoor
set_option maxRecDepth 100000
set_option maxHeartbeats 8000000
open Go.RowKit Go.Proofs.Tryz
section
open Go.Shelf
def Tryz.lays137_ren:Go.Shelf.Ren:=⟨fun|137=>190|217=>184|266=>227|n=>n,fun|9=>9|5=>5|3=>3|n=>n,fun|n=>n⟩
theorem Tryz.lays137:Go.Proofs.Lays.n137 prog Tryz.lays137_ren:= {
 mixed:=by kernel_rfl
 f137:=func190.trans (congrArg some (by kernel_rfl))
 f217:=func184.trans (congrArg some (by kernel_rfl))
 f266:=func227.trans (congrArg some (by kernel_rfl))
 t3:=underlying3
 a3:=Tryz.isAgg3
 z3:=Tryz.sizeOf3
 v3:=Tryz.zeroValue3
 t5:=underlying5
 a5:=Tryz.isAgg5
 z5:=Tryz.sizeOf5
 v5:=Tryz.zeroValue5
 t9:=underlying9
 a9:=Tryz.isAgg9
 z9:=Tryz.sizeOf9
 v9:=Tryz.zeroValue9}
open Go.RowKit in
theorem Tryz.strings_IndexByte (s:ByteArray)(c:Int)(w:World):
 Calls prog 190 #[.string s,.int .u8 c] w fun e j=>e=.returned (.int .i64 (Lib.indexByte s.data.toList c.toNat.toUInt8))∧j=w:=Any.strings_IndexByte Tryz.lays137 s c w
def Tryz.lays103_ren:Go.Shelf.Ren:=⟨fun|103=>182|210=>226|206=>242|n=>n,fun|9=>9|4=>4|24=>251|3=>3|n=>n,fun|n=>n⟩
theorem Tryz.lays103:Go.Proofs.Lays.n103 prog Tryz.lays103_ren:= {
 mixed:=by kernel_rfl
 f103:=func182.trans (congrArg some (by kernel_rfl))
 f206:=func242.trans (congrArg some (by kernel_rfl))
 f210:=func226.trans (congrArg some (by kernel_rfl))
 t3:=underlying3
 a3:=Tryz.isAgg3
 z3:=Tryz.sizeOf3
 v3:=Tryz.zeroValue3
 t4:=underlying4
 a4:=Tryz.isAgg4
 z4:=Tryz.sizeOf4
 v4:=Tryz.zeroValue4
 t9:=underlying9
 a9:=Tryz.isAgg9
 z9:=Tryz.sizeOf9
 v9:=Tryz.zeroValue9
 t24:=underlying251
 a24:=Tryz.isAgg251
 z24:=Tryz.sizeOf251
 v24:=Tryz.zeroValue251}
open Go.RowKit in
theorem Tryz.strings_CutPrefix (s p:ByteArray)(w:World):
 Calls prog 182 #[.string s,.string p] w fun e j=>e=.returned (.tuple #[.string ⟨(Lib.trimPrefix s.data.toList p.data.toList).toArray⟩,.bool (Lib.hasPrefix s.data.toList p.data.toList)])∧j=w:=Any.strings_CutPrefix Tryz.lays103 s p w
def Tryz.lays146_ren:Go.Shelf.Ren:=⟨fun|146=>68|221=>114|268=>175|138=>176|143=>72|195=>223|197=>113|218=>224|219=>117|260=>174|217=>184|225=>185|224=>186|267=>187|266=>227|314=>228|n=>n,fun|9=>9|31=>22|3=>3|4=>4|0=>0|105=>192|21=>21|5=>5|46=>190|119=>281|139=>284|138=>283|146=>287|51=>246|n=>n,fun|1=>0|3=>1|4=>2|n=>n⟩
theorem Tryz.lays146:Go.Proofs.Lays.n146 prog Tryz.lays146_ren:= {
 mixed:=by kernel_rfl
 f138:=func176.trans (congrArg some (by kernel_rfl))
 f143:=func72.trans (congrArg some (by kernel_rfl))
 f146:=func68.trans (congrArg some (by kernel_rfl))
 f195:=func223.trans (congrArg some (by kernel_rfl))
 f197:=func113.trans (congrArg some (by kernel_rfl))
 f217:=func184.trans (congrArg some (by kernel_rfl))
 f218:=func224.trans (congrArg some (by kernel_rfl))
 f219:=func117.trans (congrArg some (by kernel_rfl))
 f221:=func114.trans (congrArg some (by kernel_rfl))
 f224:=func186.trans (congrArg some (by kernel_rfl))
 f225:=func185.trans (congrArg some (by kernel_rfl))
 f260:=func174.trans (congrArg some (by kernel_rfl))
 f266:=func227.trans (congrArg some (by kernel_rfl))
 f267:=func187.trans (congrArg some (by kernel_rfl))
 f268:=func175.trans (congrArg some (by kernel_rfl))
 f314:=func228.trans (congrArg some (by kernel_rfl))
 t0:=underlying0
 a0:=Tryz.isAgg0
 z0:=Tryz.sizeOf0
 v0:=Tryz.zeroValue0
 t3:=underlying3
 a3:=Tryz.isAgg3
 z3:=Tryz.sizeOf3
 v3:=Tryz.zeroValue3
 t4:=underlying4
 a4:=Tryz.isAgg4
 z4:=Tryz.sizeOf4
 v4:=Tryz.zeroValue4
 t5:=underlying5
 a5:=Tryz.isAgg5
 z5:=Tryz.sizeOf5
 v5:=Tryz.zeroValue5
 t9:=underlying9
 a9:=Tryz.isAgg9
 z9:=Tryz.sizeOf9
 v9:=Tryz.zeroValue9
 t21:=underlying21
 a21:=Tryz.isAgg21
 z21:=Tryz.sizeOf21
 v21:=Tryz.zeroValue21
 t31:=underlying22
 a31:=Tryz.isAgg22
 z31:=Tryz.sizeOf22
 v31:=Tryz.zeroValue22
 t46:=underlying190
 a46:=Tryz.isAgg190
 z46:=Tryz.sizeOf190
 v46:=Tryz.zeroValue190
 t51:=underlying246
 a51:=Tryz.isAgg246
 z51:=Tryz.sizeOf246
 v51:=Tryz.zeroValue246
 t105:=underlying192
 a105:=Tryz.isAgg192
 z105:=Tryz.sizeOf192
 v105:=Tryz.zeroValue192
 t119:=underlying281
 a119:=Tryz.isAgg281
 z119:=Tryz.sizeOf281
 t138:=underlying283
 a138:=Tryz.isAgg283
 z138:=Tryz.sizeOf283
 v138:=Tryz.zeroValue283
 t139:=underlying284
 a139:=Tryz.isAgg284
 z139:=Tryz.sizeOf284
 v139:=Tryz.zeroValue284
 t146:=underlying287
 a146:=Tryz.isAgg287
 z146:=Tryz.sizeOf287
 v146:=Tryz.zeroValue287
 g1:=by kernel_rfl
 g3:=by kernel_rfl
 g4:=by kernel_rfl}
open Go.RowKit Go.Lib in
theorem Tryz.strings_Split (s sep:ByteArray)(m:Int)(w:World)(j:s.size<4294967281)(hm:w.cell? ⟨0,0,none⟩=some (.int .i64 m))(o:1≤sep.size):
 Calls prog 68 #[.string s,.string sep] w fun e C=>
  e=.returned (.slice (some ⟨w.heap.size,0,none⟩) (Lib.countB s sep+1) (Lib.countB s sep+1))∧C=w.alloc (.cells ((Lib.splitB sep 0 (Lib.countB s sep) s).map Value.string).toArray 9):=Any.strings_Split Tryz.lays146 (by kernel_rfl) s sep m w j hm o
def Tryz.lays229_ren:Go.Shelf.Ren:=⟨fun|229=>69|n=>n,fun|9=>9|40=>127|31=>22|152=>195|3=>3|0=>0|4=>4|21=>21|154=>197|n=>n,fun|n=>n⟩
theorem Tryz.lays229:Go.Proofs.Lays.n229 prog Tryz.lays229_ren:= {
 mixed:=by kernel_rfl
 f229:=func69.trans (congrArg some (by kernel_rfl))
 t0:=underlying0
 a0:=Tryz.isAgg0
 z0:=Tryz.sizeOf0
 v0:=Tryz.zeroValue0
 t3:=underlying3
 a3:=Tryz.isAgg3
 z3:=Tryz.sizeOf3
 v3:=Tryz.zeroValue3
 t4:=underlying4
 a4:=Tryz.isAgg4
 z4:=Tryz.sizeOf4
 v4:=Tryz.zeroValue4
 t9:=underlying9
 a9:=Tryz.isAgg9
 z9:=Tryz.sizeOf9
 v9:=Tryz.zeroValue9
 t21:=underlying21
 a21:=Tryz.isAgg21
 z21:=Tryz.sizeOf21
 v21:=Tryz.zeroValue21
 t31:=underlying22
 a31:=Tryz.isAgg22
 z31:=Tryz.sizeOf22
 v31:=Tryz.zeroValue22
 t40:=underlying127
 a40:=Tryz.isAgg127
 z40:=Tryz.sizeOf127
 v40:=Tryz.zeroValue127
 t152:=underlying195
 a152:=Tryz.isAgg195
 z152:=Tryz.sizeOf195
 v152:=Tryz.zeroValue195
 t154:=underlying197
 a154:=Tryz.isAgg197
 z154:=Tryz.sizeOf197
 v154:=Tryz.zeroValue197}
open Go.RowKit Go.Lib in
theorem Tryz.strings_FieldsFunc_runes (g:Nat)(lb:Array Value)(o:∀args w,(callFunc g args).run prog w=.ok (.enter g args) w)(p:Nat→Bool)(s:ByteArray)(w:World)(C:s.size≤4294967296)(I:PredAtRunes prog g lb p w):
 Calls prog 69 #[.string s,.func (.func g) #[] lb] w fun e j=>∃A,e=.returned (.slice (some ⟨A,0,none⟩) (Lib.goFieldsP p s).length (Lib.goFieldsP p s).length)∧w.heap.size≤A∧
  j.ownsRow w.heap.size 9 1 (.slice (some ⟨A,0,none⟩) (Lib.goFieldsP p s).length (Lib.goFieldsP p s).length) (Lib.goFieldsP p s).length ((Lib.goFieldsP p s).map Value.string)∧Below w.heap.size w j:=Any.strings_FieldsFunc_runes Tryz.lays229 g lb o p s w C I (by kernel_rfl) (by kernel_rfl)
open Go.RowKit Go.Lib in
end
theorem nT {s:ByteArray}(h:dD s=true)(a b:Nat):dD (s.extract a b)=true:=by refine List.all_eq_true.2 fun x j=>List.all_eq_true.1 h x ?_;rw[ByteArray.data_extract] at j;rw[Array.toList_extract] at j;exact List.mem_of_mem_drop (List.mem_of_mem_take j)
theorem uN {s:ByteArray}{f p n:Nat}(h:¬p<s.size):mj s (f+1) p n=some n:=by simp[mj,h]
theorem oE {s:ByteArray}{f p n:Nat}(h:p<s.size):mj s (f+1) p n=if ey (Utf8.decode s p).1 then mj s f (p+(Utf8.decode s p).2) (10*n+((Utf8.decode s p).1-48)) else none:=by simp[mj,h]
def pm (s:ByteArray)(w:World)(e:Ending)(w':World):Prop:=aa All w w'∧∃v:Int,e=.returned (.tuple #[.int .i64 v,.bool (fM s).isSome])∧∀n,fM s=some n→v=n
theorem pm.no {s:ByteArray}{w j:World}{v:Int}(h:fM s=none)(C:aa All w j):pm s w (.returned (.tuple #[.int .i64 v,.bool false])) j:=⟨C,v,by rw[h];rfl,fun n o=>by rw[h] at o;cases o⟩
theorem pm.yes {s:ByteArray}{w j:World}{n:Nat}(h:fM s=some n)(o:aa All w j):pm s w (.returned (.tuple #[.int .i64 n,.bool true])) j:=⟨o,n,by rw[h];rfl,fun m hm=>by rw[h] at hm;cases hm;rfl⟩
theorem Fm {s:ByteArray}(h:s.size=0∨dN s 0≠45):Lib.hasPrefix s.data.toList [45]=false∧(⟨(Lib.trimPrefix s.data.toList [45]).toArray⟩:ByteArray)=s:=by
 have j:Lib.hasPrefix s.data.toList [45]=false:=by(
 unfold Lib.hasPrefix;obtain⟨d⟩:=s;obtain⟨l⟩:=d;cases l with
 |nil=>rfl
 |cons b l=>
  rcases h with h|h;·simp[ByteArray.size] at h
  rw[jB _ _ (by simp[ByteArray.size])] at h;have h':b.toNat≠45:=h;have:¬b=45:=fun e=>h' (by rw[e];rfl);simp[List.isPrefixOf];exact fun e=>this e.symm)
 refine⟨j,?_⟩;unfold Lib.trimPrefix;rw[j];rfl
theorem BN {n:Nat}(h:n<9223372036854775808):(some n).filter (fun n=>decide (n<9223372036854775808))=some n:=by show(if decide (n<9223372036854775808)=true then some n else none)=_;rw[am (be h)]
theorem FA {n:Nat}(h:¬n<9223372036854775808):(some n).filter (fun n=>decide (n<9223372036854775808))=none:=by show(if decide (n<9223372036854775808)=true then some n else none)=_;rw[ah (by rw[cN h];exact lE)]
theorem CL (s:ByteArray):s.toList.isEmpty=decide (s.size=0):=by
 by_cases h:s.size=0
 ·have:s=dQ:=by obtain⟨d⟩:=s;obtain⟨l⟩:=d;have:l=[]:=List.length_eq_zero_iff.1 (by simpa [ByteArray.size] using h);subst this;rfl
  subst this;rw[be h];simp[dQ,ByteArray.toList,ByteArray.toList.loop,ByteArray.size]
 rw[cN h];cases j:s.toList.isEmpty with
 |false=>rfl
 |true=>
  exfalso;have o:s.toList=[]:=List.isEmpty_iff.1 j;have C:dQ.toList=[]:=by simp[dQ,ByteArray.toList,ByteArray.toList.loop,ByteArray.size]
  have:s=dQ:=bn.1 (by rw[o,C];rfl);subst this;exact h rfl
theorem pY (s:ByteArray)(w:World)(hp:dD s=true)(hm:s.size=0∨dN s 0≠45)(hs:s.size≤65536):Calls prog 116 #[.string s] w (pm s w):=by
 obtain⟨c1,c2⟩:=Fm hm;have hc:=Tryz.strings_CutPrefix s ⟨#[45]⟩ w;rw[show(ByteArray.mk #[45]).data.toList=[45] from rfl,c1,c2] at hc;clear c1 c2;have HC:=oH hc;clear hc;have hz:=CL s;by_cases h0:s.size=0;·have HN:=oH (show fM s=none from by unfold fM;rw[am (.inl h0)]);rw[be h0] at hz;go_enter func116,ntmps116;go_wp2_with fail;refine HC.out.mono ?_;rintro e Y ⟨rfl,rfl⟩;go_wp2;go_ret2;exact .no HN.out kR
 rw[cN h0] at hz;by_cases b7:19<s.size;·have HN:=oH (show fM s=none from by unfold fM;rw[am (.inr (.inl b7))]);go_enter func116,ntmps116;go_wp2_with fail;refine HC.out.mono ?_;rintro e Y ⟨rfl,rfl⟩;go_wp2;go_ret2;exact .no HN.out kR
 have a7:0<s.size:=by omega
 have b3:=jB s 0 a7;by_cases a8:dN s 0=48∧1<s.size
 ·have HN:=oH (show fM s=none from by unfold fM;rw[am (.inr (.inr a8))]);have h1:=a8.2;have e1:((((s[0]' a7).toNat:Nat):Int)==48)=true:=by rw[cX];omega
  clear b3 a8;go_enter func116,ntmps116;go_wp2_with fail;refine HC.out.mono ?_;rintro e Y ⟨rfl,rfl⟩;go_wp2;go_ret2;exact .no HN.out kR
 have b2:fM s=(mj s (s.size+1) 0 0).filter fun n=>decide (n<9223372036854775808):=by unfold fM;rw[ah (by omega)]
 have hit:(w.iter s 0).heap[w.heap.size]? =some (.stringIter s 0):=World.iter_heap w s 0;have b5:aa All w (w.iter s 0):=(aa.refl _ w).alloc _;have H0:=J3 hit b5 b2;clear hit b5 b2;by_cases hf:dN s 0=48;·(
 have e1:((((s[0]' a7).toNat:Nat):Int)==48)=true:=by rw[cX];omega
 have h1:¬1<s.size:=fun h=>a8 ⟨hf,h⟩;clear hf a8 b3;go_enter func116,ntmps116;go_wp2_with fail;refine HC.out.mono ?_;rintro e Y ⟨rfl,rfl⟩;go_wp2;go_loopg [6] (s.size+1) (fun g m wr=>∃q n f:Nat,g=s.size+1-q∧m=.int .u64 n∧q≤s.size∧n<10^q∧s.size+1≤q+f∧wr.heap[Y.heap.size]? =some (.stringIter s q)∧aa All Y wr∧mj s f q n=mj s (s.size+1) 0 0);·exact⟨0,0,s.size+1,by omega,rfl,by omega,by decide,by omega,H0.1,H0.2.1,rfl⟩
 obtain⟨q,n,f,rfl,rfl,hq,hn,hf,J,C,j⟩:=hrel;obtain⟨f,rfl⟩:∃f',f=f'+1:=⟨f-1,by omega⟩;by_cases R:q<s.size;·(
 have a6:=fun ty=>pR (P:=prog) wr Y.heap.size s q ty J R;obtain⟨k1,_,k3⟩:=lm hp R;have hB:Y.heap.size<wr.heap.size:=by
  rcases Nat.lt_or_ge Y.heap.size wr.heap.size with h|h;·exact h
  rw[gT h] at J;cases J
 rw[oE R,k3] at j;rw[k3] at a6;simp only at a6 j;have b0:aa All Y (dI wr Y.heap.size s (q+1)):=gG C (.inr (bj _));have a1:=jH (W:=wr) (s:=s) (p:=q+1) hB;have HQ:=J2 b0 a1;clear b0 a1 J C k3;generalize dN s q=r at*;have o:=fun W=>nE (r:Int) W;cases hD:ey (r:Int) with
 |false=>rw[hD] at j o;have HN:=oH (show fM s=none from by rw[H0.2.2,←j];rfl);have HD:=oH o;clear hD j o hn;go_wp2_with (go_at_call 183;refine(HD.out _).mono ?_;rintro e w2 ⟨rfl,rfl⟩);go_ret2;exact .no HN.out HQ.1
 |true=>
  rw[hD] at j o;have hr:48≤r∧r≤57:=by unfold ey oe at hD;simp only[dX,eq] at hD;omega
  have b6:10^q≤1000000000000000000:=dA (Nat.pow_le_pow_right (by decide) (show q≤18 by omega)) (by decide);have b1:10*n+(r-48)<10^(q+1):=by rw[Nat.pow_succ];omega
  have HW:=J2 j b1;have HD:=oH o;clear hD j o b1;go_wp2_with (go_at_call 183;refine(HD.out _).mono ?_;rintro e w2 ⟨rfl,rfl⟩);go_roundg (s.size+1-(q+1));·exact⟨q+1,10*n+(r-48),f,rfl,by rw[show(((10*n+(r-48):Nat)):Int)=10*(n:Int)+((r:Int)-48) by omega],by omega,HW.2,by omega,HQ.2,HQ.1,HW.1⟩
  omega)
 rw[uN R] at j;have a6:=fun ty=>mT (P:=prog) wr Y.heap.size s q ty J R;have HK:=oH C;have HS:=oH j;clear C J j;by_cases I:n<9223372036854775808
 ·have HN:=oH (show fM s=some n from by rw[H0.2.2,←HS.out];exact BN I);have b4:(n:Int)<9223372036854775808:=by omega
  clear I;go_wp2;go_ret2;exact .yes HN.out HK.out
 have HN:=oH (show fM s=none from by rw[H0.2.2,←HS.out];exact FA I);have b4:¬(n:Int)<9223372036854775808:=by omega
 clear I;go_wp2;go_ret2;exact .no HN.out HK.out)
 have e1:((((s[0]' a7).toNat:Nat):Int)==48)=false:=by rw[bE];omega
 clear hf a8 b3;go_enter func116,ntmps116;go_wp2_with fail;refine HC.out.mono ?_;rintro e Y ⟨rfl,rfl⟩;go_wp2;go_loopg [6] (s.size+1) (fun g m wr=>∃q n f:Nat,g=s.size+1-q∧m=.int .u64 n∧q≤s.size∧n<10^q∧s.size+1≤q+f∧wr.heap[Y.heap.size]? =some (.stringIter s q)∧aa All Y wr∧mj s f q n=mj s (s.size+1) 0 0);·exact⟨0,0,s.size+1,by omega,rfl,by omega,by decide,by omega,H0.1,H0.2.1,rfl⟩
 obtain⟨q,n,f,rfl,rfl,hq,hn,hf,J,C,j⟩:=hrel;obtain⟨f,rfl⟩:∃f',f=f'+1:=⟨f-1,by omega⟩;by_cases R:q<s.size;·(
 have a6:=fun ty=>pR (P:=prog) wr Y.heap.size s q ty J R;obtain⟨k1,_,k3⟩:=lm hp R;have hB:Y.heap.size<wr.heap.size:=by
  rcases Nat.lt_or_ge Y.heap.size wr.heap.size with h|h;·exact h
  rw[gT h] at J;cases J
 rw[oE R,k3] at j;rw[k3] at a6;simp only at a6 j;have b0:aa All Y (dI wr Y.heap.size s (q+1)):=gG C (.inr (bj _));have a1:=jH (W:=wr) (s:=s) (p:=q+1) hB;have HQ:=J2 b0 a1;clear b0 a1 J C k3;generalize dN s q=r at*;have o:=fun W=>nE (r:Int) W;cases hD:ey (r:Int) with
 |false=>rw[hD] at j o;have HN:=oH (show fM s=none from by rw[H0.2.2,←j];rfl);have HD:=oH o;clear hD j o hn;go_wp2_with (go_at_call 183;refine(HD.out _).mono ?_;rintro e w2 ⟨rfl,rfl⟩);go_ret2;exact .no HN.out HQ.1
 |true=>
  rw[hD] at j o;have hr:48≤r∧r≤57:=by unfold ey oe at hD;simp only[dX,eq] at hD;omega
  have b6:10^q≤1000000000000000000:=dA (Nat.pow_le_pow_right (by decide) (show q≤18 by omega)) (by decide);have b1:10*n+(r-48)<10^(q+1):=by rw[Nat.pow_succ];omega
  have HW:=J2 j b1;have HD:=oH o;clear hD j o b1;go_wp2_with (go_at_call 183;refine(HD.out _).mono ?_;rintro e w2 ⟨rfl,rfl⟩);go_roundg (s.size+1-(q+1));·exact⟨q+1,10*n+(r-48),f,rfl,by rw[show(((10*n+(r-48):Nat)):Int)=10*(n:Int)+((r:Int)-48) by omega],by omega,HW.2,by omega,HQ.2,HQ.1,HW.1⟩
  omega)
 rw[uN R] at j;have a6:=fun ty=>mT (P:=prog) wr Y.heap.size s q ty J R;have HK:=oH C;have HS:=oH j;clear C J j;by_cases I:n<9223372036854775808
 ·have HN:=oH (show fM s=some n from by rw[H0.2.2,←HS.out];exact BN I);have b4:(n:Int)<9223372036854775808:=by omega
  clear I;go_wp2;go_ret2;exact .yes HN.out HK.out
 have HN:=oH (show fM s=none from by rw[H0.2.2,←HS.out];exact FA I);have b4:¬(n:Int)<9223372036854775808:=by omega
 clear I;go_wp2;go_ret2;exact .no HN.out HK.out
theorem wW {s:ByteArray}(h:dD s=true):∀ {f p:Nat},p≤s.size→wV s f p≤s.size
 |0,_,o=>o
 |f+1,p,o=>by
  by_cases j:p<s.size
  ·rw[vK j];split;·rw[(lm h j).2.2];exact wW h (by show p+1≤_;omega)
   exact o
  rw[yS j];exact bj _
def AU:List UInt8:=[40,41,123,125,91,93,44,58,61]
theorem GY:∀n,n<256→decide (0≤Lib.indexByte AU n.toUInt8)=zX n:=of_decide_eq_true (by kernel_rfl)
theorem mF (s:ByteArray)(a b:Nat)(h:b≤s.size):(s.extract a b).size=b-a:=by rw[ByteArray.size_extract];omega
def Io (r:Option pj)(p:Nat)(w:World)(e:Ending)(w':World):Prop:=aa All w w'∧match r with
 |none=>e=.returned (.tuple #[.agg #[.int .u8 0,.int .i64 0,.int .i64 0],.int .i64 p,.int .i64 4])
 |some t=>e=.returned (.tuple #[.agg #[.int .u8 t.kind,.int .i64 t.beg,.int .i64 t.fin],.int .i64 0,.int .i64 0])
theorem pT {j:Ending→World→Prop}{a:Act}{W:World}{g:Nat}{k b f x y:Int}(o:a.tmps[4]? =some (.pointer (some ⟨g,0,none⟩)))(C:a.tmps[5]? =some (.int .i64 x))(I:a.tmps[6]? =some (.int .i64 y))(J:a.defers=[])
 (c:al W g 208 #[.int .u8 k,.int .i64 b,.int .i64 f]) (h:j (.returned (.tuple #[.agg #[.int .u8 k,.int .i64 b,.int .i64 f],.int .i64 x,.int .i64 y])) W):bodyPost prog Tryz.f120 j .ret a W:=by
 obtain⟨R,r1,r2⟩:=c.c3;exact bodyPost_ret (by simp[results,Tryz.results120,go_sem,o,C,I,R,r1,r2]) J h
theorem Hi (s:ByteArray)(at':Nat)(r:Option pj)(w:World)(hp:dD s=true)(hs:s.size≤65536)(ha:at'≤s.size)(hr:wN s at'=some r):
 Calls prog 120 #[.string s,.int .i64 at'] w (Io r (gm s (s.size+1) at') w):=by
 have c9:=fun w=>Ei s at' w hp ha hs;have e8:gm s (s.size+1) at'≤s.size:=zc ha;unfold wN at hr;generalize gm s (s.size+1) at'=p at*;have c7:=oH c9;clear c9;have hg:¬s.size<at':=by omega
 obtain⟨W0,b9⟩:=eQ (w.alloc (.cells #[.int .u8 0,.int .i64 0,.int .i64 0] 208));have d7:aa All w W0:=by rw[b9];exact kR.alloc _
 have bT:al W0 w.heap.size 208 #[.int .u8 0,.int .i64 0,.int .i64 0]:=by rw[b9];exact al.new _ _ _
 have J:=J3 b9 d7 bT;clear b9 d7 bT;by_cases a6:p<s.size;·(
 simp only[am a6] at hr;have hb:=jB s p a6;have b5:=fun w=>Tryz.strings_IndexByte ⟨#[40,41,123,125,91,93,44,58,61]⟩ ((dN s p:Nat):Int) w;have R:=GY (dN s p) (by rw[hb];exact(s[p]' a6).toNat_lt);rw[hb] at b5 R;simp only[fD] at b5;change ∀w,Calls _ _ _ _ (fun e w'=>e=.returned (.int .i64 (Lib.indexByte AU (s[p]' a6).toNat.toUInt8))∧w'=w) at b5;generalize hI:Lib.indexByte AU (s[p]' a6).toNat.toUInt8=I at*;have d8:=oH b5;clear b5 hI;have e0:((p:Int)==(s.size:Int))=false:=by rw[bE];omega
 by_cases C:zX (dN s p)=true;·rw[am C] at hr;cases hr;rw[←hb,C] at R;have e5:0≤I:=of_decide_eq_true R;clear R C hb;go_enter func120,ntmps120;go_upto_region 1 with fail;rw[←J.1];go_wp2_with fail;refine(c7.out _).mono ?_;rintro e w1 ⟨rfl,rfl⟩;go_wp2_with fail;refine(d8.out _).mono ?_;rintro e w1 ⟨rfl,rfl⟩;obtain⟨t0,t1,t2⟩:=(show w1.cell? ⟨w.heap.size,0,none⟩=some (.int .u8 0)∧w1.cell? ⟨w.heap.size,1,none⟩=some (.int .i64 0)∧w1.cell? ⟨w.heap.size,2,none⟩=some (.int .i64 0) from⟨J.2.2.cell 0,J.2.2.cell 1,J.2.2.cell 2⟩);have f0:=J.2.2.free 0;have f1:=J.2.2.free 1;have f2:=J.2.2.free 2;go_wp2_with fail;have b1:=((J.2.2.set 0 (.int .u8 4)).set 1 (.int .i64 p)).set 2 (.int .i64 (p+1));have k1:aa All w (((w1.setCell ⟨w.heap.size,0,none⟩ (.int .u8 4)).setCell ⟨w.heap.size,1,none⟩ (.int .i64 p)).setCell ⟨w.heap.size,2,none⟩ (.int .i64 (p+1))):=((J.2.1.setCell (.inr (bj _)) _).setCell (.inr (bj _)) _).setCell (.inr (bj _)) _;simp only[ga] at b1;exact pT rfl rfl rfl rfl b1 ⟨k1,rfl⟩
 rw[ah C] at hr;rw[←hb] at R;have e5:¬0≤I:=fun h=>by rw[be h] at R;exact C R.symm
 by_cases c3:dN s p=45;·rw[am c3] at hr;cases hr
 rw[ah c3] at hr;have e9:((((s[p]' a6).toNat:Nat):Int)==45)=false:=by rw[bE];omega
 have d9:=mF s p s.size (bj _);have h1:oT (s.extract p s.size)≤s.size-p:=by rw[←d9];exact wW (nT hp _ _) (Nat.zero_le _)
 have c4:=fun w=>Hk (s.extract p s.size) w;generalize oT (s.extract p s.size)=n at*;have e6:=mF s p (p+n) (by omega);have e1:=nT hp p (p+n);have e2:(s.extract p (p+n)).size=0∨dN (s.extract p (p+n)) 0≠45:=by(
 by_cases h0:n=0;·left;omega
 right;rw[jB _ _ (by omega)];intro e;apply c3;rw[hb,←e];congr 1;rw[ByteArray.getElem_extract];simp)
 have c5:=fun w=>pY (s.extract p (p+n)) w e1 e2 (by omega);have b7:=fun w=>tZ (s.extract p (p+n)) w;have b8:=fun w=>sS (s.extract p (p+n)) w;generalize hP:s.extract p (p+n)=P at*;have HR:=oH c4;have HN:=oH c5;have HM:=J2 b7 b8;have h2:p+n≤s.size:=by omega
 clear c4 c5 b7 b8 R C hb c3 e2 e1 e6 d9;have hk:ml P≠0:=fun h=>by rw[am h] at hr;cases hr
 rw[ah hk] at hr;cases hr;have HP:=oH hP;go_enter func120,ntmps120;go_upto_region 1 with fail;rw[←J.1];go_wp2_with fail;refine(c7.out _).mono ?_;rintro e w1 ⟨rfl,rfl⟩;go_wp2_with fail;refine(d8.out _).mono ?_;rintro e w1 ⟨rfl,rfl⟩;go_wp2_with fail;refine(HR.out _).mono ?_;rintro e w2 ⟨rfl,e3⟩;have e4:=oH e3;clear e3;go_upto_region 12 with fail;have k3:aa All w2 (w2.alloc (.cells #[.int .u8 0,.int .i64 p,.int .i64 (p+n)] 208)):=kR.alloc _;have b3:al (w2.alloc (.cells #[.int .u8 0,.int .i64 p,.int .i64 (p+n)] 208)) w2.heap.size 208 #[.int .u8 0,.int .i64 p,.int .i64 (p+n)]:=al.new _ _ _;have c6:w.heap.size<w2.heap.size:=by have:=e4.out.size;have:=J.2.2.lt;omega
 generalize w2.alloc _=W3 at*;have Y:=J3 (e4.out.trans k3) b3 c6;clear k3 b3 c6;have e7:=HP.out;go_upto_region 13 with fail;clear e7;go_wp2_with fail;refine(HN.out _).mono ?_;rintro e w4 ⟨c8,v,rfl,_⟩;have a7:=J2 (Y.1.trans c8) (Y.2.1.kept c8 trivial);clear c8;go_wp2_with fail;refine(HM.1 _).mono ?_;rintro e w5 ⟨rfl,rfl⟩;cases hw:fu P with
 |true=>have b2:=oH (show ml P=2 from by unfold ml;rw[am hw]);clear hw;have bK:=a7.2;have c0:=bK.cell 0;have g0:=bK.free 0;simp only[gc] at c0;go_upto_region 21 with fail;have k7:aa All w (w4.setCell ⟨w2.heap.size,0,none⟩ (.int .u8 2)):=(J.2.1.trans a7.1).setCell (.inr (by have:=Y.2.2;show w.heap.size≤w2.heap.size;omega)) _;have o:=bK.set 0 (.int .u8 2);have j:=(J.2.2.kept a7.1 trivial).far (p:=⟨w2.heap.size,0,none⟩) (by have:=Y.2.2;simp<;>omega) (.int .u8 2);simp only[ga] at o;generalize w4.setCell _ _=w7 at*;clear c0 g0 bK;have a1:=J2 k7 j;have c0:=o.cell 0;have c1:=o.cell 1;have c2:=o.cell 2;have t0:=j.cell 0;have t1:=j.cell 1;have t2:=j.cell 2;have f0:=j.free 0;have f1:=j.free 1;have f2:=j.free 2;simp only[gc] at c0 c1 c2 t0 t1 t2;clear k7 o j;go_wp2_with fail;have b6:=((a1.2.set 0 (.int .u8 2)).set 1 (.int .i64 p)).set 2 (.int .i64 (p+n));have k6:aa All w (((w7.setCell ⟨w.heap.size,0,none⟩ (.int .u8 2)).setCell ⟨w.heap.size,1,none⟩ (.int .i64 p)).setCell ⟨w.heap.size,2,none⟩ (.int .i64 (p+n))):=(((a1.1.setCell (.inr (bj _)) _).setCell (.inr (bj _)) _).setCell (.inr (bj _)) _);simp only[ga] at b6;exact pT rfl rfl rfl rfl b6 ⟨k6,by rw[b2.out];rfl⟩
 |false=>
  cases b4:gE P with
  |true=>have b2:=oH (show ml P=1 from by unfold ml;rw[ah (by rw[hw];exact lE),am b4]);clear hw;go_wp2_with fail;refine(HM.2 _).mono ?_;rintro e w6 ⟨rfl,a8⟩;rw[b4];clear b4;have b0:=J2 (a7.1.trans a8) (a7.2.kept a8 trivial);clear a8;have bK:=b0.2;have c0:=bK.cell 0;have g0:=bK.free 0;simp only[gc] at c0;go_upto_region 21 with fail;have k7:aa All w (w6.setCell ⟨w2.heap.size,0,none⟩ (.int .u8 1)):=(J.2.1.trans b0.1).setCell (.inr (by have:=Y.2.2;show w.heap.size≤w2.heap.size;omega)) _;have o:=bK.set 0 (.int .u8 1);have j:=(J.2.2.kept b0.1 trivial).far (p:=⟨w2.heap.size,0,none⟩) (by have:=Y.2.2;simp<;>omega) (.int .u8 1);simp only[ga] at o;generalize w6.setCell _ _=w7 at*;clear c0 g0 bK;have a1:=J2 k7 j;have c0:=o.cell 0;have c1:=o.cell 1;have c2:=o.cell 2;have t0:=j.cell 0;have t1:=j.cell 1;have t2:=j.cell 2;have f0:=j.free 0;have f1:=j.free 1;have f2:=j.free 2;simp only[gc] at c0 c1 c2 t0 t1 t2;clear k7 o j;go_wp2_with fail;have b6:=((a1.2.set 0 (.int .u8 1)).set 1 (.int .i64 p)).set 2 (.int .i64 (p+n));have k6:aa All w (((w7.setCell ⟨w.heap.size,0,none⟩ (.int .u8 1)).setCell ⟨w.heap.size,1,none⟩ (.int .i64 p)).setCell ⟨w.heap.size,2,none⟩ (.int .i64 (p+n))):=(((a1.1.setCell (.inr (bj _)) _).setCell (.inr (bj _)) _).setCell (.inr (bj _)) _);simp only[ga] at b6;exact pT rfl rfl rfl rfl b6 ⟨k6,by rw[b2.out];rfl⟩
  |false=>
   have b2:=oH (show(fM P).isSome=true∧ml P=3 from by
    unfold ml at hk⊢;rw[ah (by rw[hw];exact lE),ah (by rw[b4];exact lE)] at hk⊢;by_cases h:(fM P).isSome=true;·exact⟨h,am h⟩
    rw[ah h] at hk;exact absurd rfl hk)
   clear hw;go_wp2_with fail;refine(HM.2 _).mono ?_;rintro e w6 ⟨rfl,a8⟩;rw[b4];clear b4;have b0:=J2 (a7.1.trans a8) (a7.2.kept a8 trivial);clear a8;have h3:=b2.1;have bK:=b0.2;have c0:=bK.cell 0;have g0:=bK.free 0;simp only[gc] at c0;go_upto_region 21 with fail;have k7:aa All w (w6.setCell ⟨w2.heap.size,0,none⟩ (.int .u8 3)):=(J.2.1.trans b0.1).setCell (.inr (by have:=Y.2.2;show w.heap.size≤w2.heap.size;omega)) _;have o:=bK.set 0 (.int .u8 3);have j:=(J.2.2.kept b0.1 trivial).far (p:=⟨w2.heap.size,0,none⟩) (by have:=Y.2.2;simp<;>omega) (.int .u8 3);simp only[ga] at o;generalize w6.setCell _ _=w7 at*;clear c0 g0 bK;have a1:=J2 k7 j;have c0:=o.cell 0;have c1:=o.cell 1;have c2:=o.cell 2;have t0:=j.cell 0;have t1:=j.cell 1;have t2:=j.cell 2;have f0:=j.free 0;have f1:=j.free 1;have f2:=j.free 2;simp only[gc] at c0 c1 c2 t0 t1 t2;clear k7 o j;go_wp2_with fail;have b6:=((a1.2.set 0 (.int .u8 3)).set 1 (.int .i64 p)).set 2 (.int .i64 (p+n));have k6:aa All w (((w7.setCell ⟨w.heap.size,0,none⟩ (.int .u8 3)).setCell ⟨w.heap.size,1,none⟩ (.int .i64 p)).setCell ⟨w.heap.size,2,none⟩ (.int .i64 (p+n))):=(((a1.1.setCell (.inr (bj _)) _).setCell (.inr (bj _)) _).setCell (.inr (bj _)) _);simp only[ga] at b6;exact pT rfl rfl rfl rfl b6 ⟨k6,by rw[b2.2];rfl⟩)
 simp only[ah a6] at hr;cases hr;have e0:((p:Int)==(s.size:Int))=true:=by rw[cX];omega
 go_enter func120,ntmps120;go_upto_region 1 with fail;rw[←J.1];go_wp2_with fail;refine(c7.out _).mono ?_;rintro e w1 ⟨rfl,rfl⟩;obtain⟨t0,t1,t2⟩:=(show W0.cell? ⟨w.heap.size,0,none⟩=some (.int .u8 0)∧W0.cell? ⟨w.heap.size,1,none⟩=some (.int .i64 0)∧W0.cell? ⟨w.heap.size,2,none⟩=some (.int .i64 0) from⟨J.2.2.cell 0,J.2.2.cell 1,J.2.2.cell 2⟩);have f0:=J.2.2.free 0;have f1:=J.2.2.free 1;have f2:=J.2.2.free 2;go_wp2_with fail;have b1:=((J.2.2.set 0 (.int .u8 0)).set 1 (.int .i64 0)).set 2 (.int .i64 0);have k1:aa All w (((W0.setCell ⟨w.heap.size,0,none⟩ (.int .u8 0)).setCell ⟨w.heap.size,1,none⟩ (.int .i64 0)).setCell ⟨w.heap.size,2,none⟩ (.int .i64 0)):=((J.2.1.setCell (.inr (bj _)) _).setCell (.inr (bj _)) _).setCell (.inr (bj _)) _;simp only[ga] at b1;exact pT rfl rfl rfl rfl b1 ⟨k1,rfl⟩
def Iq:aT pj:=fun _ _ cs t=>cs=[.int .u8 t.kind,.int .i64 t.beg,.int .i64 t.fin]
theorem nI:aT.Good Iq:=⟨fun _ h=>h,fun _ h=>h⟩
abbrev Ct:=qT 3 24 Iq
theorem bW:cM.Good Ct:=ii nI
theorem Jg:(prog.info? 208).map (fun i=>(i.zero,i.size,i.bytes))=some (some (.agg #[.int .u8 0,.int .i64 0,.int .i64 0]),3,24):=by kernel_rfl
theorem Fk (A:Option Addr)(n c:Nat)(w:World)(h:n≤c):Calls prog 121 #[.slice A n c] w fun e j=>e=.returned (.slice A n n)∧j=w:=by go_enter func121,ntmps121;go_wp2;go_ret;exact⟨rfl,rfl⟩
theorem Lq {α:Type}{n bw:Nat}{E:aT α}{S:Nat→Prop}{w:World}{A:Option Addr}{k c:Nat}{l:List α}(h:qT n bw E S w (.slice A k c) l):k≤c:=by obtain⟨o,C,e,j,_⟩:=h;cases e;exact j
theorem JH {α:Type}{n bw:Nat}{E:aT α}{S:Nat→Prop}{w:World}{A:Option Addr}{k c:Nat}{l:List α}(h:qT n bw E S w (.slice A k c) l):qT n bw E S w (.slice A k k) l:=by obtain⟨o,C,e,I,J,R,j⟩:=h;cases e;exact⟨A,l.length,rfl,bj _,by omega,by omega,j⟩
theorem Gr {s:ByteArray}(j:dD s=true){q:Nat}{t:pj}(h:wN s q=some (some t)):t.fin≤s.size:=by
 unfold wN at h;simp only at h;split at h
 ·rename_i o;split at h;·cases h;show _+1≤_;omega
  split at h;·cases h
  split at h;·cases h
  cases h;have C:=wW (nT j (gm s (s.size+1) q) s.size) (f:=(s.extract (gm s (s.size+1) q) s.size).size+1) (Nat.zero_le _);rw[mF _ _ _ (bj _)] at C;show _+oT _≤_;unfold oT;rw[mF _ _ _ (bj _)];omega
 cases h
theorem tR {s:ByteArray}:∀ {f q:Nat} {l:List pj},fO s f q=some l→l.length<f
 |0,_,_,h=>by cases h
 |f+1,q,l,h=>by(
 rw[fO] at h;split at h;·cases h
 ·cases h;simp
 cases hm:fO s f _ with
 |none=>rw[hm] at h;cases h
 |some r=>rw[hm] at h;cases h;have:=tR hm;simp;omega)
def Ie (l:List pj)(w:World)(e:Ending)(w':World):Prop:=aa All w w'∧∃(A:Option Addr) (c:Nat),e=.returned (.tuple #[.slice A l.length c,.int .i64 0,.int .i64 0])∧Ct (fun b=>w.heap.size≤b∧b<w'.heap.size) w' (.slice A l.length c) l
theorem Hf (s:ByteArray)(l:List pj)(w:World)(hp:dD s=true)(hs:s.size≤65536)(hr:fO s (s.size+1) 0=some l):
 Calls prog 74 #[.string s] w (Ie l w):=by
 have HB:=oH (zg s w hp);have HT:=oH (fun q r w1 (h1:q≤s.size) (h2:wN s q=some r)=>Hi s q r w1 hp hs h1 h2);have HF:=oH (fun q t=>Gr hp (q:=q) (t:=t));obtain⟨iT,b2,b4,b5,b6⟩:=info_parts Jg;have IT:=J4 b2 b4 b5 b6;have HL:=oH (tR hr);have HR:=oH hr;clear b2 b4 b5 b6 hr hp;go_enter func74,ntmps74;go_wp2_with fail;refine HB.out.mono ?_;rintro e w1 ⟨rfl,b7⟩;have c3:=oH b7;clear b7;go_wp2_with fail;go_loopg [6,7] (s.size+1) (fun g m6 m7 wr=>∃(f q:Nat) (r l1:List pj),g=f∧m7=.int .i64 q∧q≤s.size∧fO s f q=some r∧l1++r=l∧aa All w wr∧cq 3 208 Iq w.heap.size wr m6 l1);·exact⟨s.size+1,0,l,[],rfl,rfl,by omega,HR.out,rfl,c3.out,cq.nil⟩
 obtain⟨f,q,r,l1,c6,rfl,hq,C,R,b8,Y⟩:=hrel;obtain⟨wo,c4⟩:=eQ wr;subst c4;obtain⟨A,c,rfl⟩:=Y.form;have I:=J3 b8 Y R;clear b8 Y R;have c7:l1.length≤65536:=by have h:=congrArg List.length I.2.2;rw[eV] at h;have:=HL.out;omega
 cases f with
 |zero=>cases C
 |succ f=>
 rw[fO] at C;cases ho:wN s q with
 |none=>rw[ho] at C;cases C
 |some o=>
  rw[ho] at C;have HO:=oH (HT.out q o wo hq ho);cases o with
  |none=>
   cases C;clear ho;go_wp2_with fail;refine HO.out.mono ?_;rintro e w2 ⟨a1,rfl⟩;have a6:=oH a1;clear a1;go_upto_region 9 with fail;have k3:aa All w2 (w2.alloc (.cells #[.int .u8 0,.int .i64 0,.int .i64 0] 208)):=kR.alloc _;generalize w2.alloc _=W3 at*;have J:=oH (a6.out.trans k3);clear k3;have b0:=(I.2.1.keep nI J.out fun _ _ _=>trivial).read (bw:=24) nI (by omega);have hc:=Lq b0;have c5:=oH (JH b0);clear b0;go_wp2_with fail;refine(Fk A l1.length c W3 hc).mono ?_;rintro e w4 ⟨rfl,rfl⟩;go_wp2_with fail;have R:l=l1:=by rw[←I.2.2];simp
   refine bodyPost_ret (v:=.tuple #[.slice A l1.length l1.length,.int .i64 0,.int .i64 0]) (by simp[results,Tryz.results74,go_sem]) rfl ?_;refine⟨I.1.trans J.out,A,l1.length,by rw[R],?_⟩;rw[R];exact c5.out
  |some t=>
   have C:(fO s f t.fin).map (fun l=>t::l)=some r:=C;cases hm:fO s f t.fin with
   |none=>rw[hm] at C;cases C
   |some r2=>
   rw[hm] at C;cases C;have a8:=HF.out q t ho;have HM:=J2 hm a8;clear ho hm a8;go_wp2_with fail;refine HO.out.mono ?_;rintro e w2 ⟨a1,rfl⟩;have a6:=oH a1;clear a1;go_upto_region 9 with fail;have k3:aa All w2 (w2.alloc (.cells #[.int .u8 t.kind,.int .i64 t.beg,.int .i64 t.fin] 208)):=kR.alloc _;have b3:al (w2.alloc (.cells #[.int .u8 t.kind,.int .i64 t.beg,.int .i64 t.fin] 208)) w2.heap.size 208 #[.int .u8 t.kind,.int .i64 t.beg,.int .i64 t.fin]:=al.new _ _ _;generalize w2.alloc _=W3 at*;have J:=J3 (I.1.trans (a6.out.trans k3)) b3 (I.2.1.keep nI (a6.out.trans k3) fun _ _ _=>trivial);obtain⟨c0,c1,c2⟩:=b3.c3;clear k3 b3;have c8:w2.heap.size<W3.heap.size:=J.2.1.lt;have c9:=J.1.size;go_wp2_with (
    at_builtin;go_loud (
    refine bC (E:=Iq) _ nI rfl (.tmp 34) (.tmp 36) 132 rfl iT _ 24 underlying132 IT.1 IT.2.1 IT.2.2.1 IT.2.2.2 rfl (by decide) _ _ rfl ((J.2.2.keep nI ((aa.refl All _).alloc _)) fun _ _ _=>trivial) W3.heap.size 0 1 rfl [.int .u8 t.kind,.int .i64 t.beg,.int .i64 t.fin] t rfl ?_ ?_ ?_ (by omega) ?_ (fun _=>False) ?_ rfl ?_;·intro j u hu;rw[dU,(al.new _ _ _:al (W3.alloc _) W3.heap.size _ _).cell,List.getElem?_toArray];exact hu
    ·intro u hu;simp only[fV,List.not_mem_nil,or_false] at hu;rcases hu with rfl|rfl|rfl<;>rfl
    ·omega
    ·simp;omega
    ·intro b hb;exact hb.elim
    intro C2 d7 w4 a7 b1 b9;have k4:=(J.1.alloc (.cells #[.int .u8 t.kind,.int .i64 t.beg,.int .i64 t.fin] 208)).grown b1 (fun b hb=>.inr (b9 b hb));have q2:=(J.2.1.alloc (.cells #[.int .u8 t.kind,.int .i64 t.beg,.int .i64 t.fin] 208)).grown b1 (fun e=>by obtain⟨xs,hx⟩:=I.2.1.own;have:=(au hx e.symm).2;have:=a6.out.size;omega);have c2:=q2.cell 2;simp only[gc] at c2;have H4:=J2 a7 k4;clear k4 a7 b1 b9 q2))
   go_roundg f;·exact⟨f,t.fin,r2,l1++[t],rfl,rfl,HM.2,HM.1,by rw[jR];exact I.2.2,H4.2,by simpa using H4.1⟩
   omega
end Go.Proofs.YtccbbkopmlnkpaaGreatDoor
