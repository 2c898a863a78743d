/- Part 18 of the proof (its last part says what is proved). No condition. -/
import Derived.Shelf.Small.Strs
import Derived.Shelf.Small.Wraps
import Derived.Shelf.Strings.Shaped
import Derived.Shelf.Sort.Plain
import Derived.Shelf.Strings.SplitShaped
import Derived.Shelf.Unicode.DecodeSlow
import Derived.Shelf.Strings.FieldsFuncAny
import Derived.Shelf.Slices.Turned
import Derived.Shelf.Slices.Clone
import Derived.Shelf.Slices.SearchI
import Derived.Shelf.Slices.Cells
import Derived.Shelf.Slices.In.SortNone
import Derived.Shelf.Slices.Empties2
import Derived.Test.YtccbbkopmlnkpaaGreatDoorK9
namespace Go.Proofs.YtccbbkopmlnkpaaGreatDoor
set_option maxRecDepth 100000
set_option maxHeartbeats 8000000
open Go.RowKit Go.Proofs.Tryz
section
open Go.Shelf
def Tryz.lays137_ren:Go.Shelf.Ren:=⟨fun|137=>190|217=>184|266=>227|n=>n,fun|9=>9|5=>5|3=>3|n=>n,fun|n=>n⟩
theorem Tryz.lays137:Go.Proofs.Lays.n137 prog Tryz.lays137_ren:= {
 mixed:=by kernel_rfl
 f137:=func190.trans (congrArg some (by kernel_rfl))
 f217:=func184.trans (congrArg some (by kernel_rfl))
 f266:=func227.trans (congrArg some (by kernel_rfl))
 t3:=underlying3
 a3:=Tryz.isAgg3
 z3:=Tryz.sizeOf3
 v3:=Tryz.zeroValue3
 t5:=underlying5
 a5:=Tryz.isAgg5
 z5:=Tryz.sizeOf5
 v5:=Tryz.zeroValue5
 t9:=underlying9
 a9:=Tryz.isAgg9
 z9:=Tryz.sizeOf9
 v9:=Tryz.zeroValue9}
open Go.RowKit in
theorem Tryz.strings_IndexByte (s:ByteArray)(c:Int)(w:World):
 Calls prog 190 #[.string s,.int .u8 c] w fun e j=>e=.returned (.int .i64 (Lib.indexByte s.data.toList c.toNat.toUInt8))∧j=w:=Any.strings_IndexByte Tryz.lays137 s c w
def Tryz.lays103_ren:Go.Shelf.Ren:=⟨fun|103=>182|210=>226|206=>242|n=>n,fun|9=>9|4=>4|24=>251|3=>3|n=>n,fun|n=>n⟩
theorem Tryz.lays103:Go.Proofs.Lays.n103 prog Tryz.lays103_ren:= {
 mixed:=by kernel_rfl
 f103:=func182.trans (congrArg some (by kernel_rfl))
 f206:=func242.trans (congrArg some (by kernel_rfl))
 f210:=func226.trans (congrArg some (by kernel_rfl))
 t3:=underlying3
 a3:=Tryz.isAgg3
 z3:=Tryz.sizeOf3
 v3:=Tryz.zeroValue3
 t4:=underlying4
 a4:=Tryz.isAgg4
 z4:=Tryz.sizeOf4
 v4:=Tryz.zeroValue4
 t9:=underlying9
 a9:=Tryz.isAgg9
 z9:=Tryz.sizeOf9
 v9:=Tryz.zeroValue9
 t24:=underlying251
 a24:=Tryz.isAgg251
 z24:=Tryz.sizeOf251
 v24:=Tryz.zeroValue251}
open Go.RowKit in
theorem Tryz.strings_CutPrefix (s p:ByteArray)(w:World):
 Calls prog 182 #[.string s,.string p] w fun e j=>e=.returned (.tuple #[.string ⟨(Lib.trimPrefix s.data.toList p.data.toList).toArray⟩,.bool (Lib.hasPrefix s.data.toList p.data.toList)])∧j=w:=Any.strings_CutPrefix Tryz.lays103 s p w
def Tryz.lays146_ren:Go.Shelf.Ren:=⟨fun|146=>68|221=>114|268=>175|138=>176|143=>72|195=>223|197=>113|218=>224|219=>117|260=>174|217=>184|225=>185|224=>186|267=>187|266=>227|314=>228|n=>n,fun|9=>9|31=>22|3=>3|4=>4|0=>0|105=>192|21=>21|5=>5|46=>190|119=>281|139=>284|138=>283|146=>287|51=>246|n=>n,fun|1=>0|3=>1|4=>2|n=>n⟩
theorem Tryz.lays146:Go.Proofs.Lays.n146 prog Tryz.lays146_ren:= {
 mixed:=by kernel_rfl
 f138:=func176.trans (congrArg some (by kernel_rfl))
 f143:=func72.trans (congrArg some (by kernel_rfl))
 f146:=func68.trans (congrArg some (by kernel_rfl))
 f195:=func223.trans (congrArg some (by kernel_rfl))
 f197:=func113.trans (congrArg some (by kernel_rfl))
 f217:=func184.trans (congrArg some (by kernel_rfl))
 f218:=func224.trans (congrArg some (by kernel_rfl))
 f219:=func117.trans (congrArg some (by kernel_rfl))
 f221:=func114.trans (congrArg some (by kernel_rfl))
 f224:=func186.trans (congrArg some (by kernel_rfl))
 f225:=func185.trans (congrArg some (by kernel_rfl))
 f260:=func174.trans (congrArg some (by kernel_rfl))
 f266:=func227.trans (congrArg some (by kernel_rfl))
 f267:=func187.trans (congrArg some (by kernel_rfl))
 f268:=func175.trans (congrArg some (by kernel_rfl))
 f314:=func228.trans (congrArg some (by kernel_rfl))
 t0:=underlying0
 a0:=Tryz.isAgg0
 z0:=Tryz.sizeOf0
 v0:=Tryz.zeroValue0
 t3:=underlying3
 a3:=Tryz.isAgg3
 z3:=Tryz.sizeOf3
 v3:=Tryz.zeroValue3
 t4:=underlying4
 a4:=Tryz.isAgg4
 z4:=Tryz.sizeOf4
 v4:=Tryz.zeroValue4
 t5:=underlying5
 a5:=Tryz.isAgg5
 z5:=Tryz.sizeOf5
 v5:=Tryz.zeroValue5
 t9:=underlying9
 a9:=Tryz.isAgg9
 z9:=Tryz.sizeOf9
 v9:=Tryz.zeroValue9
 t21:=underlying21
 a21:=Tryz.isAgg21
 z21:=Tryz.sizeOf21
 v21:=Tryz.zeroValue21
 t31:=underlying22
 a31:=Tryz.isAgg22
 z31:=Tryz.sizeOf22
 v31:=Tryz.zeroValue22
 t46:=underlying190
 a46:=Tryz.isAgg190
 z46:=Tryz.sizeOf190
 v46:=Tryz.zeroValue190
 t51:=underlying246
 a51:=Tryz.isAgg246
 z51:=Tryz.sizeOf246
 v51:=Tryz.zeroValue246
 t105:=underlying192
 a105:=Tryz.isAgg192
 z105:=Tryz.sizeOf192
 v105:=Tryz.zeroValue192
 t119:=underlying281
 a119:=Tryz.isAgg281
 z119:=Tryz.sizeOf281
 t138:=underlying283
 a138:=Tryz.isAgg283
 z138:=Tryz.sizeOf283
 v138:=Tryz.zeroValue283
 t139:=underlying284
 a139:=Tryz.isAgg284
 z139:=Tryz.sizeOf284
 v139:=Tryz.zeroValue284
 t146:=underlying287
 a146:=Tryz.isAgg287
 z146:=Tryz.sizeOf287
 v146:=Tryz.zeroValue287
 g1:=by kernel_rfl
 g3:=by kernel_rfl
 g4:=by kernel_rfl}
open Go.RowKit Go.Lib in
theorem Tryz.strings_Split (s sep:ByteArray)(m:Int)(w:World)(j:s.size<4294967281)(hm:w.cell? ⟨0,0,none⟩=some (.int .i64 m))(o:1≤sep.size):
 Calls prog 68 #[.string s,.string sep] w fun e C=>
  e=.returned (.slice (some ⟨w.heap.size,0,none⟩) (Lib.countB s sep+1) (Lib.countB s sep+1))∧C=w.alloc (.cells ((Lib.splitB sep 0 (Lib.countB s sep) s).map Value.string).toArray 9):=Any.strings_Split Tryz.lays146 (by kernel_rfl) s sep m w j hm o
def Tryz.lays229_ren:Go.Shelf.Ren:=⟨fun|229=>69|n=>n,fun|9=>9|40=>127|31=>22|152=>195|3=>3|0=>0|4=>4|21=>21|154=>197|n=>n,fun|n=>n⟩
theorem Tryz.lays229:Go.Proofs.Lays.n229 prog Tryz.lays229_ren:= {
 mixed:=by kernel_rfl
 f229:=func69.trans (congrArg some (by kernel_rfl))
 t0:=underlying0
 a0:=Tryz.isAgg0
 z0:=Tryz.sizeOf0
 v0:=Tryz.zeroValue0
 t3:=underlying3
 a3:=Tryz.isAgg3
 z3:=Tryz.sizeOf3
 v3:=Tryz.zeroValue3
 t4:=underlying4
 a4:=Tryz.isAgg4
 z4:=Tryz.sizeOf4
 v4:=Tryz.zeroValue4
 t9:=underlying9
 a9:=Tryz.isAgg9
 z9:=Tryz.sizeOf9
 v9:=Tryz.zeroValue9
 t21:=underlying21
 a21:=Tryz.isAgg21
 z21:=Tryz.sizeOf21
 v21:=Tryz.zeroValue21
 t31:=underlying22
 a31:=Tryz.isAgg22
 z31:=Tryz.sizeOf22
 v31:=Tryz.zeroValue22
 t40:=underlying127
 a40:=Tryz.isAgg127
 z40:=Tryz.sizeOf127
 v40:=Tryz.zeroValue127
 t152:=underlying195
 a152:=Tryz.isAgg195
 z152:=Tryz.sizeOf195
 v152:=Tryz.zeroValue195
 t154:=underlying197
 a154:=Tryz.isAgg197
 z154:=Tryz.sizeOf197
 v154:=Tryz.zeroValue197}
open Go.RowKit Go.Lib in
theorem Tryz.strings_FieldsFunc_runes (g:Nat)(lb:Array Value)(o:∀args w,(callFunc g args).run prog w=.ok (.enter g args) w)(p:Nat→Bool)(s:ByteArray)(w:World)(C:s.size≤4294967296)(I:PredAtRunes prog g lb p w):
 Calls prog 69 #[.string s,.func (.func g) #[] lb] w fun e j=>∃A,e=.returned (.slice (some ⟨A,0,none⟩) (Lib.goFieldsP p s).length (Lib.goFieldsP p s).length)∧w.heap.size≤A∧
  j.ownsRow w.heap.size 9 1 (.slice (some ⟨A,0,none⟩) (Lib.goFieldsP p s).length (Lib.goFieldsP p s).length) (Lib.goFieldsP p s).length ((Lib.goFieldsP p s).map Value.string)∧Below w.heap.size w j:=Any.strings_FieldsFunc_runes Tryz.lays229 g lb o p s w C I (by kernel_rfl) (by kernel_rfl)
open Go.RowKit Go.Lib in
end
theorem Ug {s:ByteArray}(h:Ab s=true)(a b:Nat):Ab (s.extract a b)=true:=by refine List.all_eq_true.2 fun x j=>List.all_eq_true.1 h x ?_;rw[ByteArray.data_extract] at j;rw[Array.toList_extract] at j;exact List.mem_of_mem_drop (List.mem_of_mem_take j)
theorem Vd {s:ByteArray}{f p n:Nat}(h:¬p<s.size):TP s (f+1) p n=some n:=by simp[TP,h]
theorem Ui {s:ByteArray}{f p n:Nat}(h:p<s.size):TP s (f+1) p n=if fY (Utf8.decode s p).1 then TP s f (p+(Utf8.decode s p).2) (10*n+((Utf8.decode s p).1-48)) else none:=by simp[TP,h]
def Un (s:ByteArray)(w:World)(e:Ending)(j:World):Prop:=aa All w j∧∃v:Int,e=.returned (.tuple #[.int .i64 v,.bool (Os s).isSome])∧∀n,Os s=some n→v=n
theorem Un.no {s:ByteArray}{w j:World}{v:Int}(h:Os s=none)(C:aa All w j):Un s w (.returned (.tuple #[.int .i64 v,.bool false])) j:=⟨C,v,by rw[h];rfl,fun n o=>by rw[h] at o;cases o⟩
theorem Un.yes {s:ByteArray}{w j:World}{n:Nat}(h:Os s=some n)(o:aa All w j):Un s w (.returned (.tuple #[.int .i64 n,.bool true])) j:=⟨o,n,by rw[h];rfl,fun m hm=>by rw[h] at hm;cases hm;rfl⟩
theorem Xb {s:ByteArray}(h:s.size=0∨Ai s 0≠45):Lib.hasPrefix s.data.toList [45]=false∧(⟨(Lib.trimPrefix s.data.toList [45]).toArray⟩:ByteArray)=s:=by
 have j:Lib.hasPrefix s.data.toList [45]=false:=by(
 unfold Lib.hasPrefix;obtain⟨d⟩:=s;obtain⟨l⟩:=d;cases l with
 |nil=>rfl
 |cons b l=>
  rcases h with h|h;·simp[ByteArray.size] at h
  rw[TG _ _ (by simp[ByteArray.size])] at h;have h':b.toNat≠45:=h;have:¬b=45:=fun e=>h' (by rw[e];rfl);simp[List.isPrefixOf];exact fun e=>this e.symm)
 refine⟨j,?_⟩;unfold Lib.trimPrefix;rw[j];rfl
theorem Wz {n:Nat}(h:n<9223372036854775808):(some n).filter (fun n=>decide (n<9223372036854775808))=some n:=by show(if decide (n<9223372036854775808)=true then some n else none)=_;rw[ap (bL h)]
theorem Xd {n:Nat}(h:¬n<9223372036854775808):(some n).filter (fun n=>decide (n<9223372036854775808))=none:=by show(if decide (n<9223372036854775808)=true then some n else none)=_;rw[ae (by rw[cI h];exact oG)]
theorem WI (s:ByteArray):s.toList.isEmpty=decide (s.size=0):=by
 by_cases h:s.size=0
 ·have:s=gR:=by obtain⟨d⟩:=s;obtain⟨l⟩:=d;have:l=[]:=List.length_eq_zero_iff.1 (by simpa [ByteArray.size] using h);subst this;rfl
  subst this;rw[bL h];simp[gR,ByteArray.toList,ByteArray.toList.loop,ByteArray.size]
 rw[cI h];cases j:s.toList.isEmpty with
 |false=>rfl
 |true=>
  exfalso;have o:s.toList=[]:=List.isEmpty_iff.1 j;have C:gR.toList=[]:=by simp[gR,ByteArray.toList,ByteArray.toList.loop,ByteArray.size]
  have:s=gR:=cM.1 (by rw[o,C];rfl);subst this;exact h rfl
theorem VU (s:ByteArray)(w:World)(hp:Ab s=true)(hm:s.size=0∨Ai s 0≠45)(hs:s.size≤65536):Calls prog 116 #[.string s] w (Un s w):=by
 obtain⟨c1,c2⟩:=Xb hm;have hc:=Tryz.strings_CutPrefix s ⟨#[45]⟩ w;rw[show(ByteArray.mk #[45]).data.toList=[45] from rfl,c1,c2] at hc;clear c1 c2;have HC:=oH hc;clear hc;have hz:=WI s;by_cases h0:s.size=0;·have HN:=oH (show Os s=none from by unfold Os;rw[ap (.inl h0)]);rw[bL h0] at hz;go_enter func116,ntmps116;go_wp2_with fail;refine HC.out.mono ?_;rintro e Y ⟨rfl,rfl⟩;go_wp2;go_ret2;exact .no HN.out kR
 rw[cI h0] at hz;by_cases b7:19<s.size;·have HN:=oH (show Os s=none from by unfold Os;rw[ap (.inr (.inl b7))]);go_enter func116,ntmps116;go_wp2_with fail;refine HC.out.mono ?_;rintro e Y ⟨rfl,rfl⟩;go_wp2;go_ret2;exact .no HN.out kR
 have a7:0<s.size:=by omega
 have b3:=TG s 0 a7;by_cases a8:Ai s 0=48∧1<s.size
 ·have HN:=oH (show Os s=none from by unfold Os;rw[ap (.inr (.inr a8))]);have h1:=a8.2;have e1:((((s[0]' a7).toNat:Nat):Int)==48)=true:=by rw[cy];omega
  clear b3 a8;go_enter func116,ntmps116;go_wp2_with fail;refine HC.out.mono ?_;rintro e Y ⟨rfl,rfl⟩;go_wp2;go_ret2;exact .no HN.out kR
 have b2:Os s=(TP s (s.size+1) 0 0).filter fun n=>decide (n<9223372036854775808):=by unfold Os;rw[ae (by omega)]
 have hit:(w.iter s 0).heap[w.heap.size]? =some (.stringIter s 0):=World.iter_heap w s 0;have b5:aa All w (w.iter s 0):=(aa.refl _ w).alloc _;have H0:=J3 hit b5 b2;clear hit b5 b2;by_cases hf:Ai s 0=48;·(
 have e1:((((s[0]' a7).toNat:Nat):Int)==48)=true:=by rw[cy];omega
 have h1:¬1<s.size:=fun h=>a8 ⟨hf,h⟩;clear hf a8 b3;go_enter func116,ntmps116;go_wp2_with fail;refine HC.out.mono ?_;rintro e Y ⟨rfl,rfl⟩;go_wp2;go_loopg [6] (s.size+1) (fun g m wr=>∃q n f:Nat,g=s.size+1-q∧m=.int .u64 n∧q≤s.size∧n<10^q∧s.size+1≤q+f∧wr.heap[Y.heap.size]? =some (.stringIter s q)∧aa All Y wr∧TP s f q n=TP s (s.size+1) 0 0);·exact⟨0,0,s.size+1,by omega,rfl,by omega,by decide,by omega,H0.1,H0.2.1,rfl⟩
 obtain⟨q,n,f,rfl,rfl,hq,hn,hf,J,C,j⟩:=hrel;obtain⟨f,rfl⟩:∃f',f=f'+1:=⟨f-1,by omega⟩;by_cases R:q<s.size;·(
 have a6:=fun ty=>Jw (P:=prog) wr Y.heap.size s q ty J R;obtain⟨k1,_,k3⟩:=TI hp R;have hB:Y.heap.size<wr.heap.size:=by
  rcases Nat.lt_or_ge Y.heap.size wr.heap.size with h|h;·exact h
  rw[jK h] at J;cases J
 rw[Ui R,k3] at j;rw[k3] at a6;simp only at a6 j;have b0:aa All Y (ji wr Y.heap.size s (q+1)):=xm C (.inr (cf _));have a1:=Bl (W:=wr) (s:=s) (p:=q+1) hB;have HQ:=J2 b0 a1;clear b0 a1 J C k3;generalize Ai s q=r at*;have o:=fun W=>CM (r:Int) W;cases hD:fY (r:Int) with
 |false=>rw[hD] at j o;have HN:=oH (show Os s=none from by rw[H0.2.2,←j];rfl);have HD:=oH o;clear hD j o hn;go_wp2_with (go_at_call 183;refine(HD.out _).mono ?_;rintro e w2 ⟨rfl,rfl⟩);go_ret2;exact .no HN.out HQ.1
 |true=>
  rw[hD] at j o;have hr:48≤r∧r≤57:=by unfold fY od at hD;simp only[gE,qal] at hD;omega
  have b6:10^q≤1000000000000000000:=fR (Nat.pow_le_pow_right (by decide) (show q≤18 by omega)) (by decide);have b1:10*n+(r-48)<10^(q+1):=by rw[Nat.pow_succ];omega
  have HW:=J2 j b1;have HD:=oH o;clear hD j o b1;go_wp2_with (go_at_call 183;refine(HD.out _).mono ?_;rintro e w2 ⟨rfl,rfl⟩);go_roundg (s.size+1-(q+1));·exact⟨q+1,10*n+(r-48),f,rfl,by rw[show(((10*n+(r-48):Nat)):Int)=10*(n:Int)+((r:Int)-48) by omega],by omega,HW.2,by omega,HQ.2,HQ.1,HW.1⟩
  omega)
 rw[Vd R] at j;have a6:=fun ty=>Gl (P:=prog) wr Y.heap.size s q ty J R;have HK:=oH C;have HS:=oH j;clear C J j;by_cases I:n<9223372036854775808
 ·have HN:=oH (show Os s=some n from by rw[H0.2.2,←HS.out];exact Wz I);have b4:(n:Int)<9223372036854775808:=by omega
  clear I;go_wp2;go_ret2;exact .yes HN.out HK.out
 have HN:=oH (show Os s=none from by rw[H0.2.2,←HS.out];exact Xd I);have b4:¬(n:Int)<9223372036854775808:=by omega
 clear I;go_wp2;go_ret2;exact .no HN.out HK.out)
 have e1:((((s[0]' a7).toNat:Nat):Int)==48)=false:=by rw[bE];omega
 clear hf a8 b3;go_enter func116,ntmps116;go_wp2_with fail;refine HC.out.mono ?_;rintro e Y ⟨rfl,rfl⟩;go_wp2;go_loopg [6] (s.size+1) (fun g m wr=>∃q n f:Nat,g=s.size+1-q∧m=.int .u64 n∧q≤s.size∧n<10^q∧s.size+1≤q+f∧wr.heap[Y.heap.size]? =some (.stringIter s q)∧aa All Y wr∧TP s f q n=TP s (s.size+1) 0 0);·exact⟨0,0,s.size+1,by omega,rfl,by omega,by decide,by omega,H0.1,H0.2.1,rfl⟩
 obtain⟨q,n,f,rfl,rfl,hq,hn,hf,J,C,j⟩:=hrel;obtain⟨f,rfl⟩:∃f',f=f'+1:=⟨f-1,by omega⟩;by_cases R:q<s.size;·(
 have a6:=fun ty=>Jw (P:=prog) wr Y.heap.size s q ty J R;obtain⟨k1,_,k3⟩:=TI hp R;have hB:Y.heap.size<wr.heap.size:=by
  rcases Nat.lt_or_ge Y.heap.size wr.heap.size with h|h;·exact h
  rw[jK h] at J;cases J
 rw[Ui R,k3] at j;rw[k3] at a6;simp only at a6 j;have b0:aa All Y (ji wr Y.heap.size s (q+1)):=xm C (.inr (cf _));have a1:=Bl (W:=wr) (s:=s) (p:=q+1) hB;have HQ:=J2 b0 a1;clear b0 a1 J C k3;generalize Ai s q=r at*;have o:=fun W=>CM (r:Int) W;cases hD:fY (r:Int) with
 |false=>rw[hD] at j o;have HN:=oH (show Os s=none from by rw[H0.2.2,←j];rfl);have HD:=oH o;clear hD j o hn;go_wp2_with (go_at_call 183;refine(HD.out _).mono ?_;rintro e w2 ⟨rfl,rfl⟩);go_ret2;exact .no HN.out HQ.1
 |true=>
  rw[hD] at j o;have hr:48≤r∧r≤57:=by unfold fY od at hD;simp only[gE,qal] at hD;omega
  have b6:10^q≤1000000000000000000:=fR (Nat.pow_le_pow_right (by decide) (show q≤18 by omega)) (by decide);have b1:10*n+(r-48)<10^(q+1):=by rw[Nat.pow_succ];omega
  have HW:=J2 j b1;have HD:=oH o;clear hD j o b1;go_wp2_with (go_at_call 183;refine(HD.out _).mono ?_;rintro e w2 ⟨rfl,rfl⟩);go_roundg (s.size+1-(q+1));·exact⟨q+1,10*n+(r-48),f,rfl,by rw[show(((10*n+(r-48):Nat)):Int)=10*(n:Int)+((r:Int)-48) by omega],by omega,HW.2,by omega,HQ.2,HQ.1,HW.1⟩
  omega)
 rw[Vd R] at j;have a6:=fun ty=>Gl (P:=prog) wr Y.heap.size s q ty J R;have HK:=oH C;have HS:=oH j;clear C J j;by_cases I:n<9223372036854775808
 ·have HN:=oH (show Os s=some n from by rw[H0.2.2,←HS.out];exact Wz I);have b4:(n:Int)<9223372036854775808:=by omega
  clear I;go_wp2;go_ret2;exact .yes HN.out HK.out
 have HN:=oH (show Os s=none from by rw[H0.2.2,←HS.out];exact Xd I);have b4:¬(n:Int)<9223372036854775808:=by omega
 clear I;go_wp2;go_ret2;exact .no HN.out HK.out
theorem Vx {s:ByteArray}(h:Ab s=true):∀ {f p:Nat},p≤s.size→Vw s f p≤s.size
 |0,_,o=>o
 |f+1,p,o=>by
  by_cases j:p<s.size
  ·rw[Vk j];split;·rw[(TI h j).2.2];exact Vx h (by show p+1≤_;omega)
   exact o
  rw[VP j];exact cf _
def Wk:List UInt8:=[40,41,123,125,91,93,44,58,61]
theorem Xr:∀n,n<256→decide (0≤Lib.indexByte Wk n.toUInt8)=Wb n:=of_decide_eq_true (by kernel_rfl)
theorem TS (s:ByteArray)(a b:Nat)(h:b≤s.size):(s.extract a b).size=b-a:=by rw[ByteArray.size_extract];omega
def XE (r:Option Um)(p:Nat)(w:World)(e:Ending)(j:World):Prop:=aa All w j∧match r with
 |none=>e=.returned (.tuple #[.agg #[.int .u8 0,.int .i64 0,.int .i64 0],.int .i64 p,.int .i64 4])
 |some t=>e=.returned (.tuple #[.agg #[.int .u8 t.kind,.int .i64 t.beg,.int .i64 t.fin],.int .i64 0,.int .i64 0])
theorem Ur {j:Ending→World→Prop}{a:Act}{W:World}{g:Nat}{k b f x y:Int}(o:a.tmps[4]? =some (.pointer (some ⟨g,0,none⟩)))(C:a.tmps[5]? =some (.int .i64 x))(I:a.tmps[6]? =some (.int .i64 y))(J:a.defers=[])
 (c:al W g 208 #[.int .u8 k,.int .i64 b,.int .i64 f]) (h:j (.returned (.tuple #[.agg #[.int .u8 k,.int .i64 b,.int .i64 f],.int .i64 x,.int .i64 y])) W):bodyPost prog Tryz.f120 j .ret a W:=by
 obtain⟨R,r1,r2⟩:=c.c3;exact bodyPost_ret (by simp[results,Tryz.results120,go_sem,o,C,I,R,r1,r2]) J h
theorem Xu (s:ByteArray)(at':Nat)(r:Option Um)(w:World)(hp:Ab s=true)(hs:s.size≤65536)(ha:at'≤s.size)(hr:Vu s at'=some r):
 Calls prog 120 #[.string s,.int .i64 at'] w (XE r (Ht s (s.size+1) at') w):=by
 have c9:=fun w=>WS s at' w hp ha hs;have e8:Ht s (s.size+1) at'≤s.size:=VS ha;unfold Vu at hr;generalize Ht s (s.size+1) at'=p at*;have c7:=oH c9;clear c9;have hg:¬s.size<at':=by omega
 obtain⟨W0,b9⟩:=eQ (w.alloc (.cells #[.int .u8 0,.int .i64 0,.int .i64 0] 208));have d7:=aC1 b9;have bT:=aA0 b9;have J:=J3 b9 d7 bT;clear b9 d7 bT;by_cases a6:p<s.size;·(
 simp only[ap a6] at hr;have hb:=TG s p a6;have b5:=fun w=>Tryz.strings_IndexByte ⟨#[40,41,123,125,91,93,44,58,61]⟩ ((Ai s p:Nat):Int) w;have R:=Xr (Ai s p) (by rw[hb];exact(s[p]' a6).toNat_lt);rw[hb] at b5 R;simp only[dP] at b5;change ∀w,Calls _ _ _ _ (fun e w'=>e=.returned (.int .i64 (Lib.indexByte Wk (s[p]' a6).toNat.toUInt8))∧w'=w) at b5;generalize hI:Lib.indexByte Wk (s[p]' a6).toNat.toUInt8=I at*;have d8:=oH b5;clear b5 hI;have e0:((p:Int)==(s.size:Int))=false:=by rw[bE];omega
 by_cases C:Wb (Ai s p)=true;·rw[ap C] at hr;cases hr;rw[←hb,C] at R;have e5:0≤I:=of_decide_eq_true R;clear R C hb;go_enter func120,ntmps120;go_upto_region 1 with fail;rw[←J.1];go_wp2_with fail;refine(c7.out _).mono ?_;rintro e w1 ⟨rfl,rfl⟩;go_wp2_with fail;refine(d8.out _).mono ?_;rintro e w1 ⟨rfl,rfl⟩;obtain⟨t0,t1,t2⟩:=(show w1.cell? ⟨w.heap.size,0,none⟩=some (.int .u8 0)∧w1.cell? ⟨w.heap.size,1,none⟩=some (.int .i64 0)∧w1.cell? ⟨w.heap.size,2,none⟩=some (.int .i64 0) from⟨J.2.2.cell 0,J.2.2.cell 1,J.2.2.cell 2⟩);have f0:=J.2.2.free 0;have f1:=J.2.2.free 1;have f2:=J.2.2.free 2;go_wp2_with fail;have b1:=((J.2.2.set 0 (.int .u8 4)).set 1 (.int .i64 p)).set 2 (.int .i64 (p+1));have k1:aa All w (((w1.setCell ⟨w.heap.size,0,none⟩ (.int .u8 4)).setCell ⟨w.heap.size,1,none⟩ (.int .i64 p)).setCell ⟨w.heap.size,2,none⟩ (.int .i64 (p+1))):=((J.2.1.setCell (.inr (cf _)) _).setCell (.inr (cf _)) _).setCell (.inr (cf _)) _;simp only[ga] at b1;exact Ur rfl rfl rfl rfl b1 ⟨k1,rfl⟩
 rw[ae C] at hr;rw[←hb] at R;have e5:¬0≤I:=fun h=>by rw[bL h] at R;exact C R.symm
 by_cases c3:Ai s p=45;·rw[ap c3] at hr;cases hr
 rw[ae c3] at hr;have e9:((((s[p]' a6).toNat:Nat):Int)==45)=false:=by rw[bE];omega
 have d9:=TS s p s.size (cf _);have h1:Ul (s.extract p s.size)≤s.size-p:=by rw[←d9];exact Vx (Ug hp _ _) (Nat.zero_le _)
 have c4:=fun w=>Xv (s.extract p s.size) w;generalize Ul (s.extract p s.size)=n at*;have e6:=TS s p (p+n) (by omega);have e1:=Ug hp p (p+n);have e2:(s.extract p (p+n)).size=0∨Ai (s.extract p (p+n)) 0≠45:=by(
 by_cases h0:n=0;·left;omega
 right;rw[TG _ _ (by omega)];intro e;apply c3;rw[hb,←e];congr 1;rw[ByteArray.getElem_extract];simp)
 have c5:=fun w=>VU (s.extract p (p+n)) w e1 e2 (by omega);have b7:=fun w=>zC (s.extract p (p+n)) w;have b8:=fun w=>yL (s.extract p (p+n)) w;generalize hP:s.extract p (p+n)=P at*;have HR:=oH c4;have HN:=oH c5;have HM:=J2 b7 b8;have h2:p+n≤s.size:=by omega
 clear c4 c5 b7 b8 R C hb c3 e2 e1 e6 d9;have hk:TQ P≠0:=fun h=>by rw[ap h] at hr;cases hr
 rw[ae hk] at hr;cases hr;have HP:=oH hP;go_enter func120,ntmps120;go_upto_region 1 with fail;rw[←J.1];go_wp2_with fail;refine(c7.out _).mono ?_;rintro e w1 ⟨rfl,rfl⟩;go_wp2_with fail;refine(d8.out _).mono ?_;rintro e w1 ⟨rfl,rfl⟩;go_wp2_with fail;refine(HR.out _).mono ?_;rintro e w2 ⟨rfl,e3⟩;have e4:=oH e3;clear e3;go_upto_region 12 with fail;have k3:aa All w2 (w2.alloc (.cells #[.int .u8 0,.int .i64 p,.int .i64 (p+n)] 208)):=kR.alloc _;have b3:al (w2.alloc (.cells #[.int .u8 0,.int .i64 p,.int .i64 (p+n)] 208)) w2.heap.size 208 #[.int .u8 0,.int .i64 p,.int .i64 (p+n)]:=al.new _ _ _;have c6:w.heap.size<w2.heap.size:=by have:=e4.out.size;have:=J.2.2.lt;omega
 generalize w2.alloc _=W3 at*;have Y:=J3 (e4.out.trans k3) b3 c6;clear k3 b3 c6;have e7:=HP.out;go_upto_region 13 with fail;clear e7;go_wp2_with fail;refine(HN.out _).mono ?_;rintro e w4 ⟨c8,v,rfl,_⟩;have a7:=J2 (Y.1.trans c8) (Y.2.1.kept c8 trivial);clear c8;go_wp2_with fail;refine(HM.1 _).mono ?_;rintro e w5 ⟨rfl,rfl⟩;cases hw:jv P with
 |true=>have b2:=oH (show TQ P=2 from by unfold TQ;rw[ap hw]);clear hw;have bK:=a7.2;have c0:=bK.cl 0;have g0:=bK.free 0;go_upto_region 21 with fail;have k7:aa All w (w4.setCell ⟨w2.heap.size,0,none⟩ (.int .u8 2)):=(J.2.1.trans a7.1).setCell (.inr (by have:=Y.2.2;show w.heap.size≤w2.heap.size;omega)) _;have o:=bK.set 0 (.int .u8 2);have j:=(J.2.2.kept a7.1 trivial).far (p:=⟨w2.heap.size,0,none⟩) (by have:=Y.2.2;simp<;>omega) (.int .u8 2);simp only[ga] at o;generalize w4.setCell _ _=w7 at*;clear c0 g0 bK;have a1:=J2 k7 j;have c0:=o.cl 0;have c1:=o.cl 1;have c2:=o.cl 2;have t0:=j.cl 0;have t1:=j.cl 1;have t2:=j.cl 2;have f0:=j.free 0;have f1:=j.free 1;have f2:=j.free 2;clear k7 o j;go_wp2_with fail;have b6:=((a1.2.set 0 (.int .u8 2)).set 1 (.int .i64 p)).set 2 (.int .i64 (p+n));have k6:aa All w (((w7.setCell ⟨w.heap.size,0,none⟩ (.int .u8 2)).setCell ⟨w.heap.size,1,none⟩ (.int .i64 p)).setCell ⟨w.heap.size,2,none⟩ (.int .i64 (p+n))):=(((a1.1.setCell (.inr (cf _)) _).setCell (.inr (cf _)) _).setCell (.inr (cf _)) _);simp only[ga] at b6;exact Ur rfl rfl rfl rfl b6 ⟨k6,by rw[b2.out];rfl⟩
 |false=>
  cases b4:dW P with
  |true=>have b2:=oH (show TQ P=1 from by unfold TQ;rw[ae (by rw[hw];exact oG),ap b4]);clear hw;go_wp2_with fail;refine(HM.2 _).mono ?_;rintro e w6 ⟨rfl,a8⟩;rw[b4];clear b4;have b0:=J2 (a7.1.trans a8) (a7.2.kept a8 trivial);clear a8;have bK:=b0.2;have c0:=bK.cl 0;have g0:=bK.free 0;go_upto_region 21 with fail;have k7:aa All w (w6.setCell ⟨w2.heap.size,0,none⟩ (.int .u8 1)):=(J.2.1.trans b0.1).setCell (.inr (by have:=Y.2.2;show w.heap.size≤w2.heap.size;omega)) _;have o:=bK.set 0 (.int .u8 1);have j:=(J.2.2.kept b0.1 trivial).far (p:=⟨w2.heap.size,0,none⟩) (by have:=Y.2.2;simp<;>omega) (.int .u8 1);simp only[ga] at o;generalize w6.setCell _ _=w7 at*;clear c0 g0 bK;have a1:=J2 k7 j;have c0:=o.cl 0;have c1:=o.cl 1;have c2:=o.cl 2;have t0:=j.cl 0;have t1:=j.cl 1;have t2:=j.cl 2;have f0:=j.free 0;have f1:=j.free 1;have f2:=j.free 2;clear k7 o j;go_wp2_with fail;have b6:=((a1.2.set 0 (.int .u8 1)).set 1 (.int .i64 p)).set 2 (.int .i64 (p+n));have k6:aa All w (((w7.setCell ⟨w.heap.size,0,none⟩ (.int .u8 1)).setCell ⟨w.heap.size,1,none⟩ (.int .i64 p)).setCell ⟨w.heap.size,2,none⟩ (.int .i64 (p+n))):=(((a1.1.setCell (.inr (cf _)) _).setCell (.inr (cf _)) _).setCell (.inr (cf _)) _);simp only[ga] at b6;exact Ur rfl rfl rfl rfl b6 ⟨k6,by rw[b2.out];rfl⟩
  |false=>
   have b2:=oH (show(Os P).isSome=true∧TQ P=3 from by
    unfold TQ at hk⊢;rw[ae (by rw[hw];exact oG),ae (by rw[b4];exact oG)] at hk⊢;by_cases h:(Os P).isSome=true;·exact⟨h,ap h⟩
    rw[ae h] at hk;exact absurd rfl hk)
   clear hw;go_wp2_with fail;refine(HM.2 _).mono ?_;rintro e w6 ⟨rfl,a8⟩;rw[b4];clear b4;have b0:=J2 (a7.1.trans a8) (a7.2.kept a8 trivial);clear a8;have h3:=b2.1;have bK:=b0.2;have c0:=bK.cl 0;have g0:=bK.free 0;go_upto_region 21 with fail;have k7:aa All w (w6.setCell ⟨w2.heap.size,0,none⟩ (.int .u8 3)):=(J.2.1.trans b0.1).setCell (.inr (by have:=Y.2.2;show w.heap.size≤w2.heap.size;omega)) _;have o:=bK.set 0 (.int .u8 3);have j:=(J.2.2.kept b0.1 trivial).far (p:=⟨w2.heap.size,0,none⟩) (by have:=Y.2.2;simp<;>omega) (.int .u8 3);simp only[ga] at o;generalize w6.setCell _ _=w7 at*;clear c0 g0 bK;have a1:=J2 k7 j;have c0:=o.cl 0;have c1:=o.cl 1;have c2:=o.cl 2;have t0:=j.cl 0;have t1:=j.cl 1;have t2:=j.cl 2;have f0:=j.free 0;have f1:=j.free 1;have f2:=j.free 2;clear k7 o j;go_wp2_with fail;have b6:=((a1.2.set 0 (.int .u8 3)).set 1 (.int .i64 p)).set 2 (.int .i64 (p+n));have k6:aa All w (((w7.setCell ⟨w.heap.size,0,none⟩ (.int .u8 3)).setCell ⟨w.heap.size,1,none⟩ (.int .i64 p)).setCell ⟨w.heap.size,2,none⟩ (.int .i64 (p+n))):=(((a1.1.setCell (.inr (cf _)) _).setCell (.inr (cf _)) _).setCell (.inr (cf _)) _);simp only[ga] at b6;exact Ur rfl rfl rfl rfl b6 ⟨k6,by rw[b2.2];rfl⟩)
 simp only[ae a6] at hr;cases hr;have e0:((p:Int)==(s.size:Int))=true:=by rw[cy];omega
 go_enter func120,ntmps120;go_upto_region 1 with fail;rw[←J.1];go_wp2_with fail;refine(c7.out _).mono ?_;rintro e w1 ⟨rfl,rfl⟩;obtain⟨t0,t1,t2⟩:=(show W0.cell? ⟨w.heap.size,0,none⟩=some (.int .u8 0)∧W0.cell? ⟨w.heap.size,1,none⟩=some (.int .i64 0)∧W0.cell? ⟨w.heap.size,2,none⟩=some (.int .i64 0) from⟨J.2.2.cell 0,J.2.2.cell 1,J.2.2.cell 2⟩);have f0:=J.2.2.free 0;have f1:=J.2.2.free 1;have f2:=J.2.2.free 2;go_wp2_with fail;have b1:=((J.2.2.set 0 (.int .u8 0)).set 1 (.int .i64 0)).set 2 (.int .i64 0);have k1:aa All w (((W0.setCell ⟨w.heap.size,0,none⟩ (.int .u8 0)).setCell ⟨w.heap.size,1,none⟩ (.int .i64 0)).setCell ⟨w.heap.size,2,none⟩ (.int .i64 0)):=((J.2.1.setCell (.inr (cf _)) _).setCell (.inr (cf _)) _).setCell (.inr (cf _)) _;simp only[ga] at b1;exact Ur rfl rfl rfl rfl b1 ⟨k1,rfl⟩
def XG:cO Um:=fun _ _ cs t=>cs=[.int .u8 t.kind,.int .i64 t.beg,.int .i64 t.fin]
theorem Ud:cO.Good XG:=⟨fun _ h=>h,fun _ h=>h⟩
abbrev WG:=rx 3 24 XG
theorem cu:bT.Good WG:=cH Ud
theorem XK:(prog.info? 208).map (fun i=>(i.zero,i.size,i.bytes))=some (some (.agg #[.int .u8 0,.int .i64 0,.int .i64 0]),3,24):=by kernel_rfl
theorem Xa (A:Option Addr)(n c:Nat)(w:World)(h:n≤c):Calls prog 121 #[.slice A n c] w fun e j=>e=.returned (.slice A n n)∧j=w:=by go_enter func121,ntmps121;go_wp2;go_ret;exact⟨rfl,rfl⟩
theorem Yg {α:Type}{n bw:Nat}{E:cO α}{S:Nat→Prop}{w:World}{A:Option Addr}{k c:Nat}{l:List α}(h:rx n bw E S w (.slice A k c) l):k≤c:=by obtain⟨o,C,e,j,_⟩:=h;cases e;exact j
theorem XU {α:Type}{n bw:Nat}{E:cO α}{S:Nat→Prop}{w:World}{A:Option Addr}{k c:Nat}{l:List α}(h:rx n bw E S w (.slice A k c) l):rx n bw E S w (.slice A k k) l:=by obtain⟨o,C,e,I,J,R,j⟩:=h;cases e;exact⟨A,l.length,rfl,cf _,by omega,by omega,j⟩
theorem Xn {s:ByteArray}(j:Ab s=true){q:Nat}{t:Um}(h:Vu s q=some (some t)):t.fin≤s.size:=by
 unfold Vu at h;simp only at h;split at h
 ·rename_i o;split at h;·cases h;show _+1≤_;omega
  split at h;·cases h
  split at h;·cases h
  cases h;have C:=Vx (Ug j (Ht s (s.size+1) q) s.size) (f:=(s.extract (Ht s (s.size+1) q) s.size).size+1) (Nat.zero_le _);rw[TS _ _ _ (cf _)] at C;show _+Ul _≤_;unfold Ul;rw[TS _ _ _ (cf _)];omega
 cases h
theorem UW {s:ByteArray}:∀ {f q:Nat} {l:List Um},Tt s f q=some l→l.length<f
 |0,_,_,h=>by cases h
 |f+1,q,l,h=>by(
 rw[Tt] at h;split at h;·cases h
 ·cases h;simp
 cases hm:Tt s f _ with
 |none=>rw[hm] at h;cases h
 |some r=>rw[hm] at h;cases h;have:=UW hm;simp;omega)
def XB (l:List Um)(w:World)(e:Ending)(j:World):Prop:=aa All w j∧∃(A:Option Addr) (c:Nat),e=.returned (.tuple #[.slice A l.length c,.int .i64 0,.int .i64 0])∧WG (fun b=>w.heap.size≤b∧b<j.heap.size) j (.slice A l.length c) l
theorem Xt (s:ByteArray)(l:List Um)(w:World)(hp:Ab s=true)(hs:s.size≤65536)(hr:Tt s (s.size+1) 0=some l):
 Calls prog 74 #[.string s] w (XB l w):=by
 have HB:=oH (VT s w hp);have HT:=oH (fun q r w1 (h1:q≤s.size) (h2:Vu s q=some r)=>Xu s q r w1 hp hs h1 h2);have HF:=oH (fun q t=>Xn hp (q:=q) (t:=t));obtain⟨iT,IT⟩:=iH XK;have HL:=oH (UW hr);have HR:=oH hr;clear hr hp;go_enter func74,ntmps74;go_wp2_with fail;refine HB.out.mono ?_;rintro e w1 ⟨rfl,b2⟩;have b6:=oH b2;clear b2;go_wp2_with fail;go_loopg [6,7] (s.size+1) (fun g m6 m7 wr=>∃(f q:Nat) (r l1:List Um),g=f∧m7=.int .i64 q∧q≤s.size∧Tt s f q=some r∧l1++r=l∧aa All w wr∧dR 3 208 XG w.heap.size wr m6 l1);·exact⟨s.size+1,0,l,[],rfl,rfl,by omega,HR.out,rfl,b6.out,dR.nil⟩
 obtain⟨f,q,r,l1,b9,rfl,hq,C,R,b4,Y⟩:=hrel;obtain⟨wo,b7⟩:=eQ wr;subst b7;obtain⟨A,c,rfl⟩:=Y.form;have I:=J3 b4 Y R;clear b4 Y R;have c3:l1.length≤65536:=by have h:=congrArg List.length I.2.2;rw[iQ] at h;have:=HL.out;omega
 cases f with
 |zero=>cases C
 |succ f=>
 rw[Tt] at C;cases ho:Vu s q with
 |none=>rw[ho] at C;cases C
 |some o=>
  rw[ho] at C;have HO:=oH (HT.out q o wo hq ho);cases o with
  |none=>
   cases C;clear ho;go_wp2_with fail;refine HO.out.mono ?_;rintro e w2 ⟨a1,rfl⟩;have a6:=oH a1;clear a1;go_upto_region 9 with fail;have k3:aa All w2 (w2.alloc (.cells #[.int .u8 0,.int .i64 0,.int .i64 0] 208)):=kR.alloc _;generalize w2.alloc _=W3 at*;have J:=oH (a6.out.trans k3);clear k3;have b0:=(I.2.1.keep Ud J.out fun _ _ _=>trivial).read (bw:=24) Ud (by omega);have hc:=Yg b0;have b8:=oH (XU b0);clear b0;go_wp2_with fail;refine(Xa A l1.length c W3 hc).mono ?_;rintro e w4 ⟨rfl,rfl⟩;go_wp2_with fail;have R:l=l1:=by rw[←I.2.2];simp
   refine bodyPost_ret (v:=.tuple #[.slice A l1.length l1.length,.int .i64 0,.int .i64 0]) (by simp[results,Tryz.results74,go_sem]) rfl ?_;refine⟨I.1.trans J.out,A,l1.length,by rw[R],?_⟩;rw[R];exact b8.out
  |some t=>
   have C:(Tt s f t.fin).map (fun l=>t::l)=some r:=C;cases hm:Tt s f t.fin with
   |none=>rw[hm] at C;cases C
   |some r2=>
   rw[hm] at C;cases C;have a8:=HF.out q t ho;have HM:=J2 hm a8;clear ho hm a8;go_wp2_with fail;refine HO.out.mono ?_;rintro e w2 ⟨a1,rfl⟩;have a6:=oH a1;clear a1;go_upto_region 9 with fail;have k3:aa All w2 (w2.alloc (.cells #[.int .u8 t.kind,.int .i64 t.beg,.int .i64 t.fin] 208)):=kR.alloc _;have b3:al (w2.alloc (.cells #[.int .u8 t.kind,.int .i64 t.beg,.int .i64 t.fin] 208)) w2.heap.size 208 #[.int .u8 t.kind,.int .i64 t.beg,.int .i64 t.fin]:=al.new _ _ _;generalize w2.alloc _=W3 at*;have J:=J3 (I.1.trans (a6.out.trans k3)) b3 (I.2.1.keep Ud (a6.out.trans k3) fun _ _ _=>trivial);obtain⟨c0,c1,c2⟩:=b3.c3;clear k3 b3;have c4:w2.heap.size<W3.heap.size:=J.2.1.lt;have c5:=J.1.size;go_wp2_with (
    at_builtin;go_loud (
    refine bN (E:=XG) _ Ud rfl (.tmp 34) (.tmp 36) 132 rfl iT _ 24 underlying132 IT.1 IT.2.1 IT.2.2.1 IT.2.2.2 rfl (by decide) _ _ rfl ((J.2.2.keep Ud ((aa.refl All _).alloc _)) fun _ _ _=>trivial) W3.heap.size 0 1 rfl [.int .u8 t.kind,.int .i64 t.beg,.int .i64 t.fin] t rfl ?_ ?_ ?_ (by omega) ?_ (fun _=>False) ?_ rfl ?_;·intro j u hu;rw[cN,(al.new _ _ _:al (W3.alloc _) W3.heap.size _ _).cell,List.getElem?_toArray];exact hu
    ·intro u hu;simp only[fX,List.not_mem_nil,or_false] at hu;rcases hu with rfl|rfl|rfl<;>rfl
    ·omega
    ·simp;omega
    ·intro b hb;exact hb.elim
    intro C2 c6 w4 a7 b1 b5;have k4:=(J.1.alloc (.cells #[.int .u8 t.kind,.int .i64 t.beg,.int .i64 t.fin] 208)).grown b1 (fun b hb=>.inr (b5 b hb));have q2:=(J.2.1.alloc (.cells #[.int .u8 t.kind,.int .i64 t.beg,.int .i64 t.fin] 208)).grown b1 (fun e=>by obtain⟨xs,hx⟩:=I.2.1.own;have:=(aD hx e.symm).2;have:=a6.out.size;omega);have c2:=q2.cl 2;have H4:=J2 a7 k4;clear k4 a7 b1 b5 q2))
   go_roundg f;·exact⟨f,t.fin,r2,l1++[t],rfl,rfl,HM.2,HM.1,by rw[jM];exact I.2.2,H4.2,by simpa using H4.1⟩
   omega
structure cr.Ok (p:cr):Prop where
 size:p.s.size≤65536
 len:p.l.length≤65537
 tok:∀t∈p.l,t.beg≤t.fin∧t.fin≤p.s.size∧t.kind<256
 plain:Ab p.s=true
 word:∀t∈p.l,t.kind=1→jv (p.s.extract t.beg t.fin)=false
structure Uo (w:World)(pb:Nat)(p:cr)(A:Option Addr)(C:Nat)(k m:Nat):Prop where
 box:al w pb 140 #[.string p.s,.slice A p.l.length C,.int .i64 k,.int .i64 m]
 toks:WG (fun b=>b≠pb∧b<w.heap.size) w (.slice A p.l.length C) p.l
 le:k≤p.l.length
theorem Uo.keep {w o:World}{pb:Nat}{p:cr}{A:Option Addr}{C k m:Nat}(h:Uo w pb p A C k m)(j:aa All w o):Uo o pb p A C k m:=
 ⟨h.box.kept j trivial,cu.wide (fun b I=>⟨I.1,by have:=j.size;omega⟩) (cu.keep j.all h.toks),h.le⟩
theorem Uo.move {w:World}{pb:Nat}{p:cr}{A:Option Addr}{C k m:Nat}(h:Uo w pb p A C k m){k':Nat}(o:k'≤p.l.length):Uo (w.setCell ⟨pb,2,none⟩ (.int .i64 k')) pb p A C k' m:=
 ⟨by simpa using h.box.set 2 (.int .i64 k'),cu.wide (fun b j=>⟨j.1,by simpa using j.2⟩) (cu.keep ((aa.refl (fun b=>b≠pb∧b<w.heap.size) w).setCell (.inl fun h=>h.1 rfl) _) h.toks),o⟩
theorem xt (pb:Nat)(p:cr)(A:Option Addr)(C k m a:Nat)(w:World)(h:Uo w pb p A C k m)(I:p.Ok)(ha:a≤10):
 Calls prog 76 #[.pointer (some ⟨pb,0,none⟩),.int .i64 a] w fun e w'=>e=.returned (.string (p.txt (k+a)))∧aa All w w':=by
 obtain⟨b0,b1,b2⟩:=h.box.c3;have a6:=h.le;have a1:=I.len;obtain⟨n,o⟩:=eQ p.l.length;have a7:n≤p.l.length:=eE o;have a8:p.l.length≤n:=eE o.symm;by_cases b3:k+a<n
 ·obtain⟨t,J⟩:∃t,p.l[k+a]? =some t:=⟨_,lG (by omega)⟩;obtain⟨tb,b4,b5,rfl,_,_,R,hE⟩:=aZ h.toks J;cases hE;have c1:=R 1 _ rfl;have c2:=R 2 _ rfl;have Y:=I.tok t (mG J);have j:p.txt (k+a)=p.s.extract t.beg t.fin:=by unfold cr.txt;rw[J]
  have HT:=oH j;have v1:=Y.1;have v2:=Y.2.1;rw[←o] at b1;clear R J h I Y j o;go_enter func76,ntmps76;go_wp2_with fail;go_quiet (fail);go_wp2_with fail;go_ret;exact⟨by rw[HT.out];rfl,kR.drewN _⟩
 have j:p.txt (k+a)=gR:=by unfold cr.txt;rw[jz (by omega)]
 have HT:=oH j;rw[←o] at b1;clear h I j o;go_enter func76,ntmps76;go_wp2_with fail;go_ret;exact⟨by rw[HT.out];rfl,kR⟩
theorem Vv (pb:Nat)(p:cr)(A:Option Addr)(C k m:Nat)(w:World)(h:Uo w pb p A C k m)(I:p.Ok):
 Calls prog 122 #[.pointer (some ⟨pb,0,none⟩)] w fun e w'=>e=.returned (.int .i64 (p.pos k))∧aa All w w':=by
 obtain⟨b0,Y,b2⟩:=h.box.c3;have a6:=h.le;have a1:=I.len;obtain⟨n,o⟩:=eQ p.l.length;have a7:n≤p.l.length:=eE o;have a8:p.l.length≤n:=eE o.symm;by_cases b3:k<n
 ·obtain⟨t,J⟩:∃t,p.l[k]? =some t:=⟨_,lG (by omega)⟩;obtain⟨tb,b4,b5,rfl,_,_,hc,hE⟩:=aZ h.toks J;cases hE;have c1:=hc 1 _ rfl;have j:p.pos k=t.beg:=by unfold cr.pos;rw[J]
  have R:=oH j;rw[←o] at Y;clear hc J h I j o;go_enter func122,ntmps122;go_wp2_with fail;go_quiet (fail);go_wp2_with fail;go_quiet (fail);go_wp2_with fail;go_ret;exact⟨by rw[R.out];rfl,((kR.drewN _).drewN _)⟩
 have j:p.pos k=p.s.size:=by unfold cr.pos;rw[jz (by omega)]
 have R:=oH j;rw[←o] at Y;clear h I j o;go_enter func122,ntmps122;go_wp2_with fail;go_quiet (fail);go_wp2_with fail;go_ret;exact⟨by rw[R.out];rfl,kR.drewN _⟩
theorem TC (pb:Nat)(p:cr)(A:Option Addr)(C k m q:Nat)(w:World)(h:Uo w pb p A C k m)(J:p.Ok):
 Calls prog 124 #[.pointer (some ⟨pb,0,none⟩),.int .u8 q] w fun e w'=>e=.returned (.bool (p.is k q))∧aa All w w':=by
 obtain⟨b0,b1,b2⟩:=h.box.c3;have a6:=h.le;have a1:=J.len;obtain⟨n,o⟩:=eQ p.l.length;have a7:n≤p.l.length:=eE o;have a8:p.l.length≤n:=eE o.symm;by_cases I:k<n
 ·obtain⟨t,R⟩:∃t,p.l[k]? =some t:=⟨_,lG (by omega)⟩;obtain⟨tb,b3,b4,rfl,_,_,hc,hE⟩:=aZ h.toks R;cases hE;have c0:=hc 0 _ rfl;rw[dj] at c0;have j:p.is k q=(t.kind==q):=by unfold cr.is;rw[R]
  have Y:=oH j;have hd:decide ((k:Int)<(n:Int))=true:=by simpa using I
  rw[←o] at b1;clear hc R h J j o;go_enter func124,ntmps124;go_wp2_with fail;go_quiet (fail);go_wp2_with fail;go_ret;exact⟨by rw[Y.out,show(t.kind==q)=((t.kind:Int)==(q:Int)) by rw[Bool.eq_iff_iff,cy,cy];omega];rfl,kR.drewN _⟩
 have j:p.is k q=false:=by unfold cr.is;rw[jz (by omega)]
 have Y:=oH j;have hd:decide ((k:Int)<(n:Int))=false:=by simpa using I
 rw[←o] at b1;clear h J j o;go_enter func124,ntmps124;go_wp2_with fail;go_quiet (fail);go_wp2_with fail;go_ret;exact⟨by rw[Y.out];rfl,kR.drewN _⟩
theorem To (pb n q:Nat)(w:World)(o:n<q):
 Calls prog 77 #[.pointer (some ⟨pb,0,none⟩),.int .i64 n,.int .i64 q] w fun e j=>e=.returned (.tuple #[])∧w=j:=by
 go_enter func77,ntmps77;go_wp2
 go_end0
 exact⟨rfl,rfl⟩
def wi (pb:Nat)(p:cr)(A:Option Addr)(C k' m:Nat)(w j:World):Prop:=aa (fun b=>b≠pb) w j∧Uo j pb p A C k' m
theorem wi.of {pb:Nat}{p:cr}{A:Option Addr}{C k m:Nat}{w j:World}(h:Uo j pb p A C k m)(I:aa (fun b=>b≠pb) w j){k':Nat}(o:k'≤p.l.length):wi pb p A C k' m w (j.setCell ⟨pb,2,none⟩ (.int .i64 k')):=
 ⟨I.setCell (.inl fun h=>h rfl) _,h.move o⟩
theorem TY (x:ByteArray)(l:List UInt8)(y:ByteArray)(h:y.toList=l):(x.toList==l)=decide (x=y):=by rw[Bool.eq_iff_iff,decide_eq_true_iff,←h];exact cM
theorem Xm {p:cr}{k q:Nat}(h:p.is k q=true):k<p.l.length:=by
 unfold cr.is at h;cases j:p.l[k]? with
 |none=>rw[j] at h;cases h
 |some t=>exact(lS.1 j).1
theorem TM {p:cr}{k:Nat}(h:p.txt k≠gR):k<p.l.length:=by
 unfold cr.txt at h;cases j:p.l[k]? with
 |none=>rw[j] at h;exact absurd rfl h
 |some t=>exact(lS.1 j).1
theorem Vi (pb:Nat)(p:cr)(A:Option Addr)(C k m q:Nat)(w:World)(h:Uo w pb p A C k m)(Y:p.Ok)(hq:p.is k q=true):
 Calls prog 192 #[.pointer (some ⟨pb,0,none⟩),.int .u8 q] w fun e w'=>e=.returned (.string (p.txt k))∧wi pb p A C (k+1) m w w':=by
 have HI:=oH (TC pb p A C k m q w h Y);have HT:=oH (fun R (hk:aa All w R)=>xt pb p A C k m 0 R (h.keep hk) Y (by omega));have a6:=Xm hq;have a1:=Y.len;have H:=oH h;have HQ:=oH hq;clear h hq;go_enter func192,ntmps192;go_wp2_with fail;refine HI.out.mono ?_;rintro e R ⟨rfl,o⟩;rw[HQ.out];have I:=oH o;clear o;go_wp2_with fail;refine(HT.out R I.out).mono ?_;rintro e w2 ⟨rfl,J⟩;have j:=oH (I.out.trans J);clear J;have hb:=(H.out.keep j.out).box;have b2:=hb.cl 2;have f2:=hb.free 2;clear hb;go_wp2_with fail;go_ret;exact⟨rfl,by simpa using wi.of (H.out.keep j.out) j.out.all (k':=k+1) (by omega)⟩
theorem xi (pb:Nat)(p:cr)(A:Option Addr)(C k m:Nat)(w:World)(h:Uo w pb p A C k m)(I:p.Ok)(J:p.is k 1=true):
 Calls prog 123 #[.pointer (some ⟨pb,0,none⟩)] w fun e R=>e=.returned (.string (p.txt k))∧wi pb p A C (k+1) m w R:=by
 have Y:=oH (Vi pb p A C k m 1 w h I J);go_enter func123,ntmps123;go_wp2_with fail;refine Y.out.mono ?_;rintro e w1 ⟨rfl,j⟩;have o:=oH j;clear j;go_wp2_with fail;go_ret;exact⟨rfl,o.out⟩
theorem Ar (pb:Nat)(p:cr)(A:Option Addr)(C k m:Nat)(s:ByteArray)(w:World)(h:Uo w pb p A C k m)(R:p.Ok)(I:p.txt k=s)(Y:s≠gR):
 Calls prog 127 #[.pointer (some ⟨pb,0,none⟩),.string s] w fun e w'=>e=.returned (.tuple #[])∧wi pb p A C (k+1) m w w':=by
 have HT:=oH (xt pb p A C k m 0 w h R (by omega));have a6:=TM (p:=p) (k:=k) (by rw[I];exact Y);have a1:=R.len;have H:=oH h;have HQ:=oH I;clear h I Y;go_enter func127,ntmps127;go_wp2_with fail;refine HT.out.mono ?_;rintro e w1 ⟨rfl,o⟩;rw[dj,HQ.out];have j:=oH o;clear o;have J:=(H.out.keep j.out).box;have b2:=J.cl 2;have f2:=J.free 2;clear J;go_wp2_with fail
 go_end0
 exact⟨rfl,by simpa using wi.of (H.out.keep j.out) j.out.all (k':=k+1) (by omega)⟩
theorem TX (pb:Nat)(p:cr)(A:Option Addr)(C k m:Nat)(w:World)(h:Uo w pb p A C k m)(hp:p.Ok):
 Calls prog 129 #[.pointer (some ⟨pb,0,none⟩)] w fun e w'=>e=.returned (.bool (Tp p k))∧aa All w w':=by
 have R:=oH (TC pb p A C k m 1 w h hp);have HT:=oH (fun I (hk:aa All w I)=>xt pb p A C k m 1 I (h.keep hk) hp (by omega));unfold Tp;cases Y:p.is k 1 with
 |false=>rw[Y] at R;clear Y;go_enter func129,ntmps129;go_wp2_with fail;refine R.out.mono ?_;rintro e I ⟨rfl,j⟩;have o:=oH j;clear j;go_wp2_with fail;go_ret;exact⟨rfl,o.out⟩
 |true=>rw[Y] at R;clear Y;go_enter func129,ntmps129;go_wp2_with fail;refine R.out.mono ?_;rintro e I ⟨rfl,j⟩;have o:=oH j;clear j;go_wp2_with fail;refine(HT.out I o.out).mono ?_;rintro e w2 ⟨rfl,J⟩;have a1:=oH (o.out.trans J);clear J;go_wp2_with fail;go_ret;exact⟨by rw[Bool.true_and,←TY (p.txt (k+1)) [58] XW (by kernel_rfl)];rfl,a1.out⟩
section
structure PB (w:World)(B pb:Nat)(p:cr)(A:Option Addr)(C k m:Nat):Prop where
 box:al w pb 140 #[.string p.s,.slice A p.l.length C,.int .i64 k,.int .i64 m]
 toks:WG (fun b=>b≠pb∧b<B) w (.slice A p.l.length C) p.l
 low:pb<B
 size:B≤w.heap.size
 le:k≤p.l.length
theorem PB.pat {w:World}{B pb:Nat}{p:cr}{A:Option Addr}{C k m:Nat}(h:PB w B pb p A C k m):Uo w pb p A C k m:=
 ⟨h.box,cu.wide (fun b j=>⟨j.1,by have:=h.size;omega⟩) h.toks,h.le⟩
theorem Uo.pb {w:World}{pb:Nat}{p:cr}{A:Option Addr}{C k m:Nat}(h:Uo w pb p A C k m):PB w w.heap.size pb p A C k m:=
 ⟨h.box,h.toks,h.box.lt,cf _,h.le⟩
theorem PB.moved {w j:World}{B pb:Nat}{p:cr}{A:Option Addr}{C k k' m o:Nat}(h:PB w B pb p A C k m)(hm:wi pb p A C k' o w j):PB j B pb p A C k' o:=
 ⟨hm.2.box,cu.keep (hm.1.mono fun _ I=>I.1) h.toks,h.low,fR h.size hm.1.size,hm.2.le⟩
theorem PB.kept {w o:World}{B pb:Nat}{p:cr}{A:Option Addr}{C k m:Nat}{S:Nat→Prop}(h:PB w B pb p A C k m)(j:aa S w o)(I:∀b,b<B→S b):PB o B pb p A C k m:=
 ⟨h.box.kept j (I _ h.low),cu.keep (j.mono fun _ J=>I _ J.2) h.toks,h.low,fR h.size j.size,h.le⟩
def Wm (pb B i:Nat):Prop:=i≠pb∧i<B
abbrev Tx (B:Nat)(w:World)(v:Value)(l:List ByteArray):Prop:=w.ownsRow B 9 1 v l.length (l.map Value.string)
def Uh (w:World)(B C:Nat)(x:cX):Prop:=∃(j:Option Addr) (aC:Nat) (o:Option Addr) (fC:Nat),
 al w C 185 #[.int .u8 x.kind,.int .u8 x.op,.string x.dst,.string x.ref,.string x.Ni,.slice j x.args.length aC,.slice o x.Nh.length fC,.int .i64 x.num,.int .i64 x.Nj]∧
 Tx B w (.slice j x.args.length aC) x.args∧Tx B w (.slice o x.Nh.length fC) x.Nh∧(∀b,(Value.slice j x.args.length aC).ownBlock=some b→(Value.slice o x.Nh.length fC).ownBlock≠some b)∧B≤C
theorem Uu {w:World}{base:Nat}{t:TypeId}{size n:Nat}{v:Value}{xs:List Value}(h:w.ownsRow base t size v n xs){g:Nat}(j:v.ownBlock=some g):∃cs o,w.heap[g]? =some (.cells cs t o):=by
 rcases h.2 with ⟨rfl,_⟩|⟨g2,cap,cur,rfl,_,C,_⟩;·cases j
 cases j;exact⟨_,_,C⟩
theorem Ot {w:World}{base g:Nat}{t o:TypeId}{size n:Nat}{v:Value}{xs:List Value}{cs:Array Value}(h:w.ownsRow base t size v n xs){b:Nat}(C:v.ownBlock=some b)(I:al w g o cs)(J:t≠o):b≠g:=by obtain⟨R,Y,j⟩:=Uu h C;rintro rfl;rw[show w.heap[b]? =_ from I] at j;injection j with j;injection j with _ j;exact J j.symm
theorem eo {w:World}{B g n:Nat}{t:TypeId}{v:Value}{xs:List Value}{cs:Array Value}(h:w.ownsRow B 9 1 v n xs)(b:al w g t cs)(j:t≠9):v.ownBlock≠some g:=fun e=>(Ot h e b (Ne.symm j)) rfl
theorem Uh.put_args {w:World}{B C:Nat}{x:cX}{j aA I:Option Addr}{o aC fC:Nat}{s:ByteArray}
 (J:al w C 185 #[.int .u8 x.kind,.int .u8 x.op,.string x.dst,.string x.ref,.string x.Ni,.slice aA x.args.length aC,.slice I x.Nh.length fC,.int .i64 x.num,.int .i64 x.Nj])
 (hr:w.ownsRow B 9 1 (.slice j (x.args.length+1) o) (x.args.length+1) (x.args.map Value.string++[.string s])) (hf:Tx B w (.slice I x.Nh.length fC) x.Nh)
 (hs:∀b,(Value.slice j (x.args.length+1) o).ownBlock=some b→(Value.slice I x.Nh.length fC).ownBlock≠some b) (hB:B≤C):
 Uh (w.setCell ⟨C,5,none⟩ (.slice j (x.args.length+1) o)) B C {x with args:=x.args++[s]}:=by
 have k:aa (fun b=>b≠C) w (w.setCell ⟨C,5,none⟩ (.slice j (x.args.length+1) o)):=kR.setCell (.inl fun h=>h rfl) _;have h1:=be hr k fun g R=>by rintro rfl;exact eo hr J (by decide) R
 have h2:=be hf k fun g R=>by rintro rfl;exact eo hf J (by decide) R
 have h3:=J.set 5 (.slice j (x.args.length+1) o);simp only[ga] at h3;have Y:(x.args++[s]).length=x.args.length+1:=by simp
 refine⟨j,o,I,fC,?_,?_,h2,?_,hB⟩
 ·show al _ _ _ #[_,_,_,_,_,.slice j (x.args++[s]).length o,_,_,_]
  rw[Y];exact h3
 ·show Tx B _ (.slice j (x.args++[s]).length o) (x.args++[s])
  unfold Tx;rw[Y,ic];exact h1
 show∀b,(Value.slice j (x.args++[s]).length o).ownBlock=some b→_;rw[Y];exact hs
theorem Uh.put_frm {w:World}{B C:Nat}{x:cX}{j I fA:Option Addr}{o aC fC:Nat}{s:ByteArray}
 (J:al w C 185 #[.int .u8 x.kind,.int .u8 x.op,.string x.dst,.string x.ref,.string x.Ni,.slice I x.args.length aC,.slice fA x.Nh.length fC,.int .i64 x.num,.int .i64 x.Nj])
 (hr:w.ownsRow B 9 1 (.slice j (x.Nh.length+1) o) (x.Nh.length+1) (x.Nh.map Value.string++[.string s])) (hf:Tx B w (.slice I x.args.length aC) x.args)
 (hs:∀b,(Value.slice j (x.Nh.length+1) o).ownBlock=some b→(Value.slice I x.args.length aC).ownBlock≠some b) (hB:B≤C):
 Uh (w.setCell ⟨C,6,none⟩ (.slice j (x.Nh.length+1) o)) B C {x with Nh:=x.Nh++[s]}:=by
 have k:aa (fun b=>b≠C) w (w.setCell ⟨C,6,none⟩ (.slice j (x.Nh.length+1) o)):=kR.setCell (.inl fun h=>h rfl) _;have R:=be hr k fun g Y=>by rintro rfl;exact eo hr J (by decide) Y
 have h2:=be hf k fun g Y=>by rintro rfl;exact eo hf J (by decide) Y
 have h3:=J.set 6 (.slice j (x.Nh.length+1) o);simp only[ga] at h3;have hl:(x.Nh++[s]).length=x.Nh.length+1:=by simp
 refine⟨I,aC,j,o,?_,h2,?_,?_,hB⟩
 ·show al _ _ _ #[_,_,_,_,_,_,.slice j (x.Nh++[s]).length o,_,_]
  rw[hl];exact h3
 ·show Tx B _ (.slice j (x.Nh++[s]).length o) (x.Nh++[s])
  unfold Tx;rw[hl,ic];exact R
 show∀b,_→(Value.slice j (x.Nh++[s]).length o).ownBlock≠some b;rw[hl];exact fun b R h2=>hs b h2 R
theorem UL {v u f:Value}{n:Nat}{B:Nat}{W:World}{xs:List Value}(C:W.ownsRow B 9 1 f n xs)(I:∀b,v.ownBlock=some b→f.ownBlock≠some b){m:Nat}(hm:W.heap.size≤m)(h:u.ownBlock=v.ownBlock∨∀g,u.ownBlock=some g→m≤g):∀b,u.ownBlock=some b→f.ownBlock≠some b:=by
 intro b o;rcases h with h|h;·exact I b (h▸o)
 intro j;have:=(aD C j).2;have:=h b o;omega
theorem Uh.cellAt {w:World}{B o:Nat}{x:cX}(h:Uh w B o x)(j:Nat)(C:j<9):∃u,w.cell? ⟨o,j,none⟩=some u:=by obtain⟨J,aC,R,fC,I,_⟩:=h;rw[I.cell j];exact⟨_,Array.getElem?_eq_getElem (by simpa using C)⟩
theorem Uh.free {w:World}{B o:Nat}{x:cX}(h:Uh w B o x)(j:Nat):w.frozen? ⟨o,j,none⟩=false:=by obtain⟨I,aC,J,fC,C,_⟩:=h;exact C.free j
theorem Uh.kept {w R:World}{B C:Nat}{x:cX}{S:Nat→Prop}(h:Uh w B C x)(k:aa S w R)(h1:S C)(Y:∀b cs j,B≤b→w.heap[b]? =some (.cells cs 9 j)→S b):Uh R B C x:=by obtain⟨aA,aC,fA,fC,hb,I,rf,hs,hB⟩:=h;exact⟨aA,aC,fA,fC,hb.kept k h1,be I k fun g o=>by obtain⟨cs,j,J⟩:=Uu I o;exact Y g cs j (aD I o).1 J,be rf k fun g o=>by obtain⟨cs,j,J⟩:=Uu rf o;exact Y g cs j (aD rf o).1 J,hs,hB⟩
theorem Uh.set {w:World}{B o:Nat}{x x':cX}(h:Uh w B o x)(j:Nat)(v:Value)(C:x'.args=x.args)(I:x'.Nh=x.Nh)
 (hc:∀a f:Value,([.int .u8 x.kind,.int .u8 x.op,.string x.dst,.string x.ref,.string x.Ni,a,f,.int .i64 x.num,.int .i64 x.Nj]:List Value).set j v=[.int .u8 x'.kind,.int .u8 x'.op,.string x'.dst,.string x'.ref,.string x'.Ni,a,f,.int .i64 x'.num,.int .i64 x'.Nj]):Uh (w.setCell ⟨o,j,none⟩ v) B o x':=by
 have k:aa (fun b=>b≠o) w (w.setCell ⟨o,j,none⟩ v):=kR.setCell (.inl fun h=>h rfl) _;obtain⟨aA,aC,fA,fC,J,Y,rf,hs,hB⟩:=h;have h1:=be Y k fun g R=>by rintro rfl;exact eo Y J (by decide) R
 have h2:=be rf k fun g R=>by rintro rfl;exact eo rf J (by decide) R
 have h3:=J.set j v;rw[List.setIfInBounds_toArray,hc] at h3;refine⟨aA,aC,fA,fC,?_,?_,?_,?_,hB⟩;·rw[C,I];exact h3
 ·rw[C];exact h1
 ·rw[I];exact h2
 rw[C,I];exact hs
structure St (w0:World)(B pb xb:Nat)(p:cr)(A:Option Addr)(C m:Nat)(k:Nat)(x:cX)(w:World):Prop where
 kept:aa (Wm pb B) w0 w
 par:PB w B pb p A C k m
 Nb:Uh w B xb x
section
variable {w0 w w':World} {B pb xb:Nat} {p:cr} {A:Option Addr} {C m k k':Nat} {x x':cX}
theorem St.first (h:PB w B pb p A C k m)(j:Uh w B xb x):St w B pb xb p A C m k x w:=⟨kR,h,j⟩
theorem St.ne (h:St w0 B pb xb p A C m k x w):xb≠pb:=by obtain⟨o,aC,I,fC,j,_⟩:=h.Nb;exact j.ne h.par.box (by decide)
theorem St.moved {o:Nat}(h:St w0 B pb xb p A C m k x w)(hm:wi pb p A C k' o w w'):St w0 B pb xb p A C o k' x w':=by refine⟨h.kept.trans (hm.1.mono fun _ I=>I.1),h.par.moved hm,h.Nb.kept hm.1 h.ne fun b cs J _ j e=>?_⟩;subst e;rw[show w.heap[b]? =_ from h.par.box] at j;injection j with j;injection j with _ j;exact absurd j (by decide)
theorem St.all (h:St w0 B pb xb p A C m k x w)(j:aa All w w'):St w0 B pb xb p A C m k x w':=
 ⟨h.kept.trans j.all,h.par.kept j fun _ _=>trivial,h.Nb.kept j trivial fun _ _ _ _ _=>trivial⟩
theorem Ts (h:St w0 B pb xb p A C m k x w)(h':St w B pb xb p A C m k' x' w'):St w0 B pb xb p A C m k' x' w':=⟨h.kept.trans h'.kept,h'.par,h'.Nb⟩
theorem Uh.low (h:Uh w B xb x):B≤xb:=by obtain⟨o,aC,I,fC,J,R,rf,Y,j⟩:=h;exact j
theorem St.set (h:St w0 B pb xb p A C m k x w)(j:Nat)(v:Value)(J:x'.args=x.args)(R:x'.Nh=x.Nh)
 (Y:∀a f:Value,([.int .u8 x.kind,.int .u8 x.op,.string x.dst,.string x.ref,.string x.Ni,a,f,.int .i64 x.num,.int .i64 x.Nj]:List Value).set j v=[.int .u8 x'.kind,.int .u8 x'.op,.string x'.dst,.string x'.ref,.string x'.Ni,a,f,.int .i64 x'.num,.int .i64 x'.Nj]):St w0 B pb xb p A C m k x' (w.setCell ⟨xb,j,none⟩ v):=by
 have hB:=h.Nb.low;have o:aa (fun b=>b≠xb) w (w.setCell ⟨xb,j,none⟩ v):=kR.setCell (.inl fun h=>h rfl) _;exact⟨h.kept.trans (o.mono fun b I=>by have:=I.2;show b≠xb;omega),h.par.kept o fun b I=>by show b≠xb;omega,h.Nb.set j v J R Y⟩
end
theorem Ue {W:World}{B pb:Nat}{p:cr}{A:Option Addr}{C k m:Nat}{v:Value}{n:Nat}{xs:List Value}{S:Value→Prop}(h:PB W B pb p A C k m)(r:W.ownsRow B 9 1 v n xs):
 Vb W (fun i=>i≠pb) v (fun b w=>PB w B pb p A C (if b then k+1 else k) m) (fun y _=>S y) where
 big:=fun i hi e=>by have:=h.low;have:=h.size;omega
 own:=fun b j=>⟨fun e=>by subst e;exact eo r h.box (by decide) j,(aD r j).2⟩
 ps:=fun b w w' o I=>I.kept o fun i hi e=>by have:=(aD r e).1;omega
 c:=fun _ _ _ _ h=>h
end
theorem UP:(prog.info? 9).map (fun i=>(i.zero,i.size,i.bytes))=some (some (.string ⟨#[]⟩),1,16):=by kernel_rfl
def Ua (B pb j:Nat)(p:cr)(A:Option Addr)(C m:Nat)(k':Nat)(x':cX)(w:World)(e:Ending)(o:World):Prop:=e=.returned (.tuple #[])∧St w B pb j p A C m k' x' o
theorem Vy {R w I:World}{B pb o j k m:Nat}{p:cr}{A:Option Addr}{C:Nat}{x x':cX}{k':Nat}{v u:Value}{n:Nat}{xs:List Value}(h:St R B pb o p A C m k x w)(ro:w.ownsRow B 9 1 v n xs)
 (Y:aa (fun i=>v.ownBlock≠some i∧i≠pb) w I) (hP:PB I B pb p A C k' m) (hX:Uh (I.setCell ⟨o,j,none⟩ u) B o x'):St R B pb o p A C m k' x' (I.setCell ⟨o,j,none⟩ u):=by
 have hB:=h.Nb.low;have kx:aa (fun b=>b≠o) I (I.setCell ⟨o,j,none⟩ u):=kR.setCell (.inl fun h=>h rfl) _;exact⟨(h.kept.trans (Y.mono fun b J=>⟨fun e=>by have:=(aD ro e).1;have:=J.2;omega,J.1⟩)).trans (kx.mono fun b J=>by have:=J.2;show b≠o;omega),hP.kept kx fun b J=>by show b≠o;omega,hX⟩
theorem WH (B pb j:Nat)(p:cr)(A:Option Addr)(C k m:Nat)(x:cX)(w:World)(h:PB w B pb p A C k m)(o:Uh w B j x)(J:p.Ok)(R:p.is k 1=true):
 Calls prog 245 #[.pointer (some ⟨pb,0,none⟩),.pointer (some ⟨j,0,none⟩)] w (Ua B pb j p A C m (k+1) {x with kind:=11,ref:=p.txt k} w):=by
 have I:=oH (St.first h o);clear h o;go_enter func245,ntmps245;go_wp2_with fail;refine(xi pb p A C _ m _ I.out.par.pat J R).mono ?_;rintro e w1 ⟨rfl,hm⟩;have H1:=oH (I.out.moved hm);clear hm;obtain⟨u0,Y⟩:=H1.out.Nb.cellAt 0 (by decide);have a1:=H1.out.Nb.free 0;obtain⟨u3,a6⟩:=H1.out.Nb.cellAt 3 (by decide);have a7:=H1.out.Nb.free 3;go_wp2_with fail
 go_end0
 exact⟨rfl,(H1.out.set 0 (.int .u8 11) (x':= {x with kind:=11}) rfl rfl (fun _ _=>rfl)).set 3 (.string (p.txt k)) rfl rfl (fun _ _=>rfl)⟩
theorem WX (B pb xb:Nat)(p:cr)(A:Option Addr)(C k m:Nat)(x:cX)(w:World)(h:PB w B pb p A C k m)(hx:Uh w B xb x)(hp:p.Ok)(hq:p.is k 1=true)(hl:x.args.length≤1000):
 Calls prog 247 #[.pointer (some ⟨pb,0,none⟩),.pointer (some ⟨xb,0,none⟩)] w (Ua B pb xb p A C m (k+1) {x with kind:=13,args:=x.args++[p.txt k]} w):=by
 obtain⟨iS,IS⟩:=iH UP;have H0:=oH (St.first h hx);clear h hx;go_enter func247,ntmps247;obtain⟨u0,a7⟩:=H0.out.Nb.cellAt 0 (by decide);have a8:=H0.out.Nb.free 0;go_upto_region 1 with fail;have h2:=H0.out.set 0 (.int .u8 13) (x':= {x with kind:=13}) rfl rfl (fun _ _=>rfl);generalize w.setCell _ _=W1 at*;have H1:=oH h2;clear h2 a7 a8;obtain⟨aA,aC,fA,fC,hb,ra,rf,J,a1⟩:=H1.out.Nb;have HC:=oH (fun wn (hn:PB wn B pb p A C (k) m)=>xi pb p A C _ m wn hn.pat hp hq);have HV:=oH (fun wn (hn:aa (fun i=>(Value.ownBlock (.slice aA (x).args.length aC))≠some i∧i≠pb) W1 wn)=>show wn.cell? ⟨xb,5,none⟩=some (.slice aA (x).args.length aC) from(hb.kept hn ⟨eo ra hb (by decide),H1.out.ne⟩).cell 5);have HG:=oH (Ue (k:=k) (S:=fun y=>y=.string (p.txt (k))) H1.out.par ra);have Y:=J3 ra (show PB W1.drew B pb p A C (if false=true then(k)+1 else(k)) m from H1.out.par.kept (S:=All) kR.drew fun _ _=>trivial) H1.out.par.size;have o:=J4 hb rf J a1;clear hb ra rf J a1;refine hH 11 6 [7,8] (SY W1 (fun i=>i≠pb) B 9 1 (.slice aA (x).args.length aC) (x).args.length ((x).args.map Value.string) (fun b w=>PB w B pb p A C (if b then(k)+1 else(k)) m)) [13,14,15] (FY W1 (fun i=>i≠pb) B 9 1 (.slice aA (x).args.length aC) (x).args.length ((x).args.map Value.string) (fun y=>[y]) (fun y _=>y=.string (p.txt (k))) 14 13) (fun i=>if i=6 then some (fun y=>y=.string (p.txt (k))) else if i=7 then some Oa else if i=8 then some (NT (x).args.length) else none) (fun _=>false) (fun _ _=>False) (by kernel_rfl) (by kernel_rfl) (by kernel_rfl) (by kernel_rfl) (VJ _ _ _) (by kernel_rfl) (by decide) (SY.first Y.1 Y.2.1) (fun _ _ _ h=>h.elim) ?_;simp only[tK];iterate 6 refine OY (fun b wn R hp=>by(have q:=HV.out wn R.1;skip;go_simp;with_reducible rfl)) ?_
 refine Hy (V:=(fun y=>y=.string (p.txt (k)))) HG.out (by rfl) (by rfl) (by rfl) rfl (by decide) (fun wn R=>⟨_,_,by(have q:=HV.out wn R.1;go_simp<;>with_reducible rfl),(HC.out wn R.2.2).mono fun e w' h=>⟨_,h.1,rfl,h.2.1,R.2.2.moved h.2,rfl⟩⟩) ?_;rintro u rfl;simp only[PS];refine Tv HG.out (by decide) (by rfl) (by rfl) (by rfl) rfl (by decide) _ rfl (by decide) (fun wn R=>by(skip;go_simp<;>with_reducible rfl)) ?_;intro g;simp only[PS];refine Tu HG.out (by decide) (by rfl) (by rfl) (by rfl) rfl (by decide) (by decide) (.tmp 11) 22 rfl iS _ 16 underlying22 IS.1 IS.2.1 IS.2.2.1 IS.2.2.2 rfl (by decide) rfl g rfl (by decide) (fun y w hy=>by subst hy;exact⟨rfl,fun u hu=>by rw[cx.1 hu];rfl⟩) (by unfold maxLen;show x.args.length+1≤_;omega) (by show(x.args.length+1)*16≤_;omega) Y.2.2 ?_;intro A5 c5;simp only[PS];iterate 2 refine OY (fun b wn R hp=>by(have q:=HV.out wn R.1;skip;go_simp;with_reducible rfl)) ?_
 refine TE fun wt a6 hF=>?_;have I:=hF 15 (by simp) _ rfl;unfold FY at I;rw[ae (by decide),ae (by decide)] at I;have HT:=oH (show SY _ _ _ _ _ _ _ _ _ _ _ from a6);have HA:=oH I;clear a6 hF I;simp only[dK];have j:=o.1.kept HT.1 ⟨eo Y.1 o.1 (by decide),H1.out.ne⟩;have b5:=j.cl 5;have f5:=j.free 5;clear j;go_wp2_with fail
 go_end0
 obtain⟨y,wz,q1,rfl,q3,q4,q5⟩:=HA.out;have j:=o.1.kept HT.1 ⟨eo Y.1 o.1 (by decide),H1.out.ne⟩;have b0:=be o.2.1 HT.1 fun g hg=>⟨fun e=>o.2.2.1 g e hg,by rintro rfl;exact eo o.2.1 H1.out.par.box (by decide) hg⟩;have hX:=Uh.put_args (x:= {x with kind:=13}) j q1 b0 (UL o.2.1 o.2.2.1 q3 q5) o.2.2.2;have b1:=Vy H1.out Y.1 HT.1 HT.2.2 hX;exact⟨rfl,b1⟩
theorem VC (B pb xb:Nat)(p:cr)(A:Option Addr)(C k m:Nat)(x:cX)(w:World)(h:PB w B pb p A C k m)(hx:Uh w B xb x)(hp:p.Ok)(hq:p.is k 1=true)(b0:p.is (k+1) 1=true)(b1:p.is (k+1+1) 1=true)(hl:x.args.length≤1000):
 Calls prog 246 #[.pointer (some ⟨pb,0,none⟩),.pointer (some ⟨xb,0,none⟩)] w (Ua B pb xb p A C m (k+1+1+1) {x with kind:=12,args:=x.args++[p.txt k],ref:=p.txt (k+1),Ni:=p.txt (k+1+1)} w):=by
 obtain⟨iS,IS⟩:=iH UP;have H0:=oH (St.first h hx);clear h hx;go_enter func246,ntmps246;obtain⟨u0,b2⟩:=H0.out.Nb.cellAt 0 (by decide);have b3:=H0.out.Nb.free 0;go_upto_region 1 with fail;have h2:=H0.out.set 0 (.int .u8 12) (x':= {x with kind:=12}) rfl rfl (fun _ _=>rfl);generalize w.setCell _ _=W1 at*;have H1:=oH h2;clear h2 b2 b3;obtain⟨aA,aC,fA,fC,hb,ra,rf,J,a1⟩:=H1.out.Nb;have HC:=oH (fun wn (hn:PB wn B pb p A C (k) m)=>xi pb p A C _ m wn hn.pat hp hq);have HV:=oH (fun wn (hn:aa (fun i=>(Value.ownBlock (.slice aA (x).args.length aC))≠some i∧i≠pb) W1 wn)=>show wn.cell? ⟨xb,5,none⟩=some (.slice aA (x).args.length aC) from(hb.kept hn ⟨eo ra hb (by decide),H1.out.ne⟩).cell 5);have HG:=oH (Ue (k:=k) (S:=fun y=>y=.string (p.txt (k))) H1.out.par ra);have Y:=J3 ra (show PB W1.drew B pb p A C (if false=true then(k)+1 else(k)) m from H1.out.par.kept (S:=All) kR.drew fun _ _=>trivial) H1.out.par.size;have o:=J4 hb rf J a1;clear hb ra rf J a1;refine hH 11 6 [7,8] (SY W1 (fun i=>i≠pb) B 9 1 (.slice aA (x).args.length aC) (x).args.length ((x).args.map Value.string) (fun b w=>PB w B pb p A C (if b then(k)+1 else(k)) m)) [13,14,15] (FY W1 (fun i=>i≠pb) B 9 1 (.slice aA (x).args.length aC) (x).args.length ((x).args.map Value.string) (fun y=>[y]) (fun y _=>y=.string (p.txt (k))) 14 13) (fun i=>if i=6 then some (fun y=>y=.string (p.txt (k))) else if i=7 then some Oa else if i=8 then some (NT (x).args.length) else none) (fun _=>false) (fun _ _=>False) (by kernel_rfl) (by kernel_rfl) (by kernel_rfl) (by kernel_rfl) (VJ _ _ _) (by kernel_rfl) (by decide) (SY.first Y.1 Y.2.1) (fun _ _ _ h=>h.elim) ?_;simp only[tK];iterate 6 refine OY (fun b wn R hp=>by(have q:=HV.out wn R.1;skip;go_simp;with_reducible rfl)) ?_
 refine Hy (V:=(fun y=>y=.string (p.txt (k)))) HG.out (by rfl) (by rfl) (by rfl) rfl (by decide) (fun wn R=>⟨_,_,by(have q:=HV.out wn R.1;go_simp<;>with_reducible rfl),(HC.out wn R.2.2).mono fun e w' h=>⟨_,h.1,rfl,h.2.1,R.2.2.moved h.2,rfl⟩⟩) ?_;rintro u rfl;simp only[PS];refine Tv HG.out (by decide) (by rfl) (by rfl) (by rfl) rfl (by decide) _ rfl (by decide) (fun wn R=>by(skip;go_simp<;>with_reducible rfl)) ?_;intro g;simp only[PS];refine Tu HG.out (by decide) (by rfl) (by rfl) (by rfl) rfl (by decide) (by decide) (.tmp 11) 22 rfl iS _ 16 underlying22 IS.1 IS.2.1 IS.2.2.1 IS.2.2.2 rfl (by decide) rfl g rfl (by decide) (fun y w hy=>by subst hy;exact⟨rfl,fun u hu=>by rw[cx.1 hu];rfl⟩) (by unfold maxLen;show x.args.length+1≤_;omega) (by show(x.args.length+1)*16≤_;omega) Y.2.2 ?_;intro A5 c5;simp only[PS];iterate 2 refine OY (fun b wn R hp=>by(have q:=HV.out wn R.1;skip;go_simp;with_reducible rfl)) ?_
 refine TE fun wt a6 hF=>?_;have I:=hF 15 (by simp) _ rfl;unfold FY at I;rw[ae (by decide),ae (by decide)] at I;have HT:=oH (show SY _ _ _ _ _ _ _ _ _ _ _ from a6);have HA:=oH I;clear a6 hF I;simp only[dK];have j:=o.1.kept HT.1 ⟨eo Y.1 o.1 (by decide),H1.out.ne⟩;have b5:=j.cl 5;have f5:=j.free 5;clear j;go_upto_region 2 with fail;obtain⟨y,wz,q1,rfl,q3,q4,q5⟩:=HA.out;have j:=o.1.kept HT.1 ⟨eo Y.1 o.1 (by decide),H1.out.ne⟩;have a7:=be o.2.1 HT.1 fun g hg=>⟨fun e=>o.2.2.1 g e hg,by rintro rfl;exact eo o.2.1 H1.out.par.box (by decide) hg⟩;have hX:=Uh.put_args (x:= {x with kind:=12}) j q1 a7 (UL o.2.1 o.2.2.1 q3 q5) o.2.2.2;have a8:=Vy H1.out Y.1 HT.1 HT.2.2 hX;generalize wt.setCell _ _=b7 at*;have H2:=oH a8;clear j a7 hX a8 q1 q3 q4 q5 b5 f5 HA HT o Y HG HV HC;go_wp2_with fail;refine(xi pb p A C _ m _ H2.out.par.pat hp b0).mono ?_;rintro e w3 ⟨rfl,hm⟩;have H3:=oH (H2.out.moved hm);clear hm;obtain⟨u3,b4⟩:=H3.out.Nb.cellAt 3 (by decide);have b6:=H3.out.Nb.free 3;go_upto_region 3 with fail;have h2:=H3.out.set 3 (.string (p.txt (k+1))) (x':= {x with kind:=12,args:=x.args++[p.txt k],ref:=p.txt (k+1)}) rfl rfl (fun _ _=>rfl);generalize w3.setCell _ _=W4 at*;have H4:=oH h2;clear h2 b4 b6;go_wp2_with fail;refine(xi pb p A C _ m _ H4.out.par.pat hp b1).mono ?_;rintro e w5 ⟨rfl,hm⟩;have H5:=oH (H4.out.moved hm);clear hm;obtain⟨u4,b8⟩:=H5.out.Nb.cellAt 4 (by decide);have b9:=H5.out.Nb.free 4;go_wp2_with fail
 go_end0
 exact⟨rfl,H5.out.set 4 (.string (p.txt (k+1+1))) rfl rfl (fun _ _=>rfl)⟩
theorem WM {s:ByteArray}(j:Ab s=true){n:Nat}(h:Os s=some n):s.size=0∨Ai s 0≠45:=by
 by_cases o:s.size=0;·exact .inl o
 right;unfold Os at h;split at h;·cases h
 intro e;rw[Ui (by omega),(TI j (by omega)).2.2] at h;simp only[e] at h;rw[ae (by decide)] at h;cases h
theorem TJ {p:cr}(j:p.Ok)(k:Nat):Ab (p.txt k)=true∧(p.txt k).size≤65536:=by
 unfold cr.txt;cases o:p.l[k]? with
 |none=>exact⟨by kernel_rfl,by show gR.size≤_;decide⟩
 |some t=>have h:=j.tok t (mG o);have C:=j.size;exact⟨Ug j.plain _ _,by show(p.s.extract t.beg t.fin).size≤_;rw[TS _ _ _ h.2.1];omega⟩
theorem VN (pb:Nat)(p:cr)(A:Option Addr)(C k m n:Nat)(w:World)(h:Uo w pb p A C k m)(o:p.Ok)(R:p.is k 3=true)(I:Os (p.txt k)=some n):
 Calls prog 125 #[.pointer (some ⟨pb,0,none⟩)] w fun e w'=>e=.returned (.int .i64 n)∧wi pb p A C (k+1) m w w':=by
 have HT:=oH (Vi pb p A C k m 3 w h o R);have HN:=oH (fun w=>VU (p.txt k) w (TJ o k).1 (WM (TJ o k).1 I) (TJ o k).2);have HQ:=oH I;clear h R I;go_enter func125,ntmps125;go_wp2_with fail;refine HT.out.mono ?_;rintro e w1 ⟨rfl,hm⟩;have Y:=oH hm;clear hm;go_wp2_with fail;refine(HN.out w1).mono ?_;rintro e w2 ⟨j,v,rfl,hv⟩;have J:=hv n HQ.out;subst J;have HK:=oH j;clear j hv;go_wp2_with fail;go_ret;exact⟨rfl,Y.1.trans HK.out.all,Y.2.keep HK.out⟩
theorem VW (B pb j:Nat)(p:cr)(A:Option Addr)(C k m:Nat)(x:cX)(w:World)(h:PB w B pb p A C k m)(o:Uh w B j x)(J:p.Ok)(n:Nat)(R:p.is k 3=true)(Y:Os (p.txt k)=some n):
 Calls prog 252 #[.pointer (some ⟨pb,0,none⟩),.pointer (some ⟨j,0,none⟩)] w (Ua B pb j p A C m (k+1) {x with kind:=1,num:=n} w):=by
 have I:=oH (St.first h o);clear h o;go_enter func252,ntmps252;go_wp2_with fail;refine(VN pb p A C k m n w I.out.par.pat J R Y).mono ?_;rintro e w1 ⟨rfl,hm⟩;have H1:=oH (I.out.moved hm);clear hm;obtain⟨u0,a1⟩:=H1.out.Nb.cellAt 0 (by decide);have a6:=H1.out.Nb.free 0;obtain⟨u7,a7⟩:=H1.out.Nb.cellAt 7 (by decide);have a8:=H1.out.Nb.free 7;go_wp2_with fail
 go_end0
 exact⟨rfl,(H1.out.set 0 (.int .u8 1) (x':= {x with kind:=1}) rfl rfl (fun _ _=>rfl)).set 7 (.int .i64 n) rfl rfl (fun _ _=>rfl)⟩
def TN (w:World)(g0 g1 j pb:Nat):Prop:=al w g0 292 #[.pointer (some ⟨j,0,none⟩)]∧al w g1 138 #[.pointer (some ⟨pb,0,none⟩)]∧g0≠pb∧g1≠pb
theorem TN.kept {w j:World}{g0 g1 o pb:Nat}{S:Nat→Prop}(h:TN w g0 g1 o pb)(k:aa S w j)(C:S g0)(I:S g1):TN j g0 g1 o pb:=⟨h.1.kept k C,h.2.1.kept k I,h.2.2⟩
def Wt (g0 g1:Nat)(B pb j:Nat)(p:cr)(A:Option Addr)(C m:Nat)(k':Nat)(x':cX)(w:World)(e:Ending)(o:World):Prop:=e=.returned (.tuple #[])∧St w B pb j p A C m k' x' o∧TN o g0 g1 j pb
theorem Xo (B pb xb:Nat)(p:cr)(A:Option Addr)(C k m:Nat)(x:cX)(w:World)(h:PB w B pb p A C k m)(hx:Uh w B xb x)(hp:p.Ok)(g0 g1:Nat)(hb:TN w g0 g1 xb pb)(hq:p.is k 1=true)(b3:p.txt (k+1)=⟨#[58]⟩)(b4:p.is (k+1+1) 1=true)(hl:x.args.length≤1000)(b7:x.Nh.length≤1000):
 Calls prog 257 #[.pointer (some ⟨g0,0,none⟩),.pointer (some ⟨g1,0,none⟩)] w (Wt g0 g1 B pb xb p A C m (k+1+1+1) {x with Nh:=x.Nh++[p.txt k],args:=x.args++[p.txt (k+1+1)]} w):=by
 obtain⟨iS,IS⟩:=iH UP;have H0:=oH (St.first h hx);have HB:=oH hb;clear h hx hb;go_enter func257,ntmps257;go_upto_region 0 with fail;obtain⟨aA,aC,fA,fC,hb,ra,rf,Y,a1⟩:=H0.out.Nb;have HC:=oH (fun wn (hn:PB wn B pb p A C (k) m)=>xi pb p A C _ m wn hn.pat hp hq);have HV:=oH (fun wn (hn:aa (fun i=>(Value.ownBlock (.slice fA (x).Nh.length fC))≠some i∧i≠pb) w wn)=>show wn.cell? ⟨g0,0,none⟩=some (.pointer (some ⟨xb,0,none⟩))∧wn.cell? ⟨g1,0,none⟩=some (.pointer (some ⟨pb,0,none⟩))∧wn.cell? ⟨xb,6,none⟩=some (.slice fA (x).Nh.length fC) from⟨(HB.1.kept hn ⟨eo rf HB.1 (by decide),HB.2.2.1⟩).cell 0,(HB.2.1.kept hn ⟨eo rf HB.2.1 (by decide),HB.2.2.2⟩).cell 0,(hb.kept hn ⟨eo rf hb (by decide),H0.out.ne⟩).cell 6⟩);have HG:=oH (Ue (k:=k) (S:=fun y=>y=.string (p.txt (k))) H0.out.par rf);have R:=J3 rf (show PB w.drew B pb p A C (if false=true then(k)+1 else(k)) m from H0.out.par.kept (S:=All) kR.drew fun _ _=>trivial) H0.out.par.size;have o:=J4 hb ra (fun b h1 h2=>Y b h2 h1) a1;clear hb ra rf Y a1;refine hH 11 6 [7,8] (SY w (fun i=>i≠pb) B 9 1 (.slice fA (x).Nh.length fC) (x).Nh.length ((x).Nh.map Value.string) (fun b w=>PB w B pb p A C (if b then(k)+1 else(k)) m)) [8,9,10] (FY w (fun i=>i≠pb) B 9 1 (.slice fA (x).Nh.length fC) (x).Nh.length ((x).Nh.map Value.string) (fun y=>[y]) (fun y _=>y=.string (p.txt (k))) 9 8) (fun i=>if i=6 then some (fun y=>y=.string (p.txt (k))) else if i=7 then some Oa else if i=8 then some (NT (x).Nh.length) else none) (fun _=>false) (fun _ _=>False) (by kernel_rfl) (by kernel_rfl) (by kernel_rfl) (by kernel_rfl) (VJ _ _ _) (by kernel_rfl) (by decide) (SY.first R.1 R.2.1) (fun _ _ _ h=>h.elim) ?_;simp only[tK];iterate 6 refine OY (fun b wn hs hp=>by(obtain⟨q0,q1,q2⟩:=HV.out wn hs.1;skip;go_simp;with_reducible rfl)) ?_
 refine Hy (V:=(fun y=>y=.string (p.txt (k)))) HG.out (by rfl) (by rfl) (by rfl) rfl (by decide) (fun wn hs=>⟨_,_,by(obtain⟨q0,q1,q2⟩:=HV.out wn hs.1;go_simp<;>with_reducible rfl),(HC.out wn hs.2.2).mono fun e w' h=>⟨_,h.1,rfl,h.2.1,hs.2.2.moved h.2,rfl⟩⟩) ?_;rintro u rfl;simp only[PS];refine Tv HG.out (by decide) (by rfl) (by rfl) (by rfl) rfl (by decide) _ rfl (by decide) (fun wn hs=>by(skip;go_simp<;>with_reducible rfl)) ?_;intro g;simp only[PS];refine Tu HG.out (by decide) (by rfl) (by rfl) (by rfl) rfl (by decide) (by decide) (.tmp 6) 22 rfl iS _ 16 underlying22 IS.1 IS.2.1 IS.2.2.1 IS.2.2.2 rfl (by decide) rfl g rfl (by decide) (fun y w hy=>by subst hy;exact⟨rfl,fun u hu=>by rw[cx.1 hu];rfl⟩) (by unfold maxLen;show x.Nh.length+1≤_;omega) (by show(x.Nh.length+1)*16≤_;omega) R.2.2 ?_;intro A5 c5;simp only[PS];iterate 2 refine OY (fun b wn hs hp=>by(obtain⟨q0,q1,q2⟩:=HV.out wn hs.1;skip;go_simp;with_reducible rfl)) ?_
 refine TE fun wt a6 hF=>?_;have J:=hF 10 (by simp) _ rfl;unfold FY at J;rw[ae (by decide),ae (by decide)] at J;have HT:=oH (show SY _ _ _ _ _ _ _ _ _ _ _ from a6);have HA:=oH J;clear a6 hF J;simp only[dK];have I:=o.1.kept HT.1 ⟨eo R.1 o.1 (by decide),H0.out.ne⟩;have b5:=I.cl 6;have f5:=I.free 6;clear I;go_upto_region 1 with fail;obtain⟨y,wz,q1,rfl,q3,q4,q5⟩:=HA.out;have I:=o.1.kept HT.1 ⟨eo R.1 o.1 (by decide),H0.out.ne⟩;have a7:=be o.2.1 HT.1 fun g hg=>⟨fun e=>o.2.2.1 g e hg,by rintro rfl;exact eo o.2.1 H0.out.par.box (by decide) hg⟩;have hX:=Uh.put_frm (x:=x) I q1 a7 (UL o.2.1 o.2.2.1 q3 q5) o.2.2.2;have a8:=Vy H0.out R.1 HT.1 HT.2.2 hX;have b0:aa (fun b=>b≠xb) wt (wt.setCell ⟨xb,6,none⟩ (.slice A5 (x.Nh.length+1) c5)):=kR.setCell (.inl fun h=>h rfl) _;have n0:g0≠xb:=HB.1.ne o.1 (by decide);have n1:g1≠xb:=HB.2.1.ne o.1 (by decide);have b1:=(HB.out.kept HT.1 ⟨eo R.1 HB.1 (by decide),HB.2.2.1⟩ ⟨eo R.1 HB.2.1 (by decide),HB.2.2.2⟩).kept b0 n0 n1;generalize wt.setCell _ _=b6 at*;have b2:=oH b1;have H1:=oH a8;clear I a7 hX a8 q1 q3 q4 q5 b5 f5 HA HT o R HG HV HC b0 b1;have c1:=b2.2.1.cl 0;go_wp2_with fail;refine(Ar pb p A C (k+1) m ⟨#[58]⟩ b6 H1.out.par.pat hp b3 (by decide)).mono ?_;rintro e W2 ⟨rfl,hm⟩;have H2:=oH (H1.out.moved hm);have j:=oH (b2.out.kept hm.1 b2.2.2.1 b2.2.2.2);clear hm c1;go_upto_region 2 with fail;obtain⟨aA,aC,fA,fC,hb,ra,rf,Y,a1⟩:=H2.out.Nb;have HC:=oH (fun wn (hn:PB wn B pb p A C (k+1+1) m)=>xi pb p A C _ m wn hn.pat hp b4);have HV:=oH (fun wn (hn:aa (fun i=>(Value.ownBlock (.slice aA (x).args.length aC))≠some i∧i≠pb) W2 wn)=>show wn.cell? ⟨g0,0,none⟩=some (.pointer (some ⟨xb,0,none⟩))∧wn.cell? ⟨g1,0,none⟩=some (.pointer (some ⟨pb,0,none⟩))∧wn.cell? ⟨xb,5,none⟩=some (.slice aA (x).args.length aC) from⟨(j.1.kept hn ⟨eo ra j.1 (by decide),j.2.2.1⟩).cell 0,(j.2.1.kept hn ⟨eo ra j.2.1 (by decide),j.2.2.2⟩).cell 0,(hb.kept hn ⟨eo ra hb (by decide),H2.out.ne⟩).cell 5⟩);have HG:=oH (Ue (k:=k+1+1) (S:=fun y=>y=.string (p.txt (k+1+1))) H2.out.par ra);have R:=J3 ra (show PB W2.drew B pb p A C (if false=true then(k+1+1)+1 else(k+1+1)) m from H2.out.par.kept (S:=All) kR.drew fun _ _=>trivial) H2.out.par.size;have o:=J4 hb rf Y a1;clear hb ra rf Y a1;refine hH 11 6 [7,8] (SY W2 (fun i=>i≠pb) B 9 1 (.slice aA (x).args.length aC) (x).args.length ((x).args.map Value.string) (fun b w=>PB w B pb p A C (if b then(k+1+1)+1 else(k+1+1)) m)) [21,22,23] (FY W2 (fun i=>i≠pb) B 9 1 (.slice aA (x).args.length aC) (x).args.length ((x).args.map Value.string) (fun y=>[y]) (fun y _=>y=.string (p.txt (k+1+1))) 22 21) (fun i=>if i=6 then some (fun y=>y=.string (p.txt (k+1+1))) else if i=7 then some Oa else if i=8 then some (NT (x).args.length) else none) (fun _=>false) (fun _ _=>False) (by kernel_rfl) (by kernel_rfl) (by kernel_rfl) (by kernel_rfl) (VJ _ _ _) (by kernel_rfl) (by decide) (SY.first R.1 R.2.1) (fun _ _ _ h=>h.elim) ?_;simp only[tK];iterate 6 refine OY (fun b wn hs hp=>by(obtain⟨q0,q1,q2⟩:=HV.out wn hs.1;skip;go_simp;with_reducible rfl)) ?_
 refine Hy (V:=(fun y=>y=.string (p.txt (k+1+1)))) HG.out (by rfl) (by rfl) (by rfl) rfl (by decide) (fun wn hs=>⟨_,_,by(obtain⟨q0,q1,q2⟩:=HV.out wn hs.1;go_simp<;>with_reducible rfl),(HC.out wn hs.2.2).mono fun e w' h=>⟨_,h.1,rfl,h.2.1,hs.2.2.moved h.2,rfl⟩⟩) ?_;rintro u rfl;simp only[PS];refine Tv HG.out (by decide) (by rfl) (by rfl) (by rfl) rfl (by decide) _ rfl (by decide) (fun wn hs=>by(skip;go_simp<;>with_reducible rfl)) ?_;intro g;simp only[PS];refine Tu HG.out (by decide) (by rfl) (by rfl) (by rfl) rfl (by decide) (by decide) (.tmp 19) 22 rfl iS _ 16 underlying22 IS.1 IS.2.1 IS.2.2.1 IS.2.2.2 rfl (by decide) rfl g rfl (by decide) (fun y w hy=>by subst hy;exact⟨rfl,fun u hu=>by rw[cx.1 hu];rfl⟩) (by unfold maxLen;show x.args.length+1≤_;omega) (by show(x.args.length+1)*16≤_;omega) R.2.2 ?_;intro A5 c5;simp only[PS];iterate 2 refine OY (fun b wn hs hp=>by(obtain⟨q0,q1,q2⟩:=HV.out wn hs.1;skip;go_simp;with_reducible rfl)) ?_
 refine TE fun wt a6 hF=>?_;have J:=hF 23 (by simp) _ rfl;unfold FY at J;rw[ae (by decide),ae (by decide)] at J;have HT:=oH (show SY _ _ _ _ _ _ _ _ _ _ _ from a6);have HA:=oH J;clear a6 hF J;simp only[dK];have I:=o.1.kept HT.1 ⟨eo R.1 o.1 (by decide),H2.out.ne⟩;have b5:=I.cl 5;have f5:=I.free 5;clear I;go_wp2_with fail
 go_end0
 obtain⟨y,wz,q1,rfl,q3,q4,q5⟩:=HA.out;have I:=o.1.kept HT.1 ⟨eo R.1 o.1 (by decide),H2.out.ne⟩;have a7:=be o.2.1 HT.1 fun g hg=>⟨fun e=>o.2.2.1 g e hg,by rintro rfl;exact eo o.2.1 H2.out.par.box (by decide) hg⟩;have hX:=Uh.put_args (x:= {x with Nh:=x.Nh++[p.txt k]}) I q1 a7 (UL o.2.1 o.2.2.1 q3 q5) o.2.2.2;have a8:=Vy H2.out R.1 HT.1 HT.2.2 hX;have b0:aa (fun b=>b≠xb) wt (wt.setCell ⟨xb,5,none⟩ (.slice A5 (x.args.length+1) c5)):=kR.setCell (.inl fun h=>h rfl) _;have n0:g0≠xb:=j.1.ne o.1 (by decide);have n1:g1≠xb:=j.2.1.ne o.1 (by decide);have b1:=(j.out.kept HT.1 ⟨eo R.1 j.1 (by decide),j.2.2.1⟩ ⟨eo R.1 j.2.1 (by decide),j.2.2.2⟩).kept b0 n0 n1;exact⟨rfl,a8,b1⟩
theorem TN.set {w:World}{g0 g1 B o pb:Nat}{x:cX}(h:TN w g0 g1 o pb)(I:Uh w B o x)(j:Nat)(v:Value):TN (w.setCell ⟨o,j,none⟩ v) g0 g1 o pb:=by obtain⟨J,aC,R,fC,C,_⟩:=I;exact h.kept ((aa.refl (fun b=>b≠o) _).setCell (.inl fun h=>h rfl) _) (h.1.ne C (by decide)) (h.2.1.ne C (by decide))
theorem Uv {p:cr}{f n k:Nat}{C I:List ByteArray}{r:List ByteArray×List ByteArray×Nat}(h:UH p (f+1) n k C I=some r):
 p.is k 1=true∧n<64∧p.txt (k+1)=XW∧p.is (k+1+1) 1=true∧if p.txt (k+1+1+1)=Ym then UH p f (n+1) (k+1+1+1+1) (C++[p.txt k]) (I++[p.txt (k+1+1)])=some r else r=(C++[p.txt k],I++[p.txt (k+1+1)],k+1+1+1):=by
 rw[UH] at h;split at h;·cases h
 rename_i h0;unfold Ty TR at h;by_cases j:p.is k 1=true
 ·by_cases o:p.txt (k+1)=XW
  ·(
 by_cases J:p.is (k+1+1) 1=true
 ·simp only[j,o,J,if_true,Option.bind_eq_bind,Option.bind_some] at h;refine⟨j,by rcases Nat.lt_or_ge n 64 with R|R;exact R;exact absurd ⟨j,R⟩ h0,o,J,?_⟩;split at h;·rename_i Y;rw[ap Y];exact h
  rename_i Y;rw[ae Y];cases h;rfl
 simp[j,o,J] at h)
  simp[j,o] at h
 simp[j] at h
theorem WR (B pb xb g0 g1:Nat)(p:cr)(A:Option Addr)(C k m k':Nat)(x:cX)(fr ar:List ByteArray)(w:World)(h:PB w B pb p A C k m)(hx:Uh w B xb x)(hb:TN w g0 g1 xb pb)(hp:p.Ok)(hr:UH p 65 0 k x.Nh x.args=some (fr,ar,k'))(hl:x.args.length≤100)(c1:x.Nh.length≤100):
 Calls prog 193 #[.pointer (some ⟨pb,0,none⟩),.int .i64 64,.func (.func 257) #[] #[.pointer (some ⟨g0,0,none⟩),.pointer (some ⟨g1,0,none⟩)]] w (Wt g0 g1 B pb xb p A C m k' {x with Nh:=fr,args:=ar} w):=by
 have H0:=J3 (St.first h hx) hb hr;have c0:=hp.len;clear h hx hb hr;go_enter func193,ntmps193;go_wp2_with fail;go_loopg [6] 65 (fun g s6 wr=>∃(f n J:Nat) (f1 Y:List ByteArray),g=f∧s6=.int .i64 n∧n+f=65∧f1.length≤n+100∧Y.length≤n+100∧UH p f n J f1 Y=some (fr,ar,k')∧St w B pb xb p A C m J {x with Nh:=f1,args:=Y} wr∧TN wr g0 g1 xb pb);·exact⟨65,0,k,x.Nh,x.args,rfl,rfl,rfl,by omega,by omega,H0.2.2,H0.1,H0.2.1⟩
 obtain⟨f,n,J,f1,Y,c2,rfl,c3,c4,c5,a6,b3,b4⟩:=hrel;obtain⟨wo,b8⟩:=eQ wr;subst b8;cases f with
 |zero=>cases a6
 |succ f=>
 obtain⟨q1,q2,q3,q4,q5⟩:=Uv a6;have HS:=J2 b3 b4;have HQ:=J4 q1 q3 q4 q5;clear b3 b4 a6 q1 q3 q4 q5;go_wp2_with fail;refine(TC pb p A C J m 1 wo HS.1.par.pat hp).mono ?_;rintro e w1 ⟨rfl,a7⟩;rw[HQ.1];have R:=J2 (HS.1.all a7) (HS.2.kept a7 trivial trivial);clear a7;go_wp2_with fail;refine(To pb n 64 w1 q2).mono ?_;rintro e w2 ⟨rfl,rfl⟩;go_wp2_with fail;refine(Xo B pb xb p A C J m {x with Nh:=f1,args:=Y} w1 R.1.par R.1.Nb hp g0 g1 R.2 HQ.1 HQ.2.1 HQ.2.2.1 (by show Y.length≤_;omega) (by show f1.length≤_;omega)).mono ?_;rintro e w3 ⟨rfl,b5,b6⟩;have a8:=J2 (Ts R.1 b5) b6;clear b5 b6;go_wp2_with fail;refine(xt pb p A C (J+1+1+1) m 0 w3 a8.1.par.pat hp (by omega)).mono ?_;rintro e w4 ⟨rfl,b0⟩;rw[dj];have j:=J2 (a8.1.all b0) (a8.2.kept b0 trivial trivial);clear b0;by_cases o:p.txt (J+1+1+1)=Ym;·(
 have I:=HQ.2.2.2;rw[ap o] at I;have c6:=TM (p:=p) (k:=J+1+1+1) (by rw[o];decide);have b9:((p.txt (J+1+1+1)).toList==[44])=true:=by rw[TY _ _ Ym (by kernel_rfl),bL o]
 have HZ:=oH I;have b1:=j.1.par.box;have b2:=b1.cl 2;have f2:=b1.free 2;clear I o b1;go_wp2_with fail;go_roundg f
 ·have b7:wi pb p A C (J+1+1+1+1) m w4 (w4.setCell ⟨pb,2,none⟩ (.int .i64 ((J+1+1+1+1:Nat)))):=wi.of j.1.par.pat kR (by omega);refine⟨f,n+1,J+1+1+1+1,_,_,rfl,by go_num,by omega,?_,?_,HZ.out,?_,?_⟩;·rw[iQ];show f1.length+1≤_;omega
  ·rw[iQ];show Y.length+1≤_;omega
  ·simpa using j.1.moved b7
  simpa using j.2.kept b7.1 j.2.2.2.1 j.2.2.2.2
 omega)
 have I:=HQ.2.2.2;rw[ae o] at I;have b9:((p.txt (J+1+1+1)).toList==[44])=false:=by rw[TY _ _ Ym (by kernel_rfl),cI o]
 have HZ:=oH I;clear I o;go_wp2_with fail;have e:=HZ.out;injection e with e1 e2;injection e2 with e2 e3;subst e1;subst e2;subst e3;exact bodyPost_ret (results_none rfl _ _ _) rfl ⟨rfl,j.1,j.2⟩
theorem WW (B pb R:Nat)(p:cr)(A:Option Addr)(C k m k':Nat)(x:cX)(fr ar:List ByteArray)(w:World)(h:PB w B pb p A C k m)(hx:Uh w B R x)(hp:p.Ok)(hq:p.txt k=Yv)(hr:UH p 65 0 (k+1) x.Nh x.args=some (fr,ar,k'))(b0:p.txt k'=Yw)(hl:x.args.length≤100)(b1:x.Nh.length≤100):
 Calls prog 256 #[.pointer (some ⟨pb,0,none⟩),.pointer (some ⟨R,0,none⟩)] w (Ua B pb R p A C m (k'+1) {x with kind:=3,Nh:=fr,args:=ar} w):=by
 obtain⟨W0,j⟩:=eQ ((w.alloc (.cells #[.pointer (some ⟨pb,0,none⟩)] 138)).alloc (.cells #[.pointer (some ⟨R,0,none⟩)] 292));have a1:=aC2 j;have a6:TN W0 (w.heap.size+1) w.heap.size R pb:=by(
 rw[j];refine⟨?_,(al.new w _ _).alloc _,by have:=h.low;have:=h.size;omega,by have:=h.low;have:=h.size;omega⟩;have h1:(w.alloc (.cells #[.pointer (some ⟨pb,0,none⟩)] 138)).heap.size=w.heap.size+1:=by simp
 rw[←h1];exact al.new _ _ _)
 have Y:=J3 j ((St.first h hx).all a1) a6;clear h hx j a1 a6;go_enter func256,ntmps256;go_upto_region 1 with fail;rw[←Y.1];obtain⟨g0,o⟩:=eQ (w.heap.size+1);obtain⟨g1,I⟩:=eQ w.heap.size;have HB:=oH (show TN W0 g0 g1 R pb by rw[o,I];exact Y.2.2);rw[←o,←I];have HG:=J2 o I;clear o I;have c0:=HB.1.cl 0;obtain⟨u0,b2⟩:=Y.2.1.Nb.cellAt 0 (by decide);have b3:=Y.2.1.Nb.free 0;go_upto_region 2 with fail;have J:=oH (HB.out.set Y.2.1.Nb 0 (.int .u8 3));have h2:=Y.2.1.set 0 (.int .u8 3) (x':= {x with kind:=3}) rfl rfl (fun _ _=>rfl);generalize W0.setCell _ _=W1 at*;have H1:=oH h2;clear h2 c0 b2 b3;have c1:=J.2.1.cl 0;go_wp2_with fail;refine(Ar pb p A C k m ⟨#[91]⟩ W1 H1.out.par.pat hp hq (by decide)).mono ?_;rintro e W2 ⟨rfl,hm⟩;have H2:=J2 (H1.out.moved hm) (J.out.kept hm.1 J.2.2.1 J.2.2.2);clear hm c1;have c1:=H2.2.2.1.cl 0;go_wp2_with fail;refine(WR B pb R g0 g1 p A C (k+1) m k' {x with kind:=3} fr ar W2 H2.1.par H2.1.Nb H2.2 hp hr hl b1).mono ?_;rintro e W3 ⟨rfl,a7,a8⟩;have H3:=J2 (Ts H2.1 a7) a8;clear a7 a8 c1;have c1:=H3.2.2.1.cl 0;go_wp2_with fail;refine(Ar pb p A C k' m ⟨#[93]⟩ W3 H3.1.par.pat hp b0 (by decide)).mono ?_;rintro e W4 ⟨rfl,hm⟩;have H4:=oH (H3.1.moved hm);clear hm c1;go_wp2_with fail
 go_end0
 exact⟨rfl,H4.out⟩
section
open Go.RowKit Go.WideMaps Go.Maps
abbrev mx:=List (ByteArray×Value)
def Uq (l:mx):Array MapEntry:=(l.zipIdx.map fun(x,n)=>⟨.string x.1,x.2,n⟩).toArray
def TH (l:mx)(a:ByteArray):Option Value:=(l.find? fun x=>a==x.1).map (·.2)
theorem VG (a:ByteArray)(l:mx)(n m:Nat):
 Instr.findNow .string (.string a) (l.zipIdx m|>.map fun(x,n)=>(⟨.string x.1,x.2,n⟩:MapEntry)) n=some ((l.findIdx? fun x=>a==x.1).bind fun i=>(TH l a).map fun f=>(n+i,f)):=by
 induction l generalizing n m with
 |nil=>rfl
 |cons x l j=>
  simp only[List.zipIdx_cons,List.map_cons,Instr.findNow,Instr.sameNow,TH,List.find?_cons,List.findIdx?_cons];cases h:a==x.1;·simp only[j,TH];cases l.findIdx? fun x=>a==x.1<;>simp;cases l.find? fun x=>a==x.1<;>simp;omega
  simp
theorem Vl (w:World)(a:ByteArray)(l:List MapEntry)(r)(h:Instr.findNow .string (.string a) l 0=some r):
 (Instr.findKey 9 (.string a) l).run prog w=.ok r w:=by
 unfold Instr.findKey;simp[run_underlying underlying9,h]
theorem WJ (l:mx)(k:ByteArray)(f:Value):(Uq l).push ⟨.string k,f,l.length⟩=Uq (l++[(k,f)]):=by simp[Uq,List.zipIdx_append]
def Tn (w:World)(b:Nat)(l:mx):Prop:=w.heap[b]? =some (.map (Uq l) l.length)
def zs (w:World)(b:Nat)(l:mx):World:= {w with heap:=w.heap.setIfInBounds b (.map (Uq l) l.length)}
theorem Tn.lt {w:World}{b:Nat}{l:mx}(h:Tn w b l):b<w.heap.size:=(mV.1 h).1
theorem Tn.set {w:World}{b:Nat}{l:mx}(h:Tn w b l)(j:mx):Tn (zs w b j) b j:=by have:=h.lt;simp[Tn,zs,this]
theorem Tn.kept {w j:World}{b:Nat}{l:mx}(h:Tn w b l)(k:aa All w j):Tn j b l:=by unfold Tn;rw[k.block b h.lt trivial];exact h
theorem Wj (w:World)(b:Nat)(l j:mx):zs (zs w b l) b j=zs w b j:=by simp[zs,Array.setIfInBounds_setIfInBounds]
theorem TD {S:Nat→Prop}{w o:World}{b:Nat}{l:mx}(h:aa S w o)(J:w.heap.size≤b):aa S w (zs o b l):=by
 refine⟨h.os,h.output,by simpa [zs] using h.size,fun k C I=>?_⟩;have j:b≠k:=by omega
 rw[←h.block k C I];simp[zs,Array.getElem?_setIfInBounds_ne j]
theorem Xq {W:World}{b:Nat}{l:mx}(k:ByteArray)(f:Value)(C:k.size≤maxLen)(h:(l.findIdx? fun x=>k==x.1)=none)(I:Tn W b l):
 (Instr.mapUpdate 290 (.map (some b)) (.string k) f).run prog W=.ok () (zs W b (l++[(k,f)])):=by
 have J:=Vl W k (Uq l).toList none (by have:=VG k l 0 0;rw[h] at this;simpa [Uq] using this);have o:=Gm.check W false (keyOf_string_mk underlying9 C);have j:W.heap[b]? =some (.map (Uq l) l.length):=I;unfold Instr.mapUpdate;simp[run_underlying underlying290,MapKept.run_getObj_map j,o,J,MapKept.run_setObj_map _ j,Result.andThen,WJ,zs]
theorem Ux {w:World}{l:mx}{b:Nat}(k:ByteArray)(J:k.size≤maxLen)(R:Tn w b l):
 (Instr.lookup 290 (.map (some b)) (.string k) false).run prog w=.ok ((TH l k).getD .nilFunc) w:=by
 have j:=Vl w k (Uq l).toList _ (by have:=VG k l 0 0;simpa [Uq] using this);have o:=Gm.check w (Uq l).isEmpty (keyOf_string_mk underlying9 J);have C:w.heap[b]? =some (.map (Uq l) l.length):=R;have Y:(zeroValue 289).run prog w=.ok .nilFunc w:=by kernel_rfl
 unfold Instr.lookup;simp[run_underlying underlying290,MapKept.run_getObj_map C,o,j,Result.andThen];cases h:l.findIdx? fun x=>k==x.1 with
 |none=>
  have:TH l k=none:=by rw[List.findIdx?_eq_none_iff] at h;simp only[TH,Option.map_eq_none_iff,List.find?_eq_none];intro x hx;simp[h x hx]
  simp[this,Y]
 |some i=>
  obtain⟨f,j⟩:∃f,TH l k=some f:=by(
 rw[List.findIdx?_eq_some_iff_getElem] at h;obtain⟨hi,hk,_⟩:=h;cases I:l.find? fun x=>k==x.1 with
 |none=>exact absurd hk (List.find?_eq_none.1 I _ (eL hi))
 |some f=>exact⟨f.2,by simp[TH,I]⟩)
  simp[j]
end
def UN:mx:=[(⟨#[115,116,111,114,101]⟩,.func (.func 243) #[] #[]),(⟨#[111,117,116,112,117,116]⟩,.func (.func 244) #[] #[]),(⟨#[106,117,109,112]⟩,.func (.func 245) #[] #[]),(⟨#[98,114,97,110,99,104]⟩,.func (.func 246) #[] #[]),(⟨#[114,101,116,117,114,110]⟩,.func (.func 247) #[] #[])]
def Tz (g4 g5:Nat):mx:=[(⟨#[99,111,110,115,116]⟩,.func (.func 252) #[] #[]),(⟨#[108,111,97,100]⟩,.func (.func 251) #[] #[.pointer (some ⟨g4,0,none⟩)]),(⟨#[119,114,97,112]⟩,.func (.func 251) #[] #[.pointer (some ⟨g5,0,none⟩)]),(⟨#[105,110,112,117,116]⟩,.func (.func 253) #[] #[]),(⟨#[99,97,108,108]⟩,.func (.func 254) #[] #[]),(⟨#[114,101,108,101,97,115,101]⟩,.func (.func 255) #[] #[]),(⟨#[112,104,105]⟩,.func (.func 256) #[] #[])]
theorem Hp {W:World}{b:Nat}{o:mx}(tab:mx)(i:Nat)(k:ByteArray)(f:Value)(hi:tab[i]? =some (k,f))(j:((tab.take i).findIdx? fun x=>k==x.1)=none)(C:k.size≤maxLen)(I:Tn W b o):
 (Instr.mapUpdate 290 (.map (some b)) (.string k) f).run prog (zs W b (tab.take i))=.ok () (zs W b (tab.take (i+1))):=by
 have h:=Xq k f C j (I.set (tab.take i));rw[Wj] at h;rw[cU,hi];exact h
theorem TL {W:World}{b:Nat}{l:mx}(h:Tn W b l):zs W b l=W:=by
 unfold zs;have:W.heap.setIfInBounds b (.map (Uq l) l.length)=W.heap:=by(
 apply Array.ext_getElem?;intro i;rw[Array.getElem?_setIfInBounds];split
 ·rename_i e
  subst e;rw[ap h.lt];exact h.symm
 rfl)
 rw[this]
theorem VK (w:World):(Instr.makeMap 290 none).run prog w=.ok (.map (some w.heap.size)) (w.alloc (.map #[] 0)):=by kernel_rfl
theorem Vg (w:World):Tn (w.alloc (.map #[] 0)) w.heap.size []:=by show(w.heap.push (.map #[] 0))[w.heap.size]? =_;simp[Uq]
theorem WV (w:World):Calls prog 229 #[] w fun e J=>∃b,e=.returned (.map (some b))∧Tn J b UN∧aa All w J:=by
 have hm:=VK w;have j:=Vg w;have R:aa All w (w.alloc (.map #[] 0)):=kR.alloc _;have o:=TL j;obtain⟨b,Y⟩:=eQ w.heap.size;have C:w.heap.size≤b:=by omega
 rw[←Y] at hm j o;generalize w.alloc (.map #[] 0)=W at*;have u0:=Hp UN 0 ⟨#[115,116,111,114,101]⟩ (.func (.func 243) #[] #[]) rfl rfl (by decide) j;rw[show UN.take 0=[] from rfl,o] at u0;have u1:=Hp UN 1 ⟨#[111,117,116,112,117,116]⟩ (.func (.func 244) #[] #[]) rfl rfl (by decide) j;have u2:=Hp UN 2 ⟨#[106,117,109,112]⟩ (.func (.func 245) #[] #[]) rfl rfl (by decide) j;have u3:=Hp UN 3 ⟨#[98,114,97,110,99,104]⟩ (.func (.func 246) #[] #[]) rfl rfl (by decide) j;have u4:=Hp UN 4 ⟨#[114,101,116,117,114,110]⟩ (.func (.func 247) #[] #[]) rfl rfl (by decide) j;have I:=J3 R (j.set (UN.take 5)) C;clear R j o Y C;go_enter func229,ntmps229;go_wp2;go_ret;exact⟨b,rfl,I.2.1,TD I.1 I.2.2⟩
theorem VE (n:Nat)(w:World)(_:n<256):Calls prog 250 #[.int .u8 n] w fun e j=>∃g,e=.returned (.func (.func 251) #[] #[.pointer (some ⟨g,0,none⟩)])∧aa All w j:=by go_enter func250,ntmps250;go_wp2;go_ret;exact⟨_,rfl,kR.alloc _⟩
theorem UX (w:World):Calls prog 249 #[] w fun e w'=>∃b g4 g5,e=.returned (.map (some b))∧Tn w' b (Tz g4 g5)∧aa All w w':=by
 have hm:=VK w;have R:=Vg w;have hk:aa All w (w.alloc (.map #[] 0)):=kR.alloc _;have C:=TL R;obtain⟨b,hb⟩:=eQ w.heap.size;have j:w.heap.size≤b:=by omega
 rw[←hb] at hm R C;generalize w.alloc (.map #[] 0)=W at*;have u0:=Hp (Tz 0 0) 0 ⟨#[99,111,110,115,116]⟩ (.func (.func 252) #[] #[]) rfl rfl (by decide) R;rw[show(Tz 0 0).take 0=[] from rfl,C] at u0;have HB:=oH j;have Y:=J2 (TD hk j:aa All w (zs W b ((Tz 0 0).take 1))) (R.set ((Tz 0 0).take 1));clear hk R C hb j;generalize b0:zs W b ((Tz 0 0).take (0+1))=W1 at*;go_enter func249,ntmps249;go_wp2_with fail;refine(VE 4 W1 (by decide)).mono ?_;rintro e w2 ⟨g4,rfl,I⟩;have j:=Y.2.kept I;have a1:=TL j;have u1:=Hp (Tz g4 0) 1 ⟨#[108,111,97,100]⟩ (.func (.func 251) #[] #[.pointer (some ⟨g4,0,none⟩)]) rfl rfl (by decide) j;rw[show(Tz g4 0).take 1=(Tz 0 0).take 1 from rfl,a1] at u1;have a6:=J2 (TD (Y.1.trans I) HB.out:aa All w (zs w2 b ((Tz g4 0).take 2))) (j.set ((Tz g4 0).take 2));clear I j a1 u0 hm;generalize b1:zs w2 b ((Tz g4 0).take (1+1))=W3 at*;go_wp2_with fail;refine(VE 5 W3 (by decide)).mono ?_;rintro e w4 ⟨g5,rfl,J⟩;have o:=a6.2.kept J;have a7:=TL o;have u2:=Hp (Tz g4 g5) 2 ⟨#[119,114,97,112]⟩ (.func (.func 251) #[] #[.pointer (some ⟨g5,0,none⟩)]) rfl rfl (by decide) o;have u3:=Hp (Tz g4 g5) 3 ⟨#[105,110,112,117,116]⟩ (.func (.func 253) #[] #[]) rfl rfl (by decide) o;have u4:=Hp (Tz g4 g5) 4 ⟨#[99,97,108,108]⟩ (.func (.func 254) #[] #[]) rfl rfl (by decide) o;have u5:=Hp (Tz g4 g5) 5 ⟨#[114,101,108,101,97,115,101]⟩ (.func (.func 255) #[] #[]) rfl rfl (by decide) o;have u6:=Hp (Tz g4 g5) 6 ⟨#[112,104,105]⟩ (.func (.func 256) #[] #[]) rfl rfl (by decide) o;rw[show(Tz g4 g5).take 2=(Tz g4 0).take 2 from rfl,a7] at u2;have a8:=J2 (TD (a6.1.trans J) HB.out:aa All w (zs w4 b ((Tz g4 g5).take 7))) (o.set ((Tz g4 g5).take 7));clear J o a7 u1;go_wp2_with fail;go_ret;exact⟨b,g4,g5,rfl,a8.2,a8.1⟩
section
open Go.RowKit Go.WideMaps Go.Maps
def Ys:mx:=[(⟨#[108,101,118,101,108]⟩,.agg #[.func (.func 177) #[] #[],.int .i64 1]),(⟨#[102,108,111,119]⟩,.agg #[.func (.func 178) #[] #[],.int .i64 2]),(⟨#[105,110,112,117,116]⟩,.agg #[.func (.func 179) #[] #[],.int .i64 2]),(⟨#[111,117,116,112,117,116]⟩,.agg #[.func (.func 180) #[] #[],.int .i64 2]),(⟨#[100,101,112,116,104]⟩,.agg #[.func (.func 181) #[] #[],.int .i64 1])]
theorem ZK {W:World}{b:Nat}{l:mx}(k:ByteArray)(f:Value)(C:k.size≤maxLen)(h:(l.findIdx? fun x=>k==x.1)=none)(I:Tn W b l):
 (Instr.mapUpdate 201 (.map (some b)) (.string k) f).run prog W=.ok () (zs W b (l++[(k,f)])):=by
 have J:=Vl W k (Uq l).toList none (by have:=VG k l 0 0;rw[h] at this;simpa [Uq] using this);have o:=Gm.check W false (keyOf_string_mk underlying9 C);have j:W.heap[b]? =some (.map (Uq l) l.length):=I;unfold Instr.mapUpdate;simp[run_underlying underlying201,MapKept.run_getObj_map j,o,J,MapKept.run_setObj_map _ j,Result.andThen,WJ,zs]
theorem ZD {w:World}{l:mx}{b:Nat}(k:ByteArray)(J:k.size≤maxLen)(R:Tn w b l):
 (Instr.lookup 201 (.map (some b)) (.string k) false).run prog w=.ok ((TH l k).getD (.agg #[.nilFunc,.int .i64 0])) w:=by
 have j:=Vl w k (Uq l).toList _ (by have:=VG k l 0 0;simpa [Uq] using this);have o:=Gm.check w (Uq l).isEmpty (keyOf_string_mk underlying9 J);have C:w.heap[b]? =some (.map (Uq l) l.length):=R;have Y:(zeroValue 200).run prog w=.ok (.agg #[.nilFunc,.int .i64 0]) w:=by kernel_rfl
 unfold Instr.lookup;simp[run_underlying underlying201,MapKept.run_getObj_map C,o,j,Result.andThen];cases h:l.findIdx? fun x=>k==x.1 with
 |none=>
  have:TH l k=none:=by rw[List.findIdx?_eq_none_iff] at h;simp only[TH,Option.map_eq_none_iff,List.find?_eq_none];intro x hx;simp[h x hx]
  simp[this,Y]
 |some i=>
  obtain⟨f,j⟩:∃f,TH l k=some f:=by(
 rw[List.findIdx?_eq_some_iff_getElem] at h;obtain⟨hi,hk,_⟩:=h;cases I:l.find? fun x=>k==x.1 with
 |none=>exact absurd hk (List.find?_eq_none.1 I _ (eL hi))
 |some f=>exact⟨f.2,by simp[TH,I]⟩)
  simp[j]
theorem YV {W:World}{b:Nat}{o:mx}(tab:mx)(i:Nat)(k:ByteArray)(f:Value)(hi:tab[i]? =some (k,f))(j:((tab.take i).findIdx? fun x=>k==x.1)=none)(C:k.size≤maxLen)(I:Tn W b o):
 (Instr.mapUpdate 201 (.map (some b)) (.string k) f).run prog (zs W b (tab.take i))=.ok () (zs W b (tab.take (i+1))):=by
 have h:=ZK k f C j (I.set (tab.take i));rw[Wj] at h;rw[cU,hi];exact h
theorem Zx (w:World):(Instr.makeMap 201 none).run prog w=.ok (.map (some w.heap.size)) (w.alloc (.map #[] 0)):=by kernel_rfl
theorem Zb (w:World):Calls prog 115 #[] w fun e J=>∃b,e=.returned (.map (some b))∧Tn J b Ys∧aa All w J:=by
 have hm:=Zx w;have j:=Vg w;have R:aa All w (w.alloc (.map #[] 0)):=kR.alloc _;have o:=TL j;obtain⟨b,Y⟩:=eQ w.heap.size;have C:w.heap.size≤b:=by omega
 rw[←Y] at hm j o;generalize w.alloc (.map #[] 0)=W at*;have u0:=YV Ys 0 ⟨#[108,101,118,101,108]⟩ (.agg #[.func (.func 177) #[] #[],.int .i64 1]) rfl rfl (by decide) j;rw[show Ys.take 0=[] from rfl,o] at u0;have u1:=YV Ys 1 ⟨#[102,108,111,119]⟩ (.agg #[.func (.func 178) #[] #[],.int .i64 2]) rfl rfl (by decide) j;have u2:=YV Ys 2 ⟨#[105,110,112,117,116]⟩ (.agg #[.func (.func 179) #[] #[],.int .i64 2]) rfl rfl (by decide) j;have u3:=YV Ys 3 ⟨#[111,117,116,112,117,116]⟩ (.agg #[.func (.func 180) #[] #[],.int .i64 2]) rfl rfl (by decide) j;have u4:=YV Ys 4 ⟨#[100,101,112,116,104]⟩ (.agg #[.func (.func 181) #[] #[],.int .i64 1]) rfl rfl (by decide) j;have I:=J3 R (j.set (Ys.take 5)) C;clear R j o Y C;go_enter func115,ntmps115;go_wp2;go_ret;exact⟨b,rfl,I.2.1,TD I.1 I.2.2⟩
theorem Zv (c:Nat)(w:World)(_:c<1114112):Calls prog 70 #[.int .i32 c] w fun e C=>e=.returned (.bool (c==32||c==9))∧w=C:=by
 have j:((c:Int)==32)=(c==32):=by rw[Bool.eq_iff_iff,cy,cy];omega
 have J:((c:Int)==9)=(c==9):=by rw[Bool.eq_iff_iff,cy,cy];omega
 cases o:(c==32) with
 |true=>rw[o] at j;go_enter func70,ntmps70;go_wp2;go_ret;exact⟨rfl,rfl⟩
 |false=>rw[o] at j;rw[Bool.false_or];go_enter func70,ntmps70;go_wp2;go_ret;exact⟨rfl,rfl⟩
end
theorem Zw (rd:Nat)(l u i o f:Value)(d:Nat)(s:ByteArray)(S:Nat→Prop)(A:Option Addr)(c:Nat)(w:World)(Y:al w rd 124 #[l,u,i,o,.int .i64 0,f])(I:gB S w (.slice A 1 c) [s])(hs:s.size≤65536)(J:Ab s=true)(R:s.size=0∨Ai s 0≠45)(hn:Os s=some d)(h1:1≤d)(h2:d≤64):
 Calls prog 181 #[.pointer (some ⟨rd,0,none⟩),.slice A 1 c] w fun e w'=>e=.returned (.int .i64 0)∧aa (fun b=>b≠rd) w w'∧al w' rd 124 #[l,u,i,o,.int .i64 d,f]:=by
 obtain⟨b,q,rfl,_,hc⟩:=Bs I (i:=0) rfl;rw[dj] at hc;have x4:=Y.cl 4;have y4:=Y.free 4;have HB:=J2 Y hn;have HN:=oH (fun w1=>VU s w1 J R hs);clear Y I hn J R hs;go_enter func181,ntmps181;go_wp2_with fail;refine(HN.out _).mono ?_;rintro e w1 ⟨hk,v,rfl,I⟩;have a1:=I d HB.2;subst a1;have j:=HB.1.kept hk trivial;have x4:=j.cell 4;have y4:=j.free 4;have C:=j.set 4 (.int .i64 d);simp only[gc,ga] at x4 C;have H1:=J2 (hk.all (S:=fun b=>b≠rd)) C;have a6:decide ((d:Int)<1)=false:=by simp;omega
 have a7:decide ((64:Int)<(d:Int))=false:=by simp;omega
 clear hk j C I;go_wp2_with fail;go_ret;exact⟨rfl,H1.1.setCell (.inl fun h=>h rfl) _,H1.2⟩
end Go.Proofs.YtccbbkopmlnkpaaGreatDoor
