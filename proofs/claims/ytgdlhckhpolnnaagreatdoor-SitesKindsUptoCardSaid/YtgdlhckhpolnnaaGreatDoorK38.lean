/- Part 39 of the proof (its last part says what is proved). No condition. -/
import Derived.Test.YtgdlhckhpolnnaaGreatDoorK37
namespace Go.Proofs.YtgdlhckhpolnnaaGreatDoor
set_option maxRecDepth 100000
set_option maxHeartbeats 8000000
open Go.RowKit Go.Proofs.Tryz
theorem Ug {s:ByteArray}(h:Ab s=true)(a b:Nat):Ab (s.extract a b)=true:=by refine List.all_eq_true.2 fun x j=>List.all_eq_true.1 h x ?_;rw[ByteArray.data_extract] at j;rw[Array.toList_extract] at j;exact List.mem_of_mem_drop (List.mem_of_mem_take j)
theorem Vd {s:ByteArray}{f p n:Nat}(h:¬p<s.size):TP s (f+1) p n=some n:=by simp[TP,h]
theorem Ui {s:ByteArray}{f p n:Nat}(h:p<s.size):TP s (f+1) p n=if fY (Utf8.decode s p).1 then TP s f (p+(Utf8.decode s p).2) (10*n+((Utf8.decode s p).1-48)) else none:=by simp[TP,h]
def Un (s:ByteArray)(w:World)(e:Ending)(w':World):Prop:=aa All w w'∧∃v:Int,e=.returned (.tuple #[.int .i64 v,.bool (Os s).isSome])∧∀n,Os s=some n→v=n
theorem Un.no {s:ByteArray}{w w':World}{v:Int}(h:Os s=none)(o:aa All w w'):Un s w (.returned (.tuple #[.int .i64 v,.bool false])) w':=⟨o,v,by rw[h];rfl,fun n j=>by rw[h] at j;cases j⟩
theorem Un.yes {s:ByteArray}{w w':World}{n:Nat}(h:Os s=some n)(j:aa All w w'):Un s w (.returned (.tuple #[.int .i64 n,.bool true])) w':=⟨j,n,by rw[h];rfl,fun m hm=>by rw[h] at hm;cases hm;rfl⟩
theorem Xb {s:ByteArray}(h:s.size=0∨Ai s 0≠45):Lib.hasPrefix s.data.toList [45]=false∧(⟨(Lib.trimPrefix s.data.toList [45]).toArray⟩:ByteArray)=s:=by
 have j:Lib.hasPrefix s.data.toList [45]=false:=by(
 unfold Lib.hasPrefix;obtain⟨d⟩:=s;obtain⟨l⟩:=d;cases l with
 |nil=>rfl
 |cons b l=>
  rcases h with h|h;·simp[ByteArray.size] at h
  rw[TG _ _ (by simp[ByteArray.size])] at h;have h':b.toNat≠45:=h;have:¬b=45:=fun e=>h' (by rw[e];rfl);simp[List.isPrefixOf];exact fun e=>this e.symm)
 refine⟨j,?_⟩;unfold Lib.trimPrefix;rw[j];rfl
theorem Wz {n:Nat}(h:n<9223372036854775808):(some n).filter (fun n=>decide (n<9223372036854775808))=some n:=by show(if decide (n<9223372036854775808)=true then some n else none)=_;rw[ap (bL h)]
theorem Xd {n:Nat}(h:¬n<9223372036854775808):(some n).filter (fun n=>decide (n<9223372036854775808))=none:=by show(if decide (n<9223372036854775808)=true then some n else none)=_;rw[ae (by rw[cI h];exact oG)]
theorem WI (s:ByteArray):s.toList.isEmpty=decide (s.size=0):=by
 by_cases h:s.size=0
 ·have:s=gR:=by obtain⟨d⟩:=s;obtain⟨l⟩:=d;have:l=[]:=List.length_eq_zero_iff.1 (by simpa [ByteArray.size] using h);subst this;rfl
  subst this;rw[bL h];simp[gR,ByteArray.toList,ByteArray.toList.loop,ByteArray.size]
 rw[cI h];cases j:s.toList.isEmpty with
 |false=>rfl
 |true=>
  exfalso;have o:s.toList=[]:=List.isEmpty_iff.1 j;have C:gR.toList=[]:=by simp[gR,ByteArray.toList,ByteArray.toList.loop,ByteArray.size]
  have:s=gR:=cM.1 (by rw[o,C];rfl);subst this;exact h rfl
theorem VU (s:ByteArray)(w:World)(hp:Ab s=true)(hm:s.size=0∨Ai s 0≠45)(hs:s.size≤65536):Calls prog 71 #[.string s] w (Un s w):=by
 obtain⟨c1,c2⟩:=Xb hm;have hc:=Tryz.strings_CutPrefix s ⟨#[45]⟩ w;rw[show(ByteArray.mk #[45]).data.toList=[45] from rfl,c1,c2] at hc;clear c1 c2;have HC:=oH hc;clear hc;have hz:=WI s;by_cases h0:s.size=0;·have HN:=oH (show Os s=none from by unfold Os;rw[ap (.inl h0)]);rw[bL h0] at hz;go_enter func71,ntmps71;go_wp2_with fail;refine HC.out.mono ?_;rintro e Y ⟨rfl,rfl⟩;go_wp2;go_ret2;exact .no HN.out kR
 rw[cI h0] at hz;by_cases b7:19<s.size;·have HN:=oH (show Os s=none from by unfold Os;rw[ap (.inr (.inl b7))]);go_enter func71,ntmps71;go_wp2_with fail;refine HC.out.mono ?_;rintro e Y ⟨rfl,rfl⟩;go_wp2;go_ret2;exact .no HN.out kR
 have a7:0<s.size:=by omega
 have b3:=TG s 0 a7;by_cases a8:Ai s 0=48∧1<s.size
 ·have HN:=oH (show Os s=none from by unfold Os;rw[ap (.inr (.inr a8))]);have h1:=a8.2;have e1:((((s[0]' a7).toNat:Nat):Int)==48)=true:=by rw[cy];omega
  clear b3 a8;go_enter func71,ntmps71;go_wp2_with fail;refine HC.out.mono ?_;rintro e Y ⟨rfl,rfl⟩;go_wp2;go_ret2;exact .no HN.out kR
 have b2:Os s=(TP s (s.size+1) 0 0).filter fun n=>decide (n<9223372036854775808):=by unfold Os;rw[ae (by omega)]
 have hit:(w.iter s 0).heap[w.heap.size]? =some (.stringIter s 0):=World.iter_heap w s 0;have b5:aa All w (w.iter s 0):=(aa.refl _ w).alloc _;have H0:=J3 hit b5 b2;clear hit b5 b2;by_cases hf:Ai s 0=48;·(
 have e1:((((s[0]' a7).toNat:Nat):Int)==48)=true:=by rw[cy];omega
 have h1:¬1<s.size:=fun h=>a8 ⟨hf,h⟩;clear hf a8 b3;go_enter func71,ntmps71;go_wp2_with fail;refine HC.out.mono ?_;rintro e Y ⟨rfl,rfl⟩;go_wp2;go_loopg [6] (s.size+1) (fun g m wr=>∃q n f:Nat,g=s.size+1-q∧m=.int .u64 n∧q≤s.size∧n<10^q∧s.size+1≤q+f∧wr.heap[Y.heap.size]? =some (.stringIter s q)∧aa All Y wr∧TP s f q n=TP s (s.size+1) 0 0);·exact⟨0,0,s.size+1,by omega,rfl,by omega,by decide,by omega,H0.1,H0.2.1,rfl⟩
 obtain⟨q,n,f,rfl,rfl,hq,hn,hf,J,C,j⟩:=hrel;obtain⟨f,rfl⟩:∃f',f=f'+1:=⟨f-1,by omega⟩;by_cases R:q<s.size;·(
 have a6:=fun ty=>Jw (P:=prog) wr Y.heap.size s q ty J R;obtain⟨k1,_,k3⟩:=TI hp R;have hB:Y.heap.size<wr.heap.size:=by
  rcases Nat.lt_or_ge Y.heap.size wr.heap.size with h|h;·exact h
  rw[jK h] at J;cases J
 rw[Ui R,k3] at j;rw[k3] at a6;simp only at a6 j;have b0:aa All Y (ji wr Y.heap.size s (q+1)):=xm C (.inr (cf _));have a1:=Bl (W:=wr) (s:=s) (p:=q+1) hB;have HQ:=J2 b0 a1;clear b0 a1 J C k3;generalize Ai s q=r at*;have o:=fun W=>CM (r:Int) W;cases hD:fY (r:Int) with
 |false=>rw[hD] at j o;have HN:=oH (show Os s=none from by rw[H0.2.2,←j];rfl);have HD:=oH o;clear hD j o hn;go_wp2_with (go_at_call 131;refine(HD.out _).mono ?_;rintro e w2 ⟨rfl,rfl⟩);go_ret2;exact .no HN.out HQ.1
 |true=>
  rw[hD] at j o;have hr:48≤r∧r≤57:=by unfold fY od at hD;simp only[gE,qal] at hD;omega
  have b6:10^q≤1000000000000000000:=fR (Nat.pow_le_pow_right (by decide) (show q≤18 by omega)) (by decide);have b1:10*n+(r-48)<10^(q+1):=by rw[Nat.pow_succ];omega
  have HW:=J2 j b1;have HD:=oH o;clear hD j o b1;go_wp2_with (go_at_call 131;refine(HD.out _).mono ?_;rintro e w2 ⟨rfl,rfl⟩);go_roundg (s.size+1-(q+1));·exact⟨q+1,10*n+(r-48),f,rfl,by rw[show(((10*n+(r-48):Nat)):Int)=10*(n:Int)+((r:Int)-48) by omega],by omega,HW.2,by omega,HQ.2,HQ.1,HW.1⟩
  omega)
 rw[Vd R] at j;have a6:=fun ty=>Gl (P:=prog) wr Y.heap.size s q ty J R;have HK:=oH C;have HS:=oH j;clear C J j;by_cases I:n<9223372036854775808
 ·have HN:=oH (show Os s=some n from by rw[H0.2.2,←HS.out];exact Wz I);have b4:(n:Int)<9223372036854775808:=by omega
  clear I;go_wp2;go_ret2;exact .yes HN.out HK.out
 have HN:=oH (show Os s=none from by rw[H0.2.2,←HS.out];exact Xd I);have b4:¬(n:Int)<9223372036854775808:=by omega
 clear I;go_wp2;go_ret2;exact .no HN.out HK.out)
 have e1:((((s[0]' a7).toNat:Nat):Int)==48)=false:=by rw[bE];omega
 clear hf a8 b3;go_enter func71,ntmps71;go_wp2_with fail;refine HC.out.mono ?_;rintro e Y ⟨rfl,rfl⟩;go_wp2;go_loopg [6] (s.size+1) (fun g m wr=>∃q n f:Nat,g=s.size+1-q∧m=.int .u64 n∧q≤s.size∧n<10^q∧s.size+1≤q+f∧wr.heap[Y.heap.size]? =some (.stringIter s q)∧aa All Y wr∧TP s f q n=TP s (s.size+1) 0 0);·exact⟨0,0,s.size+1,by omega,rfl,by omega,by decide,by omega,H0.1,H0.2.1,rfl⟩
 obtain⟨q,n,f,rfl,rfl,hq,hn,hf,J,C,j⟩:=hrel;obtain⟨f,rfl⟩:∃f',f=f'+1:=⟨f-1,by omega⟩;by_cases R:q<s.size;·(
 have a6:=fun ty=>Jw (P:=prog) wr Y.heap.size s q ty J R;obtain⟨k1,_,k3⟩:=TI hp R;have hB:Y.heap.size<wr.heap.size:=by
  rcases Nat.lt_or_ge Y.heap.size wr.heap.size with h|h;·exact h
  rw[jK h] at J;cases J
 rw[Ui R,k3] at j;rw[k3] at a6;simp only at a6 j;have b0:aa All Y (ji wr Y.heap.size s (q+1)):=xm C (.inr (cf _));have a1:=Bl (W:=wr) (s:=s) (p:=q+1) hB;have HQ:=J2 b0 a1;clear b0 a1 J C k3;generalize Ai s q=r at*;have o:=fun W=>CM (r:Int) W;cases hD:fY (r:Int) with
 |false=>rw[hD] at j o;have HN:=oH (show Os s=none from by rw[H0.2.2,←j];rfl);have HD:=oH o;clear hD j o hn;go_wp2_with (go_at_call 131;refine(HD.out _).mono ?_;rintro e w2 ⟨rfl,rfl⟩);go_ret2;exact .no HN.out HQ.1
 |true=>
  rw[hD] at j o;have hr:48≤r∧r≤57:=by unfold fY od at hD;simp only[gE,qal] at hD;omega
  have b6:10^q≤1000000000000000000:=fR (Nat.pow_le_pow_right (by decide) (show q≤18 by omega)) (by decide);have b1:10*n+(r-48)<10^(q+1):=by rw[Nat.pow_succ];omega
  have HW:=J2 j b1;have HD:=oH o;clear hD j o b1;go_wp2_with (go_at_call 131;refine(HD.out _).mono ?_;rintro e w2 ⟨rfl,rfl⟩);go_roundg (s.size+1-(q+1));·exact⟨q+1,10*n+(r-48),f,rfl,by rw[show(((10*n+(r-48):Nat)):Int)=10*(n:Int)+((r:Int)-48) by omega],by omega,HW.2,by omega,HQ.2,HQ.1,HW.1⟩
  omega)
 rw[Vd R] at j;have a6:=fun ty=>Gl (P:=prog) wr Y.heap.size s q ty J R;have HK:=oH C;have HS:=oH j;clear C J j;by_cases I:n<9223372036854775808
 ·have HN:=oH (show Os s=some n from by rw[H0.2.2,←HS.out];exact Wz I);have b4:(n:Int)<9223372036854775808:=by omega
  clear I;go_wp2;go_ret2;exact .yes HN.out HK.out
 have HN:=oH (show Os s=none from by rw[H0.2.2,←HS.out];exact Xd I);have b4:¬(n:Int)<9223372036854775808:=by omega
 clear I;go_wp2;go_ret2;exact .no HN.out HK.out
theorem Vx {s:ByteArray}(h:Ab s=true):∀ {f p:Nat},p≤s.size→Vw s f p≤s.size
 |0,_,o=>o
 |f+1,p,o=>by
  by_cases j:p<s.size
  ·rw[Vk j];split;·rw[(TI h j).2.2];exact Vx h (by show p+1≤_;omega)
   exact o
  rw[VP j];exact cf _
def Wk:List UInt8:=[40,41,123,125,91,93,44,58,61]
theorem Xr:∀n,n<256→decide (0≤Lib.indexByte Wk n.toUInt8)=Wb n:=of_decide_eq_true (by kernel_rfl)
theorem TS (s:ByteArray)(a b:Nat)(h:b≤s.size):(s.extract a b).size=b-a:=by rw[ByteArray.size_extract];omega
def XE (r:Option Um)(p:Nat)(w:World)(e:Ending)(w':World):Prop:=aa All w w'∧match r with
 |none=>e=.returned (.tuple #[.agg #[.int .u8 0,.int .i64 0,.int .i64 0],.int .i64 p,.int .i64 4])
 |some t=>e=.returned (.tuple #[.agg #[.int .u8 t.kind,.int .i64 t.beg,.int .i64 t.fin],.int .i64 0,.int .i64 0])
theorem Ur {j:Ending→World→Prop}{a:Act}{W:World}{g:Nat}{k b f x y:Int}(o:a.tmps[4]? =some (.pointer (some ⟨g,0,none⟩)))(C:a.tmps[5]? =some (.int .i64 x))(I:a.tmps[6]? =some (.int .i64 y))(J:a.defers=[])
 (c:al W g 169 #[.int .u8 k,.int .i64 b,.int .i64 f]) (h:j (.returned (.tuple #[.agg #[.int .u8 k,.int .i64 b,.int .i64 f],.int .i64 x,.int .i64 y])) W):bodyPost prog Tryz.f77 j .ret a W:=by
 obtain⟨R,r1,r2⟩:=c.c3;exact bodyPost_ret (by simp[results,Tryz.results77,go_sem,o,C,I,R,r1,r2]) J h
theorem Xu (s:ByteArray)(at':Nat)(r:Option Um)(w:World)(hp:Ab s=true)(hs:s.size≤65536)(ha:at'≤s.size)(hr:Vu s at'=some r):
 Calls prog 77 #[.string s,.int .i64 at'] w (XE r (Ht s (s.size+1) at') w):=by
 have d7:=fun w=>WS s at' w hp ha hs;have hle:Ht s (s.size+1) at'≤s.size:=VS ha;unfold Vu at hr;generalize Ht s (s.size+1) at'=p at*;have c8:=oH d7;clear d7;have hg:¬s.size<at':=by omega
 obtain⟨W0,b9⟩:=eQ (w.alloc (.cells #[.int .u8 0,.int .i64 0,.int .i64 0] 169));have d8:=aC1 b9;have bT:=aA0 b9;have J:=J3 b9 d8 bT;clear b9 d8 bT;by_cases a6:p<s.size;·(
 simp only[ap a6] at hr;have hb:=TG s p a6;have b5:=fun w=>Tryz.strings_IndexByte ⟨#[40,41,123,125,91,93,44,58,61]⟩ ((Ai s p:Nat):Int) w;have R:=Xr (Ai s p) (by rw[hb];exact(s[p]' a6).toNat_lt);rw[hb] at b5 R;simp only[dP] at b5;change ∀w,Calls _ _ _ _ (fun e w'=>e=.returned (.int .i64 (Lib.indexByte Wk (s[p]' a6).toNat.toUInt8))∧w'=w) at b5;generalize hI:Lib.indexByte Wk (s[p]' a6).toNat.toUInt8=I at*;have d9:=oH b5;clear b5 hI;have e0:((p:Int)==(s.size:Int))=false:=by rw[bE];omega
 by_cases C:Wb (Ai s p)=true;·rw[ap C] at hr;cases hr;rw[←hb,C] at R;have e6:0≤I:=of_decide_eq_true R;clear R C hb;go_enter func77,ntmps77;go_upto_region 1 with fail;rw[←J.1];go_wp2_with fail;refine(c8.out _).mono ?_;rintro e w1 ⟨rfl,rfl⟩;go_wp2_with fail;refine(d9.out _).mono ?_;rintro e w1 ⟨rfl,rfl⟩;obtain⟨t0,t1,t2⟩:=(show w1.cell? ⟨w.heap.size,0,none⟩=some (.int .u8 0)∧w1.cell? ⟨w.heap.size,1,none⟩=some (.int .i64 0)∧w1.cell? ⟨w.heap.size,2,none⟩=some (.int .i64 0) from⟨J.2.2.cell 0,J.2.2.cell 1,J.2.2.cell 2⟩);have f0:=J.2.2.free 0;have f1:=J.2.2.free 1;have f2:=J.2.2.free 2;go_wp2_with fail;have b1:=((J.2.2.set 0 (.int .u8 4)).set 1 (.int .i64 p)).set 2 (.int .i64 (p+1));have k1:aa All w (((w1.setCell ⟨w.heap.size,0,none⟩ (.int .u8 4)).setCell ⟨w.heap.size,1,none⟩ (.int .i64 p)).setCell ⟨w.heap.size,2,none⟩ (.int .i64 (p+1))):=((J.2.1.setCell (.inr (cf _)) _).setCell (.inr (cf _)) _).setCell (.inr (cf _)) _;simp only[ga] at b1;exact Ur rfl rfl rfl rfl b1 ⟨k1,rfl⟩
 rw[ae C] at hr;rw[←hb] at R;have e6:¬0≤I:=fun h=>by rw[bL h] at R;exact C R.symm
 by_cases c4:Ai s p=45;·rw[ap c4] at hr;cases hr
 rw[ae c4] at hr;have e9:((((s[p]' a6).toNat:Nat):Int)==45)=false:=by rw[bE];omega
 have e1:=TS s p s.size (cf _);have h1:Ul (s.extract p s.size)≤s.size-p:=by rw[←e1];exact Vx (Ug hp _ _) (Nat.zero_le _)
 have c5:=fun w=>Xv (s.extract p s.size) w;generalize Ul (s.extract p s.size)=n at*;have e7:=TS s p (p+n) (by omega);have e2:=Ug hp p (p+n);have e3:(s.extract p (p+n)).size=0∨Ai (s.extract p (p+n)) 0≠45:=by(
 by_cases h0:n=0;·left;omega
 right;rw[TG _ _ (by omega)];intro e;apply c4;rw[hb,←e];congr 1;rw[ByteArray.getElem_extract];simp)
 have c6:=fun w=>VU (s.extract p (p+n)) w e2 e3 (by omega);have b7:=fun w=>zC (s.extract p (p+n)) w;have b8:=fun w=>yL (s.extract p (p+n)) w;generalize hP:s.extract p (p+n)=P at*;have HR:=oH c5;have HN:=oH c6;have HM:=J2 b7 b8;have h2:p+n≤s.size:=by omega
 clear c5 c6 b7 b8 R C hb c4 e3 e2 e7 e1;have hk:TQ P≠0:=fun h=>by rw[ap h] at hr;cases hr
 rw[ae hk] at hr;cases hr;have HP:=oH hP;go_enter func77,ntmps77;go_upto_region 1 with fail;rw[←J.1];go_wp2_with fail;refine(c8.out _).mono ?_;rintro e w1 ⟨rfl,rfl⟩;go_wp2_with fail;refine(d9.out _).mono ?_;rintro e w1 ⟨rfl,rfl⟩;go_wp2_with fail;refine(HR.out _).mono ?_;rintro e w2 ⟨rfl,e4⟩;have e5:=oH e4;clear e4;go_upto_region 12 with fail;have k3:aa All w2 (w2.alloc (.cells #[.int .u8 0,.int .i64 p,.int .i64 (p+n)] 169)):=kR.alloc _;have b3:al (w2.alloc (.cells #[.int .u8 0,.int .i64 p,.int .i64 (p+n)] 169)) w2.heap.size 169 #[.int .u8 0,.int .i64 p,.int .i64 (p+n)]:=al.new _ _ _;have c7:w.heap.size<w2.heap.size:=by have:=e5.out.size;have:=J.2.2.lt;omega
 generalize w2.alloc _=W3 at*;have Y:=J3 (e5.out.trans k3) b3 c7;clear k3 b3 c7;have e8:=HP.out;go_upto_region 13 with fail;clear e8;go_wp2_with fail;refine(HN.out _).mono ?_;rintro e w4 ⟨c9,v,rfl,_⟩;have a7:=J2 (Y.1.trans c9) (Y.2.1.kept c9 trivial);clear c9;go_wp2_with fail;refine(HM.1 _).mono ?_;rintro e w5 ⟨rfl,rfl⟩;cases hw:jv P with
 |true=>have b2:=oH (show TQ P=2 from by unfold TQ;rw[ap hw]);clear hw;have bK:=a7.2;have c0:=bK.cl 0;have g0:=bK.free 0;go_upto_region 21 with fail;have k7:aa All w (w4.setCell ⟨w2.heap.size,0,none⟩ (.int .u8 2)):=(J.2.1.trans a7.1).setCell (.inr (by have:=Y.2.2;show w.heap.size≤w2.heap.size;omega)) _;have o:=bK.set 0 (.int .u8 2);have j:=(J.2.2.kept a7.1 trivial).far (p:=⟨w2.heap.size,0,none⟩) (by have:=Y.2.2;simp<;>omega) (.int .u8 2);simp only[ga] at o;generalize w4.setCell _ _=w7 at*;clear c0 g0 bK;have a1:=J2 k7 j;have c0:=o.cl 0;have c1:=o.cl 1;have c2:=o.cl 2;have t0:=j.cl 0;have t1:=j.cl 1;have t2:=j.cl 2;have f0:=j.free 0;have f1:=j.free 1;have f2:=j.free 2;clear k7 o j;go_wp2_with fail;have b6:=((a1.2.set 0 (.int .u8 2)).set 1 (.int .i64 p)).set 2 (.int .i64 (p+n));have k6:aa All w (((w7.setCell ⟨w.heap.size,0,none⟩ (.int .u8 2)).setCell ⟨w.heap.size,1,none⟩ (.int .i64 p)).setCell ⟨w.heap.size,2,none⟩ (.int .i64 (p+n))):=(((a1.1.setCell (.inr (cf _)) _).setCell (.inr (cf _)) _).setCell (.inr (cf _)) _);simp only[ga] at b6;exact Ur rfl rfl rfl rfl b6 ⟨k6,by rw[b2.out];rfl⟩
 |false=>
  cases b4:dW P with
  |true=>have b2:=oH (show TQ P=1 from by unfold TQ;rw[ae (by rw[hw];exact oG),ap b4]);clear hw;go_wp2_with fail;refine(HM.2 _).mono ?_;rintro e w6 ⟨rfl,a8⟩;rw[b4];clear b4;have b0:=J2 (a7.1.trans a8) (a7.2.kept a8 trivial);clear a8;have bK:=b0.2;have c0:=bK.cl 0;have g0:=bK.free 0;go_upto_region 21 with fail;have k7:aa All w (w6.setCell ⟨w2.heap.size,0,none⟩ (.int .u8 1)):=(J.2.1.trans b0.1).setCell (.inr (by have:=Y.2.2;show w.heap.size≤w2.heap.size;omega)) _;have o:=bK.set 0 (.int .u8 1);have j:=(J.2.2.kept b0.1 trivial).far (p:=⟨w2.heap.size,0,none⟩) (by have:=Y.2.2;simp<;>omega) (.int .u8 1);simp only[ga] at o;generalize w6.setCell _ _=w7 at*;clear c0 g0 bK;have a1:=J2 k7 j;have c0:=o.cl 0;have c1:=o.cl 1;have c2:=o.cl 2;have t0:=j.cl 0;have t1:=j.cl 1;have t2:=j.cl 2;have f0:=j.free 0;have f1:=j.free 1;have f2:=j.free 2;clear k7 o j;go_wp2_with fail;have b6:=((a1.2.set 0 (.int .u8 1)).set 1 (.int .i64 p)).set 2 (.int .i64 (p+n));have k6:aa All w (((w7.setCell ⟨w.heap.size,0,none⟩ (.int .u8 1)).setCell ⟨w.heap.size,1,none⟩ (.int .i64 p)).setCell ⟨w.heap.size,2,none⟩ (.int .i64 (p+n))):=(((a1.1.setCell (.inr (cf _)) _).setCell (.inr (cf _)) _).setCell (.inr (cf _)) _);simp only[ga] at b6;exact Ur rfl rfl rfl rfl b6 ⟨k6,by rw[b2.out];rfl⟩
  |false=>
   have b2:=oH (show(Os P).isSome=true∧TQ P=3 from by
    unfold TQ at hk⊢;rw[ae (by rw[hw];exact oG),ae (by rw[b4];exact oG)] at hk⊢;by_cases h:(Os P).isSome=true;·exact⟨h,ap h⟩
    rw[ae h] at hk;exact absurd rfl hk)
   clear hw;go_wp2_with fail;refine(HM.2 _).mono ?_;rintro e w6 ⟨rfl,a8⟩;rw[b4];clear b4;have b0:=J2 (a7.1.trans a8) (a7.2.kept a8 trivial);clear a8;have h3:=b2.1;have bK:=b0.2;have c0:=bK.cl 0;have g0:=bK.free 0;go_upto_region 21 with fail;have k7:aa All w (w6.setCell ⟨w2.heap.size,0,none⟩ (.int .u8 3)):=(J.2.1.trans b0.1).setCell (.inr (by have:=Y.2.2;show w.heap.size≤w2.heap.size;omega)) _;have o:=bK.set 0 (.int .u8 3);have j:=(J.2.2.kept b0.1 trivial).far (p:=⟨w2.heap.size,0,none⟩) (by have:=Y.2.2;simp<;>omega) (.int .u8 3);simp only[ga] at o;generalize w6.setCell _ _=w7 at*;clear c0 g0 bK;have a1:=J2 k7 j;have c0:=o.cl 0;have c1:=o.cl 1;have c2:=o.cl 2;have t0:=j.cl 0;have t1:=j.cl 1;have t2:=j.cl 2;have f0:=j.free 0;have f1:=j.free 1;have f2:=j.free 2;clear k7 o j;go_wp2_with fail;have b6:=((a1.2.set 0 (.int .u8 3)).set 1 (.int .i64 p)).set 2 (.int .i64 (p+n));have k6:aa All w (((w7.setCell ⟨w.heap.size,0,none⟩ (.int .u8 3)).setCell ⟨w.heap.size,1,none⟩ (.int .i64 p)).setCell ⟨w.heap.size,2,none⟩ (.int .i64 (p+n))):=(((a1.1.setCell (.inr (cf _)) _).setCell (.inr (cf _)) _).setCell (.inr (cf _)) _);simp only[ga] at b6;exact Ur rfl rfl rfl rfl b6 ⟨k6,by rw[b2.2];rfl⟩)
 simp only[ae a6] at hr;cases hr;have e0:((p:Int)==(s.size:Int))=true:=by rw[cy];omega
 go_enter func77,ntmps77;go_upto_region 1 with fail;rw[←J.1];go_wp2_with fail;refine(c8.out _).mono ?_;rintro e w1 ⟨rfl,rfl⟩;obtain⟨t0,t1,t2⟩:=(show W0.cell? ⟨w.heap.size,0,none⟩=some (.int .u8 0)∧W0.cell? ⟨w.heap.size,1,none⟩=some (.int .i64 0)∧W0.cell? ⟨w.heap.size,2,none⟩=some (.int .i64 0) from⟨J.2.2.cell 0,J.2.2.cell 1,J.2.2.cell 2⟩);have f0:=J.2.2.free 0;have f1:=J.2.2.free 1;have f2:=J.2.2.free 2;go_wp2_with fail;have b1:=((J.2.2.set 0 (.int .u8 0)).set 1 (.int .i64 0)).set 2 (.int .i64 0);have k1:aa All w (((W0.setCell ⟨w.heap.size,0,none⟩ (.int .u8 0)).setCell ⟨w.heap.size,1,none⟩ (.int .i64 0)).setCell ⟨w.heap.size,2,none⟩ (.int .i64 0)):=((J.2.1.setCell (.inr (cf _)) _).setCell (.inr (cf _)) _).setCell (.inr (cf _)) _;simp only[ga] at b1;exact Ur rfl rfl rfl rfl b1 ⟨k1,rfl⟩
def XG:cO Um:=fun _ _ cs t=>cs=[.int .u8 t.kind,.int .i64 t.beg,.int .i64 t.fin]
theorem Ud:cO.Good XG:=⟨fun _ h=>h,fun _ h=>h⟩
abbrev WG:=rx 3 24 XG
theorem cu:bT.Good WG:=cH Ud
theorem XK:(prog.info? 169).map (fun i=>(i.zero,i.size,i.bytes))=some (some (.agg #[.int .u8 0,.int .i64 0,.int .i64 0]),3,24):=by kernel_rfl
theorem Xa (A:Option Addr)(n c:Nat)(w:World)(h:n≤c):Calls prog 78 #[.slice A n c] w fun e w'=>e=.returned (.slice A n n)∧w'=w:=by go_enter func78,ntmps78;go_wp2;go_ret;exact⟨rfl,rfl⟩
theorem Yg {α:Type}{n bw:Nat}{E:cO α}{S:Nat→Prop}{w:World}{A:Option Addr}{k c:Nat}{l:List α}(h:rx n bw E S w (.slice A k c) l):k≤c:=by obtain⟨o,C,e,j,_⟩:=h;cases e;exact j
theorem XU {α:Type}{n bw:Nat}{E:cO α}{S:Nat→Prop}{w:World}{A:Option Addr}{k c:Nat}{l:List α}(h:rx n bw E S w (.slice A k c) l):rx n bw E S w (.slice A k k) l:=by obtain⟨o,C,e,I,J,R,j⟩:=h;cases e;exact⟨A,l.length,rfl,cf _,by omega,by omega,j⟩
theorem Xn {s:ByteArray}(j:Ab s=true){q:Nat}{t:Um}(h:Vu s q=some (some t)):t.fin≤s.size:=by
 unfold Vu at h;simp only at h;split at h
 ·rename_i o;split at h;·cases h;show _+1≤_;omega
  split at h;·cases h
  split at h;·cases h
  cases h;have C:=Vx (Ug j (Ht s (s.size+1) q) s.size) (f:=(s.extract (Ht s (s.size+1) q) s.size).size+1) (Nat.zero_le _);rw[TS _ _ _ (cf _)] at C;show _+Ul _≤_;unfold Ul;rw[TS _ _ _ (cf _)];omega
 cases h
theorem UW {s:ByteArray}:∀ {f q:Nat} {l:List Um},Tt s f q=some l→l.length<f
 |0,_,_,h=>by cases h
 |f+1,q,l,h=>by(
 rw[Tt] at h;split at h;·cases h
 ·cases h;simp
 cases hm:Tt s f _ with
 |none=>rw[hm] at h;cases h
 |some r=>rw[hm] at h;cases h;have:=UW hm;simp;omega)
def XB (l:List Um)(w:World)(e:Ending)(w':World):Prop:=aa All w w'∧∃(A:Option Addr) (c:Nat),e=.returned (.tuple #[.slice A l.length c,.int .i64 0,.int .i64 0])∧WG (fun b=>w.heap.size≤b∧b<w'.heap.size) w' (.slice A l.length c) l
theorem Xt (s:ByteArray)(l:List Um)(w:World)(hp:Ab s=true)(hs:s.size≤65536)(hr:Tt s (s.size+1) 0=some l):
 Calls prog 38 #[.string s] w (XB l w):=by
 have HB:=oH (qdX s w hp);have HT:=oH (fun q r w1 (h1:q≤s.size) (h2:Vu s q=some r)=>Xu s q r w1 hp hs h1 h2);have HF:=oH (fun q t=>Xn hp (q:=q) (t:=t));obtain⟨iT,IT⟩:=iH XK;have HL:=oH (UW hr);have HR:=oH hr;clear hr hp;go_enter func38,ntmps38;go_wp2_with fail;refine HB.out.mono ?_;rintro e w1 ⟨rfl,b2⟩;have b6:=oH b2;clear b2;go_wp2_with fail;go_loopg [6,7] (s.size+1) (fun g m6 m7 wr=>∃(f q:Nat) (r l1:List Um),g=f∧m7=.int .i64 q∧q≤s.size∧Tt s f q=some r∧l1++r=l∧aa All w wr∧dR 3 169 XG w.heap.size wr m6 l1);·exact⟨s.size+1,0,l,[],rfl,rfl,by omega,HR.out,rfl,b6.out,dR.nil⟩
 obtain⟨f,q,r,l1,b9,rfl,hq,C,R,b4,Y⟩:=hrel;obtain⟨wo,b7⟩:=eQ wr;subst b7;obtain⟨A,c,rfl⟩:=Y.form;have I:=J3 b4 Y R;clear b4 Y R;have c4:l1.length≤65536:=by have h:=congrArg List.length I.2.2;rw[iQ] at h;have:=HL.out;omega
 cases f with
 |zero=>cases C
 |succ f=>
 rw[Tt] at C;cases ho:Vu s q with
 |none=>rw[ho] at C;cases C
 |some o=>
  rw[ho] at C;have HO:=oH (HT.out q o wo hq ho);cases o with
  |none=>
   cases C;clear ho;go_wp2_with fail;refine HO.out.mono ?_;rintro e w2 ⟨a1,rfl⟩;have a6:=oH a1;clear a1;go_upto_region 9 with fail;have k3:aa All w2 (w2.alloc (.cells #[.int .u8 0,.int .i64 0,.int .i64 0] 169)):=kR.alloc _;generalize w2.alloc _=W3 at*;have J:=oH (a6.out.trans k3);clear k3;have b0:=(I.2.1.keep Ud J.out fun _ _ _=>trivial).read (bw:=24) Ud (by omega);have hc:=Yg b0;have b8:=oH (XU b0);clear b0;go_wp2_with fail;refine(Xa A l1.length c W3 hc).mono ?_;rintro e w4 ⟨rfl,rfl⟩;go_wp2_with fail;have R:l=l1:=by rw[←I.2.2];simp
   refine bodyPost_ret (v:=.tuple #[.slice A l1.length l1.length,.int .i64 0,.int .i64 0]) (by simp[results,Tryz.results38,go_sem]) rfl ?_;refine⟨I.1.trans J.out,A,l1.length,by rw[R],?_⟩;rw[R];exact b8.out
  |some t=>
   have C:(Tt s f t.fin).map (fun l=>t::l)=some r:=C;cases hm:Tt s f t.fin with
   |none=>rw[hm] at C;cases C
   |some r2=>
   rw[hm] at C;cases C;have a8:=HF.out q t ho;have HM:=J2 hm a8;clear ho hm a8;go_wp2_with fail;refine HO.out.mono ?_;rintro e w2 ⟨a1,rfl⟩;have a6:=oH a1;clear a1;go_upto_region 9 with fail;have k3:aa All w2 (w2.alloc (.cells #[.int .u8 t.kind,.int .i64 t.beg,.int .i64 t.fin] 169)):=kR.alloc _;have b3:al (w2.alloc (.cells #[.int .u8 t.kind,.int .i64 t.beg,.int .i64 t.fin] 169)) w2.heap.size 169 #[.int .u8 t.kind,.int .i64 t.beg,.int .i64 t.fin]:=al.new _ _ _;generalize w2.alloc _=W3 at*;have J:=J3 (I.1.trans (a6.out.trans k3)) b3 (I.2.1.keep Ud (a6.out.trans k3) fun _ _ _=>trivial);obtain⟨c0,c1,c2⟩:=b3.c3;clear k3 b3;have c5:w2.heap.size<W3.heap.size:=J.2.1.lt;have c6:=J.1.size;go_wp2_with (
    at_builtin;go_loud (
    refine bN (E:=XG) _ Ud rfl (.tmp 34) (.tmp 36) 94 rfl iT _ 24 underlying94 IT.1 IT.2.1 IT.2.2.1 IT.2.2.2 rfl (by decide) _ _ rfl ((J.2.2.keep Ud ((aa.refl All _).alloc _)) fun _ _ _=>trivial) W3.heap.size 0 1 rfl [.int .u8 t.kind,.int .i64 t.beg,.int .i64 t.fin] t rfl ?_ ?_ ?_ (by omega) ?_ (fun _=>False) ?_ rfl ?_;·intro j u hu;rw[cN,(al.new _ _ _:al (W3.alloc _) W3.heap.size _ _).cell,List.getElem?_toArray];exact hu
    ·intro u hu;simp only[fX,List.not_mem_nil,or_false] at hu;rcases hu with rfl|rfl|rfl<;>rfl
    ·omega
    ·simp;omega
    ·intro b hb;exact hb.elim
    intro C2 c7 w4 a7 b1 b5;have k4:=(J.1.alloc (.cells #[.int .u8 t.kind,.int .i64 t.beg,.int .i64 t.fin] 169)).grown b1 (fun b hb=>.inr (b5 b hb));have q2:=(J.2.1.alloc (.cells #[.int .u8 t.kind,.int .i64 t.beg,.int .i64 t.fin] 169)).grown b1 (fun e=>by obtain⟨xs,hx⟩:=I.2.1.own;have:=(aD hx e.symm).2;have:=a6.out.size;omega);have c2:=q2.cl 2;have H4:=J2 a7 k4;clear k4 a7 b1 b5 q2))
   go_roundg f;·exact⟨f,t.fin,r2,l1++[t],rfl,rfl,HM.2,HM.1,by rw[jM];exact I.2.2,H4.2,by simpa using H4.1⟩
   omega
structure cr.Ok (p:cr):Prop where
 size:p.s.size≤65536
 len:p.l.length≤65537
 tok:∀t∈p.l,t.beg≤t.fin∧t.fin≤p.s.size∧t.kind<256
 plain:Ab p.s=true
 word:∀t∈p.l,t.kind=1→jv (p.s.extract t.beg t.fin)=false
structure Uo (w:World)(pb:Nat)(p:cr)(A:Option Addr)(C:Nat)(k m:Nat):Prop where
 box:al w pb 102 #[.string p.s,.slice A p.l.length C,.int .i64 k,.int .i64 m]
 toks:WG (fun b=>b≠pb∧b<w.heap.size) w (.slice A p.l.length C) p.l
 le:k≤p.l.length
theorem Uo.keep {w w':World}{pb:Nat}{p:cr}{A:Option Addr}{C k m:Nat}(h:Uo w pb p A C k m)(j:aa All w w'):Uo w' pb p A C k m:=
 ⟨h.box.kept j trivial,cu.wide (fun b o=>⟨o.1,by have:=j.size;omega⟩) (cu.keep j.all h.toks),h.le⟩
theorem Uo.move {w:World}{pb:Nat}{p:cr}{A:Option Addr}{C k m:Nat}(h:Uo w pb p A C k m){k':Nat}(o:k'≤p.l.length):Uo (w.setCell ⟨pb,2,none⟩ (.int .i64 k')) pb p A C k' m:=
 ⟨by simpa using h.box.set 2 (.int .i64 k'),cu.wide (fun b j=>⟨j.1,by simpa using j.2⟩) (cu.keep ((aa.refl (fun b=>b≠pb∧b<w.heap.size) w).setCell (.inl fun h=>h.1 rfl) _) h.toks),o⟩
theorem xt (pb:Nat)(p:cr)(A:Option Addr)(C k m a:Nat)(w:World)(h:Uo w pb p A C k m)(I:p.Ok)(ha:a≤10):
 Calls prog 40 #[.pointer (some ⟨pb,0,none⟩),.int .i64 a] w fun e w'=>e=.returned (.string (p.txt (k+a)))∧aa All w w':=by
 obtain⟨b0,b1,b2⟩:=h.box.c3;have hle:=h.le;have hlen:=I.len;obtain⟨n,o⟩:=eQ p.l.length;have a1:n≤p.l.length:=eE o;have a6:p.l.length≤n:=eE o.symm;by_cases a7:k+a<n
 ·obtain⟨t,J⟩:∃t,p.l[k+a]? =some t:=⟨_,lG (by omega)⟩;obtain⟨tb,a8,b3,rfl,_,_,R,hE⟩:=aZ h.toks J;cases hE;have c1:=R 1 _ rfl;have c2:=R 2 _ rfl;have Y:=I.tok t (mG J);have j:p.txt (k+a)=p.s.extract t.beg t.fin:=by unfold cr.txt;rw[J]
  have HT:=oH j;have v1:=Y.1;have v2:=Y.2.1;rw[←o] at b1;clear R J h I Y j o;go_enter func40,ntmps40;go_wp2_with fail;go_quiet (fail);go_wp2_with fail;go_ret;exact⟨by rw[HT.out];rfl,kR.drewN _⟩
 have j:p.txt (k+a)=gR:=by unfold cr.txt;rw[jz (by omega)]
 have HT:=oH j;rw[←o] at b1;clear h I j o;go_enter func40,ntmps40;go_wp2_with fail;go_ret;exact⟨by rw[HT.out];rfl,kR⟩
theorem Vv (pb:Nat)(p:cr)(A:Option Addr)(C k m:Nat)(w:World)(h:Uo w pb p A C k m)(I:p.Ok):
 Calls prog 79 #[.pointer (some ⟨pb,0,none⟩)] w fun e w'=>e=.returned (.int .i64 (p.pos k))∧aa All w w':=by
 obtain⟨b0,Y,b2⟩:=h.box.c3;have hle:=h.le;have hlen:=I.len;obtain⟨n,o⟩:=eQ p.l.length;have a1:n≤p.l.length:=eE o;have a6:p.l.length≤n:=eE o.symm;by_cases a7:k<n
 ·obtain⟨t,J⟩:∃t,p.l[k]? =some t:=⟨_,lG (by omega)⟩;obtain⟨tb,a8,b3,rfl,_,_,hc,hE⟩:=aZ h.toks J;cases hE;have c1:=hc 1 _ rfl;have j:p.pos k=t.beg:=by unfold cr.pos;rw[J]
  have R:=oH j;rw[←o] at Y;clear hc J h I j o;go_enter func79,ntmps79;go_wp2_with fail;go_quiet (fail);go_wp2_with fail;go_quiet (fail);go_wp2_with fail;go_ret;exact⟨by rw[R.out];rfl,((kR.drewN _).drewN _)⟩
 have j:p.pos k=p.s.size:=by unfold cr.pos;rw[jz (by omega)]
 have R:=oH j;rw[←o] at Y;clear h I j o;go_enter func79,ntmps79;go_wp2_with fail;go_quiet (fail);go_wp2_with fail;go_ret;exact⟨by rw[R.out];rfl,kR.drewN _⟩
theorem TC (pb:Nat)(p:cr)(A:Option Addr)(C k m q:Nat)(w:World)(h:Uo w pb p A C k m)(J:p.Ok):
 Calls prog 81 #[.pointer (some ⟨pb,0,none⟩),.int .u8 q] w fun e w'=>e=.returned (.bool (p.is k q))∧aa All w w':=by
 obtain⟨b0,b1,b2⟩:=h.box.c3;have hle:=h.le;have hlen:=J.len;obtain⟨n,o⟩:=eQ p.l.length;have a1:n≤p.l.length:=eE o;have a6:p.l.length≤n:=eE o.symm;by_cases I:k<n
 ·obtain⟨t,R⟩:∃t,p.l[k]? =some t:=⟨_,lG (by omega)⟩;obtain⟨tb,a7,a8,rfl,_,_,hc,hE⟩:=aZ h.toks R;cases hE;have c0:=hc 0 _ rfl;rw[dj] at c0;have j:p.is k q=(t.kind==q):=by unfold cr.is;rw[R]
  have Y:=oH j;have hd:decide ((k:Int)<(n:Int))=true:=by simpa using I
  rw[←o] at b1;clear hc R h J j o;go_enter func81,ntmps81;go_wp2_with fail;go_quiet (fail);go_wp2_with fail;go_ret;exact⟨by rw[Y.out,show(t.kind==q)=((t.kind:Int)==(q:Int)) by rw[Bool.eq_iff_iff,cy,cy];omega];rfl,kR.drewN _⟩
 have j:p.is k q=false:=by unfold cr.is;rw[jz (by omega)]
 have Y:=oH j;have hd:decide ((k:Int)<(n:Int))=false:=by simpa using I
 rw[←o] at b1;clear h J j o;go_enter func81,ntmps81;go_wp2_with fail;go_quiet (fail);go_wp2_with fail;go_ret;exact⟨by rw[Y.out];rfl,kR.drewN _⟩
theorem To (pb n q:Nat)(w:World)(j:n<q):
 Calls prog 41 #[.pointer (some ⟨pb,0,none⟩),.int .i64 n,.int .i64 q] w fun e w'=>e=.returned (.tuple #[])∧w=w':=by
 go_enter func41,ntmps41;go_wp2
 go_end0
 exact⟨rfl,rfl⟩
def wi (pb:Nat)(p:cr)(A:Option Addr)(C k' m:Nat)(w w':World):Prop:=aa (fun b=>b≠pb) w w'∧Uo w' pb p A C k' m
theorem wi.of {pb:Nat}{p:cr}{A:Option Addr}{C k m:Nat}{w j:World}(h:Uo j pb p A C k m)(I:aa (fun b=>b≠pb) w j){k':Nat}(o:k'≤p.l.length):wi pb p A C k' m w (j.setCell ⟨pb,2,none⟩ (.int .i64 k')):=
 ⟨I.setCell (.inl fun h=>h rfl) _,h.move o⟩
theorem TY (x:ByteArray)(l:List UInt8)(y:ByteArray)(h:y.toList=l):(x.toList==l)=decide (x=y):=by rw[Bool.eq_iff_iff,decide_eq_true_iff,←h];exact cM
theorem Xm {p:cr}{k q:Nat}(h:p.is k q=true):k<p.l.length:=by
 unfold cr.is at h;cases j:p.l[k]? with
 |none=>rw[j] at h;cases h
 |some t=>exact(lS.1 j).1
theorem TM {p:cr}{k:Nat}(h:p.txt k≠gR):k<p.l.length:=by
 unfold cr.txt at h;cases j:p.l[k]? with
 |none=>rw[j] at h;exact absurd rfl h
 |some t=>exact(lS.1 j).1
theorem Vi (pb:Nat)(p:cr)(A:Option Addr)(C k m q:Nat)(w:World)(h:Uo w pb p A C k m)(Y:p.Ok)(hq:p.is k q=true):
 Calls prog 146 #[.pointer (some ⟨pb,0,none⟩),.int .u8 q] w fun e w'=>e=.returned (.string (p.txt k))∧wi pb p A C (k+1) m w w':=by
 have HI:=oH (TC pb p A C k m q w h Y);have HT:=oH (fun R (hk:aa All w R)=>xt pb p A C k m 0 R (h.keep hk) Y (by omega));have a1:=Xm hq;have hlen:=Y.len;have H:=oH h;have HQ:=oH hq;clear h hq;go_enter func146,ntmps146;go_wp2_with fail;refine HI.out.mono ?_;rintro e R ⟨rfl,o⟩;rw[HQ.out];have I:=oH o;clear o;go_wp2_with fail;refine(HT.out R I.out).mono ?_;rintro e w2 ⟨rfl,J⟩;have j:=oH (I.out.trans J);clear J;have hb:=(H.out.keep j.out).box;have b2:=hb.cl 2;have f2:=hb.free 2;clear hb;go_wp2_with fail;go_ret;exact⟨rfl,by simpa using wi.of (H.out.keep j.out) j.out.all (k':=k+1) (by omega)⟩
theorem xi (pb:Nat)(p:cr)(A:Option Addr)(C k m:Nat)(w:World)(h:Uo w pb p A C k m)(I:p.Ok)(J:p.is k 1=true):
 Calls prog 80 #[.pointer (some ⟨pb,0,none⟩)] w fun e w'=>e=.returned (.string (p.txt k))∧wi pb p A C (k+1) m w w':=by
 have R:=oH (Vi pb p A C k m 1 w h I J);go_enter func80,ntmps80;go_wp2_with fail;refine R.out.mono ?_;rintro e Y ⟨rfl,j⟩;have o:=oH j;clear j;go_wp2_with fail;go_ret;exact⟨rfl,o.out⟩
theorem Ar (pb:Nat)(p:cr)(A:Option Addr)(C k m:Nat)(s:ByteArray)(w:World)(h:Uo w pb p A C k m)(R:p.Ok)(I:p.txt k=s)(Y:s≠gR):
 Calls prog 84 #[.pointer (some ⟨pb,0,none⟩),.string s] w fun e w'=>e=.returned (.tuple #[])∧wi pb p A C (k+1) m w w':=by
 have HT:=oH (xt pb p A C k m 0 w h R (by omega));have a1:=TM (p:=p) (k:=k) (by rw[I];exact Y);have hlen:=R.len;have H:=oH h;have HQ:=oH I;clear h I Y;go_enter func84,ntmps84;go_wp2_with fail;refine HT.out.mono ?_;rintro e w1 ⟨rfl,o⟩;rw[dj,HQ.out];have j:=oH o;clear o;have J:=(H.out.keep j.out).box;have b2:=J.cl 2;have f2:=J.free 2;clear J;go_wp2_with fail
 go_end0
 exact⟨rfl,by simpa using wi.of (H.out.keep j.out) j.out.all (k':=k+1) (by omega)⟩
theorem TX (pb:Nat)(p:cr)(A:Option Addr)(C k m:Nat)(w:World)(h:Uo w pb p A C k m)(hp:p.Ok):
 Calls prog 86 #[.pointer (some ⟨pb,0,none⟩)] w fun e w'=>e=.returned (.bool (Tp p k))∧aa All w w':=by
 have R:=oH (TC pb p A C k m 1 w h hp);have HT:=oH (fun I (hk:aa All w I)=>xt pb p A C k m 1 I (h.keep hk) hp (by omega));unfold Tp;cases Y:p.is k 1 with
 |false=>rw[Y] at R;clear Y;go_enter func86,ntmps86;go_wp2_with fail;refine R.out.mono ?_;rintro e I ⟨rfl,j⟩;have o:=oH j;clear j;go_wp2_with fail;go_ret;exact⟨rfl,o.out⟩
 |true=>rw[Y] at R;clear Y;go_enter func86,ntmps86;go_wp2_with fail;refine R.out.mono ?_;rintro e I ⟨rfl,j⟩;have o:=oH j;clear j;go_wp2_with fail;refine(HT.out I o.out).mono ?_;rintro e w2 ⟨rfl,J⟩;have a1:=oH (o.out.trans J);clear J;go_wp2_with fail;go_ret;exact⟨by rw[Bool.true_and,←TY (p.txt (k+1)) [58] XW (by kernel_rfl)];rfl,a1.out⟩
end Go.Proofs.YtgdlhckhpolnnaaGreatDoor
