/- Part 33 of the proof of CallsShallow (its last part says what is proved). No condition. -/
import Derived.Test.YtncdbjponknakaaGreatDoorK15
import Derived.Test.YtncdbjponknakaaGreatDoorK30
namespace Go.Proofs.YtncdbjponknakaaGreatDoor
set_option maxRecDepth 100000
set_option maxHeartbeats 8000000
open Go.RowKit Go.Proofs.Tryz
theorem xj (g n c:Nat)(t:TypeId)(cs:Array Value)(w:World)(hb:al w g t cs)(hn:n≤cs.size)(h1:1≤n)(h2:n≤4096)(_:n≤c)(a1:∀m,m<n→∃x:Int,cs[m]? =some (.int .u8 x)):
 Calls prog 181 #[.slice (some ⟨g,0,none⟩) n c] w fun e w'=>e=.returned (.tuple #[])∧aa (fun b=>b≠g) w w'∧∃C,al w' g t C∧∀m,m<n→C[m]? =cs[n-1-m]?:=by
 have HB:=oH hb;have HS:=oH a1;clear hb a1;have hl:n≤9223372036854775807:=by omega
 go_enter func181,ntmps181;go_wp2;go_loopg [2,3] n (fun gg i j wr=>∃(k:Nat) (C:Array Value),k≤n∧gg=n-k∧i=.int .i64 k∧j=.int .i64 ((n:Int)-1-k)∧aa (fun b=>b≠g) w wr∧al wr g t C∧lm n k cs C);·exact⟨0,cs,by omega,by omega,rfl,by go_num,kR,HB.out,rfl,fun m hm=>by rw[ae (by omega)]⟩
 obtain⟨k,C,hk,rfl,rfl,rfl,o,l,J⟩:=hrel;by_cases a6:k+k+1<n;·(
 have a7:C.size=cs.size:=J.1;obtain⟨x1,R⟩:=HS.out (n-1-k) (by omega);obtain⟨x2,Y⟩:=HS.out k (by omega);rw[←J.mid (by omega) (by omega)] at R;rw[←J.mid (by omega) (by omega)] at Y;have e:((n:Int)-1-k)=((n-1-k:Nat):Int):=by omega
 obtain⟨j,Z⟩:=eQ (n-1-k);rw[e,←Z];rw[←Z] at R;have c1:=l.cell j;have c2:=l.cell k;have f1:=l.free j;have f2:=l.free k;rw[R] at c1;rw[Y] at c2;have a8:k<j:=by omega
 have b0:j<n:=by omega
 have HT:=J6 l J R Y Z o;clear l J R Y o Z e;go_wp2_with fail
 go_region
 go_wp2;go_roundg (n-(k+1))
 ·obtain⟨l,J,R,Y,Z,o⟩:=HT.out;subst Z;refine⟨k+1,(C.setIfInBounds k (.int .u8 x1)).setIfInBounds (n-1-k) (.int .u8 x2),by omega,rfl,by go_num,by go_num,?_,?_,J.step a6 hn R Y⟩;·exact((o.setCell (.inl fun h=>h rfl) _).setCell (.inl fun h=>h rfl) _).drew
  exact((l.set k _).set (n-1-k) _).drew
 omega)
 go_wp2
 go_end0
 exact⟨rfl,o,C,l,fun m hm=>J.full (by omega) m hm⟩
theorem Mq:(prog.info? 5).map (fun i=>(i.zero,i.size,i.bytes))=some (some (.int .u8 0),1,1):=by kernel_rfl
theorem pu (a b:List UInt8):(⟨a.toArray⟩:ByteArray)++⟨b.toArray⟩=⟨(a++b).toArray⟩:=by apply ByteArray.ext;simp
def eX (l:List UInt8):List Value:=l.map fun x=>Value.int .u8 (x.toNat:Int)
def vQ (f u:Nat)(ds:List UInt8):List UInt8:=if ds≠[]∧u=0 then [] else Aw f u
theorem tE {f u:Nat}{l:List UInt8}(h:u≠0∨l=[]):vQ (f+1) u l=UInt8.ofNat (48+u%10)::vQ f (u/10) (l++[UInt8.ofNat (48+u%10)]):=by
 unfold vQ;rw[ae (by rintro⟨o,C⟩;rcases h with h|h;exact h C;exact o h),Aw];by_cases j:u/10=0;·rw[ap j,ap ⟨by simp,j⟩]
 rw[ae j,ae fun h=>j h.2]
theorem Hj (n:Int)(hn:aV n)(w:World):Calls prog 154 #[.int .i64 n] w fun e w'=>e=.returned (.string ⟨(iK n).toArray⟩)∧aa All w w':=by
 obtain⟨iB,b2,b3,b4,b5⟩:=info_parts Mq;have IB:=J4 b2 b3 b4 b5;clear b2 b3 b4 b5;have Y:=rZ hn;unfold aV at hn;go_enter func154,ntmps154;go_upto_if 9 with fail;go_cut [3,4] (fun s3 s4 wx=>s3=.int .u64 (n.natAbs:Int)∧s4=.string ⟨(if n<0 then [45] else []:List UInt8).toArray⟩∧w=wx)
 case first=>(
 by_cases h:n<0
 ·have d1:decide (n<0)=true:=by simpa using h
  obtain⟨m,hm⟩:=eR (IntKind.u64.wrap n);have e2:IntKind.u64.wrap (-m)=(n.natAbs:Int):=by rw[←hm];simp only[IntKind.wrap,IntKind.signed,IntKind.bits];simp;omega
  have HA:=oH (show(n.natAbs:Int)=n.natAbs from rfl);generalize (n.natAbs:Int)=k at*;clear Y hn;go_wp2_with fail;go_meet;exact⟨rfl,by rw[ap h],rfl⟩
 have d1:decide (n<0)=false:=by simpa using h
 have e2:IntKind.u64.wrap n=(n.natAbs:Int):=by simp only[IntKind.wrap,IntKind.signed,IntKind.bits];simp;omega
 clear Y;go_wp2_with fail;go_meet;exact⟨rfl,by rw[ae (by omega)],rfl⟩)
 obtain⟨rfl,rfl,rfl⟩:=hcut;obtain⟨sg,a1⟩:∃sg:List UInt8,(if n<0 then [45] else [])=sg:=⟨_,rfl⟩;rw[a1];have c8:sg.length≤1:=by rw[←a1];split<;>simp
 have HG:=oH a1;clear a1;go_wp2_with fail;go_loopg [3,5] 21 (fun g s3 s5 wr=>∃(f u:Nat) (l:List UInt8),g=f+1∧s3=.int .u64 u∧f+l.length=20∧u<10^f∧aa All w wr∧wr.ownsRow w.heap.size 5 1 s5 l.length (eX l)∧l++vQ f u l=Aw 20 n.natAbs);·exact⟨20,n.natAbs,[],by omega,rfl,rfl,Y,kR,⟨rfl,.inl ⟨rfl,rfl⟩⟩,by rw[vQ,ae (fun h=>h.1 rfl)];rfl⟩
 obtain⟨f,u,l,rfl,rfl,hf,hu,hk,C,Z⟩:=hrel;obtain⟨A,c,rfl⟩:=aU C;by_cases hc:u≠0∨l=[];·(
 obtain⟨f,rfl⟩:∃f',f=f'+1:=⟨f-1,by
  rcases Nat.eq_zero_or_pos f with h|h
  ·subst h;rcases hc with hc|hc;·simp at hu;omega
   subst hc;simp at hf
  omega⟩
 have c9:u<10^20:=Nat.lt_of_lt_of_le hu (Nat.pow_le_pow_right (by omega) (by omega));have HD:=oH Z;have HC:=oH hc;have HK:=oH hk;have hB:=hk.size;have o:(wr.alloc (.cells #[.int .u8 (48+(u:Int)%10)] 5)).ownsRow w.heap.size 5 1 (.slice A l.length c) l.length (eX l):=be C ((aa.refl All wr).alloc _) (fun _ _=>trivial);clear Z hk;by_cases a6:u=0;·(
 have b6:l=[]:=hc.resolve_left (fun h=>h a6);clear hc;subst a6;subst b6;have o:(wr.alloc (.cells #[.int .u8 48] 5)).ownsRow w.heap.size 5 1 (.slice A 0 c) 0 (eX []):=o;go_wp2_with (
  at_builtin;refine aR _ rfl (.tmp 19) (.tmp 24) 281 rfl w.heap.size 5 iB _ 1 1 underlying281 IB.1 IB.2.1 IB.2.2.1 IB.2.2.2 rfl (by decide) _ _ _ rfl o (some ⟨wr.heap.size,0,none⟩) 1 1 [.int .u8 (48)] rfl rfl ?_ ?_ (by unfold maxLen;omega) (by omega) (by simp;omega) ?_;·intro _;exact⟨_,_,rfl,fun j u hu=>by rw[cN,al.cell (al.new _ _ _)];simpa using hu⟩
  ·intro u hu
   rw[cx.1 hu];rfl
  intro v2 w2 J a8 b7)
 go_roundg (f+1);·(
 have hp:=Nat.pow_succ 10 f;refine⟨f,0/10,[]++[UInt8.ofNat (48+0%10)],rfl,by go_num,by simp at hf⊢;omega,?_,(HK.out.alloc _).grown a8 fun g hg=>.inr (aD C hg).1,?_,?_⟩
 ·generalize 10^f=p at*
  omega
 ·have e:eX ([]++[UInt8.ofNat (48+0%10)])=eX []++[.int .u8 (48)]:=by unfold eX;rw[ic];simp only[List.map_cons,List.map_nil,nL];congr 3
  rw[e,iQ];exact J
 rw[jM,←HD.out,tE (.inr rfl)];rfl)
 omega)
 have hp:0<u:=by omega
 clear hc;go_wp2_with (
  at_builtin;refine aR _ rfl (.tmp 19) (.tmp 24) 281 rfl w.heap.size 5 iB _ 1 1 underlying281 IB.1 IB.2.1 IB.2.2.1 IB.2.2.2 rfl (by decide) _ _ _ rfl o (some ⟨wr.heap.size,0,none⟩) 1 1 [.int .u8 (48+(u:Int)%10)] rfl rfl ?_ ?_ (by unfold maxLen;omega) (by omega) (by simp;omega) ?_;·intro _;exact⟨_,_,rfl,fun j u hu=>by rw[cN,al.cell (al.new _ _ _)];simpa using hu⟩
  ·intro u hu
   rw[cx.1 hu];rfl
  intro v2 w2 J a8 b7)
 go_roundg (f+1);·(
 have hp:=Nat.pow_succ 10 f;refine⟨f,u/10,l++[UInt8.ofNat (48+u%10)],rfl,by go_num,by simp;omega,?_,(HK.out.alloc _).grown a8 fun g hg=>.inr (aD C hg).1,?_,?_⟩
 ·generalize 10^f=p at*
  omega
 ·have e:eX (l++[UInt8.ofNat (48+u%10)])=eX l++[.int .u8 (48+(u:Int)%10)]:=by unfold eX;rw[ic];simp only[List.map_cons,List.map_nil,nL];congr 3
  rw[e,iQ];exact J
 rw[jM,←HD.out,tE HC.out];rfl)
 omega)
 have a6:u=0:=Classical.byContradiction fun h=>hc (.inl h);have b0:l≠[]:=fun h=>hc (.inr h);subst a6;have c3:l.length≠0:=fun h=>b0 (oD h);have t1:((l.length:Int)==0)=false:=by rw[bE];omega
 have d8:0<l.length:=by omega
 rw[vQ,ap ⟨b0,rfl⟩,List.append_nil] at Z;obtain⟨_,⟨h,_⟩|⟨g,cap,cur,hv,hg,hh,b8,d7,d9,c4⟩⟩:=C;·injection h with _ h;omega
 injection hv with c5 e0 c6;subst c5;subst c6;have R:∀m,m<l.length→cur[m]? =some (.int .u8 ((l.getD m 0).toNat:Int)):=by(
 intro m hm;have h1:(cur.toList.take (l.length*1))[m]? =(eX l)[m]?:=by rw[c4]
 rw[rY (by omega)] at h1;rw[←Array.getElem?_toList,h1];simp[eX,hm])
 have b9:l.length≤cur.size:=by omega
 have a7:=xj g l.length c 5 cur wr hh b9 (by omega) (by omega) b8 (fun m hm=>⟨_,R m hm⟩);have HR:=J4 a7 hk Z R;clear a7 hk Z R hh hc b0 c3;go_wp2_with fail;refine HR.1.mono ?_;rintro e w2 ⟨rfl,c0,e1,c1,c2⟩;have b1:=run_convert_bytes_back (P:=prog) w2 281 9 5 ⟨g,0,none⟩ c l.reverse underlying281 underlying5 underlying9 (fun j hj=>by
  rw[List.length_reverse] at hj;have:(⟨g,0,none⟩:Addr).add j=⟨g,j,none⟩:=by unfold Addr.add;split<;>simp_all
  rw[this,c1.cell,c2 j hj,HR.2.2.2 (l.length-1-j) (by omega)];rw[List.getElem_reverse];rw[iG,lG (by omega),Option.getD_some])
 rw[List.length_reverse] at b1;have H2:=oH c0;clear c0 c1 c2;go_wp2_with fail;go_ret;have c7:aa All w w2:=by have h1:=H2.out;have h0:=HR.2.1;refine⟨h1.os.trans h0.os,h1.output.trans h0.output,fR h0.size h1.size,fun b hb _=>?_⟩;rw[h1.block b (by have:=h0.size;omega) (fun e=>by subst e;omega)];exact h0.block b hb trivial
 refine⟨?_,c7⟩;have e:iK n=sg++l.reverse:=by unfold iK kK;rw[HG.out,HR.2.2.1]
 rw[e,←pu];rfl
theorem ez (c:UInt8)(n:Int)(o:aV n)(w:World):Calls prog 133 #[.string ⟨#[c]⟩,.int .i64 n] w fun e C=>e=.returned (.string (aL c n))∧aa All w C:=by have J:=fun w=>Hj n o w;have Y:=vV n;have R:=oH (show(⟨[c].toArray⟩:ByteArray)++⟨(iK n).toArray⟩=aL c n from pu _ _);generalize iK n=l at*;go_enter func133,ntmps133;go_wp2_with (go_at_call 154;refine(J _).mono ?_;rintro e Z ⟨rfl,j⟩;have H1:=oH j;clear j);go_ret;exact⟨by rw[←R.out];rfl,H1.out⟩
def qZ (r:Int)(n:Nat):Bool:=decide (0≤r)&&decide (r<n)
theorem yq (l:Nat)(r:Int)(n:Nat)(hn:n≤1000000000000000)(R:aV r)(w:World)(o:al w l 4 #[.bool true]):
 Calls prog 155 #[.int .i64 r,.int .i64 n,.pointer (some ⟨l,0,none⟩)] w fun e Y=>(∃k:Int,e=.returned (.int .i64 k)∧(qZ r n=true→k=r))∧Y=w.setCell ⟨l,0,none⟩ (.bool (qZ r n)):=by
 have Z:=o.cell 0;have f0:=o.free 0;simp only[gc] at Z;clear o;unfold aV at R;by_cases C:0≤r;·(
 have d0:decide (0≤r)=true:=by simpa using C
 by_cases J:r<n
 ·have d1:decide (r<(n:Int))=true:=by simpa using J
  have j:=oH (show qZ r n=true by unfold qZ;rw[d0,d1];rfl);go_enter func155,ntmps155;go_wp2;go_ret;exact⟨⟨_,rfl,fun _=>rfl⟩,by rw[j.out]⟩
 have d1:decide (r<(n:Int))=false:=by simpa using J
 have j:=oH (show qZ r n=false by unfold qZ;rw[d0,d1];rfl);go_enter func155,ntmps155;go_wp2;all_goals(go_ret;exact⟨⟨_,rfl,fun h=>absurd (j.out.symm.trans h) (by decide)⟩,by rw[j.out]⟩))
 have d0:decide (0≤r)=false:=by simpa using C
 have j:=oH (show qZ r n=false by unfold qZ;rw[d0];rfl);go_enter func155,ntmps155;go_wp2;all_goals(go_ret;exact⟨⟨_,rfl,fun h=>absurd (j.out.symm.trans h) (by decide)⟩,by rw[j.out]⟩)
theorem qE (S:Nat→Prop)(v:Value)(l:List ByteArray)(bf bx j bY:Nat)(xs ys:Array Value)(r:Int)(s:ByteArray)(w:World)(hv:gB S w v l)(hS:∀b,S b→b≠j)(hr:aV r)
 (hf:al w bf 206 #[.func (.func 155) #[] #[.pointer (some ⟨j,0,none⟩)]]) (hx:al w bx 47 xs) (a1:xs[3]? =some (.int .i64 r))
 (ho:al w j 4 #[.bool true]) (hy:al w bY 231 ys) (C:∃z,ys[3]? =some (.string z)) (R:qZ r l.length=true) (hs:l[r.toNat]? =some s):
 Calls prog 156 #[v,.pointer (some ⟨bf,0,none⟩),.pointer (some ⟨bx,0,none⟩),.pointer (some ⟨j,0,none⟩),.pointer (some ⟨bY,0,none⟩)] w fun e w'=>e=.returned (.tuple #[])∧w'=(w.setCell ⟨j,0,none⟩ (.bool true)).setCell ⟨bY,3,none⟩ (.string s):=by
 obtain⟨z,C⟩:=C;have c1:=hf.cell 0;have c2:=hx.cell 3;have c3:=ho.cell 0;have c4:=hy.cell 3;have f3:=ho.free 0;have f4:=hy.free 3;rw[a1] at c2;rw[C] at c4;simp only[gc] at c1 c3;have J:=fun n hn=>yq j r n hn hr w ho;have a7:bY≠j:=fun e=>by subst e;have:=al.ne hy ho (by decide);exact this rfl
 have Y:al (w.setCell ⟨j,0,none⟩ (.bool true)) bY 231 ys:=hy.far a7 _;have c5:=Y.cell 3;have f5:=Y.free 3;rw[C] at c5;obtain⟨A,cap,rfl,k1,k2,k3,k⟩:=hv;unfold maxLen at k2;obtain⟨b,o,c,rfl,a6,hc,rfl⟩:=k _ _ hs;have a8:=(lS.1 hs).1;have b0:0≤r∧r<l.length:=by unfold qZ at R;simpa using R
 obtain⟨rn,rfl⟩:∃rn:Nat,r=rn:=⟨r.toNat,by omega⟩;rw[dP] at hc a8;have Z:=J l.length (by omega);rw[R] at Z;have b1:(w.setCell ⟨j,0,none⟩ (.bool true)).cell? ⟨b,o+rn,none⟩=some (.string s):=by rw[World.cell?_of_block (pI w ⟨j,0,none⟩ (.bool true) b (hS b a6))];exact hc
 have b2:(w.setCell ⟨j,0,none⟩ (.bool true)).cell? ⟨j,0,none⟩=some (.bool true):=by have:=(ho.set 0 (.bool true)).cell 0;simpa using this
 have HF:=oH Z;clear k J Z hf hx ho hy Y a1 C R hs a6 hS hr;go_enter func156,ntmps156;go_wp2_with fail;refine HF.out.mono ?_;rintro e w' ⟨⟨k,rfl,hk⟩,rfl⟩;have hk:=hk trivial;subst hk;go_wp2_with fail
 go_end0
 exact⟨rfl,rfl⟩
theorem sX (S:Nat→Prop)(v:Value)(l:List ByteArray)(Z bx o bY:Nat)(xs:Array Value)(r:Int)(w:World)(hv:gB S w v l)(hr:aV r)
 (hf:al w Z 206 #[.func (.func 155) #[] #[.pointer (some ⟨o,0,none⟩)]]) (hx:al w bx 47 xs) (J:xs[3]? =some (.int .i64 r))
 (Y:al w o 4 #[.bool true]) (R:qZ r l.length=false):
 Calls prog 156 #[v,.pointer (some ⟨Z,0,none⟩),.pointer (some ⟨bx,0,none⟩),.pointer (some ⟨o,0,none⟩),.pointer (some ⟨bY,0,none⟩)] w fun e w'=>e=.returned (.tuple #[])∧w'=w.setCell ⟨o,0,none⟩ (.bool false):=by
 have c1:=hf.cell 0;have c2:=hx.cell 3;have c3:=Y.cell 0;rw[J] at c2;simp only[gc] at c1 c3;have j:=fun n hn=>yq o r n hn hr w Y;obtain⟨A,cap,rfl,k1,k2,k3,k⟩:=hv;have C:=j l.length (by omega);rw[R] at C;have a1:(w.setCell ⟨o,0,none⟩ (.bool false)).cell? ⟨o,0,none⟩=some (.bool false):=by have:=(Y.set 0 (.bool false)).cell 0;simpa using this
 have HF:=oH C;clear k j C hf hx Y J R hr;go_enter func156,ntmps156;go_wp2_with fail;refine HF.out.mono ?_;rintro e w' ⟨⟨k,rfl,hk⟩,rfl⟩;clear hk;go_wp2_with fail
 go_end0
 exact⟨rfl,rfl⟩
def de (l:List ByteArray):List Value:=l.map fun s=>Value.string s
theorem FV:(prog.info? 9).map (fun i=>(i.zero,i.size,i.bytes))=some (some (.string ⟨#[]⟩),1,16):=by kernel_rfl
theorem pY {S:Nat→Prop}{w:World}{base:Nat}{e:TypeId}{v:Value}{n:Nat}{l:List ByteArray}(h:w.ownsRow base e 1 v n (de l))(j:n=l.length)(o:l.length*16≤140737488355328)
 (C:∀g,v.ownBlock=some g→S g):gB S w v l:=by
 subst j;refine Sl.of_own h o C fun i x J=>⟨_,?_,rfl⟩;simp[de,J]
theorem jN (S:Nat→Prop)(v:Value)(l:List (ByteArray×Int))(w:World)(hv:kh S w v l)(hl:l.length≤6000000000000):
 Calls prog 157 #[v] w fun e w'=>∃u,e=.returned u∧aa All w w'∧gB (fun b=>w.heap.size≤b) w' u (l.map fun x=>x.1):=by
 obtain⟨iS,a6,a7,a8,b0⟩:=info_parts FV;have IS:=J4 a6 a7 a8 b0;clear a6 a7 a8 b0;have b1:=hv;obtain⟨A,cap,rfl,h1,h2,h3,_⟩:=hv;unfold maxLen at h2;have HV:=oH b1;clear b1;go_enter func157,ntmps157;go_wp2_with fail;go_loopg [2,7] l.length (fun g s2 s7 wr=>∃k:Nat,k≤l.length∧g=l.length-k∧s7=.int .i64 k∧aa All w wr∧wr.ownsRow w.heap.size 9 1 s2 k (de ((l.take k).map fun x=>x.1)));·exact⟨0,by omega,by omega,rfl,kR,⟨rfl,.inl ⟨rfl,rfl⟩⟩⟩
 obtain⟨k,hk,rfl,rfl,R,J⟩:=hrel;have HK:=oH R;have hB:=R.size;by_cases b2:k<l.length;·(
 obtain⟨x,hx⟩:=eG b2;obtain⟨bb,o,cs,rfl,_,_,Y,rfl,b5⟩:=aZ (aX.keep (S:=S) R.all HV.out) hx;have z0:=Y 0 _ rfl;rw[dj] at z0;have z1:=Y 1 _ rfl;have Z:((wr.alloc (.cells #[.string x.1,.int .i64 x.2] 93)).alloc (.cells #[.string x.1] 9)).ownsRow w.heap.size 9 1 u2 k (de ((l.take k).map fun x=>x.1)):=be J (((aa.refl All wr).alloc _).alloc _) (fun _ _=>trivial);obtain⟨C,c,rfl⟩:=aU J;have HX:=J2 hx J;clear hx J Y R;go_wp2_with (
  at_builtin;refine aR _ rfl (.tmp 11) (.tmp 14) 22 rfl w.heap.size 9 iS _ 1 16 underlying22 IS.1 IS.2.1 IS.2.2.1 IS.2.2.2 rfl (by decide) _ _ _ rfl Z (some ⟨wr.heap.size+1,0,none⟩) 1 1 [.string x.1] rfl rfl ?_ ?_ (by unfold maxLen;omega) (by omega) (by simp;omega) ?_;·intro _;exact⟨_,_,rfl,fun j u hu=>by rw[cN,al.cell (ac (by simp))];simpa using hu⟩
  ·intro u hu
   rw[cx.1 hu];rfl
  intro v2 w2 a1 b3 b4)
 go_roundg (l.length-(k+1))
 ·refine⟨k+1,by omega,rfl,by go_num,((HK.out.alloc _).alloc _).grown b3 fun g hg=>.inr (aD HX.2 hg).1,?_⟩;have e:de ((l.take (k+1)).map fun x=>x.1)=de ((l.take k).map fun x=>x.1)++[.string x.1]:=by rw[cU,HX.1];simp[de]
  rw[e];exact a1
 omega)
 obtain rfl:k=l.length:=by omega
 rw[dZ] at J;have hs:=pY J (l:=l.map fun x=>x.1) (by rw[ce]) (by rw[ce];omega) (S:=fun b=>w.heap.size≤b) fun g hg=>(aD J hg).1;have HS:=oH hs;clear hs J R;go_wp2_with fail;go_ret;exact⟨_,rfl,HK.out,HS.out⟩
end Go.Proofs.YtncdbjponknakaaGreatDoor
