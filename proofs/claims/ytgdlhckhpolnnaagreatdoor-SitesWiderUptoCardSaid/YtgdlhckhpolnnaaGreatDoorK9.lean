/- Part 10 of the proof (its last part says what is proved). No condition. -/
import Derived.Test.YtgdlhckhpolnnaaGreatDoorK8
namespace Go.Proofs.YtgdlhckhpolnnaaGreatDoor
set_option maxRecDepth 100000
set_option maxHeartbeats 8000000
open Go.RowKit Go.Proofs.Tryz
theorem xj (g n c:Nat)(t:TypeId)(cs:Array Value)(w:World)(hb:al w g t cs)(hn:n≤cs.size)(h1:1≤n)(h2:n≤4096)(_:n≤c)(a1:∀m,m<n→∃x:Int,cs[m]? =some (.int .u8 x)):
 Calls prog 259 #[.slice (some ⟨g,0,none⟩) n c] w fun e w'=>e=.returned (.tuple #[])∧aa (fun b=>b≠g) w w'∧∃I,al w' g t I∧∀m,m<n→I[m]? =cs[n-1-m]?:=by
 have HB:=oH hb;have HS:=oH a1;clear hb a1;have hl:n≤9223372036854775807:=by omega
 go_enter func259,ntmps259;go_wp2;go_loopg [2,3] n (fun gg i j wr=>∃(k:Nat) (I:Array Value),k≤n∧gg=n-k∧i=.int .i64 k∧j=.int .i64 ((n:Int)-1-k)∧aa (fun b=>b≠g) w wr∧al wr g t I∧lm n k cs I);·exact⟨0,cs,by omega,by omega,rfl,by go_num,kR,HB.out,rfl,fun m hm=>by rw[ae (by omega)]⟩
 obtain⟨k,I,hk,rfl,rfl,rfl,C,o,J⟩:=hrel;by_cases a6:k+k+1<n;·(
 have a7:I.size=cs.size:=J.1;obtain⟨x1,R⟩:=HS.out (n-1-k) (by omega);obtain⟨x2,hy⟩:=HS.out k (by omega);rw[←J.mid (by omega) (by omega)] at R;rw[←J.mid (by omega) (by omega)] at hy;have e:((n:Int)-1-k)=((n-1-k:Nat):Int):=by omega
 obtain⟨j,Y⟩:=eQ (n-1-k);rw[e,←Y];rw[←Y] at R;have c1:=o.cell j;have c2:=o.cell k;have f1:=o.free j;have f2:=o.free k;rw[R] at c1;rw[hy] at c2;have a8:k<j:=by omega
 have b0:j<n:=by omega
 have HT:=J6 o J R hy Y C;clear o J R hy C Y e;go_wp2_with fail
 go_region
 go_wp2;go_roundg (n-(k+1))
 ·obtain⟨o,J,R,hy,Y,C⟩:=HT.out;subst Y;refine⟨k+1,(I.setIfInBounds k (.int .u8 x1)).setIfInBounds (n-1-k) (.int .u8 x2),by omega,rfl,by go_num,by go_num,?_,?_,J.step a6 hn R hy⟩;·exact((C.setCell (.inl fun h=>h rfl) _).setCell (.inl fun h=>h rfl) _).drew
  exact((o.set k _).set (n-1-k) _).drew
 omega)
 go_wp2
 go_end0
 exact⟨rfl,C,I,o,fun m hm=>J.full (by omega) m hm⟩
theorem Mq:(prog.info? 5).map (fun i=>(i.zero,i.size,i.bytes))=some (some (.int .u8 0),1,1):=by kernel_rfl
theorem pu (a b:List UInt8):(⟨a.toArray⟩:ByteArray)++⟨b.toArray⟩=⟨(a++b).toArray⟩:=by apply ByteArray.ext;simp
def eX (l:List UInt8):List Value:=l.map fun x=>Value.int .u8 (x.toNat:Int)
def vQ (f u:Nat)(j:List UInt8):List UInt8:=if j≠[]∧u=0 then [] else Aw f u
theorem tE {f u:Nat}{o:List UInt8}(h:u≠0∨o=[]):vQ (f+1) u o=UInt8.ofNat (48+u%10)::vQ f (u/10) (o++[UInt8.ofNat (48+u%10)]):=by
 unfold vQ;rw[ae (by rintro⟨h1,C⟩;rcases h with h|h;exact h C;exact h1 h),Aw];by_cases j:u/10=0;·rw[ap j,ap ⟨by simp,j⟩]
 rw[ae j,ae fun h=>j h.2]
theorem Hj (n:Int)(hn:aV n)(w:World):Calls prog 232 #[.int .i64 n] w fun e w'=>e=.returned (.string ⟨(iK n).toArray⟩)∧aa All w w':=by
 obtain⟨iB,IB⟩:=iH Mq;have Y:=rZ hn;unfold aV at hn;go_enter func232,ntmps232;go_upto_if 9 with fail;go_cut [3,4] (fun s3 s4 wx=>s3=.int .u64 (n.natAbs:Int)∧s4=.string ⟨(if n<0 then [45] else []:List UInt8).toArray⟩∧w=wx)
 case first=>(
 by_cases h:n<0
 ·have d1:decide (n<0)=true:=by simpa using h
  obtain⟨m,hm⟩:=eR (IntKind.u64.wrap n);have e2:IntKind.u64.wrap (-m)=(n.natAbs:Int):=by rw[←hm];simp only[IntKind.wrap,IntKind.signed,IntKind.bits];simp;omega
  have HA:=oH (show(n.natAbs:Int)=n.natAbs from rfl);generalize (n.natAbs:Int)=k at*;clear Y hn;go_wp2_with fail;go_meet;exact⟨rfl,by rw[ap h],rfl⟩
 have d1:decide (n<0)=false:=by simpa using h
 have e2:IntKind.u64.wrap n=(n.natAbs:Int):=by simp only[IntKind.wrap,IntKind.signed,IntKind.bits];simp;omega
 clear Y;go_wp2_with fail;go_meet;exact⟨rfl,by rw[ae (by omega)],rfl⟩)
 obtain⟨rfl,rfl,rfl⟩:=hcut;obtain⟨sg,a6⟩:∃sg:List UInt8,(if n<0 then [45] else [])=sg:=⟨_,rfl⟩;rw[a6];have c7:sg.length≤1:=by rw[←a6];split<;>simp
 have HG:=oH a6;clear a6;go_wp2_with fail;go_loopg [3,5] 21 (fun g s3 s5 wr=>∃(f u:Nat) (o:List UInt8),g=f+1∧s3=.int .u64 u∧f+o.length=20∧u<10^f∧aa All w wr∧wr.ownsRow w.heap.size 5 1 s5 o.length (eX o)∧o++vQ f u o=Aw 20 n.natAbs);·exact⟨20,n.natAbs,[],by omega,rfl,rfl,Y,kR,⟨rfl,.inl ⟨rfl,rfl⟩⟩,by rw[vQ,ae (fun h=>h.1 rfl)];rfl⟩
 obtain⟨f,u,o,rfl,rfl,hf,hu,hk,I,a1⟩:=hrel;obtain⟨A,c,rfl⟩:=aU I;by_cases hc:u≠0∨o=[];·(
 obtain⟨f,rfl⟩:∃f',f=f'+1:=⟨f-1,by
  rcases Nat.eq_zero_or_pos f with h|h
  ·subst h;rcases hc with hc|hc;·simp at hu;omega
   subst hc;simp at hf
  omega⟩
 have c8:u<10^20:=Nat.lt_of_lt_of_le hu (Nat.pow_le_pow_right (by omega) (by omega));have HD:=oH a1;have HC:=oH hc;have HK:=oH hk;have hB:=hk.size;have C:(wr.alloc (.cells #[.int .u8 (48+(u:Int)%10)] 5)).ownsRow w.heap.size 5 1 (.slice A o.length c) o.length (eX o):=be I ((aa.refl All wr).alloc _) (fun _ _=>trivial);clear a1 hk;by_cases a7:u=0;·(
 have b3:o=[]:=hc.resolve_left (fun h=>h a7);clear hc;subst a7;subst b3;have C:(wr.alloc (.cells #[.int .u8 48] 5)).ownsRow w.heap.size 5 1 (.slice A 0 c) 0 (eX []):=C;go_wp2_with (
  at_builtin;refine aR _ rfl (.tmp 19) (.tmp 24) 313 rfl w.heap.size 5 iB _ 1 1 underlying313 IB.1 IB.2.1 IB.2.2.1 IB.2.2.2 rfl (by decide) _ _ _ rfl C (some ⟨wr.heap.size,0,none⟩) 1 1 [.int .u8 (48)] rfl rfl ?_ ?_ (by unfold maxLen;omega) (by omega) (by simp;omega) ?_;·intro _;exact⟨_,_,rfl,fun j u hu=>by rw[cN,al.cell (al.new _ _ _)];simpa using hu⟩
  ·intro u hu
   rw[cx.1 hu];rfl
  intro v2 w2 J b0 b4)
 go_roundg (f+1);·(
 have hp:=Nat.pow_succ 10 f;refine⟨f,0/10,[]++[UInt8.ofNat (48+0%10)],rfl,by go_num,by simp at hf⊢;omega,?_,(HK.out.alloc _).grown b0 fun g hg=>.inr (aD I hg).1,?_,?_⟩
 ·generalize 10^f=p at*
  omega
 ·have e:eX ([]++[UInt8.ofNat (48+0%10)])=eX []++[.int .u8 (48)]:=by unfold eX;rw[ic];simp only[List.map_cons,List.map_nil,nL];congr 3
  rw[e,iQ];exact J
 rw[jM,←HD.out,tE (.inr rfl)];rfl)
 omega)
 have hp:0<u:=by omega
 clear hc;go_wp2_with (
  at_builtin;refine aR _ rfl (.tmp 19) (.tmp 24) 313 rfl w.heap.size 5 iB _ 1 1 underlying313 IB.1 IB.2.1 IB.2.2.1 IB.2.2.2 rfl (by decide) _ _ _ rfl C (some ⟨wr.heap.size,0,none⟩) 1 1 [.int .u8 (48+(u:Int)%10)] rfl rfl ?_ ?_ (by unfold maxLen;omega) (by omega) (by simp;omega) ?_;·intro _;exact⟨_,_,rfl,fun j u hu=>by rw[cN,al.cell (al.new _ _ _)];simpa using hu⟩
  ·intro u hu
   rw[cx.1 hu];rfl
  intro v2 w2 J b0 b4)
 go_roundg (f+1);·(
 have hp:=Nat.pow_succ 10 f;refine⟨f,u/10,o++[UInt8.ofNat (48+u%10)],rfl,by go_num,by simp;omega,?_,(HK.out.alloc _).grown b0 fun g hg=>.inr (aD I hg).1,?_,?_⟩
 ·generalize 10^f=p at*
  omega
 ·have e:eX (o++[UInt8.ofNat (48+u%10)])=eX o++[.int .u8 (48+(u:Int)%10)]:=by unfold eX;rw[ic];simp only[List.map_cons,List.map_nil,nL];congr 3
  rw[e,iQ];exact J
 rw[jM,←HD.out,tE HC.out];rfl)
 omega)
 have a7:u=0:=Classical.byContradiction fun h=>hc (.inl h);have b1:o≠[]:=fun h=>hc (.inr h);subst a7;have c0:o.length≠0:=fun h=>b1 (oD h);have t1:((o.length:Int)==0)=false:=by rw[bE];omega
 have d7:0<o.length:=by omega
 rw[vQ,ap ⟨b1,rfl⟩,List.append_nil] at a1;obtain⟨_,⟨h,_⟩|⟨g,cap,cur,hv,hg,hh,b5,c9,d8,c1⟩⟩:=I;·injection h with _ h;omega
 injection hv with c4 d9 c5;subst c4;subst c5;have R:∀m,m<o.length→cur[m]? =some (.int .u8 ((o.getD m 0).toNat:Int)):=by(
 intro m hm;have h1:(cur.toList.take (o.length*1))[m]? =(eX o)[m]?:=by rw[c1]
 rw[rY (by omega)] at h1;rw[←Array.getElem?_toList,h1];simp[eX,hm])
 have b6:o.length≤cur.size:=by omega
 have a8:=xj g o.length c 5 cur wr hh b6 (by omega) (by omega) b5 (fun m hm=>⟨_,R m hm⟩);have HR:=J4 a8 hk a1 R;clear a8 hk a1 R hh hc b1 c0;go_wp2_with fail;refine HR.1.mono ?_;rintro e w2 ⟨rfl,b7,e0,b8,b9⟩;have b2:=run_convert_bytes_back (P:=prog) w2 313 9 5 ⟨g,0,none⟩ c o.reverse underlying313 underlying5 underlying9 (fun j hj=>by
  rw[List.length_reverse] at hj;have:(⟨g,0,none⟩:Addr).add j=⟨g,j,none⟩:=by unfold Addr.add;split<;>simp_all
  rw[this,b8.cell,b9 j hj,HR.2.2.2 (o.length-1-j) (by omega)];rw[List.getElem_reverse];rw[iG,lG (by omega),Option.getD_some])
 rw[List.length_reverse] at b2;have H2:=oH b7;clear b7 b8 b9;go_wp2_with fail;go_ret;have c6:aa All w w2:=by have h1:=H2.out;have h0:=HR.2.1;refine⟨h1.os.trans h0.os,h1.output.trans h0.output,fR h0.size h1.size,fun b hb _=>?_⟩;rw[h1.block b (by have:=h0.size;omega) (fun e=>by subst e;omega)];exact h0.block b hb trivial
 refine⟨?_,c6⟩;have e:iK n=sg++o.reverse:=by unfold iK kK;rw[HG.out,HR.2.2.1]
 rw[e,←pu];rfl
theorem ez (c:UInt8)(n:Int)(o:aV n)(w:World):Calls prog 204 #[.string ⟨#[c]⟩,.int .i64 n] w fun e w'=>e=.returned (.string (aL c n))∧aa All w w':=by have C:=fun w=>Hj n o w;have hl:=vV n;have I:=oH (show(⟨[c].toArray⟩:ByteArray)++⟨(iK n).toArray⟩=aL c n from pu _ _);generalize iK n=l at*;go_enter func204,ntmps204;go_wp2_with (go_at_call 232;refine(C _).mono ?_;rintro e J ⟨rfl,j⟩;have H1:=oH j;clear j);go_ret;exact⟨by rw[←I.out];rfl,H1.out⟩
theorem uq (j o C:Addr)(w:World):
 CallsD prog 47 #[.pointer (some j),.pointer (some o),.pointer (some C)] .returning w fun e I w'=>e=.returned (.tuple #[])∧I=.returning∧w'=w:=by
 refine callsD_of_wpS func47 rfl fun J cs hu=>?_;apply wpS_seq;apply wpS_region;simp[wpOpsS,go_sem,recoverD,hu,ntmps47,Exit.thenS];apply wpS_seq;apply wpS_region;simp[wpOpsS,go_sem,Exit.thenS];refine wpS_cond (t:=false) (by simp[Act.eval,Array.replicate]) ?_;simp only[jL,if_false];refine wpS_of_wp (wp_skip ?_);cases J;simp_all [bodyPostS,results,Tryz.results47]
theorem ur (j o C:Nat)(a n:Int)(v1 v2:Value)(m x5 x6:Int)(I:List PanicEntry)(w:World)(h4:al w j 30 #[v1,v2,.int .i64 m])(h5:al w o 3 #[.int .i64 x5])(h6:al w C 33 #[.int .i64 x6]):
 CallsD prog 47 #[.pointer (some ⟨j,0,none⟩),.pointer (some ⟨o,0,none⟩),.pointer (some ⟨C,0,none⟩)] (.panicking ({v:=.iface 116 (.agg #[.int .i64 a,.int .i64 n]),recovered:=false}::I)) w fun e u' w'=>e=.returned (.tuple #[])∧u'=.panicking ({v:=.iface 116 (.agg #[.int .i64 a,.int .i64 n]),recovered:=true}::I)∧
  aa (fun b=>b≠j∧b≠o∧b≠C) w w'∧al w' j 30 #[.slice none 0 0,.slice none 0 0,.int .i64 0]∧al w' o 3 #[.int .i64 a]∧al w' C 33 #[.int .i64 n]:=by
 refine callsD_of_wpS func47 rfl fun c₀ cs hu=>?_;apply wpS_seq;apply wpS_region;simp[wpOpsS,go_sem,recoverD,hu,ntmps47,Exit.thenS];apply wpS_seq;apply wpS_region;simp[wpOpsS,go_sem,Exit.thenS];refine wpS_cond (t:=true) (by simp[Act.eval,Array.replicate]) ?_;simp only[if_true];simp only[show Array.replicate 19 undef= #[undef,undef,undef,undef,undef,undef,undef,undef,undef,undef,undef,undef,undef,undef,undef,undef,undef,undef,undef] from rfl,List.setIfInBounds_toArray,List.set_cons_zero,List.set_cons_succ,List.append_toArray,List.cons_append,mF];refine wpS_of_wp ?_;have b1:(Instr.typeAssert (.iface 116 (.agg #[.int .i64 a,.int .i64 n])) 20 116 true).run prog w=.ok (.tuple #[.agg #[.int .i64 a,.int .i64 n],.bool true]) w:=by kernel_rfl
 go_upto_region 5 with fail;obtain⟨W1,J⟩:=eQ (w.alloc (.cells #[.int .i64 a,.int .i64 n] 116));rw[←J];have g4:=h4.alloc (.cells #[.int .i64 a,.int .i64 n] 116);have g5:=h5.alloc (.cells #[.int .i64 a,.int .i64 n] 116);have g6:=h6.alloc (.cells #[.int .i64 a,.int .i64 n] 116);rw[←J] at g4 g5 g6;have gs:=yv J;have a1:=yf J;have a6:j≠o:=fun e=>al.ne h4 h5 (by decide) e;have a7:j≠C:=fun e=>al.ne h4 h6 (by decide) e;have a8:o≠C:=fun e=>al.ne h5 h6 (by decide) e;have m4:j≠w.heap.size:=by have:=h4.lt;omega
 have m5:o≠w.heap.size:=by have:=h5.lt;omega
 have m6:C≠w.heap.size:=by have:=h6.lt;omega
 have R:=a6.symm;have Y:=a7.symm;have b0:=a8.symm;have r4:=m4.symm;have r5:=m5.symm;have r6:=m6.symm;have q0:=g4.cl 0;have q1:=g4.cl 1;have q2:=g4.cl 2;have q5:=g5.cl 0;have q6:=g6.cl 0;have s0:=gs.cl 0;have s1:=gs.cl 1;have f0:=g4.free 0;have f1:=g4.free 1;have f2:=g4.free 2;have f5:=g5.free 0;have f6:=g6.free 0;have HG:=J4 g4 g5 g6 a1;clear g4 g5 g6 gs a1 J
 go_region
 all_goals go_wp2_with fail
 have e4:=(((((HG.1.set 0 (.slice none 0 0)).set 1 (.slice none 0 0)).set 2 (.int .i64 0)).far (p:=⟨o,0,none⟩) a6 (.int .i64 a)).far (p:=⟨C,0,none⟩) a7 (.int .i64 n)).drew;have e5:=(((((HG.2.1.far (p:=⟨j,0,none⟩) R (.slice none 0 0)).far (p:=⟨j,1,none⟩) R (.slice none 0 0)).far (p:=⟨j,2,none⟩) R (.int .i64 0)).set 0 (.int .i64 a)).far (p:=⟨C,0,none⟩) a8 (.int .i64 n)).drew;have e6:=(((((HG.2.2.1.far (p:=⟨j,0,none⟩) Y (.slice none 0 0)).far (p:=⟨j,1,none⟩) Y (.slice none 0 0)).far (p:=⟨j,2,none⟩) Y (.int .i64 0)).far (p:=⟨o,0,none⟩) b0 (.int .i64 a)).set 0 (.int .i64 n)).drew;have ek:=((((((HG.2.2.2.mono fun b (_:¬b=j∧¬b=o∧¬b=C)=>trivial).setCell (p:=⟨j,0,none⟩) (.inl fun h=>h.1 rfl) (.slice none 0 0)).setCell (p:=⟨j,1,none⟩) (.inl fun h=>h.1 rfl) (.slice none 0 0)).setCell (p:=⟨j,2,none⟩) (.inl fun h=>h.1 rfl) (.int .i64 0)).setCell (p:=⟨o,0,none⟩) (.inl fun h=>h.2.1 rfl) (.int .i64 a)).setCell (p:=⟨C,0,none⟩) (.inl fun h=>h.2.2 rfl) (.int .i64 n)).drew;simp only[ga] at e4 e5 e6;generalize (((((W1.setCell _ _).setCell _ _).setCell _ _).setCell _ _).setCell _ _).drew=W2 at*;simp[bodyPostS,results,Tryz.results47,e4,e5,e6,ek]
section
attribute [local go_sem] LK LL ms wL pD
end
section
attribute [local go_sem] lh qb xr ju nA nE nB nC Ku ms rq nD wL pD
attribute [local go_sem] pm lU jt mU List.getElem?_toArray List.getElem?_cons_zero
end

section
theorem JX (n:Nat)(h:n<256):IntKind.u8.wrap (n:Int)=n:=by simp[IntKind.wrap,IntKind.bits,IntKind.signed];omega
section
variable {P:Program} {w:World} (t:TypeId) (x:UInt8)
theorem ww (m:Nat)(hm:m<256):(binOp .and t (.int .u8 (x.toNat:Int)) (.int .u8 (m:Int))).run P w=.ok (.int .u8 ((x.toNat&&&m:Nat):Int)) w:=by
 show Result.ok (Value.int .u8 (IntKind.u8.wrap ((BitVec.ofInt 8 (x.toNat:Int)&&&BitVec.ofInt 8 (m:Int)).toNat:Int))) w=_;have j:=x.toNat_lt;have e:(BitVec.ofInt 8 (x.toNat:Int)&&&BitVec.ofInt 8 (m:Int)).toNat=x.toNat&&&m:=by rw[BitVec.toNat_and,BitVec.toNat_ofInt,BitVec.toNat_ofInt];congr 1<;>omega
 rw[e,JX _ (Nat.lt_of_le_of_lt Nat.and_le_left j)]
theorem Kh:(binOp .and t (.int .u8 (x.toNat:Int)) (.int .u8 31)).run P w=.ok (.int .u8 ((x.toNat%32:Nat):Int)) w:=by rw[←Nat.and_two_pow_sub_one_eq_mod x.toNat 5];exact ww t x 31 (by decide)
theorem Ki:(binOp .and t (.int .u8 (x.toNat:Int)) (.int .u8 63)).run P w=.ok (.int .u8 ((x.toNat%64:Nat):Int)) w:=by rw[←Nat.and_two_pow_sub_one_eq_mod x.toNat 6];exact ww t x 63 (by decide)
theorem Kg:(binOp .and t (.int .u8 (x.toNat:Int)) (.int .u8 15)).run P w=.ok (.int .u8 ((x.toNat%16:Nat):Int)) w:=by rw[←Nat.and_two_pow_sub_one_eq_mod x.toNat 4];exact ww t x 15 (by decide)
theorem Me:(binOp .and t (.int .u8 (x.toNat:Int)) (.int .u8 7)).run P w=.ok (.int .u8 ((x.toNat%8:Nat):Int)) w:=by rw[←Nat.and_two_pow_sub_one_eq_mod x.toNat 3];exact ww t x 7 (by decide)
end
attribute [local go_sem] Kh Ki Kg Me
end
section
attribute [local go_sem] Kh Ki Kg Me
end






section
open Go
def gd (B b:Bool):Bool:=B==b
def gan (W X:Bool):Bool:=W&&X
def gv (W:Bool)(v:Value):Value:=if W=true then v else undef
theorem ZQ {W:Bool}(h:W=true)(v:Value):gv W v=v:=by unfold gv;rw[ap h]
section
variable {P:Program} {ops:Array Oper} {Q:Exit→Act→World→Prop} {a a':Act} {w:World} {rest:List Oper} {o:Oper} {v:Value} {j d c x:Nat} {B b u z W G:Bool}
theorem wpG (hw:Region.wanted o (yielded ops a.tmps)=W)(h:W=true→(execOp a.eval o).run P w=.ok (.value v) w)(I:a.put o.dst (gv W v)=a')(C:wpList P ops Q rest a' w):wpList P ops Q (o::rest) a w:=by
 subst I;unfold wpList;cases W;·rw[ae (by rw[hw];exact oG)];exact C
 rw[ap hw];left;unfold Oper.wp;rw[h rfl];exact C
theorem ZW (C:o.guard=some (j,b))(I:((ops[j]?).bind (·.dst))=some d)(J:a.tmps[d]? =some (.bool B)):Region.wanted o (yielded ops a.tmps)=gd B b:=by unfold Region.wanted yielded;rw[C];simp only[I,Option.bind_some,J];unfold gd;cases B<;>cases b<;>rfl
theorem ZX (C:o.guard=some (j,b))(I:((ops[j]?).bind (·.dst))=some d)(J:a.tmps[d]? =some (gv W (.bool B))):Region.wanted o (yielded ops a.tmps)=gan W (gd B b):=by unfold Region.wanted yielded;rw[C];simp only[I,Option.bind_some,J];unfold gan gd gv;cases W<;>cases B<;>cases b<;>rfl
theorem g0 (C:wpList P ops Q rest a' w)(I:o.guard=none:=by rfl)(h:(execOp a.eval o).run P w=.ok (.value v) w:=by go_simp<;>with_reducible rfl)(J:a.put o.dst v=a':=by(conv=>lhs;simp only[PS])):wpList P ops Q (o::rest) a w:=
 wpG (W:=true) (by unfold Region.wanted;rw[I]) (fun _=>h) (by rw[ZQ rfl];exact J) C
theorem g1 (C:wpList P ops Q rest a' w)(I:o.guard=some (j,b):=by rfl)(J:((ops[j]?).bind (·.dst))=some d:=by rfl)(R:a.tmps[d]? =some (.bool B):=by rfl)
 (h:(∀v,gv (gd B b) v=v)→(execOp a.eval o).run P w=.ok (.value v) w:=by intro hG;go_simp<;>with_reducible rfl) (Y:a.put o.dst (gv (gd B b) v)=a':=by(conv=>lhs;simp only[PS])):wpList P ops Q (o::rest) a w:=
 wpG (ZW I J R) (fun hW=>h (ZQ hW)) Y C
theorem g2 (I:wpList P ops Q rest a' w)(J:o.guard=some (j,b):=by rfl)(R:((ops[j]?).bind (·.dst))=some d:=by rfl)(Y:a.tmps[d]? =some (gv W (.bool B)):=by rfl)
 (h:(∀v,gv W v=v)→(∀v,gv (gan W (gd B b)) v=v)→(execOp a.eval o).run P w=.ok (.value v) w:=by intro hG hH;go_simp<;>with_reducible rfl) (hp:a.put o.dst (gv (gan W (gd B b)) v)=a':=by(conv=>lhs;simp only[PS])):wpList P ops Q (o::rest) a w:=
 wpG (ZX J R Y) (fun C=>h (ZQ (by unfold gan at C;exact(gE _ _▸C).1)) (ZQ C)) hp I
theorem ZV (I:o.op=.pick (.tmp c) (.const (.bool true)) (.tmp x))(J:G=true)(R:a.tmps[c]? =some (gv G (.bool u)))(Y:a.tmps[x]? =some (gv (gan G (gd u false)) (.bool z))):(execOp a.eval o).run P w=.ok (.value (.bool (u||z))) w:=by
 subst J;unfold execOp;rw[I];have C:a.tmps[c]? =some (.bool u):=by rw[R,ZQ rfl]
 cases u
 ·have e2:a.tmps[x]? =some (.bool z):=by rw[Y,ZQ (by rfl)]
  simp[go_sem,C,e2]
 simp[go_sem,C]
theorem gp (C:wpList P ops Q rest a' w)(I:o.guard=none:=by rfl)(J:o.op=.pick (.tmp c) (.const (.bool true)) (.tmp x):=by rfl)(R:a.tmps[c]? =some (.bool u):=by rfl)(Y:a.tmps[x]? =some (gv (gd u false) (.bool z)):=by rfl)(hp:a.put o.dst (.bool (u||z))=a':=by(conv=>lhs;simp only[PS])):wpList P ops Q (o::rest) a w:=
 g0 C I (ZV J rfl (by rw[ZQ rfl];exact R) (by unfold gan;rw[Bool.true_and];exact Y)) hp
end
end
def jg (E:Nat→Nat→Prop)(i:Nat)(s:List Nat):Prop:=∀(k:Nat) x,s[k]? =some x→(∃m y,k<m∧s[m]? =some y∧E y x)∨E i x
theorem GG (E:Nat→Nat→Prop)(i:Nat):jg E i []:=fun k x h=>by simp at h
theorem GF {E:Nat→Nat→Prop}{i c:Nat}{s I:List Nat}(h:jg E i s)(J:jg E c I)(he:E i c):jg E i (s++(I++[c])):=by
 intro k x j;by_cases h1:k<s.length
 ·rw[ma h1] at j;rcases h k x j with ⟨m,y,hm,hy,o⟩|o
  ·have C:=(lS.1 hy).1
   exact .inl ⟨m,y,hm,by rw[ma C];exact hy,o⟩
  exact .inr o
 rw[kH (by omega)] at j;by_cases R:k-s.length<I.length
 ·rw[ma R] at j;rcases J _ x j with ⟨m,y,hm,hy,o⟩|o
  ·have C:=(lS.1 hy).1
   refine .inl ⟨s.length+m,y,by omega,?_,o⟩;rw[kH (by omega),Nat.add_sub_cancel_left,ma C];exact hy
  refine .inl ⟨s.length+I.length,c,by omega,?_,o⟩;rw[kH (by omega),Nat.add_sub_cancel_left,kH (cf _),Nat.sub_self];rfl
 rw[kH (by omega)] at j;have Y:k-s.length-I.length=0:=by have:=(lS.1 j).1;simp at this;omega
 rw[Y] at j;cases j;exact .inr he
theorem Dw {l:List Nat}(h:l.Nodup){i j:Nat}{x:Nat}(hi:l[i]? =some x)(R:l[j]? =some x):i=j:=by
 obtain⟨h1,o⟩:=lS.1 hi;obtain⟨C,I⟩:=lS.1 R;have J:=List.pairwise_iff_getElem.1 (List.nodup_iff_pairwise_ne.1 h);rcases Nat.lt_trichotomy i j with h|h|h;·exact absurd (by rw[o,I]) (J i j h1 C h)
 ·exact h
 exact absurd (by rw[o,I]) (J j i C h1 h)
theorem Lb {l:List Nat}(h:l.Nodup){i x:Nat}(hi:l[i]? =some x):l.idxOf x=i:=by
 have o:x∈l:=mG hi;have j:l.idxOf x<l.length:=List.idxOf_lt_length_iff.2 o;have:l[l.idxOf x]? =some x:=by rw[lG j,List.getElem_idxOf]
 exact Dw h this hi
theorem Dn {l:List Nat}{n:Nat}(h:l.Nodup)(hm:∀x,x∈l↔x<n):l.length=n:=by
 have:l.Perm (List.range n):=(List.perm_ext_iff_of_nodup h List.nodup_range).2 fun x=>by rw[hm,fg]
 simpa using this.length_eq
theorem Lu {E:Nat→Nat→Prop}{n:Nat}{s:List Nat}(hE:∀a b,E a b→a<n∧b<n)(h:jg E 0 s)(hn:(s++[0]).Nodup)(hm:∀x,x∈s++[0]↔x<n):
 zJ E n (fun x=>(s++[0]).reverse.idxOf x)∧(s++[0]).reverse.length=n∧(s++[0]).reverse[0]? =some 0∧∀(m:Nat) x,(s++[0]).reverse[m]? =some x→(s++[0]).reverse.idxOf x=m:=by
 have hr:(s++[0]).reverse.Nodup:=by rw[List.nodup_iff_pairwise_ne,List.pairwise_reverse];exact(List.nodup_iff_pairwise_ne.1 hn).imp fun h=>h.symm
 have hlen:=Dn hn hm;have o:∀(m:Nat) x,(s++[0]).reverse[m]? =some x→(s++[0]).reverse.idxOf x=m:=fun m x h=>Lb hr h;have Y:(s++[0]).reverse[0]? =some 0:=by simp
 have J:∀x,x<n→∃m,(s++[0]).reverse[m]? =some x:=fun x hx=>cY.1 (List.mem_reverse.2 ((hm x).2 hx));have R:(s++[0]).reverse.length=n:=by rw[List.length_reverse];exact hlen
 refine⟨⟨?_,o 0 0 Y,fun a b ha hb e=>?_,fun a ha=>?_,hE,fun k hk a1=>?_⟩,R,Y,o⟩;·rw[←hlen];simp
 ·obtain⟨i,hi⟩:=J a ha;obtain⟨j,I⟩:=J b hb;simp only[o i a hi,o j b I] at e;subst e;rw[hi] at I;exact kJ I
 ·rw[←R]
  exact List.idxOf_lt_length_iff.2 (List.mem_reverse.2 ((hm a).2 ha))
 have a6:k∈s:=by
  have:=(hm k).2 hk;rcases eD.1 this with h|h;·exact h
  exact absurd (cx.1 h) a1
 have C:∀j y,s[j]? =some y→(s++[0]).reverse.idxOf y=s.length-j:=by(
 intro j y hy;have I:=(lS.1 hy).1;refine o _ y ?_;rw[List.getElem?_reverse (by simp;omega)];have e:(s++[0]).length-1-(s.length-j)=j:=by simp;omega
 rw[e,ma I];exact hy)
 obtain⟨j,I⟩:=cY.1 a6;have a7:=(lS.1 I).1;rcases h j k I with ⟨m,y,a8,hy,he⟩|he
 ·refine⟨y,he,?_⟩
  have b0:=(lS.1 hy).1;simp only[C j k I,C m y hy];omega
 refine⟨0,he,?_⟩;simp only[C j k I,o 0 0 Y];omega
def lA (s:Nat→Int)(l:List Nat)(v:Int):Prop:=
 (v= -1∧∀p∈l,¬my s p)∨∃c:Nat,v=c∧(∃p∈l,my s p)∧∀x,ig s c x↔∀p∈l,my s p→ig s p x
theorem Dv (s:Nat→Int):lA s [] (-1):=.inl ⟨rfl,fun p j=>by cases j⟩
theorem AG {s:Nat→Int}{l:List Nat}{v:Int}{p:Nat}(h:lA s l v)(C:¬my s p):lA s (l++[p]) v:=by
 rcases h with ⟨rfl,h⟩|⟨c,rfl,⟨q,j,o⟩,h⟩
 ·refine .inl ⟨rfl,fun q j=>?_⟩
  rcases eD.1 j with j|j;·exact h q j
  rw[cx.1 j];exact C
 refine .inr ⟨c,rfl,⟨q,eD.2 (.inl j),o⟩,fun x=>(h x).trans ⟨fun g q j o=>?_,fun g q j=>g q (eD.2 (.inl j))⟩⟩;rcases eD.1 j with j|j;·exact g q j o
 rw[cx.1 j] at o;exact absurd o C
theorem rd {s:Nat→Int}{l:List Nat}{v:Int}{p:Nat}(h:lA s l v)(I:v<0)(C:my s p):lA s (l++[p]) p:=by
 rcases h with ⟨rfl,h⟩|⟨c,rfl,_⟩
 ·refine .inr ⟨p,rfl,⟨p,eD.2 (.inr (cx.2 rfl)),C⟩,fun x=>⟨fun g q j o=>?_,fun g=>g p (eD.2 (.inr (cx.2 rfl))) C⟩⟩
  rcases eD.1 j with j|j;·exact absurd o (h q j)
  rw[cx.1 j];exact g
 omega
theorem sY {s:Nat→Int}{l:List Nat}{c m:Nat}{p:Nat}(h:lA s l c)(C:my s p)(hm:∀x,ig s m x↔ig s c x∧ig s p x):lA s (l++[p]) m:=by
 rcases h with ⟨h,_⟩|⟨I,e,_,h⟩;·omega
 have e:=Int.ofNat.inj e;subst e;refine .inr ⟨m,rfl,⟨p,eD.2 (.inr (cx.2 rfl)),C⟩,fun x=>(hm x).trans ⟨fun⟨g1,g2⟩ q j o=>?_,fun g=>⟨(h x).2 fun q j o=>g q (eD.2 (.inl j)) o,g p (eD.2 (.inr (cx.2 rfl))) C⟩⟩⟩;rcases eD.1 j with j|j;·exact(h x).1 g1 q j o
 rw[cx.1 j];exact g2
theorem Dt {E:Nat→Nat→Prop}{s:Nat→Int}{l:List Nat}{v:Int}{k:Nat}(h:lA s l v)(hl:∀p,p∈l↔E p k)(o:∃p,E p k∧my s p):Io E s k v:=by
 rcases h with ⟨_,h⟩|⟨c,rfl,_,h⟩
 ·obtain⟨p,he,j⟩:=o
  exact absurd j (h p ((hl p).2 he))
 exact⟨c,rfl,fun x=>(h x).trans ⟨fun g p j=>g p ((hl p).2 j),fun g p j=>g p ((hl p).1 j)⟩⟩
theorem AF {n:Nat}{pl:Nat→Nat}{s:Nat→Int}{l:List Nat}{c:Nat}(G:fU n pl s)(hl:∀p∈l,p<n)(h:lA s l c):c<n∧my s c:=by
 rcases h with ⟨h,_⟩|⟨C,e,⟨p,j,o⟩,h⟩;·omega
 have e:=Int.ofNat.inj e;subst e;have:=(h c).1 (.refl _) p j o;exact⟨(oL G (hl p j) this).1,BL G (hl p j) o this⟩
theorem Du {s:Nat→Int}{l:List Nat}{v:Int}(h:lA s l v):v= -1∨∃c:Nat,v=c:=by
 rcases h with ⟨h,_⟩|⟨c,h,_⟩;·exact .inl h
 exact .inr ⟨c,h⟩
def kp (t:Nat→Int):Nat→Nat→List Nat
 |0,j=>[j]
 |f+1,j=>j::if t j<0 then [] else kp t f (t j).toNat
theorem uL (t:Nat→Int):∀(f j:Nat),(kp t f j).length≤f+1
 |0,_=>by simp[kp]
 |f+1,j=>by rw[kp];have:=uL t f (t j).toNat;split<;>simp<;>omega
theorem uM {n:Nat}{pl:Nat→Nat}{t:Nat→Int}(G:fU n pl t)(x:Nat):∀(f j:Nat),j<n→pl j≤f→(x∈kp t f j↔ig t j x):=by
 intro f;induction f with
 |zero=>
  intro j o I;have Y:t j<0:=by refine Classical.byContradiction fun h=>?_;obtain⟨p,_,_,C,_⟩:=G.low j o (by omega);omega
  rw[kp,cx];constructor;·rintro rfl;exact .refl _
  intro h;cases h with
  |refl=>rfl
  |up e _=>omega
 |succ f J=>
  intro j o I;rw[kp,fX];by_cases h:t j<0;·(
 rw[ap h];constructor
 ·rintro(rfl|h)
  ·exact .refl _
  cases h
 intro h';cases h' with
 |refl=>exact .inl rfl
 |up e _=>omega)
  obtain⟨p,e,R,C,_⟩:=G.low j o (by omega);rw[ae h,e,dP,J p R (by omega)];constructor
  ·rintro(rfl|h);·exact .refl _
   exact .up e h
  intro h';rcases oM G o e h' with h|h;·exact .inl h
  exact .inr h
theorem qfC (n:Nat)(R:n≤1048576)(w:World):(Instr.makeSlice 142 (.int .i64 n) (.int .i64 n)).run prog w=.ok (.slice (some ⟨w.heap.size,0,none⟩) n n) (w.alloc (.cells (dM n fun _=>.slice none 0 0) 54)):=by
 obtain⟨i28,hi,C,I,J⟩:=info_parts qhY;rw[run_make (P:=prog) w 142 54 i28 (.slice none 0 0) underlying142 hi C .i64 .i64 n n (by omega) (by omega) (by rw[J];omega) (by omega)];have e:madeCells (Value.slice none 0 0).cells ((n:Int).toNat*i28.size)=dM n fun _=>.slice none 0 0:=by(
 rw[I,dP,Nat.mul_one];apply Array.ext_getElem?;intro j;by_cases o:j<n;·rw[cq o];simp[madeCells,o,Value.cells,Nat.mod_one]
 rw[jK (by rw[size_madeCells];omega),jK (by rw[ew];omega)])
 rw[e,dP]
structure ii (N B g:Nat)(w:World)(F:Nat→Value)(R:Nat→List Int):Prop where
 tab:al w g 54 (dM N F)
 low:g<B
 own:∀k,k<N→w.ownsRow B 3 1 (F k) (R k).length (aI (R k))
 apart:∀k k' b,k<N→k'<N→k≠k'→(F k).ownBlock=some b→(F k').ownBlock≠some b
theorem ii.step {N B g k:Nat}{w w2:World}{F:Nat→Value}{R R':Nat→List Int}{v2:Value}{o:Obj}{x:Int}(h:ii N B g w F R)(hk:k<N)(Y:w2.ownsRow B 3 1 v2 ((R k).length+1) (aI (R k)++[.int .i64 x]))
 (hg:(w.alloc o).grownBy w2 (F k).ownBlock) (a6:v2.ownBlock=(F k).ownBlock∨v2.ownBlock=some (w.alloc o).heap.size) (hR:R' k=R k++[x]) (b0:∀j,j≠k→R' j=R j):
 ii N B g (w2.setCell ⟨g,k,none⟩ v2) (qd F k v2) R':=by
 have a7:=h.low;have a8:aa (fun b=>(F k).ownBlock≠some b) w w2:=((aa.refl _ w).alloc o).grown hg fun b C=>.inl fun h=>h C;have a1:aa (fun b=>b≠g) w2 (w2.setCell ⟨g,k,none⟩ v2):=(aa.refl _ w2).setCell (p:=⟨g,k,none⟩) (.inl fun h=>h rfl) _;refine⟨?_,a7,fun j hj=>?_,fun j j' b hj I J C=>?_⟩
 ·rw[←jo]
  exact(h.tab.kept a8 (fun e=>by have:=(aD (h.own k hk) e).1;omega)).set _ _
 ·by_cases e:j=k
  ·subst e
   rw[jd,hR];have:=be Y a1 fun b C=>by have:=(aD Y C).1;show b≠g;omega
   simpa [aI] using this
  rw[li e,b0 j e];have h1:=h.own j hj;refine be (be h1 a8 fun b C=>h.apart j k b hj hk e C) a1 fun b C=>?_;have:=(aD h1 C).1;show b≠g;omega
 by_cases e:j=k
 ·subst e;rw[jd] at C;rw[li (fun x=>J x.symm)];rcases a6 with h1|h1;·rw[h1] at C;exact h.apart j j' b hj I J C
  rw[h1] at C;intro h2;have:=(aD (h.own j' I) h2).2;simp at C;omega
 rw[li e] at C;by_cases e':j'=k
 ·subst e';rw[jd];rcases a6 with h1|h1;·rw[h1];exact h.apart j j' b hj I J C
  rw[h1];intro h2;have:=(aD (h.own j hj) C).2;simp at h2;omega
 rw[li e'];exact h.apart j j' b hj I J C
theorem sd (S:Nat→Prop)(v:Value)(ll:List (List Int))(w:World)(hv:Rows S w v ll)(hR:aP ll):
 Calls prog 106 #[v] w fun e w'=>∃u,e=.returned u∧aa All w w'∧Rows (fun b=>w.heap.size≤b) w' u ((List.range ll.length).map (di ll ll.length)):=by
 have Y:=gt S v ll w hv;rw[bL hR] at Y;have hl:ll.length≤256:=hR.2.1;have d8:=hv;obtain⟨A,cap,rfl,h1,h2,e8,h⟩:=hv;obtain⟨i3,I3⟩:=iH yw;have HR:=J3 Y hR d8;clear Y hR d8 h h1 h2 e8;have h6:=fun w=>qfC ll.length (by omega) w;go_enter func106,ntmps106;go_wp2_with fail;refine HR.1.mono ?_;rintro e R ⟨rfl,d9⟩;have HK:=oH d9;clear d9;go_wp2_with fail;go_loopg [17] ll.length (fun g i wr=>∃(i':Nat) (F:Nat→Value),i'≤ll.length∧g=ll.length-i'∧i=.int .i64 i'∧aa All R wr∧R.heap.size<wr.heap.size∧ii ll.length (R.heap.size+1) R.heap.size wr F (fun k=>di ll i' k))
 case atStart=>refine⟨0,fun _=>.slice none 0 0,by omega,by omega,rfl,kR.alloc _,by simp,al.new _ _ _,by omega,fun k hk=>⟨rfl,.inl ⟨rfl,rfl⟩⟩,fun k k' b _ _ _ h=>by cases h⟩
 obtain⟨i,F,hi,rfl,rfl,o,b8,C⟩:=hrel;have HT:=J2 o C;clear o C;by_cases e9:i<ll.length;·(
 obtain⟨row,b9⟩:=eG e9;have b4:eV ll.length row:=HR.2.1.2.2 row (mG b9);have h7:=du b4;obtain⟨A',cc,h0,_,_,_,b0⟩:=HR.2.2;cases h0;obtain⟨b1,o1,c1,rfl,h8,e0,A3,c3,rfl,r1,r2,_,rh⟩:=b0 i row b9;have e1:=(HK.out.trans HT.1).cell (p:=⟨b1,o1+i,none⟩) trivial e0;have b3:=J3 b9 b4 rh;clear b9 b4 rh e0 b0 r1 r2;go_wp2_with fail;clear e1;obtain⟨wo,rfl⟩:=eQ wr;go_loopg [24] row.length (fun g m wr=>∃(m':Nat) (F:Nat→Value),m'≤row.length∧g=row.length-m'∧m=.int .i64 m'∧aa All R wr∧R.heap.size<wr.heap.size∧ii ll.length (R.heap.size+1) R.heap.size wr F (fun k=>gS ll row i m' k));·exact⟨0,F,by omega,by omega,rfl,HT.1,b8,by simpa only[GM] using HT.2⟩
 clear HT b8;obtain⟨m,F,hm,rfl,rfl,o,b8,C⟩:=hrel;by_cases J:m<row.length;·(
 obtain⟨b2,o2,c2,rfl,h9,e2,rfl,h3⟩:=b3.2.2 m row[m] (lG J);have h4:=(HK.out.trans o).cell (p:=⟨b2,o2+m,none⟩) trivial e2;obtain⟨y0,y1⟩:=b3.2.1.1 row[m] (eL J);obtain⟨q,hq⟩:∃q:Nat,row[m]=q:=⟨row[m].toNat,by omega⟩;have b5:q<ll.length:=by omega
 have c4:=AO (ll:=ll) (i:=i) J b3.2.1.2 hq;have e4:=fun j hj=>DK (ll:=ll) (i:=i) (j:=j) J hq hj;rw[hq] at h4;have I:=C.tab.cell q;rw[cq b5] at I;have c5:=C.own q b5;have hlen:=AN (ll:=ll) row i m q;have a6:(wr.alloc (.cells #[.int .i64 i] 3)).ownsRow (R.heap.size+1) 3 1 (F q) (gS ll row i m q).length (aI (gS ll row i m q)):=be c5 ((aa.refl All wr).alloc _) (fun _ _=>trivial);have HT:=J4 o C c4 e4;clear o C c4 e4 hq y0 y1 e2 h3 c5;go_wp2_with (
  at_builtin;refine aR _ rfl (.tmp 33) (.tmp 35) 54 rfl (R.heap.size+1) 3 i3 _ 1 8 underlying54 I3.1 I3.2.1 I3.2.2.1 I3.2.2.2 rfl (by decide) _ _ _ rfl a6 (some ⟨wr.heap.size,0,none⟩) 1 1 [.int .i64 i] rfl rfl ?_ ?_ (by unfold maxLen;omega) (by omega) (by simp;omega) ?_;·intro _;exact⟨_,_,rfl,fun j u hu=>by rw[cN,al.cell (al.new _ _ _)];simpa using hu⟩
  ·intro u hu
   rw[cx.1 hu];rfl
  intro v2 w2 a7 c0 c6;obtain⟨A2,c2,rfl⟩:=aU a7;have c9:aa (fun b=>(F q).ownBlock≠some b) wr w2:=((aa.refl _ wr).alloc _).grown c0 fun g hg=>.inl fun h=>h hg;have a8:=HT.2.1.tab.kept c9 (fun e=>by have:=(aD (HT.2.1.own q b5) e).1;omega);have I:=a8.cell q;rw[cq b5] at I;have d7:=a8.free q;have h5:=c9.size;have b6:=HT.2.1.step b5 a7 c0 c6 HT.2.2.1 HT.2.2.2;have e5:aa All R w2:=(HT.1.alloc _).grown c0 fun g hg=>.inr (by have:=(aD a6 hg).1;omega);have HS:=J2 b6 e5;clear a7 c0 c6 c9 a8 b6 e5 a6)
 go_roundg (row.length-(m+1));·exact⟨m+1,qd F q _,by omega,rfl,by go_num,HS.2.setCell (p:=⟨R.heap.size,q,none⟩) (.inr (cf _)) _,by simp;omega,HS.1⟩
 omega)
 obtain rfl:m=row.length:=by omega
 have HT:=J2 o C;clear o C;go_wp2_with fail;go_roundg (ll.length-(i+1));·exact⟨i+1,F,by omega,rfl,by go_num,HT.1,b8,by simpa only[yT b3.1] using HT.2⟩
 omega)
 obtain rfl:i=ll.length:=by omega
 have hints:∀k,k<ll.length→aK (fun b=>R.heap.size<b) wr (F k) (di ll ll.length k):=fun k hk=>by have h:=HT.2.own k hk;have hlen:=vN (ll:=ll) ll.length k;exact jr h rfl (by omega) (fun g hg=>(aD h hg).1) fun x hx=>by obtain⟨a,rfl,ha,_⟩:=jc.1 hx;exact WalkArith.wf_i64 (by omega)
 have HI:=J3 HT.1 HT.2.tab hints;clear HT hints;go_wp2_with fail;obtain⟨wo,rfl⟩:=eQ wr;go_loopg [42] ll.length (fun g i wr=>∃(j:Nat) (F:Nat→Value),j≤ll.length∧g=ll.length-j∧i=.int .i64 j∧aa All R wr∧al wr R.heap.size 54 (dM ll.length F)∧∀k,k<ll.length→aK (fun b=>R.heap.size<b) wr (F k) (di ll ll.length k));·exact⟨0,F,by omega,by omega,rfl,HI.out⟩
 clear HI;obtain⟨j,F,hj,rfl,rfl,o,a1,hints⟩:=hrel;have HI:=J3 o a1 hints;by_cases J:j<ll.length
 ·have I:=a1.cell j;rw[cq J] at I;have d7:=a1.free j;have hint:=hints j J;obtain⟨A2,e6,hF,r1,r2,r3,r4⟩:=hint;rw[hF] at I;have b7:=qdQ A2 (di ll ll.length j).length e6 wr r1 (by unfold maxLen at r2;omega);have c7:aK (fun b=>R.heap.size<b) wr (.slice A2 (di ll ll.length j).length (di ll ll.length j).length) (di ll ll.length j):=⟨A2,_,rfl,cf _,fR r1 r2,r3,r4⟩;have HC:=J2 b7 c7;clear o a1 hints hF b7 c7 r1 r2 r3 r4;go_wp2_with (go_at_call 173;refine HC.1.mono ?_;rintro e w' ⟨rfl,rfl⟩);go_roundg (ll.length-(j+1))
  ·have c8:aa (fun b=>R.heap.size<b) wr (wr.setCell ⟨R.heap.size,j,none⟩ (.slice A2 (di ll ll.length j).length (di ll ll.length j).length)):=(aa.refl _ wr).setCell (p:=⟨R.heap.size,j,none⟩) (.inl (Nat.lt_irrefl _)) _;refine⟨j+1,qd F j (.slice A2 (di ll ll.length j).length (di ll ll.length j).length),by omega,rfl,by go_num,HI.1.setCell (p:=⟨R.heap.size,j,none⟩) (.inr (cf _)) _,?_,fun k hk=>?_⟩;·rw[←jo];exact HI.2.1.set _ _
   by_cases e:k=j;·subst e;rw[jd];exact ah.keep c8 HC.2
   rw[li e];exact ah.keep c8 (HI.2.2 k hk)
  omega
 obtain rfl:j=ll.length:=by omega
 clear o a1 hints;go_wp2_with fail;go_ret;refine⟨_,rfl,HK.out.trans HI.1,?_⟩;have e7:=HK.out.size;have e3:((List.range ll.length).map (di ll ll.length)).length=ll.length:=by simp
 have:=Sl.of_blk (bw:=24) (E:=Sl 8 rQ) (S:=fun b=>w.heap.size≤b) (l:=(List.range ll.length).map (di ll ll.length)) (cap:=ll.length) HI.2.1 e7 (by rw[e3];omega) (by unfold maxLen;omega) (by rw[e3];omega) (fun i x hx=>by
  have hi:i<ll.length:=by(
 rcases Nat.lt_or_ge i ll.length with h|h;·exact h
 rw[jz (by rw[e3];omega)] at hx;cases hx)
  rw[cL,ln hi] at hx;cases hx;exact⟨F i,cq hi,ah.wide (fun b hb=>by omega) (HI.2.2 i hi)⟩)
 rwa [e3] at this
noncomputable def vj (ll:List (List Int))(row:List Int)(i:Nat):Int:=if row.any (fun x=>ay ll x.toNat i) then(row.findIdx (fun x=>ay ll x.toNat i):Int) else-1
def aN (N:Nat)(f:Nat→Int):Array Value:=dM N fun i=>.int .i64 (f i)
theorem bI {N:Nat}{f:Nat→Int}{i:Nat}(h:i<N):(aN N f)[i]? =some (.int .i64 (f i)):=cq h
theorem kU (N:Nat)(f:Nat→Int):(aN N f).size=N:=ew _ _
theorem ex {N:Nat}{f g:Nat→Int}(h:∀i,i<N→f i=g i):aN N f=aN N g:=by
 apply Array.ext_getElem?;intro j;by_cases o:j<N;·rw[bI o,bI o,h j o]
 rw[jK (by rw[kU];omega),jK (by rw[kU];omega)]
theorem fZ {N:Nat}{f:Nat→Int}{i:Nat}{v:Int}:(aN N f).setIfInBounds i (.int .i64 v)=aN N (lu f i v):=by unfold aN;rw[jo];congr 1;funext k;unfold qd lu;split<;>rfl
theorem wX (n:Nat)(R:n≤1048576)(w:World):(Instr.makeSlice 54 (.int .i64 n) (.int .i64 n)).run prog w=.ok (.slice (some ⟨w.heap.size,0,none⟩) n n) (w.alloc (.cells (aN n fun _=>0) 3)):=by
 obtain⟨i3,hi,C,I,J⟩:=info_parts yw;rw[run_make (P:=prog) w 54 3 i3 (.int .i64 0) underlying54 hi C .i64 .i64 n n (by omega) (by omega) (by rw[J];omega) (by omega)];have e:madeCells (Value.int .i64 0).cells ((n:Int).toNat*i3.size)=aN n fun _=>0:=by(
 rw[I,dP,Nat.mul_one];apply Array.ext_getElem?;intro j;by_cases o:j<n;·rw[bI o];simp[madeCells,o,Value.cells,Nat.mod_one]
 rw[jK (by rw[size_madeCells];omega),jK (by rw[kU];omega)])
 rw[e,dP]
theorem sL {S:Nat→Prop}{w:World}{g n:Nat}{t:TypeId}{f:Nat→Int}(h:al w g t (aN n f))(o:S g)(C:n≤1048576)(hw:∀i,i<n→(Lit.int .i64 (f i)).wf=true):
 aK S w (.slice (some ⟨g,0,none⟩) n n) ((List.range n).map f):=by
 have hl:((List.range n).map f).length=n:=by simp
 have:=Sl.of_blk (bw:=8) (E:=rQ) (S:=S) (l:=(List.range n).map f) (cap:=n) h o (by simp) (by unfold maxLen;omega) (by rw[hl];omega) (fun i x j=>by
  have hi:i<n:=by(
 rcases Nat.lt_or_ge i n with h|h;·exact h
 rw[jz (by simp;omega)] at j;cases j)
  rw[cL,ln hi] at j;cases j;exact⟨_,bI hi,rfl,hw i hi⟩)
 rwa [hl] at this
section
section
variable {α:Type} {M:List (List α)}
def fe (M:List (List α))(k i:Nat):List α:=(M.take k).flatten++(M.getD k []).take i
theorem mt {k i:Nat}{l:List α}{y:α}(h:M[k]? =some l)(hy:l[i]? =some y):fe M k (i+1)=fe M k i++[y]:=by unfold fe;rw[iG,h,Option.getD_some,cU,hy,jM];rfl
theorem qK {k:Nat}{l:List α}(h:M[k]? =some l):fe M k l.length=fe M (k+1) 0:=by unfold fe;rw[iG,h,Option.getD_some,dZ,List.take_zero,List.append_nil,cU,h,List.flatten_append];simp
theorem qJ:fe M M.length 0=M.flatten:=by simp[fe]
theorem Ep {k i:Nat}{l:List α}{y:α}(h:M[k]? =some l)(hy:l[i]? =some y):fe M k i++[y]<+:M.flatten:=by
 rw[←mt h hy];refine⟨l.drop (i+1)++(M.drop (k+1)).flatten,?_⟩;unfold fe;rw[iG,h,Option.getD_some,jM,←jM (l.take (i+1)),List.take_append_drop];conv=>rhs;rw[kE h]
 rw[List.flatten_append,List.flatten_cons]
end
theorem kX {α β γ:Type}(f:β→γ)(g:Nat→α→β)(l:List α):(l.mapIdx g).map f=l.mapIdx fun i x=>f (g i x):=by apply List.ext_getElem?;intro i;rw[cL,jA,jA];cases l[i]?<;>rfl
abbrev iL:=Nat×Nat×bz
def cd (L:List (List bz)):List (List iL):=L.mapIdx fun i l=>l.mapIdx fun k x=>(i,k,x)
theorem nP {L:List (List bz)}{i:Nat}{l:List bz}(h:L[i]? =some l):(cd L)[i]? =some (l.mapIdx fun k x=>(i,k,x)):=by unfold cd;rw[jA,h];rfl
theorem wT {l:List bz}{i k:Nat}{x:bz}(h:l[k]? =some x):(l.mapIdx fun k x=>(i,k,x))[k]? =some (i,k,x):=by rw[jA,h];rfl
theorem Aq (L:List (List bz)):(cd L).length=L.length:=by simp[cd]
theorem nR {L:List (List bz)}{t:iL}:t∈(cd L).flatten↔∃l,L[t.1]? =some l∧l[t.2.1]? =some t.2.2:=by
 constructor;·intro h;obtain⟨r,hr,j⟩:=List.mem_flatten.1 h;obtain⟨i,hi,rfl⟩:=List.mem_mapIdx.1 hr;obtain⟨k,o,rfl⟩:=List.mem_mapIdx.1 j;exact⟨_,lG hi,lG o⟩
 rintro⟨l,h1,C⟩;obtain⟨i,k,x⟩:=t;exact List.mem_flatten.2 ⟨_,mG (nP h1),mG (wT C)⟩
theorem pE {f:Nat→Nat→bz→Int}{L:List (List bz)}:ls f L=(((cd L).flatten.map fun t=>(t.2.2.Nj,f t.1 t.2.1 t.2.2)).find? fun t=>decide (t.2≠0)).getD (0,0):=by unfold ls cd;rw[List.map_flatten,kX];congr 4;funext i l;rw[kX]
theorem CW {f:Nat→Nat→bz→Int}{L:List (List bz)}(h:∀t∈(cd L).flatten,f t.1 t.2.1 t.2.2=0):ls f L=(0,0):=by
 rw[pE,List.find?_eq_none.2];·rfl
 intro t j;obtain⟨u,hu,rfl⟩:=dr.1 j;simp[h u hu]
theorem Ah {f:Nat→Nat→bz→Int}{L:List (List bz)}{pre:List iL}{t:iL}(j:pre++[t]<+:(cd L).flatten)(h:∀u∈pre,f u.1 u.2.1 u.2.2=0)(o:f t.1 t.2.1 t.2.2≠0):ls f L=(t.2.2.Nj,f t.1 t.2.1 t.2.2):=by
 obtain⟨r,hr⟩:=j;rw[pE,←hr,jM,ic,List.singleton_append,List.map_cons,sB];·rfl
 ·intro y hy
  obtain⟨u,hu,rfl⟩:=dr.1 hy;simp[h u hu]
 simpa using o
def iV (pre:List iL)(v:Int):Int×Int:=match pre.find? (fun t=>decide (t.2.2.dst=v)) with|some t=>(t.1,t.2.1)|none=>(-1,-1)
theorem rA (pre:List iL)(v:Int):(iV pre v=(-1,-1)∧∀t∈pre,t.2.2.dst≠v)∨∃t∈pre,t.2.2.dst=v∧iV pre v=((t.1:Int),(t.2.1:Int)):=by
 unfold iV;cases h:pre.find? (fun t=>decide (t.2.2.dst=v)) with
 |none=>exact .inl ⟨rfl,fun t j=>by simpa using List.find?_eq_none.1 h t j⟩
 |some t=>exact .inr ⟨t,List.mem_of_find?_eq_some h,by simpa using List.find?_some h,rfl⟩
theorem uQ {pre:List iL}{t:iL}{v:Int}:iV (pre++[t]) v=if t.2.2.dst=v∧∀u∈pre,u.2.2.dst≠v then((t.1:Int),(t.2.1:Int)) else iV pre v:=by
 unfold iV;rw[List.find?_append];cases h:pre.find? (fun t=>decide (t.2.2.dst=v)) with
 |some u=>
  rw[ae];·rfl
  rintro⟨_,j⟩;exact j u (List.mem_of_find?_eq_some h) (by simpa using List.find?_some h)
 |none=>
  have o:∀u∈pre,u.2.2.dst≠v:=fun u hu=>by simpa using List.find?_eq_none.1 h u hu
  by_cases e:t.2.2.dst=v;·rw[ap ⟨e,o⟩];simp[e]
  rw[ae fun h=>e h.1];simp[e]
theorem BO {pre:List iL}{t:iL}{v:Int}(h:t.2.2.dst≠v):iV (pre++[t]) v=iV pre v:=by rw[uQ,ae fun h'=>h h'.1]
theorem Ft {pre:List iL}{t:iL}(h:∀u∈pre,u.2.2.dst≠t.2.2.dst):iV (pre++[t]) t.2.2.dst=((t.1:Int),(t.2.1:Int)):=by rw[uQ,ap ⟨rfl,h⟩]
theorem qr {b:aw}{v:Int}{i k:Nat}:jF b v i k↔∃x,(i,k,x)∈(cd b.Ng).flatten∧x.dst=v:=by
 constructor
 ·rintro⟨l,x,h1,j,o⟩
  exact⟨x,nR.2 ⟨l,h1,j⟩,o⟩
 rintro⟨x,h,o⟩;obtain⟨l,h1,j⟩:=nR.1 h;exact⟨l,x,h1,j,o⟩
def jp (b:aw):List (Int×Int):=(List.range b.vars.toNat).map fun v:Nat=>iV (cd b.Ng).flatten v
theorem Dj {L:List (List bz)}{pre:List iL}{t u:iL}(I:pre++[t]<+:(cd L).flatten)(hu:u∈pre):t.1≠u.1∨t.2.1≠u.2.1:=by
 refine Classical.byContradiction fun h=>?_;have h1:t.1=u.1:=Classical.byContradiction fun e=>h (.inl e);have o:t.2.1=u.2.1:=Classical.byContradiction fun e=>h (.inr e);obtain⟨m,hm,C⟩:=List.getElem_of_mem hu;obtain⟨r,hr⟩:=I;have J:(cd L).flatten[m]? =some u:=by rw[←hr,jM,ma hm,lG hm,C]
 have a2:(cd L).flatten[pre.length]? =some t:=by rw[←hr,jM,kH (by omega)];simp
 obtain⟨i,k,l,R,Y,b3⟩:=pF J;obtain⟨j,n,l',c1,c2,c3⟩:=pF a2;have hi:∀ {i k:Nat} {l:List iL} {t:iL},(cd L)[i]? =some l→l[k]? =some t→t.1=i∧t.2.1=k:=by intro i k l t h1 o;unfold cd at h1;rw[jA] at h1;obtain⟨l0,_,rfl⟩:=oE.1 h1;rw[jA] at o;obtain⟨x,_,rfl⟩:=oE.1 o;exact⟨rfl,rfl⟩
 obtain⟨d1,d2⟩:=hi R Y;obtain⟨e1,e2⟩:=hi c1 c2;have:i=j:=by omega
 subst this;have:k=n:=by omega
 subst this;omega
theorem As {b:aw}(C:gY b){pre:List iL}{t u:iL}(j:pre++[t]<+:(cd b.Ng).flatten)(hu:u∈pre)(I:t.2.2.dst≠-1):u.2.2.dst≠t.2.2.dst:=by
 intro e;have J:t∈(cd b.Ng).flatten:=j.subset (eD.2 (.inr (cx.2 rfl)));have o:u∈(cd b.Ng).flatten:=j.subset (eD.2 (.inl hu));obtain⟨h1,R⟩:=C.once t.2.2.dst t.1 t.2.1 u.1 u.2.1 I (qr.2 ⟨_,J,rfl⟩) (qr.2 ⟨_,o,e⟩);rcases Dj j hu with h|h;·exact h h1
 exact h R
theorem vt (L:List (List bz)):(cd L).flatten.map (fun t=>t.2.2)=L.flatten:=by
 unfold cd;rw[List.map_flatten,kX];congr 1;apply List.ext_getElem?;intro i;rw[jA];cases h:L[i]? with
 |none=>rfl
 |some l=>show some _=some l;congr 1;show(l.mapIdx fun k x=>((i,k,x):iL)).map (fun t=>t.2.2)=l;rw[kX];apply List.ext_getElem?;intro k;rw[jA];cases l[k]?<;>rfl
theorem xY (l r:List bz):og (l++r)=og l+og r:=by simp[og]
theorem xZ (x:bz):og [x]=if x.dst= -1 then 0 else 1:=by
 unfold og;by_cases h:x.dst= -1;·simp[h]
 simp[h]
end
def MH (c:aE):Prop:=c.Nf.length≤100∧c.Nd.length≤100∧∀b∈c.Nf,b.Ng.length≤100∧∀l∈b.Ng,l.length≤300
def vY (c:aE)(w:World)(e:Ending)(w':World):Prop:=∃b:Bool,e=.returned (.bool b)∧(b=true→MH c)∧aa All w w'
theorem vY.no {c:aE}{w w':World}(h:aa All w w'):vY c w (.returned (.bool false)) w':=⟨false,rfl,fun h=>Bool.noConfusion h,h⟩
theorem Hk (S:Nat→Prop)(cv:Value)(c:aE)(w:World)(hc:cQ S w cv c):
 Calls prog 7 #[cv,.int .i64 300] w (vY c w):=by
 obtain⟨ka,kf,rfl,b9,a6,c0⟩:=hc;have a7:=bV.la a6;obtain⟨A1,c1,rfl,m1,m2,m3,_⟩:=b9;obtain⟨A2,c2,rfl,m4,m5,m6,_⟩:=a6;unfold maxLen at*;obtain⟨W0,C⟩:=eQ (w.alloc (.cells #[.slice A1 c.Nd.length c1,.slice A2 c.Nf.length c2,.int .i64 c.main] 30));have J:=yf C;have bK:=yv C;obtain⟨k0,k1,k2⟩:=bK.c3;have R:=J2 C J;have HP:=oH (a7 W0 J);clear C J bK a7 c0;go_enter func7,ntmps7;go_upto_region 1 with fail;rw[←R.1];by_cases h0:c.Nf.length≤100;·(
 have a8:decide ((100:Int)<(c.Nf.length:Int))=false:=by simp;omega
 by_cases h1:c.Nd.length≤100;·(
 have b0:decide ((100:Int)<(c.Nd.length:Int))=false:=by simp;omega
 have HS:=J2 h0 h1;clear h0 h1;go_wp2_with fail;go_loopg [5,6] c.Nf.length (fun g s5 s6 wr=>∃(j n:Nat),j≤c.Nf.length∧g=c.Nf.length-j∧s6=.int .i64 j∧s5=.int .i64 n∧n≤300∧wr=W0∧∀(i:Nat) b,i<j→c.Nf[i]? =some b→b.Ng.length≤100∧∀l∈b.Ng,l.length≤300);·exact⟨0,0,by omega,by omega,rfl,rfl,by omega,rfl,fun i l hi=>by omega⟩
 obtain⟨j,n,hj,rfl,rfl,rfl,hn,hw,o⟩:=hrel;have Y:=hw.symm;subst Y;by_cases c4:j<c.Nf.length;·(
 obtain⟨b,hb⟩:=eG c4;obtain⟨gb,go,d9,rfl,c5,b1,b2,bv,rfl,a1,c6,c7⟩:=aZ HP.out hb;obtain⟨vA,vc,rfl,v1,v2,v3,_⟩:=id a1;unfold maxLen at v2;have z2:=b2 2 _ rfl;have HB:=J3 o hb a1;clear o hb a1 b2 c6 c7 b1 c5;by_cases g0:b.Ng.length≤100;·(
 have b3:decide ((100:Int)<(b.Ng.length:Int))=false:=by simp;omega
 have c8:=oH g0;go_wp2_with fail;go_loopg [5,7] b.Ng.length (fun g s5 s7 wr=>∃(k I:Nat),k≤b.Ng.length∧g=b.Ng.length-k∧s7=.int .i64 k∧s5=.int .i64 I∧I≤300+k*300∧wr=W0∧∀(i:Nat) l,i<k→b.Ng[i]? =some l→l.length≤300);·exact⟨0,n,by omega,by omega,rfl,rfl,by omega,rfl,fun i l hi=>by omega⟩
 obtain⟨k,I,hk,rfl,rfl,rfl,e0,hw,o⟩:=hrel;have Y:=hw.symm;subst Y;have e1:k*300≤100*300:=Nat.mul_le_mul_right _ (by omega);by_cases b4:k<b.Ng.length;·(
 obtain⟨l,hl⟩:=eG b4;obtain⟨rb,ro,rv,rfl,c9,e2,b5⟩:=bn HB.2.2 hl;obtain⟨LA,lc,rfl,l1,l2,l3,_⟩:=id b5;unfold maxLen at l2;have HL:=J2 o hl;clear o hl b5 c9;by_cases g1:l.length≤300;·(
 have b6:decide ((300:Int)<(l.length:Int))=false:=by simp;omega
 have d7:=oH g1;go_wp2_with fail;go_roundg (b.Ng.length-(k+1))
 ·refine⟨k+1,I+l.length,by omega,rfl,by go_num,by go_num,by omega,rfl,fun i z hi hz=>?_⟩
  by_cases e:i=k;·subst e;rw[HL.2] at hz;cases hz;exact d7.out
  exact HL.1 i z (by omega) hz
 omega)
 have b6:decide ((300:Int)<(l.length:Int))=true:=by simp;omega
 clear g1;go_wp2_with fail;go_ret;exact .no R.2)
 obtain rfl:k=b.Ng.length:=by omega
 have HA:=oH o;clear o;by_cases g2:I≤300;·(
 have b7:decide ((300:Int)<(I:Int))=false:=by simp;omega
 have d8:=oH g2;go_wp2_with fail;go_roundg (c.Nf.length-(j+1))
 ·refine⟨j+1,I,by omega,rfl,by go_num,rfl,d8.out,rfl,fun i z hi hz=>?_⟩
  by_cases e:i=j;·subst e;rw[HB.2.1] at hz;cases hz;refine⟨c8.out,fun l hl=>?_⟩;obtain⟨i2,b8⟩:=cY.1 hl;exact HA.out i2 l (lS.1 b8).1 b8
  exact HB.1 i z (by omega) hz
 omega)
 have b7:decide ((300:Int)<(I:Int))=true:=by simp;omega
 clear g2;go_wp2_with fail;go_ret;exact .no R.2)
 have b3:decide ((100:Int)<(b.Ng.length:Int))=true:=by simp;omega
 clear g0;go_wp2_with fail;go_ret;exact .no R.2)
 obtain rfl:j=c.Nf.length:=by omega
 have HY:=oH (show MH c from⟨HS.1,HS.2,fun b hb=>by obtain⟨i,hi⟩:=cY.1 hb;exact o i b (lS.1 hi).1 hi⟩);clear o;go_wp2_with fail;go_ret;exact⟨true,rfl,fun _=>HY.out,R.2⟩)
 have b0:decide ((100:Int)<(c.Nd.length:Int))=true:=by simp;omega
 clear h1;go_wp2_with fail;go_ret;exact .no R.2)
 have a8:decide ((100:Int)<(c.Nf.length:Int))=true:=by simp;omega
 clear h0;go_wp2_with fail;go_ret;exact .no R.2
theorem si (z:ByteArray):z.toList=z.data.toList:=by
 have:∀(i:Nat) (r:List UInt8),i≤z.size→ByteArray.toList.loop z i r=r.reverse++z.data.toList.drop i:=by(
 intro i;induction I:z.size-i generalizing i with
 |zero=>
  intro r hi;rw[ByteArray.toList.loop];have e:¬i<z.size:=by omega
  rw[ae e,List.drop_of_length_le (by simp only[Array.length_toList];show z.size≤i;omega)];simp
 |succ n C=>
  intro r hi;have j:i<z.size:=by omega
  have o:i<z.data.toList.length:=by simpa using j
  rw[ByteArray.toList.loop,ap j,C (i+1) (by omega) _ (by omega),List.drop_eq_getElem_cons o];simp[ByteArray.get!,j])
 unfold ByteArray.toList;rw[this 0 [] (by omega)];simp
theorem qq {l:List UInt8}{i:Nat}{b:UInt8}(h:l[i]? =some b)(j:b.toNat<128):Utf8.decode ⟨l.toArray⟩ i=(b.toNat,1):=by
 have hi:=(lS.1 h).1;have e:(ByteArray.mk l.toArray).get! (i+0)=b:=by have o:=(lS.1 h).2;simp[ByteArray.get!,hi,o]
 unfold Utf8.decode;simp only[e,j,if_true]
theorem kc (l:List UInt8):(ByteArray.mk l.toArray).size=l.length:=by simp[ByteArray.size]
theorem zq {l:List UInt8}(C:0<l.length)(o:l.length≤24)(hl:∀i b,l[i]? =some b→b.toNat<128∧(ey b.toNat||(i !=0&&fY b.toNat))=true):
 ∀(k f i:Nat),l.length-i=k→i≤l.length→k<f→fH ⟨l.toArray⟩ f i i=true
 |0,f+1,i,I,hi,J=>by rw[jQ (by rw[kc];omega)];exact bL (by omega)
 |k+1,f+1,i,I,hi,J=>by(
 have j:i<l.length:=by omega
 obtain⟨h1,R⟩:=hl i l[i] (lG j);rw[gK (by rw[kc];exact j),qq (lG j) h1];rw[gE,gE];exact⟨⟨R,bL (by omega)⟩,zq C o hl k f (i+1) (by omega) (by omega) (by omega)⟩)
theorem yM {l:List UInt8}(o:0<l.length)(j:l.length≤24)(hl:∀i b,l[i]? =some b→b.toNat<128∧(ey b.toNat||(i !=0&&fY b.toNat))=true):dW ⟨l.toArray⟩=true:=by unfold dW;exact zq o j hl l.length _ 0 (by omega) (by omega) (by rw[kc];omega)
theorem JW:(mu.all fun l=>match l with|_::b::_=>decide (97≤b.toNat)|_=>false)=true:=by decide
theorem JV {c d:UInt8}{r:List UInt8}(j:d.toNat<97):jv ⟨(c::d::r).toArray⟩=false:=by unfold jv;rw[List.any_eq_false];intro l hl;rw[si];have h:=List.all_eq_true.1 JW l hl;rw[cy];rintro e;rw[←e] at h;have:=of_decide_eq_true h;omega
theorem Bo (n:Int):∃d r,iK n=d::r∧d.toNat<97:=by
 unfold iK;by_cases h:n<0
 ·rw[ap h]
  exact⟨45,_,rfl,by decide⟩
 rw[ae h,mF];have h1:=sw n.natAbs;cases j:kK n.natAbs with
 |nil=>rw[j] at h1;simp at h1
 |cons d r=>have:=nd n.natAbs d (by rw[j];exact List.mem_cons_self ..);exact⟨d,r,rfl,by omega⟩
theorem names:kP:=by
 constructor;·(
 intro c n J hn;have R:97≤c.toNat∧c.toNat≤122:=by rcases J with rfl|rfl|rfl|rfl<;>decide
 have o:ey (c.toNat:Int)=true:=by unfold ey od;simp only[Bool.or_eq_true,gE,qal];exact .inl (.inl (.inl (.inl ⟨by omega,by omega⟩)))
 have hw:jv (aL c n)=false:=by obtain⟨d,r,e,C⟩:=Bo n;unfold aL tr;rw[e];exact JV C
 unfold aB;rw[hw,Bool.not_false,Bool.and_true];by_cases h:0≤n;·(
 rw[bL h];have I:iK n=kK n.natAbs:=by unfold iK;rw[ae (by omega)];rfl
 have h1:=sw n.natAbs;unfold aL tr;rw[I];refine yM (by simp) (by simp;omega) fun i b j=>?_;rcases i with _|i
 ·cases j
  rw[o];exact⟨by omega,rfl⟩
 have:=nd n.natAbs b (mG (by simpa using j));refine⟨by omega,?_⟩;have C:fY (b.toNat:Int)=true:=by unfold fY od;rw[gE];exact⟨bL (by omega),bL (by omega)⟩
 rw[C];simp)
 rw[cI h];have I:iK n=45::kK n.natAbs:=by unfold iK;rw[ap (by omega)];rfl
 unfold aL tr;rw[I];unfold dW;rw[gK (by rw[kc];simp),qq (b:=c) (i:=0) rfl (by omega),kc];rw[show(c::45::kK n.natAbs).length=(kK n.natAbs).length+1+1 by simp,gK (by rw[kc];simp),show Utf8.decode ⟨(c::45::kK n.natAbs).toArray⟩ (0+(c.toNat,1).2)=((45:UInt8).toNat,1) from qq (l:=c::45::kK n.natAbs) (i:=1) (b:=45) rfl (by decide)];have Y:ey ((45:UInt8).toNat:Int)=false:=by decide
 have e2:fY ((45:UInt8).toNat:Int)=false:=by decide
 simp only[Y,e2,Bool.and_false,Bool.or_false,Bool.false_and])
 ·unfold aB
  have h1:dW fO=true:=yM (l:=[109,97,105,110]) (by decide) (by decide) fun i b j=>by(
 rcases i with _|_|_|_|i;·cases j;decide
 ·cases j;decide
 ·cases j;decide
 ·cases j;decide
 simp at j)
  have h2:jv fO=false:=by unfold jv;rw[si];decide
  rw[h1,h2];rfl
 unfold aB;have:dW gR=false:=by unfold dW;rw[jQ (by simp[gR,ByteArray.size])];rfl
 rw[this];rfl
end Go.Proofs.YtgdlhckhpolnnaaGreatDoor
