/- Part 42 of the proof of CallsShallow (its last part says what is proved). No condition. -/
import Derived.Test.YtncdbjponknakaaGreatDoorK40
namespace Go.Proofs.YtncdbjponknakaaGreatDoor
set_option maxRecDepth 100000
set_option maxHeartbeats 8000000
open Go.RowKit Go.Proofs.Tryz
theorem Pc (w:World)(x:bz)(C J:Option Addr)(R ca l cf:Nat):Calls prog 36 #[.agg #[.int .u8 x.kind,.int .u8 x.op,.int .i64 x.dst,.int .i64 x.ref,.int .i64 x.Ni,.slice C R ca,.slice J l cf,.int .i64 x.num,.int .i64 x.Nj]] w fun e w'=>e=.returned (.bool (decide (x.Nj<0)))∧aa All w w':=by
 obtain⟨Y,j⟩:=eQ (w.alloc (.cells #[.int .u8 x.kind,.int .u8 x.op,.int .i64 x.dst,.int .i64 x.ref,.int .i64 x.Ni,.slice C R ca,.slice J l cf,.int .i64 x.num,.int .i64 x.Nj] 47));have o:aa All w Y:=by rw[j];exact kR.alloc _
 have b8:Y.cell? ⟨w.heap.size,8,none⟩=some (.int .i64 x.Nj):=by rw[j];exact(al.new _ _ _).cell 8
 have Z:=J2 j o;clear j o;go_enter func36,ntmps36;go_upto_region 1 with fail;rw[←Z.1];go_wp2_with fail;go_ret;exact⟨rfl,Z.2⟩
theorem Ps (w:World)(A:Option Addr)(n c:Nat):Calls prog 46 #[.slice A n c] w fun e j=>e=.returned (.bool (decide ((4096:Int)<n)))∧w=j:=by go_enter func46,ntmps46;go_wp2_with fail;go_ret;exact⟨rfl,rfl⟩
theorem Qq (S:Nat→Prop)(v:Value)(l:List (bz))(w:World)(h:tZ S w v l):Calls prog 49 #[v,.func (.func 36) #[] #[]] w fun e w'=>∃r:Int,e=.returned (.int .i64 r)∧aa All w w'∧(r<0→∀x∈l,0≤x.Nj):=by
 have R:=cT.la h;obtain⟨A,c,rfl,_,_,b1,_⟩:=id h;obtain⟨n,Y⟩:=eQ l.length;have c3:n≤l.length:=eE Y;have b2:l.length≤n:=eE Y.symm;rw[←Y] at R b1;have HS:=J2 R Y;clear R h;go_enter func49,ntmps49;rw[←Y];clear Y;go_upto_region 2 with fail;go_loopg [8] n (fun gg s8 wr=>∃k:Nat,k≤n∧gg=n-k∧s8=.int .i64 k∧aa All w wr∧∀x∈l.take k,0≤x.Nj);·exact⟨0,by omega,by omega,rfl,kR,fun x hx=>by simp at hx⟩
 obtain⟨k,hk,rfl,rfl,o,C⟩:=hrel;by_cases c4:k<n;·(
 obtain⟨x,hx⟩:∃x,l[k]? =some x:=⟨_,lG (by omega)⟩;obtain⟨xb,xo,c5,rfl,_,_,j,xa,xf,rfl,b3,b4,b5⟩:=aZ (HS.1 wr o) hx;have a1:=j 0 _ rfl;have b6:=j 1 _ rfl;have b7:=j 2 _ rfl;have b8:=j 3 _ rfl;have b9:=j 4 _ rfl;have a6:=j 5 _ rfl;have a7:=j 6 _ rfl;have c0:=j 7 _ rfl;have c1:=j 8 _ rfl;rw[dj] at a1;obtain⟨xa,ca,rfl,_⟩:=b3;obtain⟨xf,cf,rfl,_⟩:=b4;obtain⟨na,a8⟩:=eQ x.args.length;obtain⟨c2,J⟩:=eQ x.Nh.length;rw[←a8] at a6;rw[←J] at a7;have HC:=oH (Pc wr x xa xf na ca c2 cf);have HR:=J3 o C hx;clear o C hx a8 J j b5;go_wp2_with fail;refine HC.out.mono ?_;rintro e w2 ⟨rfl,b0⟩;have HK:=oH b0;clear b0 a1 b6 b7 b8 b9 a6 a7 c0 c1;by_cases hp:x.Nj<0
 ·have t1:decide (x.Nj<0)=true:=bL hp
  go_wp2_with fail;go_ret;exact⟨k,rfl,HR.1.trans HK.out,fun h=>by omega⟩
 have t1:decide (x.Nj<0)=false:=cI hp;go_wp2_with fail;go_roundg (n-(k+1))
 case measure=>omega
 case rel=>exact⟨k+1,by omega,rfl,by go_num,HR.1.trans HK.out,fun z Z=>by
  rw[cU,HR.2.2] at Z;rcases eD.1 Z with Z|Z;·exact HR.2.1 z Z
  rw[show z=x by simpa using Z];omega⟩)
 obtain rfl:k=n:=by omega
 rw[oF b2] at C;have HZ:=J2 o C;clear o C;go_wp2_with fail;go_ret;exact⟨-1,rfl,HZ.1,fun _=>HZ.2⟩
theorem Qo (S:Nat→Prop)(v:Value)(l:List (List Int))(w:World)(h:Rows S w v l):Calls prog 64 #[v,.func (.func 46) #[] #[]] w fun e w'=>∃r:Int,e=.returned (.int .i64 r)∧aa All w w'∧(r<0→∀x∈l,True):=by
 have C:=aq.la h;obtain⟨A,c,rfl,_,_,a1,_⟩:=id h;obtain⟨n,J⟩:=eQ l.length;have a8:n≤l.length:=eE J;have a6:l.length≤n:=eE J.symm;rw[←J] at C a1;have HS:=J2 C J;clear C h;go_enter func64,ntmps64;rw[←J];clear J;go_upto_region 2 with fail;go_loopg [8] n (fun gg s8 wr=>∃k:Nat,k≤n∧gg=n-k∧s8=.int .i64 k∧aa All w wr∧∀x∈l.take k,True);·exact⟨0,by omega,by omega,rfl,kR,fun x Z=>by simp at Z⟩
 obtain⟨k,hk,rfl,rfl,j,o⟩:=hrel;by_cases b0:k<n
 ·obtain⟨x,Z⟩:∃x,l[k]? =some x:=⟨_,lG (by omega)⟩;obtain⟨xb,xo,xv,rfl,_,R,a7⟩:=bn (HS.1 wr j) Z;obtain⟨xa,ca,rfl,_⟩:=a7;obtain⟨na,Y⟩:=eQ x.length;rw[←Y] at R;have HC:=oH (Ps wr xa na ca);have HR:=oH j;clear j o Z Y;go_wp2_with fail;refine HC.out.mono ?_;rintro e w2 ⟨rfl,rfl⟩;clear R;by_cases hp:(4096:Int)<na
  ·have t1:decide ((4096:Int)<na)=true:=bL hp
   go_wp2_with fail;go_ret;exact⟨k,rfl,HR.out,fun h=>by omega⟩
  have t1:decide ((4096:Int)<na)=false:=cI hp;go_wp2_with fail;go_roundg (n-(k+1));·exact⟨k+1,by omega,rfl,by go_num,HR.out,fun z hz=>trivial⟩
  omega
 obtain rfl:k=n:=by omega
 rw[oF a6] at o;have HZ:=J2 j o;clear j o;go_wp2_with fail;go_ret;exact⟨-1,rfl,HZ.1,fun _=>HZ.2⟩
theorem OY (S:Nat→Prop)(v:Value)(l:List (bz))(w:World)(h:tZ S w v l):Calls prog 35 #[v,.func (.func 36) #[] #[]] w fun e J=>∃r:Bool,e=.returned (.bool r)∧aa All w J∧(r=false→∀x∈l,0≤x.Nj):=by have R:=oH (Qq S v l w h);clear h;go_enter func35,ntmps35;go_wp2_with fail;refine R.out.mono ?_;rintro e Y ⟨r,rfl,j,o⟩;have C:=J2 j o;clear j o;go_wp2_with fail;go_ret;exact⟨decide (0≤r),rfl,C.1,fun h=>C.2 (by simpa using h)⟩
theorem OX (S:Nat→Prop)(v:Value)(l:List (List Int))(w:World)(h:Rows S w v l):Calls prog 45 #[v,.func (.func 46) #[] #[]] w fun e J=>∃r:Bool,e=.returned (.bool r)∧aa All w J∧(r=false→∀x∈l,True):=by have R:=oH (Qo S v l w h);clear h;go_enter func45,ntmps45;go_wp2_with fail;refine R.out.mono ?_;rintro e Y ⟨r,rfl,j,o⟩;have C:=J2 j o;clear j o;go_wp2_with fail;go_ret;exact⟨decide (0≤r),rfl,C.1,fun h=>C.2 (by simpa using h)⟩
section
open Go Go.RowKit
section
variable {P:Program}
def Nn (W:World)(base:Nat)(e:TypeId)(v:Value)(n:Nat)(xs:List Value)(C:Value→World→Prop)(tb tc t:Tmp)(u:Value)(w:World):Prop:=
 if t=tb then∃g y,u=.slice (some ⟨g,0,none⟩) 1 1∧W.heap.size≤g∧al w g e #[y]∧C y w
 else if t=tc then C u w
 else∃y wz,w.ownsRow base e 1 u (n+1) (xs++[y])∧C y wz∧W.heap.size≤wz.heap.size∧aa (fun b=>v.ownBlock≠some b) wz w∧(u.ownBlock=v.ownBlock∨∀g,u.ownBlock=some g→wz.heap.size≤g)
variable {ops:Array Oper} {X:List PanicEntry→World→Prop} {W:World} {base:Nat} {e:TypeId} {v:Value} {n:Nat} {xs:List Value} {C:Value→World→Prop} {tb tc ta:Tmp} {L:Nat→Option (Value→Prop)} {D:Nat→Bool} {Q:Act→Prop} {o:Oper} {rest:List Oper} {k:Nat} {dead:Bool} {a:Act}
theorem Nn.keep {w j:World}(Z:∀y w j,aa (fun b=>v.ownBlock≠some b) w j→C y w→C y j)(k:aa All w j)(t:Tmp)(u:Value)(h:Nn W base e v n xs C tb tc t u w):Nn W base e v n xs C tb tc t u j:=by
 unfold Nn at h⊢;split
 ·rename_i e;rw[ap e] at h
  obtain⟨g,y,l,J,R,Y⟩:=h;exact⟨g,y,l,J,R.kept k trivial,Z _ _ _ k.all Y⟩
 rename_i e;rw[ae e] at h;split
 ·rename_i e;rw[ap e] at h
  exact Z _ _ _ k.all h
 rename_i e;rw[ae e] at h;obtain⟨y,wz,l,J,R,Y,h5⟩:=h;exact⟨y,wz,be l k fun _ _=>trivial,J,R,Y.trans k.all,h5⟩
theorem NX (hw:Region.wanted o (yielded ops a.tmps)=true)(hl:L k=some Oa)(Y:D k=false)(j:o.dst=some tb)(Z:tc≠tb)(hC:∀y w w',aa (fun b=>v.ownBlock≠some b) w w'→C y w→C y w')(y:Value)(hy:a.tmps[tc]? =some y)(l:tc∈o.looksAt ops)
 (h:∀w,DL W base e 1 v n xs w→(execOp a.eval o).run P w=.ok (.value (.slice (some ⟨w.heap.size,0,none⟩) 1 1)) (w.alloc (.cells #[y] e))) (hk:∀g,oC P ops (DL W base e 1 v n xs) [tc,tb,ta] (Nn W base e v n xs C tb tc) L D X Q rest (k+1) dead (a.put (some tb) (.slice (some ⟨g,0,none⟩) 1 1))):
 oC P ops (DL W base e 1 v n xs) [tc,tb,ta] (Nn W base e v n xs C tb tc) L D X Q (o::rest) k dead a:=by
 have good:∀w,DL W base e 1 v n xs w→ij ops [tc,tb,ta] (Nn W base e v n xs C tb tc) o a w→om (DL W base e 1 v n xs) [tc,tb,ta] (Nn W base e v n xs C tb tc) o w (w.alloc (.cells #[y] e)) (.slice (some ⟨w.heap.size,0,none⟩) 1 1):=fun w J R=>by have hc:=R tc l (by simp) _ hy;unfold Nn at hc;rw[ae Z,ap rfl] at hc;refine⟨J.keep (kR.alloc _),fun t _ u hu=>hu.keep hC (kR.alloc _) t u,fun d Y _=>?_⟩;rw[j] at Y;cases Y;unfold Nn;rw[ap rfl];exact⟨_,y,rfl,J.1.size,al.new _ _ _,hC _ _ _ (kR.alloc _) hc⟩
 refine Ey hw hl Y (fun w J R=>?_) (fun w J R=>⟨_,_,⟨_,rfl⟩,good w J R⟩) ?_
 ·rw[h w J]
  exact⟨rfl,⟨_,rfl⟩,good w J R⟩
 rintro u ⟨g,rfl⟩;rw[j];exact hk g
theorem NG (hw:Region.wanted o (yielded ops a.tmps)=true)(hl:L k=some (NT n))(hd:D k=false)(a1:o.dst=some ta)(b6:ta≠tb)(b7:ta≠tc)(hC:∀y w R,aa (fun b=>v.ownBlock≠some b) w R→C y w→C y R)(s:Operand)(t:TypeId)
 (ho:o.op=.call {callee:=.builtin .append,args:=#[s,.tmp tb],argTypes:=#[t,t]}) (i:TypeInfo) (z:Value) (bytes:Nat) (ht:P.underlying t=some (.slice e)) (hi:P.info? e=some i) (hz:i.zero=some z)
 (Y:i.size=1) (b1:i.bytes=bytes) (b8:z.cells.size=1) (hs:a.eval s=v) (g:Nat) (hx:a.tmps[tb]? =some (.slice (some ⟨g,0,none⟩) 1 1)) (a8:tb∈o.looksAt ops)
 (h1:∀y w,C y w→y.oneCell'=true) (b2:n+1≤maxLen) (J:(n+1)*bytes≤140737488355328) (b0:base≤W.heap.size) (b3:∀b,v.ownBlock=some b→b<W.heap.size)
 (hk:∀A c,oC P ops (DL W base e 1 v n xs) [tc,tb,ta] (Nn W base e v n xs C tb tc) L D X Q rest (k+1) dead (a.put (some ta) (.slice A (n+1) c))):
 oC P ops (DL W base e 1 v n xs) [tc,tb,ta] (Nn W base e v n xs C tb tc) L D X Q (o::rest) k dead a:=by
 have key:∀w,DL W base e 1 v n xs w→ij ops [tc,tb,ta] (Nn W base e v n xs C tb tc) o a w→∃v' R,(Builtin.append_ #[t,t] o.type #[v,.slice (some ⟨g,0,none⟩) 1 1]).run P w=.ok v' R∧NT n v'∧om (DL W base e 1 v n xs) [tc,tb,ta] (Nn W base e v n xs C tb tc) o w R v':=by(
 intro w l hp;have hf:=hp tb a8 (by simp) _ hx;unfold Nn at hf;rw[ap rfl] at hf;obtain⟨g',y,eg,c0,b9,hy⟩:=hf;iterate 3 injection eg with eg
 subst eg;have Z:∀(j:Nat) u,[y][j]? =some u→w.cell? ⟨g,0+j,none⟩=some u:=fun j u hu=>by rw[cN,b9.cell j,List.getElem?_toArray];exact hu
 have a6:∀u∈[y],u.oneCell'=true:=fun u hu=>by rw[cx.1 hu];exact h1 y w hy
 obtain⟨v',R,hr,h2,h3,h4⟩:=JL (P:=P) w base t o.type e i z 1 bytes ht hi hz Y b1 b8 (by decide) v n xs l.2 (some ⟨g,0,none⟩) 1 1 [y] rfl (fun _=>⟨g,0,rfl,Z⟩) a6 b2 J (fR b0 l.1.size);have b4:=NO (P:=P) w base t o.type e i z 1 bytes ht hi hz Y b1 v n xs l.2 g 0 1 [y] rfl Z a6 b2 J (by decide) v' R hr;obtain⟨A,c,rfl⟩:=aU h2;have hK:aa (fun b=>v.ownBlock≠some b) w R:=(aa.refl _ w).grown h3 fun b hb=>.inl fun h=>h hb;refine⟨_,R,hr,⟨A,c,rfl⟩,⟨l.1.trans hK,b4.1⟩,fun t' _ u hu=>?_,fun d b5 _=>?_⟩;·(
 unfold Nn at hu⊢;split
 ·rename_i et;rw[ap et] at hu
  obtain⟨g2,y2,q1,q2,q3,q4⟩:=hu;exact⟨g2,y2,q1,q2,q3.kept hK fun hb=>by have:=b3 _ hb;omega,hC _ _ _ hK q4⟩
 rename_i et;rw[ae et] at hu;split
 ·rename_i ec;rw[ap ec] at hu
  exact hC _ _ _ hK hu
 rename_i ec;rw[ae ec] at hu;obtain⟨y2,wz,q1,q2,q4,q5,q3⟩:=hu;rcases q3 with q3|q3;·exact⟨y,w,b4.2 u _ q1 q3,hy,l.1.size,hK,.inl q3⟩
 exact⟨y2,wz,be q1 hK fun b hb hv=>by have h5:=b3 _ hv;have h6:=q3 b hb;omega,q2,q4,q5.trans hK,.inr q3⟩)
 rw[a1] at b5;cases b5;unfold Nn;rw[ae b6,ae b7];refine⟨y,w,h2,hy,l.1.size,hK,?_⟩;rcases h4 with h4|h4;·exact .inl h4
 exact .inr fun g2 a7=>by rw[h4] at a7;cases a7;exact cf _)
 refine Ey hw hl hd (fun w l hp=>?_) (fun w l hp=>?_) ?_
 ·obtain⟨v',R,hr,h2,h3⟩:=key w l hp
  unfold execOp;simp only[ho,resolve,invoke,builtin,Sem.run_bind,Sem.run_pure,Result.andThen_ok,List.map_toArray,List.map_cons,List.map_nil,hs,show a.eval (.tmp tb)=.slice (some ⟨g,0,none⟩) 1 1 from by simp[Act.eval,hx],hr];exact⟨rfl,h2,h3⟩
 ·obtain⟨v',R,hr,h2,h3⟩:=key w l hp
  exact⟨v',R,h2,h3⟩
 rintro u ⟨A,c,rfl⟩;rw[a1];exact hk A c
end
end
end Go.Proofs.YtncdbjponknakaaGreatDoor
