/- Part 41 of the proof (its last part says what is proved). No condition. -/
import Derived.Test.YtgdlhckhpolnnaaGreatDoorK34
import Derived.Test.YtgdlhckhpolnnaaGreatDoorK39
namespace Go.Proofs.YtgdlhckhpolnnaaGreatDoor
set_option maxRecDepth 100000
set_option maxHeartbeats 8000000
open Go.RowKit Go.Proofs.Tryz
theorem TN.set {w:World}{g0 g1 B o pb:Nat}{x:cX}(h:TN w g0 g1 o pb)(I:Uh w B o x)(j:Nat)(v:Value):TN (w.setCell ⟨o,j,none⟩ v) g0 g1 o pb:=by obtain⟨J,aC,R,fC,C,_⟩:=I;exact h.kept ((aa.refl (fun b=>b≠o) _).setCell (.inl fun h=>h rfl) _) (h.1.ne C (by decide)) (h.2.1.ne C (by decide))
theorem Uv {p:cr}{f n k:Nat}{fr C:List ByteArray}{r:List ByteArray×List ByteArray×Nat}(h:UH p (f+1) n k fr C=some r):
 p.is k 1=true∧n<64∧p.txt (k+1)=XW∧p.is (k+1+1) 1=true∧if p.txt (k+1+1+1)=Ym then UH p f (n+1) (k+1+1+1+1) (fr++[p.txt k]) (C++[p.txt (k+1+1)])=some r else r=(fr++[p.txt k],C++[p.txt (k+1+1)],k+1+1+1):=by
 rw[UH] at h;split at h;·cases h
 rename_i Y;unfold Ty TR at h;by_cases j:p.is k 1=true
 ·by_cases o:p.txt (k+1)=XW
  ·(
 by_cases I:p.is (k+1+1) 1=true
 ·simp only[j,o,I,if_true,Option.bind_eq_bind,Option.bind_some] at h;refine⟨j,by rcases Nat.lt_or_ge n 64 with J|J;exact J;exact absurd ⟨j,J⟩ Y,o,I,?_⟩;split at h;·rename_i R;rw[ap R];exact h
  rename_i R;rw[ae R];cases h;rfl
 simp[j,o,I] at h)
  simp[j,o] at h
 simp[j] at h
theorem WR (B pb xb g0 g1:Nat)(p:cr)(A:Option Addr)(C k m k':Nat)(x:cX)(fr ar:List ByteArray)(w:World)(h:PB w B pb p A C k m)(hx:Uh w B xb x)(hb:TN w g0 g1 xb pb)(hp:p.Ok)(hr:UH p 65 0 k x.Nh x.args=some (fr,ar,k'))(hl:x.args.length≤100)(c0:x.Nh.length≤100):
 Calls prog 147 #[.pointer (some ⟨pb,0,none⟩),.int .i64 64,.func (.func 258) #[] #[.pointer (some ⟨g0,0,none⟩),.pointer (some ⟨g1,0,none⟩)]] w (Wt g0 g1 B pb xb p A C m k' {x with Nh:=fr,args:=ar} w):=by
 have H0:=J3 (St.first h hx) hb hr;have hlen:=hp.len;clear h hx hb hr;go_enter func147,ntmps147;go_wp2_with fail;go_loopg [6] 65 (fun g s6 wr=>∃(f n J:Nat) (f1 Y:List ByteArray),g=f∧s6=.int .i64 n∧n+f=65∧f1.length≤n+100∧Y.length≤n+100∧UH p f n J f1 Y=some (fr,ar,k')∧St w B pb xb p A C m J {x with Nh:=f1,args:=Y} wr∧TN wr g0 g1 xb pb);·exact⟨65,0,k,x.Nh,x.args,rfl,rfl,rfl,by omega,by omega,H0.2.2,H0.1,H0.2.1⟩
 obtain⟨f,n,J,f1,Y,c1,rfl,c4,c5,c6,a6,b3,b4⟩:=hrel;obtain⟨wo,b8⟩:=eQ wr;subst b8;cases f with
 |zero=>cases a6
 |succ f=>
 obtain⟨q1,q2,q3,q4,q5⟩:=Uv a6;have HS:=J2 b3 b4;have HQ:=J4 q1 q3 q4 q5;clear b3 b4 a6 q1 q3 q4 q5;go_wp2_with fail;refine(TC pb p A C J m 1 wo HS.1.par.pat hp).mono ?_;rintro e w1 ⟨rfl,a7⟩;rw[HQ.1];have R:=J2 (HS.1.all a7) (HS.2.kept a7 trivial trivial);clear a7;go_wp2_with fail;refine(To pb n 64 w1 q2).mono ?_;rintro e w2 ⟨rfl,rfl⟩;go_wp2_with fail;refine(Xo B pb xb p A C J m {x with Nh:=f1,args:=Y} w1 R.1.par R.1.Nb hp g0 g1 R.2 HQ.1 HQ.2.1 HQ.2.2.1 (by show Y.length≤_;omega) (by show f1.length≤_;omega)).mono ?_;rintro e w3 ⟨rfl,b5,b6⟩;have a8:=J2 (Ts R.1 b5) b6;clear b5 b6;go_wp2_with fail;refine(xt pb p A C (J+1+1+1) m 0 w3 a8.1.par.pat hp (by omega)).mono ?_;rintro e w4 ⟨rfl,b0⟩;rw[dj];have j:=J2 (a8.1.all b0) (a8.2.kept b0 trivial trivial);clear b0;by_cases o:p.txt (J+1+1+1)=Ym;·(
 have I:=HQ.2.2.2;rw[ap o] at I;have c7:=TM (p:=p) (k:=J+1+1+1) (by rw[o];decide);have b9:((p.txt (J+1+1+1)).toList==[44])=true:=by rw[TY _ _ Ym (by kernel_rfl),bL o]
 have HZ:=oH I;have b1:=j.1.par.box;have b2:=b1.cl 2;have f2:=b1.free 2;clear I o b1;go_wp2_with fail;go_roundg f
 ·have b7:wi pb p A C (J+1+1+1+1) m w4 (w4.setCell ⟨pb,2,none⟩ (.int .i64 ((J+1+1+1+1:Nat)))):=wi.of j.1.par.pat kR (by omega);refine⟨f,n+1,J+1+1+1+1,_,_,rfl,by go_num,by omega,?_,?_,HZ.out,?_,?_⟩;·rw[iQ];show f1.length+1≤_;omega
  ·rw[iQ];show Y.length+1≤_;omega
  ·simpa using j.1.moved b7
  simpa using j.2.kept b7.1 j.2.2.2.1 j.2.2.2.2
 omega)
 have I:=HQ.2.2.2;rw[ae o] at I;have b9:((p.txt (J+1+1+1)).toList==[44])=false:=by rw[TY _ _ Ym (by kernel_rfl),cI o]
 have HZ:=oH I;clear I o;go_wp2_with fail;have e:=HZ.out;injection e with e1 e2;injection e2 with e2 e3;subst e1;subst e2;subst e3;exact bodyPost_ret (results_none rfl _ _ _) rfl ⟨rfl,j.1,j.2⟩
theorem WW (B pb R:Nat)(p:cr)(A:Option Addr)(C k m k':Nat)(x:cX)(fr ar:List ByteArray)(w:World)(h:PB w B pb p A C k m)(hx:Uh w B R x)(hp:p.Ok)(hq:p.txt k=Yv)(hr:UH p 65 0 (k+1) x.Nh x.args=some (fr,ar,k'))(b0:p.txt k'=Yw)(hl:x.args.length≤100)(b1:x.Nh.length≤100):
 Calls prog 257 #[.pointer (some ⟨pb,0,none⟩),.pointer (some ⟨R,0,none⟩)] w (Ua B pb R p A C m (k'+1) {x with kind:=3,Nh:=fr,args:=ar} w):=by
 obtain⟨W0,j⟩:=eQ ((w.alloc (.cells #[.pointer (some ⟨pb,0,none⟩)] 100)).alloc (.cells #[.pointer (some ⟨R,0,none⟩)] 272));have a1:=aC2 j;have a6:TN W0 (w.heap.size+1) w.heap.size R pb:=by(
 rw[j];refine⟨?_,(al.new w _ _).alloc _,by have:=h.low;have:=h.size;omega,by have:=h.low;have:=h.size;omega⟩;have h1:(w.alloc (.cells #[.pointer (some ⟨pb,0,none⟩)] 100)).heap.size=w.heap.size+1:=by simp
 rw[←h1];exact al.new _ _ _)
 have Y:=J3 j ((St.first h hx).all a1) a6;clear h hx j a1 a6;go_enter func257,ntmps257;go_upto_region 1 with fail;rw[←Y.1];obtain⟨g0,o⟩:=eQ (w.heap.size+1);obtain⟨g1,I⟩:=eQ w.heap.size;have HB:=oH (show TN W0 g0 g1 R pb by rw[o,I];exact Y.2.2);rw[←o,←I];have HG:=J2 o I;clear o I;have c0:=HB.1.cl 0;obtain⟨u0,b2⟩:=Y.2.1.Nb.cellAt 0 (by decide);have b3:=Y.2.1.Nb.free 0;go_upto_region 2 with fail;have J:=oH (HB.out.set Y.2.1.Nb 0 (.int .u8 3));have h2:=Y.2.1.set 0 (.int .u8 3) (x':= {x with kind:=3}) rfl rfl (fun _ _=>rfl);generalize W0.setCell _ _=W1 at*;have H1:=oH h2;clear h2 c0 b2 b3;have c1:=J.2.1.cl 0;go_wp2_with fail;refine(Ar pb p A C k m ⟨#[91]⟩ W1 H1.out.par.pat hp hq (by decide)).mono ?_;rintro e W2 ⟨rfl,hm⟩;have H2:=J2 (H1.out.moved hm) (J.out.kept hm.1 J.2.2.1 J.2.2.2);clear hm c1;have c1:=H2.2.2.1.cl 0;go_wp2_with fail;refine(WR B pb R g0 g1 p A C (k+1) m k' {x with kind:=3} fr ar W2 H2.1.par H2.1.Nb H2.2 hp hr hl b1).mono ?_;rintro e W3 ⟨rfl,a7,a8⟩;have H3:=J2 (Ts H2.1 a7) a8;clear a7 a8 c1;have c1:=H3.2.2.1.cl 0;go_wp2_with fail;refine(Ar pb p A C k' m ⟨#[93]⟩ W3 H3.1.par.pat hp b0 (by decide)).mono ?_;rintro e W4 ⟨rfl,hm⟩;have H4:=oH (H3.1.moved hm);clear hm c1;go_wp2_with fail
 go_end0
 exact⟨rfl,H4.out⟩
section
open Go.RowKit Go.WideMaps Go.Maps
abbrev mx:=List (ByteArray×Value)
def Uq (l:mx):Array MapEntry:=(l.zipIdx.map fun(x,n)=>⟨.string x.1,x.2,n⟩).toArray
def TH (l:mx)(a:ByteArray):Option Value:=(l.find? fun x=>a==x.1).map (·.2)
theorem qbO (a:ByteArray)(l:mx)(n m:Nat):
 Instr.findNow .string (.string a) (l.zipIdx m|>.map fun(x,n)=>(⟨.string x.1,x.2,n⟩:MapEntry)) n=some ((l.findIdx? fun x=>a==x.1).bind fun i=>(TH l a).map fun f=>(n+i,f)):=by
 induction l generalizing n m with
 |nil=>rfl
 |cons x l j=>
  simp only[List.zipIdx_cons,List.map_cons,Instr.findNow,Instr.sameNow,TH,List.find?_cons,List.findIdx?_cons];cases h:a==x.1;·simp only[j,TH];cases l.findIdx? fun x=>a==x.1<;>simp;cases l.find? fun x=>a==x.1<;>simp;omega
  simp
theorem Vl (w:World)(a:ByteArray)(l:List MapEntry)(r)(h:Instr.findNow .string (.string a) l 0=some r):
 (Instr.findKey 9 (.string a) l).run prog w=.ok r w:=by
 unfold Instr.findKey;simp[run_underlying underlying9,h]
theorem WJ (l:mx)(k:ByteArray)(f:Value):(Uq l).push ⟨.string k,f,l.length⟩=Uq (l++[(k,f)]):=by simp[Uq,List.zipIdx_append]
def Tn (w:World)(b:Nat)(l:mx):Prop:=w.heap[b]? =some (.map (Uq l) l.length)
def zs (w:World)(b:Nat)(l:mx):World:= {w with heap:=w.heap.setIfInBounds b (.map (Uq l) l.length)}
theorem Tn.lt {w:World}{b:Nat}{l:mx}(h:Tn w b l):b<w.heap.size:=(mV.1 h).1
theorem Tn.set {w:World}{b:Nat}{l:mx}(h:Tn w b l)(j:mx):Tn (zs w b j) b j:=by have:=h.lt;simp[Tn,zs,this]
theorem Tn.kept {w w':World}{b:Nat}{l:mx}(h:Tn w b l)(k:aa All w w'):Tn w' b l:=by unfold Tn;rw[k.block b h.lt trivial];exact h
theorem Wj (w:World)(b:Nat)(l j:mx):zs (zs w b l) b j=zs w b j:=by simp[zs,Array.setIfInBounds_setIfInBounds]
theorem TD {S:Nat→Prop}{w w':World}{b:Nat}{l:mx}(h:aa S w w')(I:w.heap.size≤b):aa S w (zs w' b l):=by
 refine⟨h.os,h.output,by simpa [zs] using h.size,fun k o C=>?_⟩;have j:b≠k:=by omega
 rw[←h.block k o C];simp[zs,Array.getElem?_setIfInBounds_ne j]
theorem Xq {W:World}{b:Nat}{l:mx}(k:ByteArray)(f:Value)(C:k.size≤maxLen)(h:(l.findIdx? fun x=>k==x.1)=none)(I:Tn W b l):
 (Instr.mapUpdate 270 (.map (some b)) (.string k) f).run prog W=.ok () (zs W b (l++[(k,f)])):=by
 have J:=Vl W k (Uq l).toList none (by have:=qbO k l 0 0;rw[h] at this;simpa [Uq] using this);have o:=Gm.check W false (keyOf_string_mk underlying9 C);have j:W.heap[b]? =some (.map (Uq l) l.length):=I;unfold Instr.mapUpdate;simp[run_underlying underlying270,MapKept.run_getObj_map j,o,J,MapKept.run_setObj_map _ j,Result.andThen,WJ,zs]
theorem Ux {w:World}{l:mx}{b:Nat}(k:ByteArray)(J:k.size≤maxLen)(R:Tn w b l):
 (Instr.lookup 270 (.map (some b)) (.string k) false).run prog w=.ok ((TH l k).getD .nilFunc) w:=by
 have j:=Vl w k (Uq l).toList _ (by have:=qbO k l 0 0;simpa [Uq] using this);have o:=Gm.check w (Uq l).isEmpty (keyOf_string_mk underlying9 J);have C:w.heap[b]? =some (.map (Uq l) l.length):=R;have Y:(zeroValue 269).run prog w=.ok .nilFunc w:=by kernel_rfl
 unfold Instr.lookup;simp[run_underlying underlying270,MapKept.run_getObj_map C,o,j,Result.andThen];cases h:l.findIdx? fun x=>k==x.1 with
 |none=>
  have:TH l k=none:=by rw[List.findIdx?_eq_none_iff] at h;simp only[TH,Option.map_eq_none_iff,List.find?_eq_none];intro x hx;simp[h x hx]
  simp[this,Y]
 |some i=>
  obtain⟨f,j⟩:∃f,TH l k=some f:=by(
 rw[List.findIdx?_eq_some_iff_getElem] at h;obtain⟨hi,hk,_⟩:=h;cases I:l.find? fun x=>k==x.1 with
 |none=>exact absurd hk (List.find?_eq_none.1 I _ (eL hi))
 |some f=>exact⟨f.2,by simp[TH,I]⟩)
  simp[j]
end
def UN:mx:=[(⟨#[115,116,111,114,101]⟩,.func (.func 225) #[] #[]),(⟨#[111,117,116,112,117,116]⟩,.func (.func 226) #[] #[]),(⟨#[106,117,109,112]⟩,.func (.func 227) #[] #[]),(⟨#[98,114,97,110,99,104]⟩,.func (.func 228) #[] #[]),(⟨#[114,101,116,117,114,110]⟩,.func (.func 229) #[] #[])]
def Tz (g4 g5:Nat):mx:=[(⟨#[99,111,110,115,116]⟩,.func (.func 253) #[] #[]),(⟨#[108,111,97,100]⟩,.func (.func 252) #[] #[.pointer (some ⟨g4,0,none⟩)]),(⟨#[119,114,97,112]⟩,.func (.func 252) #[] #[.pointer (some ⟨g5,0,none⟩)]),(⟨#[105,110,112,117,116]⟩,.func (.func 254) #[] #[]),(⟨#[99,97,108,108]⟩,.func (.func 255) #[] #[]),(⟨#[114,101,108,101,97,115,101]⟩,.func (.func 256) #[] #[]),(⟨#[112,104,105]⟩,.func (.func 257) #[] #[])]
theorem Hp {W:World}{b:Nat}{o:mx}(tab:mx)(i:Nat)(k:ByteArray)(f:Value)(hi:tab[i]? =some (k,f))(j:((tab.take i).findIdx? fun x=>k==x.1)=none)(C:k.size≤maxLen)(I:Tn W b o):
 (Instr.mapUpdate 270 (.map (some b)) (.string k) f).run prog (zs W b (tab.take i))=.ok () (zs W b (tab.take (i+1))):=by
 have h:=Xq k f C j (I.set (tab.take i));rw[Wj] at h;rw[cU,hi];exact h
theorem TL {W:World}{b:Nat}{l:mx}(h:Tn W b l):zs W b l=W:=by
 unfold zs;have:W.heap.setIfInBounds b (.map (Uq l) l.length)=W.heap:=by(
 apply Array.ext_getElem?;intro i;rw[Array.getElem?_setIfInBounds];split
 ·rename_i e
  subst e;rw[ap h.lt];exact h.symm
 rfl)
 rw[this]
theorem VK (w:World):(Instr.makeMap 270 none).run prog w=.ok (.map (some w.heap.size)) (w.alloc (.map #[] 0)):=by kernel_rfl
theorem Vg (w:World):Tn (w.alloc (.map #[] 0)) w.heap.size []:=by show(w.heap.push (.map #[] 0))[w.heap.size]? =_;simp[Uq]
theorem WV (w:World):Calls prog 195 #[] w fun e w'=>∃b,e=.returned (.map (some b))∧Tn w' b UN∧aa All w w':=by
 have hm:=VK w;have j:=Vg w;have J:aa All w (w.alloc (.map #[] 0)):=kR.alloc _;have o:=TL j;obtain⟨b,R⟩:=eQ w.heap.size;have C:w.heap.size≤b:=by omega
 rw[←R] at hm j o;generalize w.alloc (.map #[] 0)=W at*;have Y:=Hp UN 0 ⟨#[115,116,111,114,101]⟩ (.func (.func 225) #[] #[]) rfl rfl (by decide) j;rw[show UN.take 0=[] from rfl,o] at Y;have u1:=Hp UN 1 ⟨#[111,117,116,112,117,116]⟩ (.func (.func 226) #[] #[]) rfl rfl (by decide) j;have u2:=Hp UN 2 ⟨#[106,117,109,112]⟩ (.func (.func 227) #[] #[]) rfl rfl (by decide) j;have u3:=Hp UN 3 ⟨#[98,114,97,110,99,104]⟩ (.func (.func 228) #[] #[]) rfl rfl (by decide) j;have u4:=Hp UN 4 ⟨#[114,101,116,117,114,110]⟩ (.func (.func 229) #[] #[]) rfl rfl (by decide) j;have I:=J3 J (j.set (UN.take 5)) C;clear J j o R C;go_enter func195,ntmps195;go_wp2;go_ret;exact⟨b,rfl,I.2.1,TD I.1 I.2.2⟩
section
open Go.RowKit Go.WideMaps Go.Maps
def Ys:mx:=[(⟨#[108,101,118,101,108]⟩,.agg #[.func (.func 125) #[] #[],.int .i64 1]),(⟨#[102,108,111,119]⟩,.agg #[.func (.func 126) #[] #[],.int .i64 2]),(⟨#[105,110,112,117,116]⟩,.agg #[.func (.func 127) #[] #[],.int .i64 2]),(⟨#[111,117,116,112,117,116]⟩,.agg #[.func (.func 128) #[] #[],.int .i64 2]),(⟨#[100,101,112,116,104]⟩,.agg #[.func (.func 129) #[] #[],.int .i64 1])]
theorem ZK {W:World}{b:Nat}{l:mx}(k:ByteArray)(f:Value)(C:k.size≤maxLen)(h:(l.findIdx? fun x=>k==x.1)=none)(I:Tn W b l):
 (Instr.mapUpdate 158 (.map (some b)) (.string k) f).run prog W=.ok () (zs W b (l++[(k,f)])):=by
 have J:=Vl W k (Uq l).toList none (by have:=qbO k l 0 0;rw[h] at this;simpa [Uq] using this);have o:=Gm.check W false (keyOf_string_mk underlying9 C);have j:W.heap[b]? =some (.map (Uq l) l.length):=I;unfold Instr.mapUpdate;simp[run_underlying underlying158,MapKept.run_getObj_map j,o,J,MapKept.run_setObj_map _ j,Result.andThen,WJ,zs]
theorem ZD {w:World}{l:mx}{b:Nat}(k:ByteArray)(J:k.size≤maxLen)(R:Tn w b l):
 (Instr.lookup 158 (.map (some b)) (.string k) false).run prog w=.ok ((TH l k).getD (.agg #[.nilFunc,.int .i64 0])) w:=by
 have j:=Vl w k (Uq l).toList _ (by have:=qbO k l 0 0;simpa [Uq] using this);have o:=Gm.check w (Uq l).isEmpty (keyOf_string_mk underlying9 J);have C:w.heap[b]? =some (.map (Uq l) l.length):=R;have Y:(zeroValue 157).run prog w=.ok (.agg #[.nilFunc,.int .i64 0]) w:=by kernel_rfl
 unfold Instr.lookup;simp[run_underlying underlying158,MapKept.run_getObj_map C,o,j,Result.andThen];cases h:l.findIdx? fun x=>k==x.1 with
 |none=>
  have:TH l k=none:=by rw[List.findIdx?_eq_none_iff] at h;simp only[TH,Option.map_eq_none_iff,List.find?_eq_none];intro x hx;simp[h x hx]
  simp[this,Y]
 |some i=>
  obtain⟨f,j⟩:∃f,TH l k=some f:=by(
 rw[List.findIdx?_eq_some_iff_getElem] at h;obtain⟨hi,hk,_⟩:=h;cases I:l.find? fun x=>k==x.1 with
 |none=>exact absurd hk (List.find?_eq_none.1 I _ (eL hi))
 |some f=>exact⟨f.2,by simp[TH,I]⟩)
  simp[j]
theorem YV {W:World}{b:Nat}{o:mx}(tab:mx)(i:Nat)(k:ByteArray)(f:Value)(hi:tab[i]? =some (k,f))(j:((tab.take i).findIdx? fun x=>k==x.1)=none)(C:k.size≤maxLen)(I:Tn W b o):
 (Instr.mapUpdate 158 (.map (some b)) (.string k) f).run prog (zs W b (tab.take i))=.ok () (zs W b (tab.take (i+1))):=by
 have h:=ZK k f C j (I.set (tab.take i));rw[Wj] at h;rw[cU,hi];exact h
theorem Zx (w:World):(Instr.makeMap 158 none).run prog w=.ok (.map (some w.heap.size)) (w.alloc (.map #[] 0)):=by kernel_rfl
theorem Zb (w:World):Calls prog 70 #[] w fun e w'=>∃b,e=.returned (.map (some b))∧Tn w' b Ys∧aa All w w':=by
 have hm:=Zx w;have j:=Vg w;have J:aa All w (w.alloc (.map #[] 0)):=kR.alloc _;have o:=TL j;obtain⟨b,R⟩:=eQ w.heap.size;have C:w.heap.size≤b:=by omega
 rw[←R] at hm j o;generalize w.alloc (.map #[] 0)=W at*;have Y:=YV Ys 0 ⟨#[108,101,118,101,108]⟩ (.agg #[.func (.func 125) #[] #[],.int .i64 1]) rfl rfl (by decide) j;rw[show Ys.take 0=[] from rfl,o] at Y;have u1:=YV Ys 1 ⟨#[102,108,111,119]⟩ (.agg #[.func (.func 126) #[] #[],.int .i64 2]) rfl rfl (by decide) j;have u2:=YV Ys 2 ⟨#[105,110,112,117,116]⟩ (.agg #[.func (.func 127) #[] #[],.int .i64 2]) rfl rfl (by decide) j;have u3:=YV Ys 3 ⟨#[111,117,116,112,117,116]⟩ (.agg #[.func (.func 128) #[] #[],.int .i64 2]) rfl rfl (by decide) j;have u4:=YV Ys 4 ⟨#[100,101,112,116,104]⟩ (.agg #[.func (.func 129) #[] #[],.int .i64 1]) rfl rfl (by decide) j;have I:=J3 J (j.set (Ys.take 5)) C;clear J j o R C;go_enter func70,ntmps70;go_wp2;go_ret;exact⟨b,rfl,I.2.1,TD I.1 I.2.2⟩
theorem Zv (c:Nat)(w:World)(_:c<1114112):Calls prog 34 #[.int .i32 c] w fun e w'=>e=.returned (.bool (c==32||c==9))∧w=w':=by
 have j:((c:Int)==32)=(c==32):=by rw[Bool.eq_iff_iff,cy,cy];omega
 have I:((c:Int)==9)=(c==9):=by rw[Bool.eq_iff_iff,cy,cy];omega
 cases o:(c==32) with
 |true=>rw[o] at j;go_enter func34,ntmps34;go_wp2;go_ret;exact⟨rfl,rfl⟩
 |false=>rw[o] at j;rw[Bool.false_or];go_enter func34,ntmps34;go_wp2;go_ret;exact⟨rfl,rfl⟩
end
theorem Zw (rd:Nat)(l u i o f:Value)(d:Nat)(s:ByteArray)(S:Nat→Prop)(A:Option Addr)(c:Nat)(w:World)(Y:al w rd 86 #[l,u,i,o,.int .i64 0,f])(I:gB S w (.slice A 1 c) [s])(hs:s.size≤65536)(J:Ab s=true)(R:s.size=0∨Ai s 0≠45)(hn:Os s=some d)(h1:1≤d)(h2:d≤64):
 Calls prog 129 #[.pointer (some ⟨rd,0,none⟩),.slice A 1 c] w fun e w'=>e=.returned (.int .i64 0)∧aa (fun b=>b≠rd) w w'∧al w' rd 86 #[l,u,i,o,.int .i64 d,f]:=by
 obtain⟨b,q,rfl,_,hc⟩:=Bs I (i:=0) rfl;rw[dj] at hc;have x4:=Y.cl 4;have y4:=Y.free 4;have HB:=J2 Y hn;have HN:=oH (fun w1=>VU s w1 J R hs);clear Y I hn J R hs;go_enter func129,ntmps129;go_wp2_with fail;refine(HN.out _).mono ?_;rintro e w1 ⟨hk,v,rfl,I⟩;have a1:=I d HB.2;subst a1;have j:=HB.1.kept hk trivial;have x4:=j.cell 4;have y4:=j.free 4;have C:=j.set 4 (.int .i64 d);simp only[gc,ga] at x4 C;have H1:=J2 (hk.all (S:=fun b=>b≠rd)) C;have a6:decide ((d:Int)<1)=false:=by simp;omega
 have a7:decide ((64:Int)<(d:Int))=false:=by simp;omega
 clear hk j C I;go_wp2_with fail;go_ret;exact⟨rfl,H1.1.setCell (.inl fun h=>h rfl) _,H1.2⟩
theorem Zr (B rd nf:Nat)(p:aH)(o a3 a4 a5:Option Addr)(C c3 c4 c5:Nat)(s:ByteArray)(S S2:Nat→Prop)(A:Option Addr)(c:Nat)(w:World)(I:al w rd 86 #[.slice o p.MZ.length C,.slice none 0 0,.slice a3 p.Nb.length c3,.slice a4 p.Na.length c4,.int .i64 p.Nc,.slice a5 nf c5])
 (hP:dJ S w (.agg #[.slice o p.MZ.length C,.slice none 0 0,.slice a3 p.Nb.length c3,.slice a4 p.Na.length c4,.int .i64 p.Nc]) p) (hr:w.ownsRow B 9 1 (.slice o p.MZ.length C) p.MZ.length (p.MZ.map Value.string)) (hB:B≤w.heap.size) (hv:gB S2 w (.slice A 1 c) [s]) (a8:∀b,S2 b→(Value.slice o p.MZ.length C).ownBlock≠some b) (b5:eZ p s<0) (hn:p.MZ.length<64):
 Calls prog 125 #[.pointer (some ⟨rd,0,none⟩),.slice A 1 c] w fun e w'=>e=.returned (.int .i64 0)∧aa (fun b=>b≠rd∧(Value.slice o p.MZ.length C).ownBlock≠some b) w w'∧∃R Y,al w' rd 86 #[.slice R (p.MZ.length+1) Y,.slice none 0 0,.slice a3 p.Nb.length c3,.slice a4 p.Na.length c4,.int .i64 p.Nc,.slice a5 nf c5]∧
  w'.ownsRow B 9 1 (.slice R (p.MZ.length+1) Y) (p.MZ.length+1) (p.MZ.map Value.string++[.string s])∧((Value.slice R (p.MZ.length+1) Y).ownBlock=(Value.slice o p.MZ.length C).ownBlock∨∀g,(Value.slice R (p.MZ.length+1) Y).ownBlock=some g→w.heap.size≤g):=by
 obtain⟨iS,IS⟩:=iH UP;obtain⟨b,q,rfl,b2,hc⟩:=Bs hv (i:=0) rfl;have b6:=oH (a8 b b2);clear a8 b2;rw[dj] at hc;obtain⟨n,b8⟩:=eQ p.MZ.length;have HV:=oH (fun wn (j:aa All w wn)=>show wn.cell? ⟨b,q,none⟩=some (.string s)∧wn.cell? ⟨rd,0,none⟩=some (.slice o p.MZ.length C)∧wn.cell? ⟨rd,1,none⟩=some (.slice none 0 0)∧wn.cell? ⟨rd,2,none⟩=some (.slice a3 p.Nb.length c3)∧wn.cell? ⟨rd,3,none⟩=some (.slice a4 p.Na.length c4)∧wn.cell? ⟨rd,4,none⟩=some (.int .i64 p.Nc) from⟨j.cell (p:=⟨b,q,none⟩) trivial hc,(I.kept j trivial).cell 0,(I.kept j trivial).cell 1,(I.kept j trivial).cell 2,(I.kept j trivial).cell 3,(I.kept j trivial).cell 4⟩);have HL:=oH (fun wn (j:aa All w wn)=>show Calls prog 49 #[(.agg #[.slice o p.MZ.length C,.slice none 0 0,.slice a3 p.Nb.length c3,.slice a4 p.Na.length c4,.int .i64 p.Nc]),.string s] wn (fun e w'=>e=.returned (.tuple #[.int .i64 0,.bool false])∧aa All wn w') from(qB S _ p s wn (cB.keep j.all hP)).mono fun e w' h=>⟨by rw[h.1];unfold lH;rw[show max (eZ p s) 0=0 by omega,show decide (0≤eZ p s)=false by simp;omega],h.2⟩);have H0:=J3 I hr hB;clear I hP hr hB hv b5 hc;go_enter func125,ntmps125;go_upto_region 1 with fail;refine R0 13 w (fun i=>if i=7 then some (·=(.tuple #[.int .i64 0,.bool false])) else none) ?_;iterate 7 refine O4 HV.out ?_
 refine O5 (v:=(.tuple #[.int .i64 0,.bool false])) (fun wn j hp=>⟨_,_,by(skip;go_simp<;>with_reducible rfl),((HL.out wn j).mono fun e w' h=>⟨h.1,j.trans h.2,fun _ h=>by cases h⟩)⟩) ?_;iterate 5 refine O4 HV.out ?_
 refine aG fun wt J hF=>?_;have HT:=oH J;clear J hF;simp only[dK];have b3:=H0.1.kept HT.out trivial;have x0:=b3.cl 0;clear b3;have b7:((p.MZ.length:Int)==64)=false:=by simp;omega
 go_upto_region 6 with fail;clear x0;have b0:∀b,(Value.slice o p.MZ.length C).ownBlock=some b→b<w.heap.size∧b≠rd:=fun b I=>⟨(aD H0.2.1 I).2,Ot H0.2.1 I H0.1 (by decide)⟩;have HO:=J3 b0 (fun h=>(b0 rd h).2 rfl:(Value.slice o p.MZ.length C).ownBlock≠some rd) HT.out.size;have HS:=oH (fun wn (j:aa (fun b=>(Value.slice o p.MZ.length C).ownBlock≠some b) wt wn)=>show al wn rd 86 #[.slice o p.MZ.length C,.slice none 0 0,.slice a3 p.Nb.length c3,.slice a4 p.Na.length c4,.int .i64 p.Nc,.slice a5 nf c5] from(H0.1.kept HT.out trivial).kept j HO.2.1);have HQ:=oH (fun wn (j:aa (fun b=>(Value.slice o p.MZ.length C).ownBlock≠some b) wt wn)=>show wn.cell? ⟨rd,0,none⟩=some (.slice o p.MZ.length C) from(HS.out wn j).cell 0);have HW:=oH (HV.out wt HT.out);have b4:(Value.slice o p.MZ.length C).ownBlock≠some b:=b6.out;have HU:=oH (fun wn (j:aa (fun b=>(Value.slice o p.MZ.length C).ownBlock≠some b) wt wn)=>show wn.cell? ⟨b,q,none⟩=some (.string s) from j.cell (p:=⟨b,q,none⟩) b4 HW.1);clear b4 b0;refine bq 14 (DL wt B 9 1 (.slice o p.MZ.length C) p.MZ.length (p.MZ.map Value.string)) [35,36] (NH wt B 9 1 (.slice o p.MZ.length C) p.MZ.length (p.MZ.map Value.string) [.string s] 35) (fun i=>if i=10 then some (NT p.MZ.length) else if i=9 then some Oa else none) (fun _=>false) (fun _ _=>False) (by kernel_rfl) (by kernel_rfl) (by kernel_rfl) (by kernel_rfl) (DL.first (be H0.2.1 HT.out fun _ _=>trivial)) (fun _ _ _ h=>h.elim) ?_;simp only[tK];iterate 9 first|refine O3 (fun wn j hp=>by(have e0:=HQ.out wn j.1;go_simp;with_reducible rfl)) ?_|refine O3 (fun wn j hp=>by(have e0:=HU.out wn j.1;go_simp;with_reducible rfl)) ?_|refine O0 ?_
 refine PE (by rfl) (by rfl) (by rfl) rfl (fun wn j hp=>by(skip;go_simp<;>with_reducible rfl)) ?_;intro g;simp only[PS];refine Ov (by rfl) (by rfl) (by rfl) rfl (by decide) (.tmp 31) 22 rfl iS _ 16 underlying22 IS.1 IS.2.1 IS.2.2.1 IS.2.2.2 rfl (by decide) rfl g rfl (by decide) rfl (by intro u hu;rw[cx.1 hu];rfl) (by unfold maxLen;omega) (by omega) (by have:=HO.2.2;have:=H0.2.2;omega) (fun b I=>by have:=(HO.1 b I).1;have:=HO.2.2;omega) ?_;intro R Y;simp only[PS];iterate 3 refine O0 ?_
 refine aG fun w3 J hF=>?_;have a6:=hF 36 (by simp) _ rfl;unfold NH at a6;rw[ae (by decide)] at a6;have H3:=J2 J.1 a6;clear J hF a6;simp only[dK];have a7:=HS.out w3 H3.1;have z0:=a7.cell 0;have f0:=a7.free 0;have b1:=a7.set 0 (.slice R (p.MZ.length+1) Y);simp only[gc,ga] at z0 b1;have H4:=oH b1;clear a7 b1;go_wp2_with fail;go_ret;have kF:aa (fun b=>b≠rd∧(Value.slice o p.MZ.length C).ownBlock≠some b) w (w3.setCell ⟨rd,0,none⟩ (.slice R (p.MZ.length+1) Y)):=((HT.out.all.trans (H3.1.mono fun b I=>I.2)).setCell (.inl fun h=>h.1 rfl) _);have k4:aa (fun b=>b≠rd) w3 (w3.setCell ⟨rd,0,none⟩ (.slice R (p.MZ.length+1) Y)):=kR.setCell (.inl fun h=>h rfl) _;refine⟨rfl,kF,R,Y,H4.out,be H3.2.1 k4 fun g hg=>Ot H3.2.1 hg (HS.out w3 H3.1) (by decide),?_⟩;rcases H3.2.2 with h|h;·exact .inl h
 exact .inr fun g hg=>by have:=h g hg;have:=HO.2.2;omega
theorem Yr:(prog.info? 226).map (fun i=>(i.zero,i.size,i.bytes))=some (some (.agg #[.string ⟨#[]⟩,.int .i64 0]),2,24):=by kernel_rfl
theorem ZH (B rd n1 nf:Nat)(d:Int)(p:aH)(a1 a4 a5:Option Addr)(c1 n4 c4 c5:Nat)(s s2:ByteArray)(L:Nat)(S S2:Nat→Prop)(A:Option Addr)(c:Nat)(w:World)(C:al w rd 86 #[.slice a1 n1 c1,.slice none 0 0,.slice none 0 0,.slice a4 n4 c4,.int .i64 d,.slice a5 nf c5])
 (hP:dJ S w (.agg #[.slice a1 n1 c1,.slice none 0 0,.slice none 0 0,.slice a4 n4 c4,.int .i64 d]) p) (hB:B≤w.heap.size) (hv:gB S2 w (.slice A 2 c) [s,s2]) (hL:eZ p s2=L) (_:s.size≤65536):
 Calls prog 188 #[.pointer (some ⟨rd,0,none⟩),.pointer (some ⟨rd,2,none⟩),.slice A 2 c] w fun e w'=>e=.returned (.int .i64 0)∧aa (fun b=>b≠rd) w w'∧∃I J,al w' rd 86 #[.slice a1 n1 c1,.slice none 0 0,.slice I 1 J,.slice a4 n4 c4,.int .i64 d,.slice a5 nf c5]∧
  w'.ownsRow B 226 2 (.slice I 1 J) 1 [.string s,.int .i64 L]∧∀g,(Value.slice I 1 J).ownBlock=some g→w.heap.size≤g:=by
 obtain⟨iS,IS⟩:=iH Yr;obtain⟨b,q,rfl,b4,hc⟩:=Bs hv (i:=0) rfl;obtain⟨b2,q2,e2,_,a8⟩:=Bs hv (i:=1) rfl;cases e2;rw[dj] at hc;clear b4;have HV:=oH (fun wn (j:aa All w wn)=>show wn.cell? ⟨b,q,none⟩=some (.string s)∧wn.cell? ⟨b,q+1,none⟩=some (.string s2)∧wn.cell? ⟨rd,0,none⟩=some (.slice a1 n1 c1)∧wn.cell? ⟨rd,1,none⟩=some (.slice none 0 0)∧wn.cell? ⟨rd,2,none⟩=some (.slice none 0 0)∧wn.cell? ⟨rd,3,none⟩=some (.slice a4 n4 c4)∧wn.cell? ⟨rd,4,none⟩=some (.int .i64 d) from⟨j.cell (p:=⟨b,q,none⟩) trivial hc,j.cell (p:=⟨b,q+1,none⟩) trivial a8,(C.kept j trivial).cell 0,(C.kept j trivial).cell 1,(C.kept j trivial).cell 2,(C.kept j trivial).cell 3,(C.kept j trivial).cell 4⟩);have HL:=oH (fun wn (j:aa All w wn)=>show Calls prog 49 #[(.agg #[.slice a1 n1 c1,.slice none 0 0,.slice none 0 0,.slice a4 n4 c4,.int .i64 d]),.string s2] wn (fun e w'=>e=.returned (.tuple #[.int .i64 L,.bool true])∧aa All wn w') from(qB S _ p s2 wn (cB.keep j.all hP)).mono fun e w' h=>⟨by rw[h.1];unfold lH;rw[hL,show max (L:Int) 0=L by omega,show decide ((0:Int)≤(L:Int))=true by simp],h.2⟩);have HC:=oH (fun wn=>show Calls prog 150 #[.slice none 0 0,.func (.func 151) #[] #[],.string s] wn (fun e w'=>e=.returned (.tuple #[.int .i64 0,.bool false])∧aa All wn w') from qt (fun _=>False) _ [] s wn rx.nil);have H0:=J2 C hB;clear C hP hB hv hL hc a8;go_enter func188,ntmps188;go_upto_region 1 with fail;refine R0 12 w (fun i=>if i=6 then some (·=(.tuple #[.int .i64 0,.bool false])) else none) ?_;iterate 6 refine O4 HV.out ?_
 refine O5 (v:=(.tuple #[.int .i64 0,.bool false])) (fun wn j hp=>⟨_,_,by(skip;go_simp<;>with_reducible rfl),(((fun wn (_:aa All w wn)=>HC.out wn) wn j).mono fun e w' h=>⟨h.1,j.trans h.2,fun _ h=>by cases h⟩)⟩) ?_;iterate 5 refine O4 HV.out ?_
 refine aG fun wt o hF=>?_;have HT:=oH o;clear o hF;simp only[dK];have a6:=oH HT.out;clear HT;go_upto_region 4 with fail;have b0:=oH (fun wn (j:aa All wt wn)=>HV.out wn (a6.out.trans j));have b5:=oH (fun wn (j:aa All wt wn)=>HL.out wn (a6.out.trans j));obtain⟨wq,b6⟩:=eQ wt;subst b6;refine R0 13 wq (fun i=>if i=7 then some (·=(.tuple #[.int .i64 L,.bool true])) else none) ?_;iterate 7 refine O4 b0.out ?_
 refine O5 (v:=(.tuple #[.int .i64 L,.bool true])) (fun wn j hp=>⟨_,_,by(skip;go_simp<;>with_reducible rfl),((b5.out wn j).mono fun e w' h=>⟨h.1,j.trans h.2,fun _ h=>by cases h⟩)⟩) ?_;iterate 5 refine O4 b0.out ?_
 refine aG fun wt o hF=>?_;have HT:=oH o;clear o hF;simp only[dK];have HK:=oH (a6.out.trans HT.out);have b1:=H0.1.kept HK.out trivial;have x0:=b1.cl 2;clear b1;go_upto_region 9 with fail;clear x0;have HS:=oH (fun wn (j:aa (fun b=>(Value.slice none 0 0).ownBlock≠some b) wt wn)=>show al wn rd 86 #[.slice a1 n1 c1,.slice none 0 0,.slice none 0 0,.slice a4 n4 c4,.int .i64 d,.slice a5 nf c5] from(H0.1.kept HK.out trivial).kept j (fun h=>by cases h));have HQ:=oH (fun wn (j:aa (fun b=>(Value.slice none 0 0).ownBlock≠some b) wt wn)=>show wn.cell? ⟨rd,2,none⟩=some (.slice none 0 0) from(HS.out wn j).cell 2);have HU:=oH (fun wn (j:aa (fun b=>(Value.slice none 0 0).ownBlock≠some b) wt wn)=>show wn.cell? ⟨b,q,none⟩=some (.string s) from j.cell (p:=⟨b,q,none⟩) (fun h=>by cases h) (HV.out wt HK.out).1);have b3:wt.ownsRow B 226 2 (.slice none 0 0) 0 []:=⟨rfl,.inl ⟨rfl,rfl⟩⟩;have b7:=oH b3;clear b3;refine bq 12 (DL wt B 226 2 (.slice none 0 0) 0 []) [49,50] (NH wt B 226 2 (.slice none 0 0) 0 [] [.string s,.int .i64 L] 49) (fun i=>if i=10 then some (NT 0) else if i=9 then some Oa else none) (fun _=>false) (fun _ _=>False) (by kernel_rfl) (by kernel_rfl) (by kernel_rfl) (by kernel_rfl) (DL.first b7.out) (fun _ _ _ h=>h.elim) ?_;simp only[tK];iterate 9 first|refine O3 (fun wn j hp=>by(have e0:=HQ.out wn j.1;go_simp;with_reducible rfl)) ?_|refine O3 (fun wn j hp=>by(have e0:=HU.out wn j.1;go_simp;with_reducible rfl)) ?_|refine O0 ?_
 refine PE (by rfl) (by rfl) (by rfl) rfl (fun wn j hp=>by(skip;go_simp<;>with_reducible rfl)) ?_;intro g;simp only[PS];refine Ov (by rfl) (by rfl) (by rfl) rfl (by decide) (.tmp 43) 24 rfl iS _ 24 underlying24 IS.1 IS.2.1 IS.2.2.1 IS.2.2.2 rfl (by decide) rfl g rfl (by decide) rfl (by intro u hu;simp only[fX,List.not_mem_nil,or_false] at hu;rcases hu with rfl|rfl<;>rfl) (by unfold maxLen;omega) (by omega) (by have:=HK.out.size;have:=H0.2;omega) (fun b C=>by cases C) ?_;intro I J;simp only[PS];refine O0 ?_;refine aG fun w3 o hF=>?_;have R:=hF 50 (by simp) _ rfl;unfold NH at R;rw[ae (by decide)] at R;have H3:=J2 o.1 R;clear o hF R;simp only[dK];have Y:=HS.out w3 H3.1;have z0:=Y.cell 2;have f0:=Y.free 2;have a7:=Y.set 2 (.slice I 1 J);simp only[gc,ga] at z0 a7;have H4:=oH a7;clear Y a7;go_wp2_with fail;go_ret;have kF:aa (fun b=>b≠rd) w (w3.setCell ⟨rd,2,none⟩ (.slice I 1 J)):=((HK.out.all.trans (H3.1.mono fun b C h=>by cases h)).setCell (.inl fun h=>h rfl) _);have k4:aa (fun b=>b≠rd) w3 (w3.setCell ⟨rd,2,none⟩ (.slice I 1 J)):=kR.setCell (.inl fun h=>h rfl) _;refine⟨rfl,kF,I,J,H4.out,be H3.2.1 k4 fun g hg=>Ot H3.2.1 hg (HS.out w3 H3.1) (by decide),?_⟩;rcases H3.2.2 with h|h;·exact fun g hg=>by have h2:(Value.slice I 1 J).ownBlock=none:=h;rw[h2] at hg;cases hg
 exact fun g hg=>by have:=h g hg;have:=HK.out.size;omega
theorem Zq (B rd o nf:Nat)(d:Int)(p:aH)(C a4 a5:Option Addr)(I J R Y:Nat)(s s2:ByteArray)(L:Nat)(S S2:Nat→Prop)(A:Option Addr)(c:Nat)(w:World)(hb:al w rd 86 #[.slice C o I,.slice none 0 0,.slice none 0 0,.slice a4 J R,.int .i64 d,.slice a5 nf Y])
 (hP:dJ S w (.agg #[.slice C o I,.slice none 0 0,.slice none 0 0,.slice a4 J R,.int .i64 d]) p) (hB:B≤w.heap.size) (hv:gB S2 w (.slice A 2 c) [s,s2]) (hL:eZ p s2=L) (j:s.size≤65536):
 Calls prog 127 #[.pointer (some ⟨rd,0,none⟩),.slice A 2 c] w fun e w'=>e=.returned (.int .i64 0)∧aa (fun b=>b≠rd) w w'∧∃A5 C5,al w' rd 86 #[.slice C o I,.slice none 0 0,.slice A5 1 C5,.slice a4 J R,.int .i64 d,.slice a5 nf Y]∧
  w'.ownsRow B 226 2 (.slice A5 1 C5) 1 [.string s,.int .i64 L]∧∀g,(Value.slice A5 1 C5).ownBlock=some g→w.heap.size≤g:=by
 have HC:=oH (ZH B rd o nf d p C a4 a5 I J R Y s s2 L S S2 A c w hb hP hB hv hL j);clear hb hP hB hv hL j;go_enter func127,ntmps127;go_wp2_with fail;refine HC.out.mono ?_;rintro e w' ⟨rfl,h⟩;have H:=oH h;clear h;go_wp2_with fail;go_ret;exact⟨rfl,H.out⟩
def YG:cO (Nat×Nat):=fun _ _ cs x=>cs=[.int .i64 x.1,.int .i64 x.2]
theorem Yb:cO.Good YG:=⟨fun _ h=>h,fun _ h=>h⟩
section
attribute [local go_sem] pm lU jt mU List.getElem?_toArray List.getElem?_cons_zero
theorem YL (w:World)(x y z:BitVec 64)(h:x|||y=z):(binOp .or 163 (U x) (U y)).run prog w=.ok (U z) w:=by subst h;exact xr ..
theorem YM {w W:World}{b j:Nat}{v:Value}(h:aa All w W)(C:w.heap.size≤b):aa All w (W.setCell ⟨b,j,none⟩ v):=by have o:aa (fun i=>i<w.heap.size) w (W.setCell ⟨b,j,none⟩ v):=(h.mono fun _ _=>trivial).setCell (.inl fun h=>by have:b<w.heap.size:=h;omega) _;exact⟨o.os,o.output,o.size,fun i hi I=>o.block i hi hi⟩
end
end Go.Proofs.YtgdlhckhpolnnaaGreatDoor
