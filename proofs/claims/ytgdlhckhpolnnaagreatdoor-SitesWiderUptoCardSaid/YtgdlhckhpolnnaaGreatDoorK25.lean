/- Part 26 of the proof (its last part says what is proved). No condition. -/
import Derived.Test.YtgdlhckhpolnnaaGreatDoorK24
namespace Go.Proofs.YtgdlhckhpolnnaaGreatDoor
set_option maxRecDepth 100000
set_option maxHeartbeats 8000000
open Go.RowKit Go.Proofs.Tryz
section
open Go Go.RowKit
section
variable {P:Program}
theorem VJ {c i j:Nat}(x y z:Option (Value→Prop)):∀k,(if k=c then x else if k=i then y else if k=j then z else none)≠none→k=c∨k∈[i,j]:=by
 intro k h;by_cases h1:k=c;·exact .inl h1
 right;by_cases o:k=i;·rw[o];simp
 by_cases C:k=j;·rw[C];simp
 rw[ae h1,ae o,ae C] at h;exact absurd rfl h
def SY (W:World)(E:Nat→Prop)(base:Nat)(e:TypeId)(size:Nat)(v:Value)(n:Nat)(xs:List Value)(PS:Bool→World→Prop)(b:Bool)(w:World):Prop:=
 aa (fun i=>v.ownBlock≠some i∧E i) W w∧w.ownsRow base e size v n xs∧PS b w
def FY (W:World)(E:Nat→Prop)(base:Nat)(e:TypeId)(size:Nat)(v:Value)(n:Nat)(xs:List Value)(o:Value→List Value)(C:Value→World→Prop)(I J t:Tmp)(u:Value)(w:World):Prop:=
 if t=I then∃g y,u=.slice (some ⟨g,0,none⟩) 1 1∧W.heap.size≤g∧al w g e (o y).toArray∧C y w
 else if t=J then C u w
 else∃y j,w.ownsRow base e size u (n+1) (xs++o y)∧C y j∧W.heap.size≤j.heap.size∧aa (fun b=>v.ownBlock≠some b∧E b) j w∧(u.ownBlock=v.ownBlock∨∀g,u.ownBlock=some g→j.heap.size≤g)
structure Vb (W:World)(E:Nat→Prop)(v:Value)(PS:Bool→World→Prop)(C:Value→World→Prop):Prop where
 big:∀i,W.heap.size≤i→E i
 own:∀b,v.ownBlock=some b→E b∧b<W.heap.size
 ps:∀b w w',aa (fun i=>v.ownBlock≠some i) w w'→PS b w→PS b w'
 c:∀y w w',aa (fun i=>v.ownBlock≠some i∧E i) w w'→C y w→C y w'
variable {ops:Array Oper} {X:List PanicEntry→World→Prop} {W:World} {E:Nat→Prop} {base:Nat} {e:TypeId} {size:Nat} {v:Value} {n:Nat} {xs:List Value} {PS:Bool→World→Prop} {cl:Value→List Value} {C:Value→World→Prop} {tb tc ta:Tmp} {L:Nat→Option (Value→Prop)} {D:Nat→Bool} {Q:Act→Prop} {o:Oper} {rest:List Oper} {k c:Nat} {dead:Bool} {a:Act}
theorem SY.first {w:World}(h:w.ownsRow base e size v n xs)(j:PS false w.drew):SY w E base e size v n xs PS false w.drew:=⟨kR.drew,be h ((aa.refl All w).drew) fun _ _=>trivial,j⟩
theorem FY.keep (G:Vb W E v PS C){w w':World}(k:aa All w w')(t:Tmp)(u:Value)(h:FY W E base e size v n xs cl C tb tc t u w):FY W E base e size v n xs cl C tb tc t u w':=by
 unfold FY at h⊢;split
 ·rename_i e;rw[ap e] at h
  obtain⟨g,y,h1,j,I,J⟩:=h;exact⟨g,y,h1,j,I.kept k trivial,G.c _ _ _ k.all J⟩
 rename_i e;rw[ae e] at h;split
 ·rename_i e;rw[ap e] at h
  exact G.c _ _ _ k.all h
 rename_i e;rw[ae e] at h;obtain⟨y,R,h1,j,I,J,Y⟩:=h;exact⟨y,R,be h1 k fun _ _=>trivial,j,I,J.trans k.all,Y⟩
theorem Hy (G:Vb W E v PS C){V:Value→Prop}(hw:Region.wanted o (yielded ops a.tmps)=true)(hl:L c=some V)(hd:D c=false)(I:o.dst=some tc)(a6:tc≠tb)
 (h:∀w,SY W E base e size v n xs PS false w→∃f args,(execOp a.eval o).run P w=.ok (.enter f args) w∧Calls P f args w fun e w'=>∃u,e=.returned u∧V u∧aa E w w'∧PS true w'∧C u w')
 (R:∀u,V u→WE P ops (SY W E base e size v n xs PS) c [tc,tb,ta] (FY W E base e size v n xs cl C tb tc) L D X Q rest (c+1) dead (a.put (some tc) u)):
 WE P ops (SY W E base e size v n xs PS) c [tc,tb,ta] (FY W E base e size v n xs cl C tb tc) L D X Q (o::rest) c dead a:=by
 have good:∀w w' u,SY W E base e size v n xs PS false w→aa E w w'→PS true w'→C u w'→om (SY W E base e size v n xs PS true) [tc,tb,ta] (FY W E base e size v n xs cl C tb tc) o w w' u:=by(
 intro w w' u j R hp Y;have hK:aa (fun i=>v.ownBlock≠some i∧E i) w w':=R.mono fun i hi=>hi.2;refine⟨⟨j.1.trans hK,be j.2.1 R fun b hb=>(G.own b hb).1,hp⟩,fun t _ u hu=>?_,fun d a1 _=>?_⟩;·(
 unfold FY at hu⊢;split
 ·rename_i et;rw[ap et] at hu
  obtain⟨g2,y2,q1,q2,J,q4⟩:=hu;exact⟨g2,y2,q1,q2,J.kept R (G.big _ q2),G.c _ _ _ hK q4⟩
 rename_i et;rw[ae et] at hu;split
 ·rename_i ec;rw[ap ec] at hu
  exact G.c _ _ _ hK hu
 rename_i ec;rw[ae ec] at hu;obtain⟨y2,wz,q1,q2,q4,q5,J⟩:=hu;have a7:∀b,u.ownBlock=some b→E b:=fun b hb=>by
  rcases J with J|J;·rw[J] at hb;exact(G.own b hb).1
  have:=J b hb;exact G.big _ (by omega)
 exact⟨y2,wz,be q1 R a7,q2,q4,q5.trans hK,J⟩)
 rw[I] at a1;cases a1;unfold FY;rw[ae a6,ap rfl];exact Y)
 refine UC hw hl hd (fun w j hp=>?_) (fun w j hp=>?_) (fun u hu=>by rw[I];exact R u hu)
 ·rw[bne_self_eq_false] at j
  obtain⟨f,args,hr,Y⟩:=h w j;rw[hr];exact Y.mono fun e w' ⟨u,h1,h2,h3,h4,h5⟩=>.inl ⟨rfl,u,h1,h2,good w w' u j h3 h4 h5⟩
 rw[bne_self_eq_false] at j;obtain⟨f,args,hr,Y⟩:=h w j;obtain⟨e,w',_,⟨u,_,h2,h3,h4,h5⟩,_⟩:=Y [];exact⟨u,w',h2,good w w' u j h3 h4 h5⟩
theorem Tv (G:Vb W E v PS C)(a1:k≠c)(hw:Region.wanted o (yielded ops a.tmps)=true)(hl:L k=some Oa)(hd:D k=false)(I:o.dst=some tb)(a6:tc≠tb)(y:Value)(hy:a.tmps[tc]? =some y)(J:tc∈o.looksAt ops)
 (h:∀w,SY W E base e size v n xs PS true w→(execOp a.eval o).run P w=.ok (.value (.slice (some ⟨w.heap.size,0,none⟩) 1 1)) (w.alloc (.cells (cl y).toArray e)))
 (hk:∀g,WE P ops (SY W E base e size v n xs PS) c [tc,tb,ta] (FY W E base e size v n xs cl C tb tc) L D X Q rest (k+1) dead (a.put (some tb) (.slice (some ⟨g,0,none⟩) 1 1))):
 WE P ops (SY W E base e size v n xs PS) c [tc,tb,ta] (FY W E base e size v n xs cl C tb tc) L D X Q (o::rest) k dead a:=by
 have hb:(k !=c)=true:=by rw[bne_iff_ne];exact a1
 have good:∀w,SY W E base e size v n xs PS true w→ij ops [tc,tb,ta] (FY W E base e size v n xs cl C tb tc) o a w→om (SY W E base e size v n xs PS true) [tc,tb,ta] (FY W E base e size v n xs cl C tb tc) o w (w.alloc (.cells (cl y).toArray e)) (.slice (some ⟨w.heap.size,0,none⟩) 1 1):=fun w j R=>by have hc:=R tc J (by simp) _ hy;unfold FY at hc;rw[ae a6,ap rfl] at hc;have Y:aa All w (w.alloc (.cells (cl y).toArray e)):=kR.alloc _;refine⟨⟨j.1.trans Y.all,be j.2.1 Y fun _ _=>trivial,G.ps _ _ _ Y.all j.2.2⟩,fun t _ u hu=>hu.keep G Y t u,fun d hd _=>?_⟩;rw[I] at hd;cases hd;unfold FY;rw[ap rfl];exact⟨_,y,rfl,j.1.size,al.new _ _ _,G.c _ _ _ Y.all hc⟩
 refine UC hw hl hd (fun w j R=>?_) (fun w j R=>?_) ?_
 ·rw[hb] at j
  rw[h w j];exact⟨rfl,⟨_,rfl⟩,good w j R⟩
 ·rw[hb] at j
  exact⟨_,_,⟨_,rfl⟩,good w j R⟩
 rintro u ⟨g,rfl⟩;rw[I];exact hk g
theorem Tu (G:Vb W E v PS C)(b8:k≠c)(hw:Region.wanted o (yielded ops a.tmps)=true)(hl:L k=some (NT n))(hd:D k=false)(a6:o.dst=some ta)(b9:ta≠tb)(c0:ta≠tc)(s:Operand)(t:TypeId)
 (ho:o.op=.call {callee:=.builtin .append,args:=#[s,.tmp tb],argTypes:=#[t,t]}) (i:TypeInfo) (z:Value) (bytes:Nat) (ht:P.underlying t=some (.slice e)) (hi:P.info? e=some i) (hz:i.zero=some z)
 (Y:i.size=size) (b2:i.bytes=bytes) (c1:z.cells.size=size) (b3:0<size) (hs:a.eval s=v) (g:Nat) (hx:a.tmps[tb]? =some (.slice (some ⟨g,0,none⟩) 1 1)) (b0:tb∈o.looksAt ops)
 (h1:∀y w,C y w→(cl y).length=size∧∀u∈cl y,u.oneCell'=true) (b4:n+1≤maxLen) (J:(n+1)*bytes≤140737488355328) (b1:base≤W.heap.size)
 (hk:∀A c',WE P ops (SY W E base e size v n xs PS) c [tc,tb,ta] (FY W E base e size v n xs cl C tb tc) L D X Q rest (k+1) dead (a.put (some ta) (.slice A (n+1) c'))):
 WE P ops (SY W E base e size v n xs PS) c [tc,tb,ta] (FY W E base e size v n xs cl C tb tc) L D X Q (o::rest) k dead a:=by
 have hb:(k !=c)=true:=by rw[bne_iff_ne];exact b8
 have key:∀w,SY W E base e size v n xs PS true w→ij ops [tc,tb,ta] (FY W E base e size v n xs cl C tb tc) o a w→∃v' w',(Builtin.append_ #[t,t] o.type #[v,.slice (some ⟨g,0,none⟩) 1 1]).run P w=.ok v' w'∧NT n v'∧om (SY W E base e size v n xs PS true) [tc,tb,ta] (FY W E base e size v n xs cl C tb tc) o w w' v':=by(
 intro w I hp;have hf:=hp tb b0 (by simp) _ hx;unfold FY at hf;rw[ap rfl] at hf;obtain⟨g',y,eg,c5,c4,hy⟩:=hf;iterate 3 injection eg with eg
 subst eg;obtain⟨b5,a7⟩:=h1 y w hy;have a1:∀(j:Nat) u,(cl y)[j]? =some u→w.cell? ⟨g,0+j,none⟩=some u:=fun j u hu=>by rw[cN,c4.cell j,List.getElem?_toArray];exact hu
 obtain⟨v',w',hr,h2,h3,h4⟩:=JL (P:=P) w base t o.type e i z size bytes ht hi hz Y b2 c1 b3 v n xs I.2.1 (some ⟨g,0,none⟩) 1 1 (cl y) (by rw[b5,Nat.one_mul]) (fun _=>⟨g,0,rfl,a1⟩) a7 b4 J (fR b1 I.1.size);have b6:=NO (P:=P) w base t o.type e i z size bytes ht hi hz Y b2 v n xs I.2.1 g 0 1 (cl y) b5 a1 a7 b4 J b3 v' w' hr;obtain⟨A,c',rfl⟩:=aU h2;have hK:aa (fun b=>v.ownBlock≠some b) w w':=(aa.refl _ w).grown h3 fun b hb=>.inl fun h=>h hb;have R:aa (fun b=>v.ownBlock≠some b∧E b) w w':=hK.mono fun b hb=>hb.1;refine⟨_,w',hr,⟨A,c',rfl⟩,⟨⟨I.1.trans R,b6.1,G.ps _ _ _ hK I.2.2⟩,fun t' _ u hu=>?_,fun d b7 _=>?_⟩⟩;·(
 unfold FY at hu⊢;split
 ·rename_i et;rw[ap et] at hu
  obtain⟨g2,y2,q1,q2,q3,q4⟩:=hu;exact⟨g2,y2,q1,q2,q3.kept hK fun hb=>by have:=(G.own _ hb).2;omega,G.c _ _ _ R q4⟩
 rename_i et;rw[ae et] at hu;split
 ·rename_i ec;rw[ap ec] at hu
  exact G.c _ _ _ R hu
 rename_i ec;rw[ae ec] at hu;obtain⟨y2,wz,q1,q2,q4,q5,q3⟩:=hu;rcases q3 with q3|q3;·exact⟨y,w,b6.2 u _ q1 q3,hy,I.1.size,R,.inl q3⟩
 exact⟨y2,wz,be q1 hK fun b hb hv=>by have h5:=(G.own _ hv).2;have h6:=q3 b hb;omega,q2,q4,q5.trans R,.inr q3⟩)
 rw[a6] at b7;cases b7;unfold FY;rw[ae b9,ae c0];refine⟨y,w,h2,hy,I.1.size,R,?_⟩;rcases h4 with h4|h4;·exact .inl h4
 exact .inr fun g2 a8=>by rw[h4] at a8;cases a8;exact cf _)
 refine UC hw hl hd (fun w I hp=>?_) (fun w I hp=>?_) ?_;·rw[hb] at I;obtain⟨v',w',hr,h2,h3⟩:=key w I hp;unfold execOp;simp only[ho,resolve,invoke,builtin,Sem.run_bind,Sem.run_pure,Result.andThen_ok,List.map_toArray,List.map_cons,List.map_nil,hs,show a.eval (.tmp tb)=.slice (some ⟨g,0,none⟩) 1 1 from by simp[Act.eval,hx],hr];exact⟨rfl,h2,h3⟩
 ·rw[hb] at I
  obtain⟨v',w',hr,h2,h3⟩:=key w I hp;exact⟨v',w',h2,h3⟩
 rintro u ⟨A,c',rfl⟩;rw[a6];exact hk A c'
end
end
section
open Go Go.RowKit
open Go Go.RowKit
section
variable {P:Program}
def NH (W:World)(base:Nat)(e:TypeId)(size:Nat)(v:Value)(n:Nat)(xs cells:List Value)(j t:Tmp)(u:Value)(w:World):Prop:=
 if t=j then∃g,u=.slice (some ⟨g,0,none⟩) 1 1∧W.heap.size≤g∧al w g e cells.toArray
 else w.ownsRow base e size u (n+1) (xs++cells)∧(u.ownBlock=v.ownBlock∨∀g,u.ownBlock=some g→W.heap.size≤g)
theorem NH.keep {W w w':World}{base:Nat}{e:TypeId}{size:Nat}{v:Value}{n:Nat}{xs cells:List Value}{j:Tmp}(k:aa All w w')(t:Tmp)(u:Value)(h:NH W base e size v n xs cells j t u w):NH W base e size v n xs cells j t u w':=by
 unfold NH at h⊢;split
 ·rename_i e;rw[ap e] at h
  obtain⟨g,h1,o,C⟩:=h;exact⟨g,h1,o,C.kept k trivial⟩
 rename_i e;rw[ae e] at h;exact⟨be h.1 k fun _ _=>trivial,h.2⟩
variable {ops:Array Oper} {X:List PanicEntry→World→Prop} {W:World} {base:Nat} {e:TypeId} {size:Nat} {v:Value} {n:Nat} {xs cells:List Value} {tb ta:Tmp} {L:Nat→Option (Value→Prop)} {D:Nat→Bool} {Q:Act→Prop} {o:Oper} {rest:List Oper} {k:Nat} {dead:Bool} {a:Act}
theorem DL.keep {w w':World}(h:DL W base e size v n xs w)(k:aa All w w'):DL W base e size v n xs w':=⟨h.1.trans k.all,be h.2 k fun _ _=>trivial⟩
theorem PE (hw:Region.wanted o (yielded ops a.tmps)=true)(hl:L k=some Oa)(I:D k=false)(j:o.dst=some tb)
 (h:∀w,DL W base e size v n xs w→ij ops [tb,ta] (NH W base e size v n xs cells tb) o a w→(execOp a.eval o).run P w=.ok (.value (.slice (some ⟨w.heap.size,0,none⟩) 1 1)) (w.alloc (.cells cells.toArray e))) (R:∀g,oC P ops (DL W base e size v n xs) [tb,ta] (NH W base e size v n xs cells tb) L D X Q rest (k+1) dead (a.put (some tb) (.slice (some ⟨g,0,none⟩) 1 1))):
 oC P ops (DL W base e size v n xs) [tb,ta] (NH W base e size v n xs cells tb) L D X Q (o::rest) k dead a:=by
 have good:∀w,DL W base e size v n xs w→om (DL W base e size v n xs) [tb,ta] (NH W base e size v n xs cells tb) o w (w.alloc (.cells cells.toArray e)) (.slice (some ⟨w.heap.size,0,none⟩) 1 1):=fun w C=>
  ⟨C.keep (kR.alloc _),fun t _ u hu=>hu.keep (kR.alloc _) t u,fun d I _=>by rw[j] at I;cases I;unfold NH;rw[ap rfl];exact⟨_,rfl,C.1.size,al.new _ _ _⟩⟩
 refine Ey hw hl I (fun w C J=>?_) (fun w C J=>⟨_,_,⟨_,rfl⟩,good w C⟩) ?_
 ·rw[h w C J]
  exact⟨rfl,⟨_,rfl⟩,good w C⟩
 rintro u ⟨g,rfl⟩;rw[j];exact R g
theorem Ov (hw:Region.wanted o (yielded ops a.tmps)=true)(hl:L k=some (NT n))(hd:D k=false)(Y:o.dst=some ta)(b7:ta≠tb)(s:Operand)(t:TypeId)
 (ho:o.op=.call {callee:=.builtin .append,args:=#[s,.tmp tb],argTypes:=#[t,t]}) (i:TypeInfo) (z:Value) (bytes:Nat) (ht:P.underlying t=some (.slice e)) (hi:P.info? e=some i) (hz:i.zero=some z)
 (J:i.size=size) (b0:i.bytes=bytes) (b8:z.cells.size=size) (b1:0<size) (hs:a.eval s=v) (g:Nat) (hx:a.tmps[tb]? =some (.slice (some ⟨g,0,none⟩) 1 1)) (a6:tb∈o.looksAt ops) (b2:cells.length=size)
 (h1:∀u∈cells,u.oneCell'=true) (b3:n+1≤maxLen) (I:(n+1)*bytes≤140737488355328) (a7:base≤W.heap.size) (b4:∀b,v.ownBlock=some b→b<W.heap.size)
 (hk:∀A c,oC P ops (DL W base e size v n xs) [tb,ta] (NH W base e size v n xs cells tb) L D X Q rest (k+1) dead (a.put (some ta) (.slice A (n+1) c))):
 oC P ops (DL W base e size v n xs) [tb,ta] (NH W base e size v n xs cells tb) L D X Q (o::rest) k dead a:=by
 have key:∀w,DL W base e size v n xs w→ij ops [tb,ta] (NH W base e size v n xs cells tb) o a w→∃v' w',(Builtin.append_ #[t,t] o.type #[v,.slice (some ⟨g,0,none⟩) 1 1]).run P w=.ok v' w'∧NT n v'∧om (DL W base e size v n xs) [tb,ta] (NH W base e size v n xs cells tb) o w w' v':=by(
 intro w C hp;have hf:=hp tb a6 (by simp) _ hx;unfold NH at hf;rw[ap rfl] at hf;obtain⟨g',eg,c0,b9⟩:=hf;iterate 3 injection eg with eg
 subst eg;have R:∀(j:Nat) u,cells[j]? =some u→w.cell? ⟨g,0+j,none⟩=some u:=fun j u hu=>by rw[cN,b9.cell j,List.getElem?_toArray];exact hu
 obtain⟨v',w',hr,h2,h3,h4⟩:=JL (P:=P) w base t o.type e i z size bytes ht hi hz J b0 b8 b1 v n xs C.2 (some ⟨g,0,none⟩) 1 1 cells (by rw[b2,Nat.one_mul]) (fun _=>⟨g,0,rfl,R⟩) h1 b3 I (fR a7 C.1.size);have b5:=NO (P:=P) w base t o.type e i z size bytes ht hi hz J b0 v n xs C.2 g 0 1 cells b2 R h1 b3 I b1 v' w' hr;obtain⟨A,c,rfl⟩:=aU h2;have hK:aa (fun b=>v.ownBlock≠some b) w w':=(aa.refl _ w).grown h3 fun b hb=>.inl fun h=>h hb;refine⟨_,w',hr,⟨A,c,rfl⟩,⟨C.1.trans hK,b5.1⟩,fun t' _ u hu=>?_,fun d b6 _=>?_⟩
 ·unfold NH at hu⊢;split
  ·rename_i et;rw[ap et] at hu
   obtain⟨g2,q1,q2,q3⟩:=hu;exact⟨g2,q1,q2,q3.kept hK fun hb=>by have:=b4 _ hb;omega⟩
  rename_i et;rw[ae et] at hu;refine⟨?_,hu.2⟩;rcases hu.2 with a8|a8;·exact b5.2 u _ hu.1 a8
  exact be hu.1 hK fun b hb hv=>by have h5:=b4 _ hv;have h6:=a8 b hb;omega
 rw[Y] at b6;cases b6;unfold NH;rw[ae b7];refine⟨h2,?_⟩;rcases h4 with h4|h4;·exact .inl h4
 exact .inr fun g2 a1=>by rw[h4] at a1;cases a1;exact C.1.size)
 refine Ey hw hl hd (fun w C hp=>?_) (fun w C hp=>?_) ?_
 ·obtain⟨v',w',hr,h2,h3⟩:=key w C hp
  unfold execOp;simp only[ho,resolve,invoke,builtin,Sem.run_bind,Sem.run_pure,Result.andThen_ok,List.map_toArray,List.map_cons,List.map_nil,hs,show a.eval (.tmp tb)=.slice (some ⟨g,0,none⟩) 1 1 from by simp[Act.eval,hx],hr];exact⟨rfl,h2,h3⟩
 ·obtain⟨v',w',hr,h2,h3⟩:=key w C hp
  exact⟨v',w',h2,h3⟩
 rintro u ⟨A,c,rfl⟩;rw[Y];exact hk A c
end
end
section
def Vp (ll:List (List Int))(a b:Nat):Bool:=(ll.getD a []).any fun t=>decide (t=(b:Int))
theorem Tr {ll:List (List Int)}{a b:Nat}:Vp ll a b=true↔dH ll a b:=by
 unfold Vp dH;rw[iG];cases h:ll[a]? with
 |none=>simp
 |some row=>simp
def VI (ll:List (List Int))(x:Int):Nat→List Nat→List Nat
 |0,S=>S
 |n+1,S=>VI ll x n (S++(List.range ll.length).filter fun(b:Nat)=>decide ((b:Int)≠x)&&!S.contains b&&S.any fun a=>Vp ll a b)
def Ub (ll:List (List Int))(x:Int)(S:List Nat):Bool:=S.all fun a=>(List.range ll.length).all fun(b:Nat)=>!Vp ll a b||decide ((b:Int)=x)||S.contains b
theorem TU {ll:List (List Int)}{x:Int}{P:Nat→Prop}(C:∀a b,P a→dH ll a b→(b:Int)≠x→P b):∀(n:Nat) (S:List Nat),(∀a∈S,P a)→∀a∈VI ll x n S,P a
 |0,_,h=>h
 |n+1,S,h=>TU C n _ fun b j=>by(
 rcases eD.1 j with j|j;·exact h b j
 have h1:=(List.mem_filter.1 j).2;simp only[gE,mW,qal] at h1;obtain⟨⟨I,_⟩,a,J,o⟩:=h1;exact C a b (h a J) (Tr.1 o) I)
theorem Uj {ll:List (List Int)}{x:Int}:∀(n:Nat) (S:List Nat) {a:Nat},a∈S→a∈VI ll x n S
 |0,_,_,h=>h
 |n+1,_,_,h=>Uj n _ (eD.2 (.inl h))
def UT (ll:List (List Int))(a:Nat):List Nat:=VI ll (-1) ll.length [a]
def Yj (ll:List (List Int))(x:Nat):List Nat:=VI ll x ll.length (if x=0 then [] else [0])
def TF (ll:List (List Int)):Bool:=ll.all (fun row=>row.all fun t=>decide (0≤t∧t<ll.length))&&(List.range ll.length).all fun a=>Ub ll (-1) (UT ll a)&&Ub ll a (Yj ll a)
section
variable {ll:List (List Int)} (hw:TF ll=true)
include hw
theorem Xy {a b:Nat}(h:dH ll a b):b<ll.length:=by obtain⟨row,hr,j⟩:=h;unfold TF at hw;simp only[gE,List.all_eq_true,qal] at hw;have:=hw.1 row (mG hr) _ j;omega
theorem UE {x:Int}{S:List Nat}(j:Ub ll x S=true){a b:Nat}(o:a∈S)(h:dH ll a b)(C:(b:Int)≠x):b∈S:=by
 unfold Ub at j;simp only[List.all_eq_true,Bool.or_eq_true,Bool.not_eq_true',qal,List.contains_iff_mem] at j;rcases j a o b (fg.2 (Xy hw h)) with (h1|h1)|h1;·rw[Tr.2 h] at h1;cases h1
 ·exact absurd h1 C
 exact h1
theorem Uk {a k:Nat}(o:a<ll.length):k∈UT ll a↔aQ ll a k:=by
 have C:Ub ll (-1) (UT ll a)=true:=by have h:=hw;unfold TF at h;simp only[gE,List.all_eq_true] at h;exact(h.2 a (fg.2 o)).1
 constructor;·exact TU (P:=aQ ll a) (fun _ _ h1 j _=>h1.step j) _ _ (fun b I=>by rw[cx.1 I];exact .refl) k
 intro h;induction h with
 |refl=>exact Uj _ _ (cx.2 rfl)
 |step _ j J=>exact UE hw C J j (by omega)
theorem XH {x k:Nat}(C:x<ll.length):k∈Yj ll x↔gA (dH ll) x k:=by
 have I:Ub ll x (Yj ll x)=true:=by have h:=hw;unfold TF at h;simp only[gE,List.all_eq_true] at h;exact(h.2 x (fg.2 C)).2
 constructor
 ·refine TU (P:=gA (dH ll) x) (fun _ _ h1 j J=>h1.step j (by omega)) _ _ (fun b o=>?_) k
  split at o;·cases o
  rename_i h;rw[cx.1 o];exact .zero h
 intro h;induction h with
 |zero h=>exact Uj _ _ (by rw[ae h];exact cx.2 rfl)
 |step _ j J R=>exact UE hw I R j (by omega)
end
def Tw (p:Nat→Bool)(n:Nat):Int:=match (List.range n).find? p with|some k=>k|none=> -1
theorem UQ {P:Nat→Prop}{p:Nat→Bool}{n:Nat}(h:∀k,k<n→(p k=true↔P k)):cV P n=Tw p n:=by
 rcases jX P n with ⟨h1,C⟩|⟨k,h1,j,o,hm⟩;·rw[h1];unfold Tw;rw[List.find?_eq_none.2 fun k j=>by have:=fg.1 j;exact fun o=>C k this ((h k this).1 o)]
 rw[h1];unfold Tw;rw[kE (show(List.range n)[k]? =some k by rw[ln j]),sB]
 ·intro y hy;rw[List.take_range] at hy;have:=fg.1 hy;cases I:p y with
  |false=>rfl
  |true=>exact absurd ((h y (by omega)).1 I) (hm y (by omega))
 exact(h k j).2 o
def UJ (b:aw)(v:Int)(q:Nat→Nat→Bool):Bool:=(List.range b.Ng.length).any fun i=>(List.range (b.Ng.getD i []).length).any fun k=>decide (((b.Ng.getD i []).getD k Mv).dst=v)&&q i k
theorem UG {b:aw}{v:Int}{q:Nat→Nat→Bool}{Q:Nat→Nat→Prop}(h:∀i k,i<b.Ng.length→(q i k=true↔Q i k)):UJ b v q=true↔∃i k,jF b v i k∧Q i k:=by
 unfold UJ;simp only[mW,fg,gE,qal];constructor
 ·rintro⟨i,hi,k,o,j,C⟩;have e:b.Ng.getD i []=b.Ng[i]:=by rw[iG,lG hi];rfl
  rw[e] at o j;have J:b.Ng[i].getD k Mv=b.Ng[i][k]:=by rw[iG,lG o];rfl
  rw[J] at j;exact⟨i,k,⟨_,_,lG hi,lG o,j⟩,(h i k hi).1 C⟩
 rintro⟨i,k,⟨l,x,hl,I,j⟩,C⟩;have hi:=(lS.1 hl).1;have e:b.Ng.getD i []=l:=by rw[iG,hl];rfl
 refine⟨i,hi,k,by rw[e];exact(lS.1 I).1,?_,(h i k hi).2 C⟩;rw[e,iG,I];exact j
def Xc (b:aw)(v:Int)(blk:Nat):Bool:=decide (v<b.params)||UJ b v fun i _=>!(Yj (bM b) i).contains blk
def Wl (b:aw)(v:Int)(blk at':Nat):Bool:=decide (v<b.params)||UJ b v fun i k=>if i=blk then decide (k<at') else !(Yj (bM b) i).contains blk
theorem WY {b:aw}(hw:TF (bM b)=true){i blk:Nat}(hi:i<b.Ng.length):(!(Yj (bM b) i).contains blk)=true↔¬gA (dH (bM b)) i blk:=by rw[←XH hw (by rw[cS];exact hi),←List.contains_iff_mem];simp
theorem Ve {b:aw}(hw:TF (bM b)=true){v:Int}{blk:Nat}:Xc b v blk=true↔jl b v blk:=by unfold Xc jl;rw[Bool.or_eq_true,qal,UG fun i k hi=>WY hw hi]
theorem UV {b:aw}(hw:TF (bM b)=true){v:Int}{blk n:Nat}:Wl b v blk n=true↔iP b v blk n:=by
 unfold Wl iP;rw[Bool.or_eq_true,qal,UG (Q:=fun i k=>if i=blk then k<n else¬gA (dH (bM b)) i blk) fun i k hi=>?_];split;·rw[qal]
 exact WY hw hi
def Wf (b:aw)(x:bz)(blk:Nat):Bool:=decide x.Nh.Nodup&&x.Nh.all (fun a=>decide (0≤a)&&Vp (bM b) a.toNat blk)&&(List.range b.Ng.length).all fun i=>!Vp (bM b) i blk||decide ((i:Int)∈x.Nh)
theorem Wg {b:aw}{x:bz}{blk:Nat}:Wf b x blk=true↔lZ b x blk:=by
 unfold Wf lZ;simp only[gE,List.all_eq_true,qal,Bool.or_eq_true,Bool.not_eq_true',fg];constructor;·(
 rintro⟨⟨h1,j⟩,I⟩;refine⟨h1,fun a=>⟨fun o=>?_,?_⟩⟩
 ·obtain⟨Y,J⟩:=j a o
  exact⟨a.toNat,by omega,Tr.1 J⟩
 rintro⟨i,rfl,hi⟩;have C:i<b.Ng.length:=by obtain⟨row,hr,_⟩:=hi;have:=(lS.1 hr).1;rw[cS] at this;exact this
 rcases I i C with h|h;·rw[Tr.2 hi] at h;cases h
 exact h)
 rintro⟨h1,j⟩;refine⟨⟨h1,fun a o=>?_⟩,fun i _=>?_⟩
 ·obtain⟨i,rfl,hi⟩:=(j a).1 o
  exact⟨by omega,Tr.2 hi⟩
 cases R:Vp (bM b) i blk with
 |false=>exact .inl rfl
 |true=>exact .inr ((j i).2 ⟨i,rfl,Tr.1 R⟩)
def XR (b:aw)(i k:Nat)(x:bz):Int:=
 if x.kind=3 then(if Wf b x i=true then(if(x.args.zip x.Nh).all (fun t=>Xc b t.1 t.2.toNat)=true then 0 else 19) else 18)
 else if x.args.all (fun v=>Wl b v i k)=true then 0 else 19
theorem WK {α:Type}{p q:Prop}{I:Decidable p}{dq:Decidable q}{x y z t:α}(h:p↔q)(h1:x=y)(o:z=t):(if p then x else z)=if q then y else t:=by
 subst h1;subst o;by_cases j:q;·rw[ap j,ap (h.2 j)]
 rw[ae j,ae fun C=>j (h.1 C)]
theorem qao {b:aw}(hw:TF (bM b)=true)(i k:Nat)(x:bz):uo b i k x=XR b i k x:=by
 unfold uo XR;by_cases j:x.kind=3
 ·rw[ap j,ap j];refine WK Wg.symm (WK ?_ rfl rfl) rfl;rw[List.all_eq_true];constructor
  ·rintro h ⟨v,f⟩ I
   obtain⟨m,hm⟩:=cY.1 I;obtain⟨h1,o⟩:=List.getElem?_zip_eq_some.1 hm;exact(Ve hw).2 (h m v f h1 o)
  intro h m v f h1 o;exact(Ve hw).1 (h (v,f) (cY.2 ⟨m,List.getElem?_zip_eq_some.2 ⟨h1,o⟩⟩))
 rw[ae j,ae j];refine WK ?_ rfl rfl;rw[List.all_eq_true];exact⟨fun h v C=>(UV hw).2 (h v C),fun h v C=>(UV hw).1 (h v C)⟩
def Vs (b:aw)(k:Nat):Bool:=!(UT (bM b) 0).contains k
def UM (b:aw)(k:Nat):Bool:=(UT (bM b) k).all fun e=>decide ((bM b)[e]?≠some [])
def Xe (b:aw):Int×Int:=
 if 0≤Tw (Vs b) b.Ng.length then(fQ b (Tw (Vs b) b.Ng.length).toNat,16)
 else if 0≤Tw (UM b) b.Ng.length then(fQ b (Tw (UM b) b.Ng.length).toNat,17)
 else if(List.range b.Ng.length).any (fun i=>Vp (bM b) i 0)=true then(fQ b 0,18)
 else ls (XR b) b.Ng
theorem XI {b:aw}(hw:TF (bM b)=true):oh b=Xe b:=by
 have hl:=cS b;have h1:cV (kO (bM b)) b.Ng.length=Tw (Vs b) b.Ng.length:=UQ fun k j=>by unfold Vs kO;rw[←Uk hw (by omega),←List.contains_iff_mem];simp[hl,j]
 have o:cV (iN (bM b)) b.Ng.length=Tw (UM b) b.Ng.length:=UQ fun k j=>by(
 unfold UM iN;rw[List.all_eq_true];simp only[qal];constructor
 ·intro h
  exact⟨by omega,fun⟨e,he,h'⟩=>h e ((Uk hw (by omega)).2 he) h'⟩
 rintro⟨_,h⟩ e he h';exact h ⟨e,(Uk hw (by omega)).1 he,h'⟩)
 have C:(∃i,dH (bM b) i 0)↔(List.range b.Ng.length).any (fun i=>Vp (bM b) i 0)=true:=by(
 rw[mW];constructor;·rintro⟨i,hi⟩;refine⟨i,fg.2 ?_,Tr.2 hi⟩;obtain⟨row,hr,_⟩:=hi;have:=(lS.1 hr).1;omega
 rintro⟨i,_,hi⟩;exact⟨i,Tr.1 hi⟩)
 unfold oh Xe;rw[h1,o];refine WK Iff.rfl rfl (WK Iff.rfl rfl (WK C rfl ?_));have:uo b=XR b:=funext fun i=>funext fun k=>funext fun x=>qao hw i k x;rw[this]
def qeA:List aw→Nat→Int×Int×Int
 | [],_=>(0,0,0)
 |b::l,i=>if(Xe b).2≠0 then(i,(Xe b).1,(Xe b).2) else qeA l (i+1)
theorem Uc:∀ {l:List aw} {i:Nat},l.all (fun b=>TF (bM b))=true→ov l i=qeA l i
 | [],_,_=>rfl
 |b::l,i,h=>by rw[List.all_cons,gE] at h;rw[ov,qeA,XI h.1,Uc h.2]
end
section
section
variable {α β:Type}
instance decSome (o:Option α) (P:α→Prop) [∀a,Decidable (P a)]:Decidable (∃s,o=some s∧P s):=
 match o with
 |none=>isFalse (by rintro⟨_,h,_⟩;cases h)
 |some a=>decidable_of_iff (P a) ⟨fun h=>⟨a,rfl,h⟩,by rintro⟨_,h,h'⟩;cases h;exact h'⟩
instance decAt (l:List α) (P:Nat→α→Prop) [∀i a,Decidable (P i a)]:Decidable (∀(i:Nat) x,l[i]? =some x→P i x):=
 decidable_of_iff (∀(i:Nat) (h:i<l.length),P i l[i]) ⟨fun h i x hx=>by obtain⟨hi,rfl⟩:=lS.1 hx;exact h i hi,fun h i hi=>h i _ (lG hi)⟩
instance decShape (o:Option (Int×Bool×Bool×Bool)) (P:Int→Bool→Bool→Bool→Prop) [∀a b c d,Decidable (P a b c d)]:Decidable (∃a b c d,o=some (a,b,c,d)∧P a b c d):=
 match o with
 |none=>isFalse (by rintro⟨_,_,_,_,h,_⟩;cases h)
 |some (a,b,c,d)=>decidable_of_iff (P a b c d) ⟨fun h=>⟨a,b,c,d,rfl,h⟩,by rintro⟨_,_,_,_,h,h'⟩;cases h;exact h'⟩
end
instance (x:cX):Decidable (fj x):=by unfold fj fS;infer_instance
instance (f:cD):Decidable (fT f):=by unfold fT;infer_instance
instance (a:EL):Decidable (xA a):=by unfold xA;infer_instance
instance (q:dN):Decidable (fV q):=by unfold fV;infer_instance
instance decOpt {α:Type} (o:Option α) (P:α→Prop) [∀a,Decidable (P a)]:Decidable (∀g,o=some g→P g):=
 match o with
 |none=>isTrue (fun _ h=>by cases h)
 |some a=>decidable_of_iff (P a) ⟨fun h g hg=>by cases hg;exact h,fun h=>h a rfl⟩
instance decNext (l:List Nat):Decidable (∀(i:Nat),l[i+1]? =some 3→l[i]? =some 3):=
 decidable_of_iff (∀i,i<l.length→l[i+1]? =some 3→l[i]? =some 3) ⟨fun h i h1=>h i (by have:=(lS.1 h1).1;omega) h1,fun h i _=>h i⟩
instance decMem (a:ByteArray) (l:List ByteArray):Decidable (a∈l):=decidable_of_iff (l.any (fun x=>decide (x=a))=true) (by simp)
instance decNodup (l:List ByteArray):Decidable l.Nodup:=by unfold List.Nodup;infer_instance
instance (p:aH) (q:dN) (f:cD) (x:cX):Decidable (mO p q f x):=by unfold mO;infer_instance
instance (l:List Nat):Decidable (mQ l):=by unfold mQ;infer_instance
instance (p:aH) (q:dN) (f:cD):Decidable (pj p q f):=by unfold pj;infer_instance
instance (p:aH) (q:dN):Decidable (BG p q):=by unfold BG;infer_instance
instance (up:List (BitVec 64)):Decidable (ue up):=by unfold ue dI;infer_instance
instance (p:aH):Decidable (dD p):=by unfold dD cE lj;infer_instance
instance (p:aH) (c:aE) (b:aw) (n:Int) (x:bz):Decidable (aT p c b n x):=by
 unfold aT;refine @decShape _ _ ?_;intro a d r t
 infer_instance
instance (p:aH) (c:aE) (b:aw):Decidable (qi p c b):=by unfold qi;infer_instance
instance (p:aH) (c:aE):Decidable (bJ p c):=by unfold bJ;infer_instance
instance (n:Int):Decidable (aV n):=by unfold aV;infer_instance
instance (x:bz):Decidable (iM x):=by have:iM x↔aV x.dst∧aV x.ref∧aV x.Ni∧(∀a∈x.args,aV a)∧∀a∈x.Nh,aV a:=⟨fun h=>⟨h.1,h.2,h.3,h.4,h.5⟩,fun h=>⟨h.1,h.2.1,h.2.2.1,h.2.2.2.1,h.2.2.2.2⟩⟩;exact decidable_of_iff _ this.symm
def XZ (c:aE):Bool:=decide (aV c.main)&&c.Nf.all fun b=>b.Ng.flatten.all fun x=>decide (iM x)
theorem Vt {c:aE}(h:XZ c=true):rK c:=by unfold XZ at h;simp only[gE,qal,List.all_eq_true] at h;exact⟨h.1,h.2⟩
def YI (c:aE):Bool:=decide (c.Nd.length≤1048576)&&decide (c.Nf.length≤1048576)&&c.Nf.all fun b=>decide (b.Ng.length≤1048576)&&b.Ng.all fun l=>decide (l.length≤1048576)&&l.all fun x=>decide (x.args.length≤1048576)&&decide (x.Nh.length≤1048576)
theorem Xs {c:aE}(h:YI c=true):lY c:=by unfold YI at h;simp only[gE,qal,List.all_eq_true] at h;exact⟨h.1.1,h.1.2,fun b j=>(h.2 b j).1,fun b j l hl=>((h.2 b j).2 l hl).1,fun b j l hl x o=>by have:=((h.2 b j).2 l hl).2 x o;exact⟨this.1,this.2⟩⟩
end
section
structure zG {α:Type}(E:cO α):Prop where
 any:∀ {S T:Nat→Prop} {w w':World} {cs:List Value} {x:α},E S w cs x→E T w' cs x
 one:∀ {S:Nat→Prop} {w:World} {cs:List Value} {x:α},E S w cs x→∀u∈cs,u.oneCell'=true
section
variable {α:Type} {n bw:Nat} {E:cO α}
theorem BT:∀(o:List (List Value)),(∀c∈o,c.length=n)→∀(j:Nat) u,o.flatten[j]? =some u→∃i r cs,o[i]? =some cs∧cs[r]? =some u∧j=i*n+r
 | [],_,j,u,h=>by simp at h
 |c::o,C,j,u,h=>by(
 rw[List.flatten_cons] at h;have Y:=C c (List.mem_cons_self ..);by_cases I:j<c.length
 ·rw[ma I] at h
  exact⟨0,j,c,rfl,h,by omega⟩
 rw[kH (by omega)] at h;obtain⟨i,r,cs,h1,J,h3⟩:=BT o (fun d R=>C d (List.mem_cons_of_mem _ R)) _ u h;exact⟨i+1,r,cs,by simpa using h1,J,by rw[Nat.succ_mul];omega⟩)
theorem xn {S:Nat→Prop}{w:World}{A:Option Addr}{m c:Nat}{l:List α}(h:rx n bw E S w (.slice A m c) l):m=l.length∧m≤maxLen∧l.length*bw≤140737488355328∧∃C:List (List Value),C.length=l.length∧(∀cs∈C,cs.length=n)∧(∀(i:Nat) x,l[i]? =some x→∃cs,C[i]? =some cs∧E S w cs x)∧
 (0<m→∃b off,A=some ⟨b,off,none⟩∧∀(j:Nat) u,C.flatten[j]? =some u→w.cell? ⟨b,off+j,none⟩=some u):=by
 obtain⟨a,cap,hv,h1,h2,h3,h⟩:=h;injection hv with e1 e2 e3;subst e1;subst e2;subst e3;have hc:∀i:Nat,∃cs:List Value,∀x,l[i]? =some x→cs.length=n∧E S w cs x∧∃b off,A=some ⟨b,off,none⟩∧∀(j:Nat) u,cs[j]? =some u→w.cell? ⟨b,off+i*n+j,none⟩=some u:=by(
 intro i;cases hi:l[i]? with
 |none=>exact⟨[],fun x hx=>by cases hx⟩
 |some x=>obtain⟨b,off,cs,ha,_,hl,o,hE⟩:=h i x hi;exact⟨cs,fun y hy=>by cases hy;exact⟨hl,hE,b,off,ha,o⟩⟩)
 obtain⟨f,J⟩:=Classical.axiomOfChoice hc;refine⟨rfl,by omega,h3,(List.range l.length).map f,by simp,fun cs I=>?_,fun i x hx=>?_,fun hp=>?_⟩
 ·obtain⟨i,hi,rfl⟩:=dr.1 I
  exact(J i _ (lG (fg.1 hi))).1
 ·have hi:=(lS.1 hx).1
  exact⟨f i,by rw[cL,ln hi];rfl,(J i x hx).2.1⟩
 obtain⟨b,off,ha,_⟩:=(J 0 _ (lG hp)).2.2;refine⟨b,off,ha,fun j u hu=>?_⟩;obtain⟨i,r,cs,h4,h5,rfl⟩:=BT _ (fun cs I=>by obtain⟨i,hi,rfl⟩:=dr.1 I;exact(J i _ (lG (fg.1 hi))).1) j u hu;rw[cL] at h4;obtain⟨k,hk,rfl⟩:=oE.1 h4;have R:i<l.length:=by have:=(lS.1 hk).1;simpa using this
 rw[ln R] at hk;cases hk;obtain⟨b',a1,Y,o⟩:=(J i _ (lG R)).2.2;rw[ha] at Y;cases Y;have:=o r u h5;rwa [Nat.add_assoc] at this
theorem rB {E:bT α}{S:Nat→Prop}{w:World}{v:Value}{l:List α}(h:Sl bw E S w v l):rx 1 bw (eT E) S w v l:=by
 obtain⟨a,cap,rfl,h1,C,I,h⟩:=h;refine⟨a,cap,rfl,h1,C,I,fun i x J=>?_⟩;obtain⟨b,off,u,e,R,Y,hE⟩:=h i x J;exact⟨b,off,[u],e,R,rfl,fun j c o=>by
  rcases j with _|j;·cases o;rw[Nat.mul_one,dj];exact Y
  simp at o,u,rfl,hE⟩
theorem gx {P:Program}(w:World){ops:Array Oper}{rest:List Oper}{o:Oper}{a:Act}{Q:Exit→Act→World→Prop}(g:zG E)(a6:o.guard=none)(s x:Operand)(t:TypeId)
 (ho:o.op=.call {callee:=.builtin .append,args:=#[s,x],argTypes:=#[t,t]})
 (e:TypeId) (i:TypeInfo) (z:Value) (ht:P.underlying t=some (.slice e)) (hi:P.info? e=some i) (hz:i.zero=some z)
 (C:i.size=n) (a7:i.bytes=bw) (a8:z.cells.size=n) (b0:0<n)
 (B J:Nat) (hs:a.eval s=.slice (some ⟨J,0,none⟩) 0 0) (hg:al w J e #[]) (hB:B≤J) {S:Nat→Prop} {A:Option Addr} {m c:Nat} {l:List α} (hx:a.eval x=.slice A m c) (b1:rx n bw E S w (.slice A m c) l)
 (h:∀A' c' w',rx n bw E (fun b=>B≤b∧b<w'.heap.size) w' (.slice A' l.length c') l→w.grownBy w' (some J)→wpList P ops Q rest (a.put o.dst (.slice A' l.length c')) w'):wpList P ops Q (o::rest) a w:=by
 obtain⟨hm,b6,R,j,h1,h2,h3,h4⟩:=xn b1;have b2:j.flatten.length=m*n:=by
  have:∀L:List (List Value),(∀c∈L,c.length=n)→L.flatten.length=L.length*n:=by(
 intro L;induction L with
 |nil=>intro _;simp
 |cons c L ih=>intro hL;rw[List.flatten_cons,iQ,kI,Nat.succ_mul,ih fun d hd=>hL d (List.mem_cons_of_mem _ hd),hL c (List.mem_cons_self ..)];omega)
  rw[this j h2,h1,hm]
 have b3:∀u∈j.flatten,u.oneCell'=true:=by intro u hu;obtain⟨cs,b4,hu⟩:=List.mem_flatten.1 hu;obtain⟨k,hk⟩:=cY.1 b4;have b7:=(lS.1 hk).1;obtain⟨b8,Y,hE⟩:=h3 k _ (lG (by omega));rw[hk] at Y;cases Y;exact g.one hE u hu
 have a1:w.ownsRow B e n (.slice (some ⟨J,0,none⟩) 0 0) 0 []:=⟨by simp,.inr ⟨J,0,#[],rfl,hB,hg,cf _,Nat.zero_le _,by simp,by simp⟩⟩;have b9:=hg.lt;refine aR w a6 s x t ho B e i z n bw ht hi hz C a7 a8 b0 _ 0 [] hs a1 A m c j.flatten hx b2 h4 b3 (by omega) (by rw[cN,hm];exact R) (by omega) fun v' w' I b5 _=>?_;rw[cN,mF,hm] at I;obtain⟨A',c',rfl⟩:=aU I;refine h A' c' w' (dR.read (E:=E) (B:=B) (e:=e) ?_ ?_ R) b5;·exact⟨fun _ hh=>g.any hh,fun _ hh=>g.any hh⟩
 exact⟨j,fun _=>False,I,h1,h2,fun _ hh=>hh.elim,fun k y hy=>by obtain⟨cs,hc,hE⟩:=h3 k y hy;exact⟨cs,hc,g.any hE⟩⟩
end
theorem BR:zG (eT rQ):=⟨fun⟨v,e,h⟩=>⟨v,e,h⟩,fun⟨v,e,h⟩ u hu=>by subst e;rw[cx.1 hu,h.1];rfl⟩
theorem qgd:zG rI:=⟨fun h=>h,fun h u hu=>by rw[h.1] at hu;simp only[fX,List.not_mem_nil,or_false] at hu;rcases hu with rfl|rfl<;>rfl⟩
end

end Go.Proofs.YtgdlhckhpolnnaaGreatDoor
