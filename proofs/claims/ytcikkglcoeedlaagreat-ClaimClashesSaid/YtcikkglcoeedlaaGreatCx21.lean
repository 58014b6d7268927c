/- Part 21 of the proof of claimClashes_holds. No condition. -/
import Derived.Test.YtcikkglcoeedlaaGreatCx18
import Derived.Test.YtcikkglcoeedlaaGreatCx19
import Derived.Test.YtcikkglcoeedlaaGreatCx20
set_option linter.unusedSimpArgs false
set_option linter.unusedVariables false
set_option maxRecDepth 100000
namespace Go.Proofs.YtcikkglcoeedlaaGreat
open Go.RowKit
variable{vc:AS}{g:AV}{vt:AV->List Ow->Prop}{vi:Act}{vG:Array Edge}{vs:Array TypeId}{vK:Func}{vb:FuncId}{s vq:GS}{i:IntKind}{vp:List (List D)}{vd:List (Nat×AV)}{o uo:List AV}{c:List D}{l f vm:List Nat}{vJ:List Operand}{H vw uQ:List Ow}{vO:List PanicEntry}{vj uf:List Tm}{ub:List Value}{n b T:Nat}{vy:Nat->Nat}{vg vZ:Nat->Value}{q:Oper}{x y:Operand}{vv:Operand->AV}{vr uJ:Ow}{P:Program}{vB:Prop}{vF:String}{j uD:Type}{t U:TypeId}{z v:Value}
def AV.ren(e:Nat->Nat):AV->AV
 |.d x=>.d x
 |.ptr i off=>.ptr (e i) off
 |.own i=>.own (e i)
 |.fn f M=>.fn f (M.map e)
def Ow.ren(e:Nat->Nat):Ow->Ow
 |.var T cells=>.var T (cells.map (AV.ren e))
 |.pin l=>.pin (l.map λp=>(p.1,p.2.ren e))
 |o=>o
def AV.below(m:Nat):AV->Bool
 |.d _=>true
 |.ptr i _=>Nat.blt i m
 |.own i=>Nat.blt i m
 |.fn _ M=>M.all (Nat.blt · m)
def Ow.below(m:Nat):Ow->Prop
 |.var _ cells=>∀H∈cells,H.below m=true
 |.pin l=>∀p∈l,p.2.below m=true
 |_=>True
theorem No(h:g.below n=true):AVle H n g g:=by
 cases g with
 |d x=>exact AVle.d rfl
 |ptr i off=>exact AVle.ptr h
 |own i=>exact AVle.own h
 |fn f M=>exact BD h
theorem Ai{m:Nat}{l:List (Value×AV)}(h:l.all (λp=>p.2.below m)=true):OwLe H m (.pin l) (.pin l):=OwLe.pin λp H=>No (List.all_eq_true.1 h p H)
theorem Ad{m T:Nat}(h:o.all (AV.below m)=true):OwLe H m (.var T o) (.var T o):=OwLe.var rfl λk y N=>⟨y,N,No (List.all_eq_true.1 h y (List.mem_of_getElem? N))⟩
theorem NP:OwB s z (vr.ren vy) n↔OwB s z vr n:=by cases vr<;>exact Iff.rfl
theorem AVr.un{e:Nat->Nat}(h:AVr n vg s (g.ren e) z)(E:g.below b=true)(v:∀i,i<b->vZ i=vg (e i)):AVr b vZ s g z:=by
 cases g with
 |d x=>exact h
 |ptr i off=>
  have K:i<b:=by simpa[AV.below,Nat.blt_eq]using E
  obtain⟨A,u,B,I⟩:=h;exact⟨K,u,(v i K).trans B,I⟩
 |own i=>
  have K:i<b:=by simpa[AV.below,Nat.blt_eq]using E
  exact⟨K,h.2.trans (v i K).symm⟩
 |fn f M=>
  have K:∀i∈M,i<b:=λi K=>by
   have:=List.all_eq_true.1 E i K;simpa[Nat.blt_eq]using this
  refine⟨K,?_⟩;have B:=h.2;rw[List.map_map]at B;rw[B];exact congrArg (fnV f) (List.map_congr_left λi C=>(v i (K i C)).symm)
theorem AVr.re(h:AVr n vg s g z)(a:∀i,i<n->vy i<b)(v:∀i,i<n->vZ (vy i)=vg i):AVr b vZ s (g.ren vy) z:=by
 cases g with
 |d x=>exact h
 |ptr i off=>
  obtain⟨A,u,B,I⟩:=h;exact⟨a i A,u,(v i A).trans B,I⟩
 |own i=>exact⟨a i h.1,h.2.trans (v i h.1).symm⟩
 |fn f M=>
  refine⟨λi K=>?_,?_⟩
  .obtain ⟨j,C,rfl⟩:=List.mem_map.1 K
   exact a j (h.1 j C)
  .rw [List.map_map,h.2,List.map_congr_left λi K=>(v i (h.1 i K)).symm]
   rfl
theorem OwR.un{e:Nat->Nat}(h:OwR 0 n vg s (e T) (vr.ren e))(G:vr.below b)(L:T<b)(v:∀T,T<b->vZ T=vg (e T)):OwR 0 b vZ s T vr:=by
 cases vr with
 |dead=>trivial
 |var E cells=>
  obtain⟨A,Z,B,C,K,V,m,y,M⟩:=h;refine⟨A,Z,(v T L).trans B,C,K,by simpa using V,m,y,λk H F=>?_⟩;obtain⟨u,N,R,Q⟩:=M k (H.ren e) (by rw[List.getElem?_map,F];rfl);exact⟨u,N,R,Q.un (G H (List.mem_of_getElem? F)) v⟩
 |row E q P=>
  replace h:OwR 0 n vg s (e T) (.row E q P):=h;unfold OwR at h ⊢;rw[v T L];exact h
 |obj O=>
  show O.rel s (vZ T);rw[v T L];exact h
 |pin l=>exact λp I=>(h (p.1,p.2.ren e) (List.mem_map_of_mem (f:=λp:Value×AV=>(p.1,p.2.ren e)) I)).un (G p I) v
theorem OwR.re(h:OwR 0 n vg s T vr)(K:T<n)(a:∀T,T<n->vy T<b)(v:∀T,T<n->vZ (vy T)=vg T):OwR 0 b vZ s (vy T) (vr.ren vy):=by
 cases vr with
 |dead=>trivial
 |var E cells=>
  obtain⟨A,Z,B,C,I,V,m,y,e⟩:=h;refine⟨A,Z,(v T K).trans B,C,I,by simpa using V,m,y,λk H F=>?_⟩;rw[List.getElem?_map]at F
  cases R:cells[k]? with
  |none=>rw[R]at F;cases F
  |some S=>
   rw[R]at F;cases F;obtain⟨u,M,Q,N⟩:=e k S R;exact⟨u,M,Q,N.re a v⟩
 |row E L P=>
  show OwR 0 b vZ s (vy T) (.row E L P);unfold OwR at h ⊢;rw[v T K];exact h
 |obj O=>
  show O.rel s (vZ (vy T));rw[v T K];exact h
 |pin l=>
  intro p G;obtain⟨q,z,rfl⟩:=List.mem_map.1 G;exact(h q z).re a v
def Bu(sel:List Nat)(m k:Nat):Nat:=bif Nat.blt k sel.length then sel.getD k 0 else m+(k-sel.length)
theorem Eu(h:b<l.length):Bu l n b=l.getD b 0:=by
 have:Nat.blt b l.length=true:=by simpa[Nat.blt_eq]using h
 rw[Bu,this];rfl
theorem IF(h:l.length<=b):Bu l n b=n+(b-l.length):=by
 have:Nat.blt b l.length=false:=by cases E:Nat.blt b l.length<;>simp_all [Nat.blt_eq];omega
 rw[Bu,this];rfl
def SelR(e:Nat->Nat)(H:List Ow)(m:Nat):List Nat->List Ow->Prop
 |[],[]=>True
 |j::y,o::os=>H[j]? = some (o.ren e)/\o.below m/\SelR e H m y os
 |_,_=>False
theorem SelR.get{e:Nat->Nat}{H:List Ow}{m:Nat}:∀{y:List Nat} {os:List Ow},SelR e H m y os->y.length=os.length/\∀(k:Nat) o,os[k]? = some o->H[y.getD k 0]? = some (o.ren e)/\o.below m
 |[],[],_=>⟨rfl,λk o h=>by cases h⟩
 |[],_::_,h=>h.elim
 |_::_,[],h=>h.elim
 |j::y,o::os,⟨u,A,I⟩=>by
  obtain⟨V,B⟩:=SelR.get I;refine⟨by simp[V],λk x C=>?_⟩
  cases k with
  |zero=>cases C;exact⟨u,A⟩
  |succ k=>exact B k x Zdv
def SetR(e:Nat->Nat):List Ow->List Nat->List Ow->List Ow->Prop
 |H,[],_,x=>H=x
 |H,j::y,o::os,x=>SetR e (H.set j (o.ren e)) y os x
 |_,_::_,[],_=>False
theorem SetR.get{e:Nat->Nat}:∀{G:List Nat} {H os F:List Ow},SetR e H G os F->F.length=H.length/\G.length<=os.length/\∀(i:Nat) x,F[i]? = some x->(∃k o,k<G.length/\G.getD k 0=i/\os[k]? = some o/\x=o.ren e)\/(i∉G/\H[i]? = some x)
 |[],H,os,F,h=>by
  have h:H=F:=by cases os<;>exact h
  subst h;exact⟨rfl,Nat.zero_le _,λi x C=>.inr ⟨by simp,C⟩⟩
 |_::_,_,[],_,h=>h.elim
 |j::G,H,o::os,F,h=>by
  replace h:SetR e (H.set j (o.ren e)) G os F:=h;obtain⟨u,A,I⟩:=SetR.get h;refine⟨by simpa using u,by simp;omega,λi x C=>?_⟩;rcases I i x C with⟨k,B,V,m,y,E⟩ | ⟨V,m⟩
  .exact .inl ⟨k+1,B,by simp;omega,by simpa using m,by simpa using y,E⟩
  .rw [List.getElem?_set]at m
   split at m
   .rename_i d
    subst d;split at m
    .exact .inl ⟨0,o,by simp,rfl,rfl,(Option.some.inj m).symm⟩
    .cases m
   .rename_i d
    exact .inr ⟨by simp only[List.mem_cons,not_or];exact⟨λe=>d e.symm,V⟩,m⟩
theorem QV(h:l.Nodup)(K:n<l.length)(i:b<l.length)(e:l[n]=l[b]):n=b:=by
 rcases Nat.lt_trichotomy n b with u | u | u
 .exact absurd e (List.pairwise_iff_getElem.1 h n b K i u)
 .exact u
 .exact absurd e.symm (List.pairwise_iff_getElem.1 h b n i K u)
def AV.avoid(lost:List Nat):AV->Bool
 |.d _=>true
 |.ptr i _=>!lost.contains i
 |.own i=>!lost.contains i
 |.fn _ M=>M.all λi=>!lost.contains i
def Ow.avoid(lost:List Nat):Ow->Prop
 |.var _ cells=>∀H∈cells,H.avoid lost=true
 |.pin l=>∀p∈l,p.2.avoid lost=true
 |_=>True
theorem OK(h:(!l.contains n)=true):n∉l:=λs=>by
 rw[List.contains_iff_mem.2 s]at h;cases h
theorem AVr.kept(h:AVr n vg s g z)(C:n<=b)(t:g.avoid l=true)(v:∀i,i<n->i∉l->vZ i=vg i):AVr b vZ s g z:=by
 cases g with
 |d x=>exact h
 |ptr i off=>
  obtain⟨A,u,B,I⟩:=h;exact⟨Nat.lt_of_lt_of_le A C,u,(v i A (OK t)).trans B,I⟩
 |own i=>exact⟨Nat.lt_of_lt_of_le h.1 C,h.2.trans (v i h.1 (OK t)).symm⟩
 |fn f M=>exact⟨λi K=>Nat.lt_of_lt_of_le (h.1 i K) C,by rw[h.2,List.map_congr_left λi K=>(v i (h.1 i K) (OK (List.all_eq_true.1 t i K))).symm]⟩
theorem OwR.kept(h:OwR 0 n vg s T vr)(N:n<=b)(t:vr.avoid l)(L:T<n)(M:T∉l)(v:∀T,T<n->T∉l->vZ T=vg T):OwR 0 b vZ s T vr:=by
 cases vr with
 |dead=>trivial
 |var F cells=>
  obtain⟨A,Z,B,E,K,V,m,y,e⟩:=h;refine⟨A,Z,(v T L M).trans B,E,K,V,m,y,λk H G=>?_⟩;obtain⟨u,Q,S,R⟩:=e k H G;exact⟨u,Q,S,R.kept N (t H (List.mem_of_getElem? G)) v⟩
 |row F q P=>
  unfold OwR at h ⊢;rw[v T L M];exact h
 |obj O=>
  unfold OwR at h ⊢;rw[v T L M];exact h
 |pin C=>exact λp I=>(h p I).kept N (t p I) v
theorem StI.con{s0:An}{sel lost:List Nat}{hpS hp' H1:List Ow}(Z:(∀p∈vc.fr,p.2.avoid (lost.map (Bu sel vc.hp.length))=true)/\∀i o,i∉sel->vc.hp[i]? = some o->o.avoid (lost.map (Bu sel vc.hp.length)))(xh:∀k∈lost,k<sel.length)(h:StI s0 n vc vi s vg)(xd:sel.Nodup)(U:SelR (Bu sel vc.hp.length) vc.hp hpS.length sel hpS)
  (xa:Aft s (λk=>vg (Bu sel vc.hp.length k)) hpS lost vq vZ hp') (xc:SetR (Bu sel vc.hp.length) vc.hp sel hp' H1) :
  ∃xj,StI s0 n ⟨vc.fr,H1++(hp'.drop sel.length).map (Ow.ren (Bu sel vc.hp.length))⟩ vi vq xj/\∀H v,AVr hp'.length vZ vq H v->AVr (H1++(hp'.drop sel.length).map (Ow.ren (Bu sel vc.hp.length))).length xj vq (H.ren (Bu sel vc.hp.length)) v:=by
 obtain⟨P,Y⟩:=U.get;obtain⟨f,xm,xk⟩:=xc.get;have X:(H1++(hp'.drop sel.length).map (Ow.ren (Bu sel vc.hp.length))).length=vc.hp.length+(hp'.length-sel.length):=by simp[f]
 have xi:∀k,k<sel.length->sel.getD k 0<vc.hp.length:=λk B=>by
  have r:k<hpS.length:=by omega
  exact BV (Y k _ (List.getElem?_eq_getElem r)).1
 have xo:∀k,k<sel.length->sel.getD k 0∈sel:=λk B=>by
  rw[List.getD_eq_getElem?_getD,List.getElem?_eq_getElem B];exact List.getElem_mem B
 have xt:∀j k,j<sel.length->k<sel.length->sel.getD j 0=sel.getD k 0->j=k:=λj k L B a=>by
  rw[List.getD_eq_getElem?_getD,List.getElem?_eq_getElem L,List.getD_eq_getElem?_getD,List.getElem?_eq_getElem B]at a;exact QV xd L B a
 have J:∀i,∃k,(∃c,c<sel.length/\sel.getD c 0=i)->k<sel.length/\sel.getD k 0=i:=λi=>by
  by_cases C:∃c,c<sel.length/\sel.getD c 0=i
  .obtain ⟨k,B⟩:=C
   exact⟨k,λ_=>B⟩
  .exact ⟨0,λh=>absurd h C⟩
 obtain⟨pos,J⟩:∃pos:Nat->Nat,∀i,(∃c,c<sel.length/\sel.getD c 0=i)->pos i<sel.length/\sel.getD (pos i) 0=i:=⟨λi=>(J i).choose,λi=>(J i).choose_spec⟩;let z:Nat->Value:=λi=>if i<vc.hp.length then(if i∈sel then vZ (pos i)else vg i)else vZ (i-vc.hp.length+sel.length)
 have xw:∀i,i∈sel->∃c,c<sel.length/\sel.getD c 0=i:=λi K=>by
  obtain⟨k,B⟩:=List.getElem?_of_mem K;have:=(List.getElem?_eq_some_iff.1 B).1;exact⟨k,this,by rw[List.getD_eq_getElem?_getD,B];rfl⟩
 have xq:∀i,i<hp'.length->z (Bu sel vc.hp.length i)=vZ i:=λi K=>by
  rcases Nat.lt_or_ge i sel.length with u | u
  .have I:=J _ ⟨i,u,rfl⟩
   rw[Eu u];show(if sel.getD i 0<vc.hp.length then(if sel.getD i 0∈sel then vZ (pos (sel.getD i 0))else _)else _)=_;rw[if_pos (xi i u),if_pos (xo i u),xt _ _ I.1 u I.2]
  .rw [IF u]
   show(if _ then _ else vZ (vc.hp.length+(i-sel.length)-vc.hp.length+sel.length))=_;rw[if_neg Zbx];exact ZfJ
 have xr:∀i,i<vc.hp.length->i∉lost.map (Bu sel vc.hp.length)->z i=vg i:=λi K xe=>by
  show(if i<vc.hp.length then(if i∈sel then vZ (pos i)else vg i)else _)=_;rw[if_pos K];by_cases C:i∈sel
  .rw [if_pos C]
   obtain⟨u,A⟩:=J i (xw i C);have I:pos i∉lost:=λS=>xe (List.mem_map.2 ⟨pos i,S,by rw[Eu u,A]⟩);rw[xa.kp (pos i) Zbx I,Eu u,A]
  .rw [if_neg C]
 have xu:∀i,i∉sel->i∉lost.map (Bu sel vc.hp.length):=λi K S=>by
  obtain⟨k,u,A⟩:=List.mem_map.1 S;have I:=xh k u;rw[Eu I]at A;exact K (by rw[<-A];exact xo k I)
 have xg:∀i,i<hp'.length->Bu sel vc.hp.length i<vc.hp.length+(hp'.length-sel.length):=λi K=>by
  rcases Nat.lt_or_ge i sel.length with u | u
  .rw [Eu u]
   have:=xi i u;omega
  .rw [IF u]
   omega
 have xs:∀i j,i<hp'.length->j<hp'.length->Bu sel vc.hp.length i=Bu sel vc.hp.length j->i=j:=λi j K L a=>by
  rcases Nat.lt_or_ge i sel.length with u | u<;>rcases Nat.lt_or_ge j sel.length with A | A
  .rw [Eu u,Eu A]at a
   exact xt i j u A a
  .rw [Eu u,IF A]at a
   have:=xi i u;omega
  .rw [IF u,Eu A]at a
   have:=xi j A;omega
  .rw [IF u,IF A]at a
   omega
 have l:∀i x,(H1++(hp'.drop sel.length).map (Ow.ren (Bu sel vc.hp.length)))[i]? = some x->(∃k o,hp'[k]? = some o/\i=Bu sel vc.hp.length k/\x=o.ren (Bu sel vc.hp.length))\/(i<vc.hp.length/\i∉sel/\vc.hp[i]? = some x):=λi x C=>by
  rw[List.getElem?_append]at C;split at C
  .rename_i Q
   rcases xk i x C with⟨k,o,u,A,I,V⟩ | ⟨u,A⟩
   .exact .inl ⟨k,o,I,by rw[Eu u];exact A.symm,V⟩
   .exact .inr ⟨by omega,u,A⟩
  .rename_i q
   rw[List.getElem?_map,List.getElem?_drop]at C
   cases B:hp'[sel.length+(i-H1.length)]? with
   |none=>rw[B]at C;cases C
   |some o=>
    rw[B]at C;exact .inl ⟨_,o,B,by rw[IF Zbx];omega,(Option.some.inj C).symm⟩
 have xn:∀b,GU s (λk=>vg (Bu sel vc.hp.length k)) hpS b->∃k o,k<sel.length/\hpS[k]? = some o/\vc.hp[sel.getD k 0]? = some (o.ren (Bu sel vc.hp.length))/\OwB s (vg (sel.getD k 0)) (o.ren (Bu sel vc.hp.length)) b:=λb ⟨k,o,u,A⟩=>by
  have B:k<sel.length:=by have:=BV u;omega
  replace A:OwB s (vg (Bu sel vc.hp.length k)) o b:=A;rw[Eu B]at A;exact⟨k,o,B,u,(Y k o u).1,NP.2 A⟩
 have m:∀i x,i∉sel->vc.hp[i]? = some x->∀b,OwB s (vg i) x b->¬GU s (λk=>vg (Bu sel vc.hp.length k)) hpS b:=λi x K C b E S=>by
  obtain⟨k,o,u,A,I,V⟩:=xn b S;exact h.sep i _ x _ (λe=>K (by rw[e];exact xo k u)) C I b E V
 have xv:∀i x,i∉sel->vc.hp[i]? = some x->∀b,OwB s (vg i) x b->vq.w.heap[b]? = s.w.heap[b]? /\ ∀k,vq.S b k↔s.S b k:=λi x K C b E=>by
  have u:=m i x K C b E;have A:=(h.hp i x C).blk_lt0 E;exact⟨xa.le.block b A u,λk=>⟨xa.le.old b k A u,xa.le.chg.up b k⟩⟩
 have xb:∀i x,i<vc.hp.length->i∉sel->vc.hp[i]? = some x->∀b,OwB vq (z i) x b->OwB s (vg i) x b:=λi x Q K C b E=>OwB.keep (h.hp i x C) xa.le.chg (xv i x K C) (by rw[<-xr i Q (xu i K)];exact E)
 have w:∀k o b,hp'[k]? = some o->OwB vq (z (Bu sel vc.hp.length k)) (o.ren (Bu sel vc.hp.length)) b->OwB vq (vZ k) o b:=λk o b B E=>by
  rw[xq k (BV B)]at E;exact NP.1 E
 have xp:∀b,GU s (λk=>vg (Bu sel vc.hp.length k)) hpS b->s0.mine b\/s0.g.w.heap.size<=b:=λb S=>by
  obtain⟨k,o,u,A,I,V⟩:=xn b S;exact h.own _ _ b I V
 refine⟨z,⟨?_,xa.ok,λt H M=>?_,h.sz,h.df,λi x C=>?_,λi j x y g C N b xl xf=>?_,λi x b C E=>?_⟩,λH v R=>?_⟩
 .refine ⟨xa.le.os.trans h.le.os,xa.le.tape.trans h.le.tape,xa.le.output.trans h.le.output,λk B S=>?_,h.le.chg.trans xa.le.chg,λb k E S F=>?_,λb E=>(xa.le.tag b (Nat.lt_of_lt_of_le E h.le.size)).trans (h.le.tag b E),λ_=>xa.ok⟩
  .have G:¬GU s (λk=>vg (Bu sel vc.hp.length k)) hpS k:=λC=>(xp k C).elim S λd=>absurd B Zbx
   exact(xa.le.block k (Nat.lt_of_lt_of_le B h.le.size) G).trans (h.le.block k B S)
  .have G:¬GU s (λk=>vg (Bu sel vc.hp.length k)) hpS b:=λC=>(xp b C).elim S λd=>absurd E Zbx
   exact h.le.old b k E S (xa.le.old b k (Nat.lt_of_lt_of_le E h.le.size) G F)
 .show AVr (H1++_).length z vq H _
  rw[X];exact((h.fr t H M).chg xa.le.chg).kept Zbx (Z.1 _ (Ed M)) xr
 .show OwR 0 (H1++_).length z vq i x
  rw[X];rcases l i x C with⟨k,o,u,rfl,rfl⟩ | ⟨u,A,I⟩
  .exact (xa.mem k o u).re (BV u) xg xq
  .exact ((h.hp i x I).keep xa.le.chg (xv i x A I)).kept Zbx (Z.2 i x A I) u (xu i A) xr
 .rcases l i x C with⟨k,o,u,rfl,rfl⟩ | ⟨u,A,I⟩<;>rcases l j y N with⟨c,O,V,rfl,rfl⟩ | ⟨V,h5,h6⟩
  .exact xa.sep k c o O (λe=>g Zep) u V b (w k o b u xl) (w c O b V xf)
  .have T:=xb j y V h5 h6 b xf
   rcases xa.own k o b u (w k o b u xl)with W | W
   .exact m j y h5 h6 b T W
   .have:=(h.hp j y h6).blk_lt0 T
    omega
  .have T:=xb i x u A I b xl
   rcases xa.own c O b V (w c O b V xf)with W | W
   .exact m i x A I b T W
   .have:=(h.hp i x I).blk_lt0 T
    omega
  .exact h.sep i j x y g I h6 b (xb i x u A I b xl) (xb j y V h5 h6 b xf)
 .rcases l i x C with⟨k,o,u,rfl,rfl⟩ | ⟨u,A,I⟩
  .rcases xa.own k o b u (w k o b u E)with W | W
   .exact xp b W
   .exact .inr (Nat.le_trans h.le.size W)
  .exact h.own i x b I (xb i x u A I b E)
 .rw [X]
  exact R.re xg xq
def A63(F:List Ow)(e:Nat->Nat)(m:Nat)(y a:AV):Prop:=(∃d v,a=.d d/\II F y=some v/\D.le v d)\/(y=a.ren e/\a.below m=true)
def ArgsC(F:List Ow)(e:Nat->Nat)(m:Nat)(arg:Operand->AV):List Operand->List AV->Prop
 |[],[]=>True
 |x::l,a::t=>A63 F e m (arg x) a/\ArgsC F e m arg l t
 |_,_=>False
theorem ArgsC.get{F:List Ow}{e:Nat->Nat}{m:Nat}{arg:Operand->AV}:∀{l:List Operand} {t:List AV},ArgsC F e m arg l t->l.length=t.length/\∀(k:Nat) a,t[k]? = some a->∃x,l[k]? = some x/\A63 F e m (arg x) a
 |[],[],_=>⟨rfl,λk o h=>by cases h⟩
 |[],_::_,h=>h.elim
 |_::_,[],h=>h.elim
 |x::l,a::t,⟨u,A⟩=>by
  obtain⟨V,B⟩:=ArgsC.get A;refine⟨by simp[V],λk y N=>?_⟩
  cases k with
  |zero=>cases N;exact⟨x,rfl,u⟩
  |succ k=>simpa using B k y (by simpa using N)
theorem ArgsC.nil{hp:List Ow}{e:Nat->Nat}{m:Nat}:ArgsC hp e m vv [] []:=trivial
theorem ArgsC.d{hp:List Ow}{e:Nat->Nat}{m:Nat}{arg:Operand->AV}{l:List Operand}{d d':D}(h:II hp (arg x)=some d')(L:D.le d' d)(Y:ArgsC hp e m arg l o):ArgsC hp e m arg (x::l) (.d d::o):=⟨.inl ⟨d,d',rfl,h,L⟩,Y⟩
theorem ArgsC.av{hp:List Ow}{e:Nat->Nat}{m:Nat}{l:List Operand}{a:AV}(h:vv x=a.ren e)(E:a.below m=true)(Y:ArgsC hp e m vv l o):ArgsC hp e m vv (x::l) (a::o):=⟨.inr ⟨h,E⟩,Y⟩
theorem SelR.nil{e:Nat->Nat}{m:Nat}:SelR e H m [] []:=trivial
theorem SelR.row{e:Nat->Nat}{m j T sz:Nat}(h:H[j]? = some (.row T sz vp))(Y:SelR e H m l vw):SelR e H m (j::l) (.row T sz vp::vw):=⟨h,trivial,Y⟩
theorem SelR.varA{e:Nat->Nat}{m j:Nat}(h:H[j]? = some (.var t uo))(A:uo=o.map (AV.ren e))(E:o.all (AV.below m)=true)(Y:SelR e H m l vw):SelR e H m (j::l) (.var t o::vw):=⟨by rw[h,A];rfl,List.all_eq_true.1 E,Y⟩
def OwRen(e:Nat->Nat)(o k:Ow):Prop:=k=o.ren e
theorem OwRen.dead{e:Nat->Nat}:OwRen e .dead .dead:=rfl
theorem SetR.nil{e:Nat->Nat}:SetR e H [] vw H:=by cases vw<;>rfl
theorem SetR.cons{e:Nat->Nat}{H a os x:List Ow}{j:Nat}(h:OwRen e vr uJ)(b:Fu H j uJ=some a)(Y:SetR e a l os x):SetR e H (j::l) (vr::os) x:=by
 rw[Er b,h]at Y;exact Y
def AppR(e:Nat->Nat)(H os x:List Ow):Prop:=x=H++os.map (Ow.ren e)
theorem AppR.nil{e:Nat->Nat}:AppR e H [] H:=by simp[AppR]
def Kp:Nat->List Ow->List Ow
 |0,l=>l
 |n+1,_::l=>Kp n l
 |_+1,[]=>[]
theorem Ll:∀(n:Nat) (l:List Ow),Kp n l=l.drop n
 |0,l=>rfl
 |n+1,_::l=>Ll n l
 |_+1,[]=>rfl
def AVRen(e:Nat->Nat)(a Q:AV):Prop:=Q=a.ren e
theorem AVRen.d{e:Nat->Nat}{x:D}:AVRen e (.d x) (.d x):=rfl
theorem AVRen.own{e:Nat->Nat}{i j:Nat}(h:e i=j):AVRen e (.own i) (.own j):=by subst h;rfl
theorem A26(h:l.map vy=f):AVRen vy (.fn vb l) (.fn vb f):=by subst h;rfl
def CapsOk(H:List Ow):List Nat->Prop
 |[]=>True
 |i::l=>(∃T cells,H[i]? = some (.var T cells))/\CapsOk H l
theorem CapsOk.get{hpS:List Ow}:∀{l:List Nat},CapsOk hpS l->∀i∈l,∃T cells,hpS[i]? = some (.var T cells)
 |[],_,i,K=>by cases K
 |j::l,⟨u,A⟩,i,K=>by
  rcases List.mem_cons.1 K with rfl | K
  .exact u
  .exact CapsOk.get A i K
def AvoidR(sel lost:List Nat):Nat->List Ow->Prop
 |_,[]=>True
 |i,o::l=>(i∈sel\/o.avoid lost)/\AvoidR sel lost (i+1) l
theorem AvoidR.get{sel lost:List Nat}:∀{l:List Ow} {i:Nat},AvoidR sel lost i l->∀k o,i+k∉sel->l[k]? = some o->o.avoid lost
 |[],_,_,k,o,_,h=>by cases h
 |x::l,i,⟨u,A⟩,0,o,B,h=>by
  cases h;exact u.resolve_left B
 |x::l,i,⟨u,A⟩,k+1,o,B,h=>AvoidR.get A k o (by rwa [show i+1+k=i+(k+1)by omega]) ZcK
section
variable {sel lost:List Nat} {i:Nat} {l:List Ow}
theorem AvoidR.nil:AvoidR sel lost i []:=trivial
theorem Ah(h:sel.contains i=true)(Y:AvoidR sel lost (i+1) l):AvoidR sel lost i (vr::l):=⟨.inl (List.contains_iff_mem.1 h),Y⟩
theorem AvoidR.varD(Y:AvoidR sel lost (i+1) l):AvoidR sel lost i (.var t (c.map .d)::l):=⟨.inr λH K=>by obtain⟨d,_,rfl⟩:=List.mem_map.1 K;rfl,Y⟩
theorem AvoidR.pin{c:List (Value×AV)}(h:c.all (λp=>p.2.avoid lost)=true)(Y:AvoidR sel lost (i+1) l):AvoidR sel lost i (.pin c::l):=⟨.inr (List.all_eq_true.1 h),Y⟩
end
def LostOk(sel x:List Nat)(m:Nat)(S:List (Nat×AV))(F:List Ow):Prop:=x=[]\/(x.all (Nat.blt · sel.length)=true/\S.all (λp=>p.2.avoid (x.map (Bu sel m)))=true/\AvoidR sel (x.map (Bu sel m)) 0 F)
theorem AV.avoid_nil(H:AV):H.avoid []=true:=by
 cases H with
 |fn f M=>exact List.all_eq_true.2 λi _=>rfl
 |_=>rfl
theorem Ow.avoid_nil(o:Ow):o.avoid []:=by
 cases o with
 |var T c=>exact λH _=>H.avoid_nil
 |pin l=>exact λp _=>p.2.avoid_nil
 |_=>trivial
theorem LostOk.get{sel lost:List Nat}(h:LostOk sel lost n vd H):((∀p∈vd,p.2.avoid (lost.map (Bu sel n))=true)/\∀i o,i∉sel->H[i]? = some o->o.avoid (lost.map (Bu sel n)))/\∀k∈lost,k<sel.length:=by
 rcases h with rfl | ⟨h1,h2,h3⟩
 .exact ⟨⟨λp _=>p.2.avoid_nil,λi o _ _=>o.avoid_nil⟩,λk B=>by cases B⟩
 .exact ⟨⟨List.all_eq_true.1 h2,λi o K u=>h3.get i o (by rwa [Nat.zero_add]) u⟩,λk B=>by simpa[Nat.blt_eq]using List.all_eq_true.1 h1 k B⟩
section
variable {P:Program} {s0:An} {n:Nat} {ops:Array Oper} {Q:Exit->AS->Prop} {rest:List Oper} {fr:List (Nat×AV)} {hp:List Ow}
end
end Go.Proofs.YtcikkglcoeedlaaGreat
set_option linter.unusedSimpArgs false
set_option linter.unusedVariables false
namespace Go.Proofs.YtcikkglcoeedlaaGreat
open Go.RowKit
section
variable {P:Program} {s0:An} {n:Nat} {ops:Array Oper} {Q:Exit->AS->Prop} {rest:List Oper} {fr:List (Nat×AV)} {hp:List Ow}
variable{l:List Nat}{H vw uQ:List Ow}
theorem Kr{t m:Nat}{r B:AV}(h:AWl P s0 n ops Q rest ⟨(t,B)::fr,uQ⟩)(u:AVRen (Bu l m) r B:=by first | exact AVRen.d | exact AVRen.own rfl | exact AVRen.ptr rfl | exact A26 rfl)(A:SetR (Bu l m) hp l H vw:=by repeat (first | exact SetR.nil | (apply SetR.cons;(first | exact OwRen.dead | exact OwRen.varD | exact OwRen.obj | exact OwRen.row | exact OwRen.varA rfl);exact rfl)))(I:AppR (Bu l m) vw (Kp l.length H) uQ:=by repeat (first | exact AppR.nil | (apply AppR.cons;(first | exact OwRen.dead | exact OwRen.varD | exact OwRen.obj | exact OwRen.row | exact OwRen.varA rfl);exact rfl))):∃B vw uQ,AVRen (Bu l m) r B/\SetR (Bu l m) hp l H vw/\AppR (Bu l m) vw (Kp l.length H) uQ/\AWl P s0 n ops Q rest ⟨(t,B)::fr,uQ⟩:=⟨_,_,_,u,A,I,h⟩
end
def DownR(id:Nat)(x:D):List Ow->List Ow->Prop
 |[],[]=>True
 |o::l,k::q=>k=o.mapA (down id x)/\DownR id x l q
 |_,_=>False
theorem DownR.eq{id:Nat}{x:D}:∀{l q:List Ow},DownR id x l q->q=l.map (Ow.mapA (down id x))
 |[],[],_=>rfl
 |[],_::_,h=>h.elim
 |_::_,[],h=>h.elim
 |o::l,k::q,⟨u,A⟩=>by rw[List.map_cons,<-u,DownR.eq A]
section
variable {id:Nat} {x:D} {l l':List Ow}
theorem DownR.nil:DownR id x [] []:=trivial
theorem DownR.row{T sz:Nat}{r:List (List D)}(h:DownR id x l l'):DownR id x (.row T sz r::l) (.row T sz r::l'):=⟨rfl,h⟩
theorem DownR.pin{c:List (Value×AV)}(G:EY id (c.map (·.2))=true)(h:DownR id x l l'):DownR id x (.pin c::l) (.pin c::l'):=⟨by simp only[Ow.mapA,OA G],h⟩
def Jq(id:Nat)(x:D):List AV->Option (List AV)
 |[]=>some []
 |.own j::l=>match Jq id x l with
  |some r=>bif Nat.beq j id then some (.d x::r)else some (.own j::r)
  |none=>none
 |.d y::l=>match Jq id x l with
  |some r=>some (.d y::r)
  |none=>none
 |.ptr i off::l=>match Jq id x l with
  |some r=>some (.ptr i off::r)
  |none=>none
 |.fn f c::l=>match Jq id x l with
  |some r=>bif c.contains id then some (.d Cw::r)else some (.fn f c::r)
  |none=>none
theorem Ui:∀{c r:List AV},Jq id x c=some r->r=c.map (down id x)
 |[],r,h=>by cases h;rfl
 |H::c,r,h=>by
  have key:∃I,Jq id x c=some I/\r=down id x H::I:=by
   cases H with
   |d y=>unfold Jq at h;split at h<;>first |(cases h;done) |(rename_i I A;cases h;exact⟨I,A,rfl⟩)
   |ptr i o=>unfold Jq at h;split at h<;>first |(cases h;done) |(rename_i I A;cases h;exact⟨I,A,rfl⟩)
   |own j=>
    unfold Jq at h;split at h
    .rename_i I A
     refine⟨I,A,?_⟩
     cases E:Nat.beq j id with
     |true=>rw[E]at h;cases h;exact Zgm
     |false=>rw[E]at h;cases h;exact Zgm
    .cases h
   |fn f S=>
    unfold Jq at h;split at h
    .rename_i I A
     refine⟨I,A,?_⟩
     cases E:S.contains id with
     |true=>rw[E]at h;cases h;exact Zgm
     |false=>rw[E]at h;cases h;exact Zgm
    .cases h
  obtain⟨I,u,rfl⟩:=key;rw[Ui u];rfl
variable{t:TypeId}
theorem DownR.varA{c r:List AV}(G:Jq id x c=some r)(h:DownR id x l l'):DownR id x (.var t c::l) (.var t r::l'):=⟨by rw[Ui G];rfl,h⟩
end
section
variable {P:Program} {s0:An} {n:Nat} {ops:Array Oper} {Q:Exit->AS->Prop} {rest:List Oper} {fr:List (Nat×AV)} {hp:List Ow} {ty:TypeId} {ps:String} {af:Array Edge}
variable{vd:List (Nat×AV)}{H vw:List Ow}{x y:Operand}{z v:Value}
theorem LP{t T S q bytes id m b e:Nat}{d:TypeDesc}{A r2:List (List D)}(C:AS.arg ⟨fr,hp⟩ x=.own id)(N:II hp (AS.arg ⟨fr,hp⟩ y)=some (slD S q r2))(i:hp[id]? = some (.row T q A))(M:Tab P t (.slice T) m b v)(g:Tab P T d q bytes z)(G:z.cells.size=q)(W:Nat.blt e n=true)(B:(A.length+r2.length)*bytes<=140737488355328)(F:A.length+r2.length<=4611686018427387904)
  (p:Ii id (slD T q A) fr=some vd) (E:DownR id (slD T q A) hp H) (u:Fu H id (.row T q (A++r2))=some vw) (h:AWl P s0 n ops Q rest ⟨(e,.own id)::vd,vw⟩) :
  AWl P s0 n ops Q (⟨some e,.call { callee:=.builtin .append,args:=#[x,y],argTypes:=#[t,t] },ty,ps,af,none⟩::rest) ⟨fr,hp⟩:=by
 refine Qe rfl rfl C N i M g G (by simpa[Td]using W) B F ?_;rw[Pj p,Er u,E.eq]at h;exact h
def A0n:List AV->Nat->AV->Option (List AV)
 |[],_,_=>none
 |_::l,0,x=>some (x::l)
 |y::l,k+1,x=>match A0n l k x with
  |some r=>some (y::r)
  |none=>none
theorem RR:∀{l:List AV} {k:Nat} {x:AV} {r:List AV},A0n l k x=some r->k<l.length/\r=l.set k x
 |[],_,_,_,h=>by cases h
 |_::l,0,x,r,h=>by cases h;exact⟨by simp,rfl⟩
 |y::l,k+1,x,r,h=>by
  unfold A0n at h;split at h
  .rename_i I d
   cases h;obtain⟨u,A⟩:=RR d;exact⟨by simpa using u,by rw[A];rfl⟩
  .cases h
variable{g:AV}{o uo:List AV}{t U:TypeId}
theorem Fr{d:TypeDesc}{b id off:Nat}(C:AS.arg ⟨fr,hp⟩ x=.ptr id off)(N:AS.arg ⟨fr,hp⟩ y=g)(i:hp[id]? = some (.var U o))(M:Tab P t d 1 b z)(u:One hp g)(E:A0n o off g=some uo)(B:Fu hp id (.var U uo)=some H)(h:AWl P s0 n ops Q rest ⟨fr,H⟩) :
  AWl P s0 n ops Q (⟨none,.store t x y,ty,ps,af,none⟩::rest) ⟨fr,hp⟩:=by
 obtain⟨A,I⟩:=RR E;refine Qd (o:=⟨none,.store t x y,ty,ps,af,none⟩) rfl rfl rfl C N i M u A ?_;rw[Er B,I]at h;exact h
theorem KS{m:Nat}(id k T q:Nat)(r:hp[id]? = some (.var t o))(I:o[k]? = some (.d (ex (.slice none 0 0))))(p:T≠335)(g:0<q)(Y:GW hp=some m)(xf:A0n o k (.own m)=some uo)(xd:Fu hp id (.var t uo)=some H)(O:Fk H (.row T q [])=some vw):AS.le ⟨fr,hp⟩ ⟨fr,vw⟩:=by
 rw[Ex O,Er xd];obtain⟨F,xf⟩:=RR xf;obtain rfl:=ET Y;subst xf;have U:id<hp.length:=BV r;intro s0 n a w ⟨s,S,l,c⟩;have z:(hp++[Ow.row T q []]).length=hp.length+1:=by simp
 have xc := c.new (GS.Le.refl s) (dst := none) (fun d W => by cases W) (v := .slice none 0 0) (u := .slice none 0 0) (r := .own hp.length) (ow := .row T q []) ⟨Nat.lt_succ_self _, by simp⟩
  ⟨[],⟨by simp,.inl ⟨by simp,rfl⟩⟩,p,g,λb G=>by simp[Dc]at G,λk F=>by simp at F⟩ λb G=>by cases G
 have xb:∀i C,(hp.set id (.var t (o.set k (.own hp.length)))++[Ow.row T q []])[i]? = some C->(i=id/\C=.var t (o.set k (.own hp.length)))\/(hp++[Ow.row T q []])[i]? = some C:=λi C L=>by
  by_cases e:i=id
  .subst e
   rw[List.getElem?_append_left (by rw[List.length_set];exact U),List.getElem?_set_self U]at L;exact .inl ⟨rfl,(Option.some.inj L).symm⟩
  .rw [List.getElem?_append,List.length_set]at L
   rw[List.getElem?_append];by_cases N:i<hp.length
   .rw [if_pos N,List.getElem?_set_ne (λh=>e h.symm)]at L
    rw[if_pos N];exact .inr L
   .rw [if_neg N]at L
    rw[if_neg N];exact .inr L
 have xh:(hp++[Ow.row T q []])[id]? = some (.var t o):=by rw[List.getElem?_append_left U];exact r
 have xg:(hp.set id (.var t (o.set k (.own hp.length)))++[Ow.row T q []]).length=(hp++[Ow.row T q []]).length:=by simp
 have xe:∀i C b,(hp.set id (.var t (o.set k (.own hp.length)))++[Ow.row T q []])[i]? = some C->∀v,OwB s v C b->∃X,(hp++[Ow.row T q []])[i]? = some X/\OwB s v X b:=λi C b L v G=>by
  rcases xb i C L with⟨rfl,rfl⟩ | A
  .exact ⟨_,xh,G⟩
  .exact ⟨C,A,G⟩
 refine⟨s,λi=>if i=hp.length then .slice none 0 0 else S i,l,xc.le,xc.ok,λB f M=>?_,xc.sz,xc.df,λi C L=>?_,λi j C X xa L R b G J=>?_,λi C b L G=>?_⟩
 .rw [xg]
  exact xc.fr B f M
 .rw [xg]
  rcases xb i C L with⟨rfl,rfl⟩ | A
  .obtain ⟨b,Z,q1,q2,q3,q4,q5,q6,q7⟩:=xc.hp _ _ xh
   refine⟨b,Z,q1,q2,q3,by simpa using q4,q5,q6,λj f R=>?_⟩;by_cases e:j=k
   .subst e
    rw[List.getElem?_set_self F]at R;cases R;obtain⟨u,p1,p2,p3⟩:=q7 j _ I;refine⟨u,p1,p2,by rw[z];exact Nat.lt_succ_self _,?_⟩;have p3:u=.slice none 0 0:=p3;rw[p3];simp
   .rw [List.getElem?_set_ne (λh=>e h.symm)]at R
    exact q7 j f R
  .exact xc.hp i C A
 .obtain ⟨x,A,E⟩:=xe i C b L _ G
  obtain⟨y,K,V⟩:=xe j X b R _ J;exact xc.sep i j x y xa A K b E V
 .obtain ⟨x,A,E⟩:=xe i C b L _ G
  exact xc.own i x b A E
end
def oct(r:Nat->D):List D:=[r 0,r 1,r 2,r 3,r 4,r 5,r 6,r 7]
def Xj{E:Type}(r:Nat->E)(k:Nat)(u:E):Nat->E:=λj=>if j=k then u else r j
variable{n:Nat}
theorem WY{r:Nat->D}(h:n<8):CellAt (oct r) n (r n):=by
 refine⟨h,?_⟩
 match n,h with
 |0,_ |1,_ |2,_ |3,_ |4,_ |5,_ |6,_ |7,_=>rfl
section
variable {P:Program} {hp:List Ow} {arg:Operand->AV} {dd:Option Tmp} {ty:TypeId} {ps:String} {af:Array Edge} {gd:Option (Nat×Bool)} {T U:TypeId} {x y:Operand} {k:IntKind} {a b r:Int}
theorem DA(C:arg x=.d (ex (.int k a)))(N:arg y=.d (ex (.int k b)))(Y:k.wrap (a+b)=r):Quiet P hp ⟨dd,.binOp .add T x y U,ty,ps,af,gd⟩ arg (.d (ex (.int k r))):=
 Cu rfl C N λw=>by simp[eqGuard,binOp,Op.intArith,Y]
theorem IL(C:arg x=.d (ex (.int k a)))(N:arg y=.d (ex (.int k b)))(Y:k.wrap (a*b)=r):Quiet P hp ⟨dd,.binOp .mul T x y U,ty,ps,af,gd⟩ arg (.d (ex (.int k r))):=
 Cu rfl C N λw=>by simp[eqGuard,binOp,Op.intArith,Y]
theorem HF(C:arg x=.d (ex (.int k a)))(N:arg y=.d (ex (.int k b)))(E:b≠0)(Y:k.wrap (a.tdiv b)=r):Quiet P hp ⟨dd,.binOp .quo T x y U,ty,ps,af,gd⟩ arg (.d (ex (.int k r))):=
 Cu rfl C N λw=>by simp[eqGuard,binOp,Op.intDiv,E,Y]
variable{i:IntKind}
theorem JW(C:arg x=.d (ex (.int k a)))(N:arg y=.d (ex (.int i (n:Nat))))(h:Min.min n k.bits=n)(Y:k.wrap (a*2^n)=r):Quiet P hp ⟨dd,.binOp .shl T x y U,ty,ps,af,gd⟩ arg (.d (ex (.int k r))):=
 Cu rfl C N λw=>by
  have u:¬((n:Int)<0):=by omega
  simp[eqGuard,binOp,Op.shift,u,h,Y]
theorem DI(C:arg x=.d (ex (.int k a)))(N:arg y=.d (ex (.int i (n:Nat))))(h:Min.min n k.bits=n)(Y:a.fdiv (2^n)=r):Quiet P hp ⟨dd,.binOp .shr T x y U,ty,ps,af,gd⟩ arg (.d (ex (.int k r))):=
 Cu rfl C N λw=>by
  have u:¬((n:Int)<0):=by omega
  simp[eqGuard,binOp,Op.shift,u,h,Y]
theorem SP(C:arg x=.d (ex (.int k a)))(N:arg y=.d (ex (.int k b)))(Y:k.wrap ((BitVec.ofInt k.bits a ||| BitVec.ofInt k.bits b).toNat)=r):Quiet P hp ⟨dd,.binOp .or T x y U,ty,ps,af,gd⟩ arg (.d (ex (.int k r))):=
 Cu rfl C N λw=>by
  simp only[eqGuard,binOp,Op.intBits,Y];simp[Y]
variable{z v:Value}
theorem AD{S W:TypeId}{d:TypeDesc}{n b e u:Nat}(C:arg x=.d (ex (.int k a)))(l:Tab P S d n b z)(g:Tab P W (.int i) e u v)(Y:i.wrap a=r):Quiet P hp ⟨dd,.convert S W x,ty,ps,af,gd⟩ arg (.d (ex (.int i r))):=by
 subst Y;exact PK rfl C l g
end
theorem DU{n:Int}(h:0<=n/\n<=18446744073709551615):IntKind.u64.wrap n=n:=IntWalk.u64_in n h
def ConP(P:Program)(f:FuncId)(args:List AV)(F:List Ow)(Q:AV->List Ow->Prop)(q:List PanicEntry)(N:Prop):Prop:=
 (∀args w,(callFunc f args).run P w=.ok (.enter f args) w)/\∀(s:GS) (S:Nat->Value) (A:List Value),s.Ok->HpOk 0 S s F->Sep s S F->A.length=args.length->(∀(k:Nat) av,args[k]? = some av->AVr F.length S s av (A.getD k undef)) ->
  Calls P f A.toArray s.w λe O=>(∃v,e=.returned v/\∃(c:GS) (H:Nat->Value) (r:AV) (u:List Ow),Q r u/\c.w=O/\AVr u.length H c r v/\Aft s S F [] c H u)\/(e=.panicked q/\N/\∃c:GS,c.w=O/\Aft s S F [] c S (List.replicate F.length .dead))
variable{vr:Ow}
theorem SB{n i:Nat}(h:(List.replicate n Ow.dead)[i]? = some vr):vr=.dead:=by
 rw[List.getElem?_replicate]at h;split at h
 .exact (Option.some.inj h).symm
 .cases h
variable{s:GS}{l:List Nat}{vw:List Ow}{vg:Nat->Value}
theorem Aft.take{hp:List Ow}{s':GS}{ρ':Nat->Value}(h:Aft s vg hp l s' ρ' vw)(L:∀(i:Nat) o,(vw.take hp.length)[i]? = some o->o.below hp.length):Aft s vg hp l s' ρ' (vw.take hp.length):=by
 have E:(vw.take hp.length).length=hp.length:=by rw[List.length_take];have:=h.len;omega
 have G:∀i o,(vw.take hp.length)[i]? = some o->vw[i]? = some o:=λi o K=>by
  rw[List.getElem?_take]at K;split at K
  .exact K
  .cases K
 refine⟨h.le,h.ok,λi o K=>?_,λi j o k F K C=>h.sep i j o k F (G i o K) (G j k C),λi o b K=>h.own i o b (G i o K),h.kp,by rw[E];exact Nat.le_refl _⟩;have u:=h.mem i o (G i o K);rw[E];have B:=L i o K;have I:i<hp.length:=by have:=BV K;omega
 exact OwR.un (e:=λi=>i) (by
  have:o.ren (λi=>i)=o:=by
   cases o with
   |dead=>rfl
   |var T c=>exact congrArg (Ow.var T) ((List.map_congr_left λa _=>by cases a<;>simp[AV.ren]).trans (List.map_id _))
   |row T q r=>rfl
   |obj O=>rfl
   |pin A=>exact congrArg Ow.pin ((List.map_congr_left λa _=>by obtain⟨v,a⟩:=a;cases a<;>simp[AV.ren]).trans (List.map_id _))
  rw[this];exact u) B I λ_ _=>rfl
def A3L:AV->Bool
 |.d _=>true
 |_=>false
variable{vb:FuncId}{H:List Ow}{P:Program}
theorem Con.cut{args:List AV}{Q M:AV->List Ow->Prop}(h:Con P vb args H l Q)(z:∀r B,Q r B->A3L r=true/\(∀(i:Nat) o,(B.take H.length)[i]? = some o->o.below H.length)/\M r (B.take H.length)):Con P vb args H l M:=
 ⟨h.1,λs S F u A I V m=>(h.2 s S F u A I V m).mono λe O ⟨v,a,c,G,r,B,K,C,Y,t⟩=>by
  obtain⟨W,E,L⟩:=z r B K
  cases r with
  |d x=>exact⟨v,a,c,G,.d x,_,L,C,Y,t.take E⟩
  |_=>cases W⟩
def FinP(P:Program)(R:Func)(F:List Value)(Q:AV->List Ow->Prop)(q:List PanicEntry)(N:Prop)(e:Exit)(f:AS):Prop:=FinC P R [] F Q e f\/(e=.panic q/\N)
variable{vc:AS}{vK:Func}{vO:List PanicEntry}{ub:List Value}{vB:Prop}
theorem FinP.ret{Q:AV->List Ow->Prop}{r:AV}(h:RetsA P vc vK.results r)(b:Fu vc.hp ub.length .dead=some H)(Y:Q r H)(F:vc.hp[ub.length]? = some (.pin (Ey [] 0 ub))):FinP P vK ub Q vO vB .ret vc:=.inl (Be h b Y F)
def PanQ(q:List PanicEntry)(Q:Exit->AS->Prop):Prop:=∀f,Q (.panic q) f
theorem AC{Q:AV->List Ow->Prop}(h:vB):PanQ vO (FinP P vK ub Q vO vB):=λ_=>.inr ⟨rfl,h⟩
theorem Ar{N:AS->Prop}{Q:Exit->AS->Prop}(h:PanQ vO Q):PanQ vO (AThen N Q):=λf=>⟨h f⟩
theorem PanQ.block{id:Nat}{Q:Exit->AS->Prop}(h:PanQ vO Q):PanQ vO (ABlock id Q):=λf=>⟨h f⟩
theorem PanQ.loop{I:Nat->AS->Prop}{m:Nat}{Q:Exit->AS->Prop}(h:PanQ vO Q):PanQ vO (ALoop I m Q):=λf=>⟨h f⟩
variable{vt:AV->List Ow->Prop}{o:List AV}
theorem UU{c:Code}(W:P.funcs[vb]? = some vK)(E:vK.body=some c)(xf:∀o w,(callFunc vb o).run P w=.ok (.enter vb o) w)(N:Nat.ble o.length vK.ntmps=true)
  (h:∀(d:An) (f:List Value),f.length=H.length->AWp P d vK.ntmps c (FinP P vK f vt vO vB) ⟨Hy 0 o,H++[.pin (Ey [] 0 f)]⟩):ConP P vb o H vt vO vB:=by
 refine⟨xf,λs S f T x xh L R=>calls_of_wp W E ?_⟩;have q:o.length<=vK.ntmps:=by simpa[Nat.ble_eq]using N
 have xc:((List.range H.length).map S).length=H.length:=by simp
 have m:(H++[Ow.pin (Ey [] 0 ((List.range H.length).map S))]).length=H.length+1:=by simp
 have xb:∀i A,(H++[Ow.pin (Ey [] 0 ((List.range H.length).map S))])[i]? = some A->H[i]? = some A\/A=Ow.pin (Ey [] 0 ((List.range H.length).map S)):=λi A K=>ZaK
 have GX:∀k,k<H.length->((List.range H.length).map S).getD k undef=S k:=λk C=>by
  exact Zgh
 refine wp_mono ((h ⟨s,GU s S H,[]⟩ ((List.range H.length).map S) xc).run { tmps:=f.toArray++Array.replicate (vK.ntmps-f.toArray.size) undef,defers:=[] } s.w ⟨s,S,rfl,GS.LeX.refl _ s,T,λt Z M=>?_,by simp;omega,rfl,λi A K=>?_,λi j A Q xa K O b xd xj=>?_,λi A b K xd=>?_⟩) ?_
 .obtain ⟨_,B⟩:=Iy M
  rw[Nat.sub_zero]at B;have I:t<o.length:=(List.getElem?_eq_some_iff.1 B).1;have V:=R t Z B
  have:(f.toArray++Array.replicate (vK.ntmps-f.toArray.size) undef).getD t undef=f.getD t undef:=by
   exact ZeV
  show AVr (H++[Ow.pin _]).length S s Z ((f.toArray++Array.replicate (vK.ntmps-f.toArray.size) undef).getD t undef);rw[this,m];exact V.mono (Nat.le_succ _) λ_ _=>rfl
 .show OwR 0 (H++[Ow.pin _]).length S s i A
  rw[m];rcases xb i A K with u | rfl
  .exact (x i A u).mono (Nat.le_succ _) (λ_ _=>rfl) (BV u)
  .intro p X
   obtain⟨k,u,rfl⟩:=Jg X;rw[xc]at u;rw[Nat.zero_add];exact⟨by omega,GX k u⟩
 .rcases xb i A K with u | rfl
  .rcases xb j Q O with B | rfl
   .exact xh i j A Q xa u B b xd xj
   .exact xj.elim
  .exact xd.elim
 .rcases xb i A K with u | rfl
  .exact .inl ⟨i,A,u,xd⟩
  .exact xd.elim
 .intro e a w ⟨τ,U,G,n,l,Y⟩
  subst l;rcases U with⟨F,⟨r,X,J,xl,z⟩,xk⟩ | ⟨rfl,hN⟩
  rotate_left
  .refine ⟨Y.df, .inr ⟨rfl, hN, G, rfl, ⟨Y.le, Y.ok, λi A K=>?_, λi j A Q xa K O b E y=>?_, λi A b K E=>?_, λ_ _ _=>rfl, by rw [List.length_replicate]; exact Nat.le_refl _⟩⟩⟩
   .obtain rfl:=SB K
    trivial
   .obtain rfl:=SB K
    exact E.elim
   .obtain rfl:=SB K
    exact E.elim
  subst xl;rw[xc]at xk z;obtain⟨v,u,B⟩:=J.run _ n G a.tmps vK rfl Y.hp Y.fr
  have g:∀i A,(τ.hp.set H.length .dead)[i]? = some A->A=Ow.dead\/τ.hp[i]? = some A:=λi A K=>ZaL
  have U:Aft s S H [] G n (τ.hp.set H.length .dead):=by
   refine⟨Y.le,Y.ok,λi A K=>?_,λi j A Q xa K O b xd xj=>?_,λi A b K xd=>?_,λi K xi=>?_,?_⟩
   .rw [List.length_set]
    rcases g i A K with rfl | I
    .trivial
    .exact Y.hp i A I
   .rcases g i A K with rfl | I
    .exact xd.elim
    .rcases g j Q O with rfl | V
     .exact xj.elim
     .exact Y.sep i j A Q xa I V b xd xj
   .rcases g i A K with rfl | I
    .exact xd.elim
    .exact Y.own i A b I xd
   .have I:=Y.hp _ _ xk _ (OB (i:=0) (k:=i) (by rw [xc]; exact K) (by rw [Nat.zero_add]; exact xi))
    rw[GX i K,Nat.zero_add]at I;exact I.2.symm
   .rw [List.length_set]
    exact Nat.le_of_lt (BV xk)
  have xg:AVr (τ.hp.set H.length .dead).length n G r v:=by rw[List.length_set];exact B
  rcases F with rfl | rfl
  .exact ZhH
  .exact ZhH
def IQ(e:Nat->Nat)(m:Nat)(y:AV)(H:FuncId)(pre M:List Nat):Prop:=(y=.d (ex (.func (.func H) #[] #[]))/\pre=[]/\M=[])\/(y=.fn H (M.map e)/\pre=[]/\M.all (Nat.blt · m)=true/\Nat.blt H 1000000=true)\/(y=.fn (H+1000000) (pre.map e)/\M=[]/\pre.all (Nat.blt · m)=true)
variable{j uD:Type}
theorem Xx{R:j->uD->Prop}{u:uD}{A B:List j}{V W:List uD}(L:A.length=V.length)(C:∀(k:Nat) a,A[k]? = some a->R a (V.getD k u))(E:∀(k:Nat) a,B[k]? = some a->R a (W.getD k u)):∀(k:Nat) a,(A++B)[k]? = some a->R a ((V++W).getD k u):=λk a h=>by
 rw[List.getElem?_append]at h;rw[List.getD_eq_getElem?_getD,List.getElem?_append];split at h
 .rename_i Q
  rw[if_pos Zbx,<-List.getD_eq_getElem?_getD];exact C k a h
 .rename_i s
  rw[if_neg Zbx,L.symm,<-List.getD_eq_getElem?_getD];exact E _ a h
section
variable {P:Program} {s0:An} {n:Nat} {ops:Array Oper} {Q:Exit->AS->Prop} {rest:List Oper} {fr:List (Nat×AV)} {hp:List Ow}
variable{vi:Act}{vs:Array TypeId}{f:List Nat}{vJ:List Operand}{q:Oper}{x:Operand}
theorem A1i{hpS:List Ow}(S:q.op=.call { callee:=.value x,args:=vJ.toArray,argTypes:=vs })(sel:List Nat){m:Nat}(R:GW hp=some m)(p:IQ (Bu sel m) hpS.length (AS.arg ⟨fr,hp⟩ x) vb l f)
  (xc:∀vJ w,(callFunc vb vJ).run P w=.ok (.enter vb vJ) w) (t:ArgsC hp (Bu sel m) hpS.length (AS.arg ⟨fr,hp⟩) vJ o) (xd:sel.Nodup) (xb:SelR (Bu sel m) hp hpS.length sel hpS) (xg:∀i∈l,∃T cells,hpS[i]? = some (.var T cells)) (xf:∀i∈f,∃T cells,hpS[i]? = some (.var T cells))
 (hst:StI s0 n ⟨fr,hp⟩ vi s vg):∃W:List Value,W.length=(l.map (AV.ptr · 0)++o++f.map (AV.ptr · 0)).length/\(execOp vi.eval q).run P s.w=.ok (.enter vb W.toArray) s.w/\HpOk 0 (λk=>vg (Bu sel hp.length k)) s hpS/\Sep s (λk=>vg (Bu sel hp.length k)) hpS /\
   ∀(k:Nat) H,(l.map (AV.ptr · 0)++o++f.map (AV.ptr · 0))[k]? = some H->AVr hpS.length (λk=>vg (Bu sel hp.length k)) s H (W.getD k undef):=by
 obtain rfl:=ET R;obtain⟨Y,a⟩:=xb.get;obtain⟨xi,xl⟩:=t.get;have xk:∀i,i<hpS.length->(λk=>vg (Bu sel hp.length k)) i=vg (Bu sel hp.length i):=λ_ _=>rfl
 have xa:∀k N,hpS[k]? = some N->hp[Bu sel hp.length k]? = some (N.ren (Bu sel hp.length)):=λk N E=>by
  rw[Eu (by have:=BV E;omega)];exact(a k N E).1
 have g:HpOk 0 (λk=>vg (Bu sel hp.length k)) s hpS:=λk N E=>(hst.hp _ _ (xa k N E)).un (a k N E).2 (BV E) xk
 have xe:Sep s (λk=>vg (Bu sel hp.length k)) hpS:=λi j c U J K M b F r=>by
  refine hst.sep _ _ _ _ (λe=>J ?_) (xa i c K) (xa j U M) b (NP.2 F) (NP.2 r);have A:=BV K;have C:=BV M;rw[Eu Zbx,Eu Zbx,List.getD_eq_getElem?_getD,List.getElem?_eq_getElem Zbx,List.getD_eq_getElem?_getD,List.getElem?_eq_getElem Zbx]at e;exact QV xd _ _ e
 have xh:∀(k:Nat) H,o[k]? = some H->AVr hpS.length (λk=>vg (Bu sel hp.length k)) s H ((vJ.map vi.eval).getD k undef):=λk H E=>by
  obtain⟨u,A,C⟩:=xl k H E;have I:=hst.arg u;have V:(vJ.map vi.eval).getD k undef=vi.eval u:=by rw[List.getD_eq_getElem?_getD,List.getElem?_map,A];rfl
  rw[V];rcases C with⟨d,v,rfl,O,y⟩ | ⟨O,y⟩
  .exact y s _ (Ev hst.hp I O)
  .rw [O]at I
   exact I.un y xk
 have xj:∀(B:List Nat),(∀i∈B,∃T cells,hpS[i]? = some (.var T cells))->∀(k:Nat) H,(B.map (AV.ptr · 0))[k]? = some H->AVr hpS.length (λk=>vg (Bu sel hp.length k)) s H ((B.map λi=>vg (Bu sel hp.length i)).getD k undef):=λB L k H E=>by
  rw[List.getElem?_map]at E;rw[List.getD_eq_getElem?_getD,List.getElem?_map]
  cases K:B[k]? with
  |none=>rw[K]at E;cases E
  |some i=>
   rw[K]at E;cases E;obtain⟨T,cells,A⟩:=L i (List.mem_of_getElem? K);obtain⟨b,Z,C,_⟩:=g i _ A;exact⟨BV A,b,C,C⟩
 have X:o.length=vJ.length:=xi.symm;refine⟨(l.map λi=>vg (Bu sel hp.length i))++vJ.map vi.eval++f.map λi=>vg (Bu sel hp.length i),by simp[xi],?_,g,xe,Xx (by simp[xi]) (Xx ZbK (xj l xg) xh) (xj f xf)⟩;have I:=hst.arg x;rcases p with⟨V,rfl,rfl⟩ | ⟨V,rfl,O,y⟩ | ⟨V,rfl,O⟩
 .rw [V]at I
  have G:vi.eval x=.func (.func vb) #[] #[]:=I;simp[execOp,S,resolve,G,Deferred.ofValue,invoke,xc]
 .rw [V]at I
  have G:vi.eval x=.func (.func vb) #[] ((f.map (Bu sel hp.length)).map vg).toArray:=by rw[I.2,fnV,y];rfl
  rw[List.map_map]at G;simp[execOp,S,resolve,G,Deferred.ofValue,invoke,xc]
 .rw [V]at I
  have z:Nat.blt (vb+1000000) 1000000=false:=ZaM
  have G:vi.eval x=.func (.func vb) ((l.map (Bu sel hp.length)).map vg).toArray #[]:=by rw[I.2,fnV,z,Nat.add_sub_cancel];rfl
  rw[List.map_map]at G;simp[execOp,S,resolve,G,Deferred.ofValue,invoke,xc]
variable{vm:List Nat}
theorem A33{hpS:List Ow}(C:q.op=.call { callee:=.value x,args:=vJ.toArray,argTypes:=vs })(sel:List Nat){m:Nat}(B:GW hp=some m)(p:IQ (Bu sel m) hpS.length (AS.arg ⟨fr,hp⟩ x) vb l f)
  (G:Con P vb (l.map (AV.ptr · 0)++o++f.map (AV.ptr · 0)) hpS vm vt) (xa:LostOk sel vm m fr hp) (t:ArgsC hp (Bu sel m) hpS.length (AS.arg ⟨fr,hp⟩) vJ o) (xb:sel.Nodup) (U:SelR (Bu sel m) hp hpS.length sel hpS) (xf:∀i∈l,∃T cells,hpS[i]? = some (.var T cells)) (xe:∀i∈f,∃T cells,hpS[i]? = some (.var T cells)) (W:Td q.dst n=true)
  (next:∀r A,vt r A->∃I g b,AVRen (Bu sel m) r I/\SetR (Bu sel m) hp sel A g/\AppR (Bu sel m) g (Kp sel.length A) b/\AWl P s0 n ops Q rest (AS.put ⟨fr,b⟩ q.dst I)) :
  ∀(s:GS) (S:Nat->Value) (a:Act),StI s0 n ⟨fr,hp⟩ a s S->∀K:Act->World->Prop,(∀d E O,AWl P s0 n ops Q rest d->St s0 n d E O->K E O)->q.wp P a s.w K (FG s0 n Q):=by
 intro s S a w K X;obtain⟨F,z,xg,R,xc,xh⟩:=A1i C sel B p G.1 t xb U xf xe w;obtain rfl:=ET B;have V:=G.2 s (λk=>S (Bu sel hp.length k)) F w.ok R xc z xh;unfold Oper.wp;rw[xg];refine Calls.mono V λe O h=>?_;obtain⟨v,rfl,c,H,r,A,u,rfl,y,L⟩:=h;obtain⟨I,g,b,M,Z,N,Y⟩:=next r A u;replace M:I=r.ren (Bu sel hp.length):=M;rw[AppR,Ll]at N;subst M;subst N;obtain⟨xd,J,j⟩:=StI.con (sel:=sel) (hpS:=hpS) xa.get.1 xa.get.2 w xb U L Z;exact X _ _ _ Y ⟨c,xd,rfl,J.put (GS.Le.refl c) (IG W) (j r v y)⟩
theorem A32{hpS Hd:List Ow}(C:q.op=.call { callee:=.value x,args:=vJ.toArray,argTypes:=vs })(sel:List Nat){m:Nat}(B:GW hp=some m)(p:IQ (Bu sel m) hpS.length (AS.arg ⟨fr,hp⟩ x) vb l f)
  (G:ConP P vb (l.map (AV.ptr · 0)++o++f.map (AV.ptr · 0)) hpS vt vO vB) (xc:SetR (Bu sel m) hp sel (List.replicate hpS.length .dead) Hd) (xj:vB->Q (.panic vO) ⟨fr,Hd⟩) (t:ArgsC hp (Bu sel m) hpS.length (AS.arg ⟨fr,hp⟩) vJ o) (xe:sel.Nodup) (xb:SelR (Bu sel m) hp hpS.length sel hpS) (xi:∀i∈l,∃T cells,hpS[i]? = some (.var T cells)) (xh:∀i∈f,∃T cells,hpS[i]? = some (.var T cells)) (W:Td q.dst n=true)
  (next:∀r A,vt r A->∃I z g,AVRen (Bu sel m) r I/\SetR (Bu sel m) hp sel A z/\AppR (Bu sel m) z (Kp sel.length A) g/\AWl P s0 n ops Q rest (AS.put ⟨fr,g⟩ q.dst I)) :
  ∀(s:GS) (S:Nat->Value) (a:Act),StI s0 n ⟨fr,hp⟩ a s S->∀K:Act->World->Prop,(∀j E O,AWl P s0 n ops Q rest j->St s0 n j E O->K E O)->q.wp P a s.w K (FG s0 n Q):=by
 intro s S a w K b;obtain⟨F,xa,xk,X,xf,xl⟩:=A1i C sel B p G.1 t xe xb xi xh w;obtain rfl:=ET B;obtain⟨N,-⟩:=xb.get;have V:=G.2 s (λk=>S (Bu sel hp.length k)) F w.ok X xf xa xl;have xd:LostOk sel [] hp.length fr hp:=.inl rfl;unfold Oper.wp;rw[xk];refine Calls.mono V λe O h=>?_;rcases h with⟨v,rfl,c,H,r,A,u,rfl,y,L⟩ | ⟨rfl,hN,c,rfl,L⟩
 .obtain ⟨I,z,g,M,Z,R,d⟩:=next r A u
  replace M:I=r.ren (Bu sel hp.length):=M;rw[AppR,Ll]at R;subst M;subst R;obtain⟨xg,J,U⟩:=StI.con (sel:=sel) (hpS:=hpS) xd.get.1 xd.get.2 w xe xb L Z;exact b _ _ _ d ⟨c,xg,rfl,J.put (GS.Le.refl c) (IG W) (U r v y)⟩
 .obtain ⟨xg,J,-⟩:=StI.con (sel:=sel) (hpS:=hpS) xd.get.1 xd.get.2 w xe xb L xc
  have Y:(List.replicate hpS.length Ow.dead).drop sel.length=[]:=List.drop_eq_nil_of_le (by rw[List.length_replicate];omega);rw[Y,List.map_nil,List.append_nil]at J;exact⟨_,xj hN,c,xg,rfl,J⟩
variable{vG:Array Edge}{b:Nat}{vF:String}{t:TypeId}
theorem AF{u:Nat}(C:List Nat)(pre M:List Nat)(G:Con P vb o H l vt)(m:LostOk C l b fr hp)(F:o=pre.map (AV.ptr · 0)++(o.drop pre.length).take vJ.length++M.map (AV.ptr · 0))(s:GW hp=some b)(p:IQ (Bu C b) H.length (AS.arg ⟨fr,hp⟩ x) vb pre M)
  (B:ArgsC hp (Bu C b) H.length (AS.arg ⟨fr,hp⟩) vJ ((o.drop pre.length).take vJ.length)) (K:C.Nodup) (X:SelR (Bu C b) hp H.length C H) (L:CapsOk H pre) (T:CapsOk H M) (W:Nat.blt u n=true)
  (next:∀r A,vt r A->∃I a E,AVRen (Bu C b) r I/\SetR (Bu C b) hp C A a/\AppR (Bu C b) a (Kp C.length A) E/\AWl P s0 n ops Q rest ⟨(u,I)::fr,E⟩) :
  AWl P s0 n ops Q (⟨some u,.call { callee:=.value x,args:=vJ.toArray,argTypes:=vs },t,vF,vG,none⟩::rest) ⟨fr,hp⟩:=by
 rw[F]at G;exact AWl.step rfl (A33 rfl C s p G m B K X L.get T.get W next)
theorem AJ{u:Nat}(C:List Nat)(pre M:List Nat){m:Nat}(G:ConP P vb o H vt vO vB)(Y:SetR (Bu C m) hp C (List.replicate H.length .dead) vw)(h:vB->Q (.panic vO) ⟨fr,vw⟩)(F:o=pre.map (AV.ptr · 0)++(o.drop pre.length).take vJ.length++M.map (AV.ptr · 0))(s:GW hp=some m)(p:IQ (Bu C m) H.length (AS.arg ⟨fr,hp⟩ x) vb pre M)
  (B:ArgsC hp (Bu C m) H.length (AS.arg ⟨fr,hp⟩) vJ ((o.drop pre.length).take vJ.length)) (l:C.Nodup) (X:SelR (Bu C m) hp H.length C H) (K:CapsOk H pre) (T:CapsOk H M) (W:Nat.blt u n=true)
  (next:∀r A,vt r A->∃I a E,AVRen (Bu C m) r I/\SetR (Bu C m) hp C A a/\AppR (Bu C m) a (Kp C.length A) E/\AWl P s0 n ops Q rest ⟨(u,I)::fr,E⟩) :
  AWl P s0 n ops Q (⟨some u,.call { callee:=.value x,args:=vJ.toArray,argTypes:=vs },t,vF,vG,none⟩::rest) ⟨fr,hp⟩:=by
 rw[F]at G;exact AWl.step rfl (A32 rfl C s p G Y h B l X K.get T.get W next)
end
variable{vG:Array Edge}{x:Operand}{vv:Operand->AV}{vF:String}{t:TypeId}
theorem DT{A:Option Tmp}{B:Option (Nat×Bool)}(C:vv x=.ptr n 0):Quiet P H ⟨A,.makeFunc (.func vb) #[x] #[],t,vF,vG,B⟩ vv (.fn (vb+1000000) [n]):=by
 refine⟨λbase s S u T w a o=>?_⟩;have V:=o x Zcp;rw[C]at V;obtain⟨m,b,y,e⟩:=V
 have f:Nat.blt (vb+1000000) 1000000=false:=ZaM
 refine BL (v:=.func (.func vb) #[u x] #[]) (by simp[execOp,Instr.makeFunc]) ⟨GS.Le.refl s,λj i=>by rw[List.mem_singleton.1 i];exact m,?_⟩;rw[fnV,f,Nat.add_sub_cancel,e,List.map_cons,List.map_nil,y];rfl
section
variable {P:Program} {f:FuncId} {fn:Func} {c:Code} {args:List AV} {Q:AV->List Ow->Prop} {ch:List PanicEntry} {N:Prop} (hf:P.funcs[f]? = some fn) (hb:fn.body=some c) (hcf:∀args w,(callFunc f args).run P w=.ok (.enter f args) w) (hn:Nat.ble args.length fn.ntmps=true)
include hf hb hcf hn
theorem Bf(h:∀(A:An) (v:Value),AWp P A fn.ntmps c (FinP P fn [v] Q ch N) ⟨Hy 0 args,[vr,.pin [(v,.own 0)]]⟩):ConP P f args [vr] Q ch N:=
 UU hf hb hcf hn λA F o=>by
  match F,o with
  |[v],_=>exact h A v
end
variable{vy:Nat->Nat}
theorem BA{j:Nat}(b:Fu H j .dead=some vw):SetR vy H [j] (List.replicate 1 Ow.dead) vw:=SetR.cons OwRen.dead b SetR.nil
section
variable {P:Program} {s0:An} {n:Nat} {ops:Array Oper} {Q:Exit->AS->Prop} {rest:List Oper} {fr:List (Nat×AV)} {hp:List Ow}
variable{U:TypeId}
theorem CP{v:Value}(C:AS.arg ⟨fr,hp⟩ x=.d (ex (.iface U v)))(z:Q (.panic [{ v:=.iface U v,recovered:=false }]) ⟨fr,hp⟩):AWl P s0 n ops Q (⟨none,.panic x,t,vF,vG,none⟩::rest) ⟨fr,hp⟩:=AWl.step rfl λs S a w K p=>by
 have e:a.eval x=.iface U v:=by
  have:=w.arg x;exact ZgP
 have q:(execOp a.eval ⟨none,.panic x,t,vF,vG,none⟩).run P s.w=.halt (.panic (.iface U v)) s.w:=by
  simp[execOp,e,Instr.panic]
 unfold Oper.wp;rw[q];exact⟨⟨fr,hp⟩,z,s,S,rfl,w⟩
end
def Mo(P:List Tm):Int:=P.foldl (λd t=>max d (DE t.m 8)) (-1)
variable{vj:List Tm}
theorem Zo(h:n<vj.length):Mo (vj.take (n+1))=max (Mo (vj.take n)) (DE (Cm vj n).m 8):=Rb (λd t=>max d (DE t.m 8)) (-1) h
theorem UO(P:List Tm)(X:PIn P 0 65535)(h:P.length<=1000000):Abs Tryz.prog 241 [Cd P] (ex (.int .i64 (Mo P))):=by
 refine Ab Tryz.func241 λA=>?_;rw[Tryz.ntmps241];refine Go ?_;refine AE (λu f=>∃k,k<=P.length/\u=P.length-k/\f=⟨[(3,.d (ex (.int .i64 (Mo (P.take k))))),(6,.d (Cd P)),(7,.d (ex (.int .i64 (P.length:Nat)))),(8,.d (ex (.int .i64 (k:Nat))))],[]⟩) ?le ⟨0,by omega,rfl,rfl⟩ ?round
 case le=>exact ZhA
 case round=>
  rintro u _ ⟨k,B,rfl,rfl⟩;by_cases Q:k<P.length
  .have e:=X _ (DM Q)
   have w:=Zo Q;have I:=TT (Cm P k).m (e.mono Zbx Zbx);refine ZeT ?_;exact Ac (by exact FrLe.cons rfl (AVle.int w.symm)<|Yd<|Yd<|Yd<|FrLe.nil) Zch
  .exact ZaJ
theorem A4p{z:Int}(g:-100000<=z)(u:z<=100000):(Ao z.natAbs).length<=1:=Ie ZdB
def Hn(s t:Tm):Int:=if Na s.m t.m=true then La s.c t.c else IE s.m t.m
def CC:List Tm->List Tm->Int
 |[],[]=>0
 |[],_::_=>-1
 |_::_,[]=>1
 |s::P,t::Q=>if Hn s t=0 then CC P Q else Hn s t
theorem UW(s t:Tm)(b:RSz s.c 1000000000)(M:RSz t.c 1000000000):Abs Tryz.prog 296 [AL (Nz s),AL (Nz t)] (ex (.int .i64 (Hn s t))):=by
 cases h:Na s.m t.m with
 |true=>
  have e:Hn s t=La s.c t.c:=if_pos h;refine Ab Tryz.func296 λA=>?_;rw[Tryz.ntmps296];have I:=Ov s.c t.c b M;exact ZgL
 |false=>
  have e:Hn s t=IE s.m t.m:=if_neg (by rw[h];decide);refine Ab Tryz.func296 λA=>?_;rw[Tryz.ntmps296];have k:=OP s.m t.m;exact ZgL
variable{uf:List Tm}
theorem QP(u:n<vj.length)(A:n<uf.length):CC (vj.drop n) (uf.drop n)=if Hn (Cm vj n) (Cm uf n)=0 then CC (vj.drop (n+1)) (uf.drop (n+1))else Hn (Cm vj n) (Cm uf n):=by
 rw[GZ u,GZ A,CC]
theorem Tb(P Q:List Tm)(X:PSz P 1000000000)(Y:PSz Q 1000000000)(h:P.length<=1000000)(s:Q.length<=1000000):Abs Tryz.prog 295 [Cd P,Cd Q,ex (.func (.func 296) #[] #[])] (ex (.int .i64 (CC P Q))):=by
 refine Ab Tryz.func295 λC=>?_;rw[Tryz.ntmps295];refine Go ?_;refine AE (λE f=>∃k,k<=P.length/\k<=Q.length/\CC P Q=CC (P.drop k) (Q.drop k)/\E=P.length-k/\f=⟨[(0,.d (Cd P)),(1,.d (Cd Q)),(2,.d (ex (.func (.func 296) #[] #[]))),(11,.d (Cd P)),(12,.d (ex (.int .i64 (P.length:Nat)))),(13,.d (ex (.int .i64 (k:Nat))))],[]⟩) ?le ⟨0,by omega,by omega,rfl,rfl,rfl⟩ ?round
 case le=>exact Ac Zei Zch
 case round=>
  rintro m _ ⟨k,B,G,heq,rfl,rfl⟩;by_cases u:k<P.length
  .by_cases l:k<Q.length
   .have b:=X _ (DM u)
    have M:=Y _ (DM l);have W:=QP u l;by_cases A:Hn (Cm P k) (Cm Q k)=0
    .rw [if_pos A]at W
     have O:=UW (Cm P k) (Cm Q k) b M;refine Go ?_;refine Am (P.length-(k+1)) Zbx ⟨k+1,by omega,by omega,by rw[heq,W],rfl,rfl⟩ ?_;exact Ac Zei Zch
    .rw [if_neg A]at W
     have z:=UW (Cm P k) (Cm Q k) b M;refine Go ?_;exact Aq (Ak (ResV.tmp rfl rfl) (Af (by rw[heq,W])))
   .have e:CC P Q=1:=by
     rw[heq,GZ u,(List.drop_eq_nil_of_le Zbx:Q.drop k=[]),CC]
    refine Go ?_;exact Aq (Ak (ResV.tmp rfl rfl) (Af Zep))
  .have F:P.drop k=[]:=List.drop_eq_nil_of_le Zbx
   by_cases l:k<Q.length
   .have e:CC P Q=-1:=by
     rw[heq,F,GZ l,CC]
    refine Go ?_;exact Aq (Ak (ResV.tmp rfl rfl) (Af Zep))
   .have e:CC P Q=0:=by
     rw[heq,F,(List.drop_eq_nil_of_le Zbx:Q.drop k=[]),CC]
    refine Go ?_;exact Aq (Ak (ResV.tmp rfl rfl) (Af Zep))
theorem A1L(P Q:List Tm)(X:PSz P 1000000000)(Y:PSz Q 1000000000)(h:P.length<=1000000)(s:Q.length<=1000000):Abs Tryz.prog 243 [Cd P,Cd Q] (ex (.int .i64 (CC P Q))):=by
 refine Ab Tryz.func243 λA=>?_;rw[Tryz.ntmps243];have J:=Tb P Q X Y h s;exact ZeE
theorem YM{p q:Rat}:La p q=0↔p=q:=by
 rw[La,Int.sign_eq_zero_iff_zero,Rat.eq_iff_mul_eq_mul];omega
theorem A0u(p q:Rat):La q p=-La p q:=by
 rw[La,La,<-Int.sign_neg];exact ZfJ
theorem RM{s t:Tm}(h:Eqv s.m t.m):Hn s t=La s.c t.c:=if_pos (Ig.2 h)
theorem RL{s t:Tm}(h:¬Eqv s.m t.m):Hn s t=lx s.m t.m:=by rw[Hn,if_neg λd=>h (Ig.1 d),OR]
theorem A0g(s t:Tm):Hn t s=-Hn s t:=by
 by_cases h:Eqv s.m t.m
 .rw [RM h,RM h.symm];exact A0u _ _
 .rw [RL h,RL λd=>h d.symm];exact A0T _ _
theorem QE{s t:Tm}:Hn s t=0↔s.c=t.c/\Eqv s.m t.m:=by
 by_cases h:Eqv s.m t.m
 .rw [RM h,YM];exact⟨λe=>⟨e,h⟩,λe=>e.1⟩
 .rw [RL h]
  exact⟨λe=>absurd (XK.1 e) h,λe=>absurd e.2 h⟩
theorem TC:∀P Q:List Tm,CC Q P=-CC P Q
 |[],[]=>by simp[CC]
 |[],_::_=>by simp[CC]
 |_::_,[]=>by simp[CC]
 |s::P,t::Q=>by
  have h:=A0g s t;rw[CC,CC];by_cases g:Hn s t=0
  .rw [if_pos g,if_pos Zbx,TC P Q]
  .rw [if_neg g,if_neg Zbx,h]
theorem Md:∀{P Q:List Tm},CC P Q=0↔SameL P Q
 |[],[]=>by simp[CC,SameL]
 |[],_::_=>by simp[CC,SameL]
 |_::_,[]=>by simp[CC,SameL]
 |s::P,t::Q=>by
  have n:=Md (P:=P) (Q:=Q);have h:=QE (s:=s) (t:=t);rw[CC];by_cases g:Hn s t=0
  .rw [if_pos g,n]
   have:=h.1 g;exact⟨λe=>⟨this.1,this.2,e⟩,λe=>e.2.2⟩
  .rw [if_neg g]
   exact⟨λe=>absurd e g,λe=>absurd (h.2 ⟨e.1,e.2.1⟩) g⟩
theorem TD(h:CC vj uf=0):vj.length=uf.length:=(Md.1 h).length
theorem Zx(s t:Tm)(b:RSz s.c 1000000000)(M:RSz t.c 1000000000):Abs Tryz.prog 135 [AL (Nz s),AL (Nz t)] (ex (.bool (decide (Hn s t=0)))):=by
 cases h:Na s.m t.m with
 |true=>
  have e:Hn s t=La s.c t.c:=if_pos h;by_cases z:La s.c t.c=0
  .have W:decide (Hn s t=0)=true:=decide_eq_true (e.trans z)
   refine Ab Tryz.func135 λA=>?_;rw[Tryz.ntmps135];have I:=Ov s.c t.c b M;exact Zfw
  .have W:decide (Hn s t=0)=false:=decide_eq_false (by rw [e]; exact z)
   refine Ab Tryz.func135 λA=>?_;rw[Tryz.ntmps135];have k:=Ov s.c t.c b M;exact Zfw
 |false=>
  have u:¬Eqv s.m t.m:=λd=>by rw[Ig.2 d]at h;cases h
  have W:decide (Hn s t=0)=false:=decide_eq_false λe=>u (QE.1 e).2;refine Ab Tryz.func135 λA=>?_;rw[Tryz.ntmps135];exact Zfw
theorem WW(P Q:List Tm)(X:PSz P 1000000000)(Y:PSz Q 1000000000)(h:P.length<=1000000)(s:Q.length<=1000000):Abs Tryz.prog 134 [Cd P,Cd Q,ex (.func (.func 135) #[] #[])] (ex (.bool (decide (CC P Q=0)))):=by
 by_cases o:P.length=Q.length
 .refine Ab Tryz.func134 λC=>?_
  rw[Tryz.ntmps134];refine Go ?_;refine AE (λE f=>∃k,k<=P.length/\CC P Q=CC (P.drop k) (Q.drop k)/\E=P.length-k/\f=⟨[(1,.d (Cd Q)),(2,.d (ex (.func (.func 135) #[] #[]))),(15,.d (Cd P)),(16,.d (ex (.int .i64 (P.length:Nat)))),(17,.d (ex (.int .i64 (k:Nat))))],[]⟩) ?le ⟨0,by omega,rfl,rfl,rfl⟩ ?round
  case le=>exact Ac ZbP Zch
  case round=>
   rintro m _ ⟨k,B,heq,rfl,rfl⟩;by_cases u:k<P.length
   .have l:k<Q.length:=by omega
    have b:=X _ (DM u);have M:=Y _ (DM l);have W:=QP u l;have F:=Zx (Cm P k) (Cm Q k) b M;by_cases A:Hn (Cm P k) (Cm Q k)=0
    .rw [if_pos A]at W
     rw[decide_eq_true A]at F;refine Go ?_;refine Am (P.length-(k+1)) Zbx ⟨k+1,by omega,by rw[heq,W],rfl,rfl⟩ ?_;exact Ac ZbP Zch
    .rw [if_neg A]at W
     rw[decide_eq_false A]at F;have a:decide (CC P Q=0)=false:=decide_eq_false (by rw[heq,W];exact A);exact ZgA
   .have a:decide (CC P Q=0)=true:=decide_eq_true (by
     rw[heq,(List.drop_eq_nil_of_le Zbx:P.drop k=[]),(List.drop_eq_nil_of_le Zbx:Q.drop k=[]),CC])
    refine Go ?_;exact Aq (Ak (ResV.tmp rfl rfl) (Af (by rw[a])))
 .have a:decide (CC P Q=0)=false:=decide_eq_false λe=>o (TD e)
  refine Ab Tryz.func134 λC=>?_;rw[Tryz.ntmps134];exact ZgA
theorem Ry(P Q:List Tm)(X:PSz P 1000000000)(Y:PSz Q 1000000000)(h:P.length<=1000000)(s:Q.length<=1000000):Abs Tryz.prog 65 [Cd P,Cd Q] (ex (.bool (decide (CC P Q=0)))):=by
 refine Ab Tryz.func65 λA=>?_;rw[Tryz.ntmps65];have O:=WW P Q X Y h s;exact ZeE
section
variable {P:Program} {hp:List Ow} {arg:Operand->AV} {dd:Option Tmp} {ty:TypeId} {ps:String} {af:Array Edge} {gd:Option (Nat×Bool)}
end
theorem LT{Q:Exit->Act->World->Prop}{L:Array Oper}(I:Array Bool->Act->World->Prop)
  (M:∀U a w i,U.size=L.size->I U a w->i∈Region.ready .any L U->wpOp P L Q i (λE O=>I (U.setIfInBounds i true) E O) a w)
  (N:∀U a w,U.size=L.size->I U a w->Region.ready .any L U=[]->Q .normal a w) :
  ∀(f:Nat) (U:Array Bool) a w,U.size=L.size->U.count false<=f->I U a w->wpAny P .any L Q f U a w:=by
 have T:∀(U:Array Bool) i,i∈Region.ready .any L U->∃h:i<U.size,U[i]=false:=λU i K=>by
  have u:=(mem_ready.1 K).1
  have C:i<U.size:=by
   rcases Nat.lt_or_ge i U.size with h | h
   .exact h
   .rw [Array.getD_eq_getD_getElem?,Array.getElem?_eq_none h]at u
    simp at u
  refine⟨C,?_⟩;rw[Array.getD_eq_getD_getElem?,Array.getElem?_eq_getElem C]at u;exact Zhe
 have S:∀(U:Array Bool),Region.ready .any L U≠[]->U.count false≠0:=λU h=>by
  obtain⟨i,K⟩:=List.exists_mem_of_ne_nil _ h;obtain⟨C,o⟩:=T U i K;rw[<-Array.count_toList];have A:U.toList[i]'(Zdv)=false:=by simpa using o
  have B:0<U.toList.count false:=List.count_pos_iff.2 (A▸List.getElem_mem _);omega
 intro f
 induction f with
 |zero=>
  intro U a w F p Z;have g:Region.ready .any L U=[]:=Classical.byContradiction λh=>S U h Zbx;exact⟨g,N U a w F Z g⟩
 |succ f n=>
  intro U a w F p Z;refine⟨λg=>N U a w F Z g,λi K=>?_⟩;refine wpOp_mono (λE O R=>n _ E O ZdE ?_ R) (M U a w i F Z K);obtain⟨C,o⟩:=T U i K
  have G:(U.setIfInBounds i true).count false+1=U.count false:=by
   rw[<-Array.count_toList,<-Array.count_toList,Array.toList_setIfInBounds,List.count_set Zdv];have A:U.toList[i]'(Zdv)=false:=by simpa using o
   have B:0<U.toList.count false:=List.count_pos_iff.2 (A▸List.getElem_mem _);rw[A];have d:(if((false:Bool)==false)=true then 1 else 0)=1:=rfl;have v:(if((true:Bool)==false)=true then 1 else 0)=0:=rfl;rw[d,v];omega
  omega
end Go.Proofs.YtcikkglcoeedlaaGreat
