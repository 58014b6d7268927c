/- Part 19. No condition. -/
import Derived.Test.YtcikkglcoeedlaaGreatDm17
import Derived.Test.YtcikkglcoeedlaaGreatDm18
set_option linter.all false
set_option maxRecDepth 100000
namespace Go.Proofs.YtcikkglcoeedlaaGreat
open Go.RowKit
variable{ve:AS}{h:AV}{vy:AV->List Ow->Prop}{vl:Act}{vO:Array Bool}{vG:Array Edge}{vt:Array TypeId}{o uo:Bool}{vp ud:Code}{r vv uq:D}{vm:Exit->AS->Prop}{vQ:Func}{vd:FuncId}{i:IntKind}{uH:List (List (Nat×Nat))}{vk:List (List D)}{vb uA:List (Nat×AV)}{R ut:List AV}{v:List D}{l g vo:List Nat}{vf:List Oper}{vP:List Operand}{H vA uT:List Ow}{vU:List PanicEntry}{uh:List Value}{n b T:Nat}{vI:Nat->Nat}{vh ub:Nat->Value}{uk:Op}{va:Oper}{x y vT:Operand}{vC:Operand->AV}{vM:Option (Nat×Bool)}{vz:Option Tmp}{vs:Ow}{P:Program}{vJ:Prop}{vF:String}{e uv:Type}{z u:Value}
def AV.ren(e:Nat->Nat):AV->AV
 |.d x=>.d x
 |.ptr i off=>.ptr (e i) off
 |.own i=>.own (e i)
 |.fn f J=>.fn f (J.map e)
def Ow.ren(e:Nat->Nat):Ow->Ow
 |.var T cells=>.var T (cells.map (AV.ren e))
 |.pin l=>.pin (l.map λp=>(p.1,p.2.ren e))
 |o=>o
def AV.below(m:Nat):AV->Bool
 |.d _=>true
 |.ptr i _=>Nat.blt i m
 |.own i=>Nat.blt i m
 |.fn _ J=>J.all (Nat.blt · m)
def Ow.below(m:Nat):Ow->Prop
 |.var _ cells=>∀G∈cells,G.below m=true
 |.pin l=>∀p∈l,p.2.below m=true
 |_=>True
theorem QJ(q:h.below n=true):AVle H n h h:=by
 cases h with
 |d x=>exact AVle.d rfl
 |ptr i off=>exact AVle.ptr q
 |own i=>exact AVle.own q
 |fn f J=>exact BY q
theorem Ak{m:Nat}{l:List (Value×AV)}(h:l.all (λp=>p.2.below m)=true):OwLe H m (.pin l) (.pin l):=OwLe.pin λp H=>QJ (Yah.1 h p H)
theorem Ad{m T:Nat}{c:List AV}(h:c.all (AV.below m)=true):OwLe H m (.var T c) (.var T c):=OwLe.var rfl λk y M=>⟨y,M,QJ (Yah.1 h y (Yaz M))⟩
theorem Rv{s:GS}:OwB s z (vs.ren vI) n↔OwB s z vs n:=by cases vs<;>exact Ydt
theorem AVr.un{e:Nat->Nat}{s:GS}(q:AVr n vh s (h.ren e) z)(E:h.below b=true)(M:∀i,i<b->ub i=vh (e i)):AVr b ub s h z:=by
 cases h with
 |d x=>exact q
 |ptr i off=>
  have J:i<b:=by simpa[AV.below,Ybq]using E
  obtain⟨B,A,C,K⟩:=q;exact⟨J,A,(M i J).trans C,K⟩
 |own i=>
  have J:i<b:=by simpa[AV.below,Ybq]using E
  exact⟨J,q.2.trans (M i J).symm⟩
 |fn f F=>
  have J:∀i∈F,i<b:=λi J=>by
   have:=Yah.1 E i J;simpa[Ybq]using this
  refine⟨J,?_⟩;have C:=q.2;rw[Ycj]at C;rw[C];exact congrArg (fnV f) (YaS λi v=>(M i (J i v)).symm)
theorem AVr.re{s:GS}(q:AVr n vh s h z)(E:∀i,i<n->vI i<b)(M:∀i,i<n->ub (vI i)=vh i):AVr b ub s (h.ren vI) z:=by
 cases h with
 |d x=>exact q
 |ptr i off=>
  obtain⟨B,A,C,K⟩:=q;exact⟨E i B,A,(M i B).trans C,K⟩
 |own i=>exact⟨E i q.1,q.2.trans (M i q.1).symm⟩
 |fn f F=>
  refine⟨λi J=>?_,?_⟩
  .obtain ⟨j,X,rfl⟩:=YaD.1 J
   exact E j (q.1 j X)
  .rw [Ycj,q.2,YaS λi J=>(M i (q.1 i J)).symm]
   rfl
theorem OwR.un{e:Nat->Nat}{s:GS}(h:OwR 0 n vh s (e T) (vs.ren e))(F:vs.below b)(J:T<b)(W:∀T,T<b->ub T=vh (e T)):OwR 0 b ub s T vs:=by
 cases vs with
 |dead=>trivial
 |var C cells=>
  obtain⟨q,f,A,B,K,Q,I,M,g⟩:=h;refine⟨q,f,(W T J).trans A,B,K,by simpa using Q,I,M,λk S E=>?_⟩;obtain⟨u,x,V,X⟩:=g k (S.ren e) (by rw[Yav,E];rfl);exact⟨u,x,V,X.un (F S (Yaz E)) W⟩
 |row C L N=>
  replace h:OwR 0 n vh s (e T) (.row C L N):=h;unfold OwR at h ⊢;rw[W T J];exact h
 |obj O=>
  show O.rel s (ub T);rw[W T J];exact h
 |pin l=>exact λp G=>(h (p.1,p.2.ren e) (YbU (f:=λp:Value×AV=>(p.1,p.2.ren e)) G)).un (F p G) W
theorem OwR.re{s:GS}(h:OwR 0 n vh s T vs)(J:T<n)(I:∀T,T<n->vI T<b)(Y:∀T,T<n->ub (vI T)=vh T):OwR 0 b ub s (vI T) (vs.ren vI):=by
 cases vs with
 |dead=>trivial
 |var E cells=>
  obtain⟨A,f,B,C,K,Q,L,N,g⟩:=h;refine⟨A,f,(Y T J).trans B,C,K,by simpa using Q,L,N,λk V F=>?_⟩;rw[Yav]at F
  cases e:cells[k]? with
  |none=>rw[e]at F;cases F
  |some Z=>
   rw[e]at F;cases F;obtain⟨u,x,W,X⟩:=g k Z e;exact⟨u,x,W,X.re I Y⟩
 |row E M S=>
  show OwR 0 b ub s (vI T) (.row E M S);unfold OwR at h ⊢;rw[Y T J];exact h
 |obj O=>
  show O.rel s (ub (vI T));rw[Y T J];exact h
 |pin l=>
  intro p G;obtain⟨q,m,rfl⟩:=YaD.1 G;exact(h q m).re I Y
def BL(sel:List Nat)(m k:Nat):Nat:=bif Nat.blt k sel.length then sel.getD k 0 else m+(k-sel.length)
theorem Fx(h:b<l.length):BL l n b=l.getD b 0:=by
 have:Nat.blt b l.length=true:=by simpa[Ybq]using h
 rw[BL,this];rfl
theorem KI(h:l.length<=b):BL l n b=n+(b-l.length):=by
 have:Nat.blt b l.length=false:=by cases E:Nat.blt b l.length<;>simp_all [Ybq];omega
 rw[BL,this];rfl
def SelR(e:Nat->Nat)(H:List Ow)(m:Nat):List Nat->List Ow->Prop
 |[],[]=>True
 |j::q,o::os=>H[j]? = some (o.ren e)/\o.below m/\SelR e H m q os
 |_,_=>False
theorem SelR.get{e:Nat->Nat}{H:List Ow}{m:Nat}:∀{E:List Nat} {os:List Ow},SelR e H m E os->E.length=os.length/\∀(k:Nat) o,os[k]? = some o->H[E.getD k 0]? = some (o.ren e)/\o.below m
 |[],[],_=>⟨rfl,λk o h=>by cases h⟩
 |[],_::_,h=>h.elim
 |_::_,[],h=>h.elim
 |j::E,o::os,⟨q,A,K⟩=>by
  obtain⟨Q,B⟩:=SelR.get K;refine⟨by simp[Q],λk x C=>?_⟩
  cases k with
  |zero=>cases C;exact⟨q,A⟩
  |succ k=>exact B k x ZeA
def SetR(e:Nat->Nat):List Ow->List Nat->List Ow->List Ow->Prop
 |H,[],_,O=>H=O
 |H,j::m,o::os,O=>SetR e (H.set j (o.ren e)) m os O
 |_,_::_,[],_=>False
theorem SetR.get{e:Nat->Nat}:∀{m:List Nat} {H os O:List Ow},SetR e H m os O->O.length=H.length/\m.length<=os.length/\∀(i:Nat) x,O[i]? = some x->(∃k o,k<m.length/\m.getD k 0=i/\os[k]? = some o/\x=o.ren e)\/(i∉m/\H[i]? = some x)
 |[],H,os,O,h=>by
  have h:H=O:=by cases os<;>exact h
  subst h;exact⟨rfl,Yay _,λi x C=>.inr ⟨by simp,C⟩⟩
 |_::_,_,[],_,h=>h.elim
 |j::m,H,o::os,O,h=>by
  replace h:SetR e (H.set j (o.ren e)) m os O:=h;obtain⟨q,A,K⟩:=SetR.get h;refine⟨by simpa using q,by simp;omega,λi x C=>?_⟩;rcases K i x C with⟨k,E,Q,B,F,g⟩ | ⟨Q,B⟩
  .exact .inl ⟨k+1,E,by simp;omega,by simpa using B,by simpa using F,g⟩
  .rw [YbM]at B
   split at B
   .rename_i W
    subst W;split at B
    .exact .inl ⟨0,o,by simp,rfl,rfl,(Yag B).symm⟩
    .cases B
   .rename_i W
    exact .inr ⟨by simp only[YaL,not_or];exact⟨λe=>W e.symm,Q⟩,B⟩
theorem UN(h:l.Nodup)(J:n<l.length)(X:b<l.length)(e:l[n]=l[b]):n=b:=by
 rcases Yci n b with q | q | q
 .exact absurd e (Ycv.1 h n b J X q)
 .exact q
 .exact absurd e.symm (Ycv.1 h b n X J q)
def AV.avoid(lost:List Nat):AV->Bool
 |.d _=>true
 |.ptr i _=>!lost.contains i
 |.own i=>!lost.contains i
 |.fn _ J=>J.all λi=>!lost.contains i
def Ow.avoid(lost:List Nat):Ow->Prop
 |.var _ cells=>∀G∈cells,G.avoid lost=true
 |.pin l=>∀p∈l,p.2.avoid lost=true
 |_=>True
theorem Sp(h:(!l.contains n)=true):n∉l:=λv=>by
 rw[Ybv.2 v]at h;cases h
theorem AVr.kept{s:GS}(q:AVr n vh s h z)(v:n<=b)(t:h.avoid l=true)(M:∀i,i<n->i∉l->ub i=vh i):AVr b ub s h z:=by
 cases h with
 |d x=>exact q
 |ptr i off=>
  obtain⟨B,A,C,K⟩:=q;exact⟨Yaq B v,A,(M i B (Sp t)).trans C,K⟩
 |own i=>exact⟨Yaq q.1 v,q.2.trans (M i q.1 (Sp t)).symm⟩
 |fn f E=>exact⟨λi J=>Yaq (q.1 i J) v,by rw[q.2,YaS λi J=>(M i (q.1 i J) (Sp (Yah.1 t i J))).symm]⟩
theorem OwR.kept{s:GS}(h:OwR 0 n vh s T vs)(v:n<=b)(t:vs.avoid l)(J:T<n)(I:T∉l)(Y:∀T,T<n->T∉l->ub T=vh T):OwR 0 b ub s T vs:=by
 cases vs with
 |dead=>trivial
 |var E cells=>
  obtain⟨q,f,A,C,K,Q,L,N,g⟩:=h;refine⟨q,f,(Y T J I).trans A,C,K,Q,L,N,λk V F=>?_⟩;obtain⟨u,x,W,X⟩:=g k V F;exact⟨u,x,W,X.kept v (t V (Yaz F)) Y⟩
 |row E M S=>
  unfold OwR at h ⊢;rw[Y T J I];exact h
 |obj O=>
  unfold OwR at h ⊢;rw[Y T J I];exact h
 |pin B=>exact λp G=>(h p G).kept v (t p G) Y
theorem StI.con{s0:An}{s G:GS}{sel lost:List Nat}{hpS hp' H1:List Ow}(d:(∀p∈ve.fr,p.2.avoid (lost.map (BL sel ve.hp.length))=true)/\∀i o,i∉sel->ve.hp[i]? = some o->o.avoid (lost.map (BL sel ve.hp.length)))(xh:∀k∈lost,k<sel.length)(h:StI s0 n ve vl s vh)(xb:sel.Nodup)(xd:SelR (BL sel ve.hp.length) ve.hp hpS.length sel hpS)
  (xa:Aft s (λk=>vh (BL sel ve.hp.length k)) hpS lost G ub hp') (R:SetR (BL sel ve.hp.length) ve.hp sel hp' H1) :
  ∃xk,StI s0 n ⟨ve.fr,H1++(hp'.drop sel.length).map (Ow.ren (BL sel ve.hp.length))⟩ vl G xk/\∀S v,AVr hp'.length ub G S v->AVr (H1++(hp'.drop sel.length).map (Ow.ren (BL sel ve.hp.length))).length xk G (S.ren (BL sel ve.hp.length)) v:=by
 obtain⟨c,Z⟩:=xd.get;obtain⟨U,xn,xl⟩:=R.get;have Y:(H1++(hp'.drop sel.length).map (Ow.ren (BL sel ve.hp.length))).length=ve.hp.length+(hp'.length-sel.length):=by simp[U]
 have xj:∀k,k<sel.length->sel.getD k 0<ve.hp.length:=λk B=>by
  have m:k<hpS.length:=by omega
  exact Cu (Z k _ (Yab m)).1
 have xp:∀k,k<sel.length->sel.getD k 0∈sel:=λk B=>by
  exact ZhN
 have xu:∀j k,j<sel.length->k<sel.length->sel.getD j 0=sel.getD k 0->j=k:=λj k X B F=>by
  rw[Yaa,Yab X,Yaa,Yab B]at F;exact UN xb X B F
 have P:∀i,∃k,(∃l,l<sel.length/\sel.getD l 0=i)->k<sel.length/\sel.getD k 0=i:=λi=>by
  by_cases C:∃l,l<sel.length/\sel.getD l 0=i
  .obtain ⟨k,B⟩:=C
   exact⟨k,λ_=>B⟩
  .exact ⟨0,λh=>absurd h C⟩
 obtain⟨pos,P⟩:∃pos:Nat->Nat,∀i,(∃l,l<sel.length/\sel.getD l 0=i)->pos i<sel.length/\sel.getD (pos i) 0=i:=⟨λi=>(P i).choose,λi=>(P i).choose_spec⟩;let H:Nat->Value:=λi=>if i<ve.hp.length then(if i∈sel then ub (pos i)else vh i)else ub (i-ve.hp.length+sel.length)
 have xx:∀i,i∈sel->∃l,l<sel.length/\sel.getD l 0=i:=λi J=>by
  obtain⟨k,B⟩:=YbO J;have:=(Yae.1 B).1;exact⟨k,this,by rw[Yaa,B];rfl⟩
 have xr:∀i,i<hp'.length->H (BL sel ve.hp.length i)=ub i:=λi J=>by
  rcases YaI i sel.length with q | q
  .have K:=P _ ⟨i,q,rfl⟩
   rw[Fx q];show(if sel.getD i 0<ve.hp.length then(if sel.getD i 0∈sel then ub (pos (sel.getD i 0))else _)else _)=_;rw[Yao (xj i q),Yao (xp i q),xu _ _ K.1 q K.2]
  .rw [KI q]
   show(if _ then _ else ub (ve.hp.length+(i-sel.length)-ve.hp.length+sel.length))=_;rw[Yaj ZbC];exact Zhl
 have xs:∀i,i<ve.hp.length->i∉lost.map (BL sel ve.hp.length)->H i=vh i:=λi J xi=>by
  show(if i<ve.hp.length then(if i∈sel then ub (pos i)else vh i)else _)=_;rw[Yao J];by_cases C:i∈sel
  .rw [Yao C]
   obtain⟨q,A⟩:=P i (xx i C);have K:pos i∉lost:=λI=>xi (YaD.2 ⟨pos i,I,by rw[Fx q,A]⟩);rw[xa.kp (pos i) ZbC K,Fx q,A]
  .rw [Yaj C]
 have xv:∀i,i∉sel->i∉lost.map (BL sel ve.hp.length):=λi J I=>by
  obtain⟨k,q,A⟩:=YaD.1 I;have K:=xh k q;rw[Fx K]at A;exact J (by rw[<-A];exact xp k K)
 have xg:∀i,i<hp'.length->BL sel ve.hp.length i<ve.hp.length+(hp'.length-sel.length):=λi J=>by
  rcases YaI i sel.length with q | q
  .rw [Fx q]
   have:=xj i q;omega
  .rw [KI q]
   omega
 have xt:∀i j,i<hp'.length->j<hp'.length->BL sel ve.hp.length i=BL sel ve.hp.length j->i=j:=λi j J X F=>by
  rcases YaI i sel.length with q | q<;>rcases YaI j sel.length with A | A
  .rw [Fx q,Fx A]at F
   exact xu i j q A F
  .rw [Fx q,KI A]at F
   have:=xj i q;omega
  .rw [KI q,Fx A]at F
   have:=xj j A;omega
  .rw [KI q,KI A]at F
   omega
 have u:∀i x,(H1++(hp'.drop sel.length).map (Ow.ren (BL sel ve.hp.length)))[i]? = some x->(∃k o,hp'[k]? = some o/\i=BL sel ve.hp.length k/\x=o.ren (BL sel ve.hp.length))\/(i<ve.hp.length/\i∉sel/\ve.hp[i]? = some x):=λi x C=>by
  rw[YaQ]at C;split at C
  .rename_i O
   rcases xl i x C with⟨k,o,q,A,K,Q⟩ | ⟨q,A⟩
   .exact .inl ⟨k,o,K,by rw[Fx q];exact A.symm,Q⟩
   .exact .inr ⟨by omega,q,A⟩
  .rename_i z
   rw[Yav,YbT]at C
   cases B:hp'[sel.length+(i-H1.length)]? with
   |none=>rw[B]at C;cases C
   |some o=>
    rw[B]at C;exact .inl ⟨_,o,B,by rw[KI ZbC];omega,(Yag C).symm⟩
 have xo:∀b,IU s (λk=>vh (BL sel ve.hp.length k)) hpS b->∃k o,k<sel.length/\hpS[k]? = some o/\ve.hp[sel.getD k 0]? = some (o.ren (BL sel ve.hp.length))/\OwB s (vh (sel.getD k 0)) (o.ren (BL sel ve.hp.length)) b:=λb ⟨k,o,q,A⟩=>by
  have B:k<sel.length:=by have:=Cu q;omega
  replace A:OwB s (vh (BL sel ve.hp.length k)) o b:=A;rw[Fx B]at A;exact⟨k,o,B,q,(Z k o q).1,Rv.2 A⟩
 have w:∀i x,i∉sel->ve.hp[i]? = some x->∀b,OwB s (vh i) x b->¬IU s (λk=>vh (BL sel ve.hp.length k)) hpS b:=λi x J C b E I=>by
  obtain⟨k,o,q,A,K,Q⟩:=xo b I;exact h.sep i _ x _ (λe=>J (by rw[e];exact xp k q)) C K b E Q
 have xw:∀i x,i∉sel->ve.hp[i]? = some x->∀b,OwB s (vh i) x b->G.w.heap[b]? = s.w.heap[b]? /\ ∀k,G.S b k↔s.S b k:=λi x J C b E=>by
  have q:=w i x J C b E;have A:=(h.hp i x C).blk_lt0 E;exact⟨xa.le.block b A q,λk=>⟨xa.le.old b k A q,xa.le.chg.up b k⟩⟩
 have xe:∀i x,i<ve.hp.length->i∉sel->ve.hp[i]? = some x->∀b,OwB G (H i) x b->OwB s (vh i) x b:=λi x O J C b E=>OwB.keep (h.hp i x C) xa.le.chg (xw i x J C) (by rw[<-xs i O (xv i J)];exact E)
 have T:∀k o b,hp'[k]? = some o->OwB G (H (BL sel ve.hp.length k)) (o.ren (BL sel ve.hp.length)) b->OwB G (ub k) o b:=λk o b B E=>by
  rw[xr k (Cu B)]at E;exact Rv.1 E
 have xq:∀b,IU s (λk=>vh (BL sel ve.hp.length k)) hpS b->s0.mine b\/s0.g.w.heap.size<=b:=λb I=>by
  obtain⟨k,o,q,A,K,Q⟩:=xo b I;exact h.own _ _ b K Q
 refine⟨H,⟨?_,xa.ok,λt S L=>?_,h.sz,h.df,λi x C=>?_,λi j x y f C M b xm xf=>?_,λi x b C E=>?_⟩,λS v r=>?_⟩
 .refine ⟨xa.le.os.trans h.le.os,xa.le.tape.trans h.le.tape,xa.le.output.trans h.le.output,λk B I=>?_,h.le.chg.trans xa.le.chg,λb k E I a=>?_,λb E=>(xa.le.tag b (Yaq E h.le.size)).trans (h.le.tag b E),λ_=>xa.ok⟩
  .have g:¬IU s (λk=>vh (BL sel ve.hp.length k)) hpS k:=λC=>(xq k C).elim I λV=>absurd B ZbC
   exact(xa.le.block k (Yaq B h.le.size) g).trans (h.le.block k B I)
  .have g:¬IU s (λk=>vh (BL sel ve.hp.length k)) hpS b:=λC=>(xq b C).elim I λV=>absurd E ZbC
   exact h.le.old b k E I (xa.le.old b k (Yaq E h.le.size) g a)
 .show AVr (H1++_).length H G S _
  rw[Y];exact((h.fr t S L).chg xa.le.chg).kept ZbC (d.1 _ (Fj L)) xs
 .show OwR 0 (H1++_).length H G i x
  rw[Y];rcases u i x C with⟨k,o,q,rfl,rfl⟩ | ⟨q,A,K⟩
  .exact (xa.mem k o q).re (Cu q) xg xr
  .exact ((h.hp i x K).keep xa.le.chg (xw i x A K)).kept ZbC (d.2 i x A K) q (xv i A) xs
 .rcases u i x C with⟨k,o,q,rfl,rfl⟩ | ⟨q,A,K⟩<;>rcases u j y M with⟨l,N,Q,rfl,rfl⟩ | ⟨Q,h5,h6⟩
  .exact xa.sep k l o N (λe=>f Zez) q Q b (T k o b q xm) (T l N b Q xf)
  .have xc:=xe j y Q h5 h6 b xf
   rcases xa.own k o b q (T k o b q xm)with W | W
   .exact w j y h5 h6 b xc W
   .have:=(h.hp j y h6).blk_lt0 xc
    omega
  .have xc:=xe i x q A K b xm
   rcases xa.own l N b Q (T l N b Q xf)with W | W
   .exact w i x A K b xc W
   .have:=(h.hp i x K).blk_lt0 xc
    omega
  .exact h.sep i j x y f K h6 b (xe i x q A K b xm) (xe j y Q h5 h6 b xf)
 .rcases u i x C with⟨k,o,q,rfl,rfl⟩ | ⟨q,A,K⟩
  .rcases xa.own k o b q (T k o b q E)with W | W
   .exact xq b W
   .exact .inr (Yau h.le.size W)
  .exact h.own i x b K (xe i x q A K b E)
 .rw [Y]
  exact r.re xg xr
def AcH(F:List Ow)(e:Nat->Nat)(m:Nat)(y a:AV):Prop:=(∃d h,a=.d d/\HO F y=some h/\D.le h d)\/(y=a.ren e/\a.below m=true)
def ArgsC(F:List Ow)(e:Nat->Nat)(m:Nat)(arg:Operand->AV):List Operand->List AV->Prop
 |[],[]=>True
 |x::l,a::J=>AcH F e m (arg x) a/\ArgsC F e m arg l J
 |_,_=>False
theorem ArgsC.get{F:List Ow}{e:Nat->Nat}{m:Nat}{arg:Operand->AV}:∀{l:List Operand} {J:List AV},ArgsC F e m arg l J->l.length=J.length/\∀(k:Nat) a,J[k]? = some a->∃x,l[k]? = some x/\AcH F e m (arg x) a
 |[],[],_=>⟨rfl,λk o h=>by cases h⟩
 |[],_::_,h=>h.elim
 |_::_,[],h=>h.elim
 |x::l,a::J,⟨q,A⟩=>by
  obtain⟨Q,B⟩:=ArgsC.get A;refine⟨by simp[Q],λk y M=>?_⟩
  cases k with
  |zero=>cases M;exact⟨x,rfl,q⟩
  |succ k=>simpa using B k y (by simpa using M)
theorem ArgsC.nil{hp:List Ow}{e:Nat->Nat}{m:Nat}:ArgsC hp e m vC [] []:=trivial
theorem ArgsC.d{hp:List Ow}{e:Nat->Nat}{m:Nat}{arg:Operand->AV}{l:List Operand}{d q:D}(h:HO hp (arg x)=some q)(I:D.le q d)(Y:ArgsC hp e m arg l R):ArgsC hp e m arg (x::l) (.d d::R):=⟨.inl ⟨d,q,rfl,h,I⟩,Y⟩
theorem ArgsC.av{hp:List Ow}{e:Nat->Nat}{m:Nat}{l:List Operand}{a:AV}(h:vC x=a.ren e)(E:a.below m=true)(Y:ArgsC hp e m vC l R):ArgsC hp e m vC (x::l) (a::R):=⟨.inr ⟨h,E⟩,Y⟩
theorem SelR.nil{e:Nat->Nat}{m:Nat}:SelR e H m [] []:=trivial
theorem SelR.row{e:Nat->Nat}{m j T sz:Nat}(h:H[j]? = some (.row T sz vk))(Y:SelR e H m l vA):SelR e H m (j::l) (.row T sz vk::vA):=⟨h,trivial,Y⟩
theorem SelR.varA{e:Nat->Nat}{m j:Nat}{T:TypeId}(h:H[j]? = some (.var T ut))(A:ut=R.map (AV.ren e))(E:R.all (AV.below m)=true)(Y:SelR e H m l vA):SelR e H m (j::l) (.var T R::vA):=⟨by rw[h,A];rfl,Yah.1 E,Y⟩
def OwRen(e:Nat->Nat)(o x:Ow):Prop:=x=o.ren e
theorem OwRen.dead{e:Nat->Nat}:OwRen e .dead .dead:=rfl
theorem SetR.nil{e:Nat->Nat}:SetR e H [] vA H:=by cases vA<;>rfl
theorem SetR.cons{e:Nat->Nat}{H q os O:List Ow}{o o':Ow}{j:Nat}(h:OwRen e o o')(a:Gk H j o'=some q)(Y:SetR e q l os O):SetR e H (j::l) (o::os) O:=by
 rw[Ev a,h]at Y;exact Y
def AppR(e:Nat->Nat)(H os O:List Ow):Prop:=O=H++os.map (Ow.ren e)
theorem AppR.nil{e:Nat->Nat}:AppR e H [] H:=by simp[AppR]
def Na:Nat->List Ow->List Ow
 |0,l=>l
 |n+1,_::l=>Na n l
 |_+1,[]=>[]
theorem Oe:∀(n:Nat) (l:List Ow),Na n l=l.drop n
 |0,l=>rfl
 |n+1,_::l=>Oe n l
 |_+1,[]=>rfl
def AVRen(e:Nat->Nat)(a Y:AV):Prop:=Y=a.ren e
theorem AVRen.d{e:Nat->Nat}{x:D}:AVRen e (.d x) (.d x):=rfl
theorem AVRen.own{e:Nat->Nat}{i j:Nat}(h:e i=j):AVRen e (.own i) (.own j):=by subst h;rfl
theorem A7C(h:l.map vI=g):AVRen vI (.fn vd l) (.fn vd g):=by subst h;rfl
def CapsOk(n:List Ow):List Nat->Prop
 |[]=>True
 |i::l=>(∃T cells,n[i]? = some (.var T cells))/\CapsOk n l
theorem CapsOk.get{hpS:List Ow}:∀{l:List Nat},CapsOk hpS l->∀i∈l,∃T cells,hpS[i]? = some (.var T cells)
 |[],_,i,J=>by cases J
 |j::l,⟨q,A⟩,i,J=>by
  rcases YaL.1 J with rfl | J
  .exact q
  .exact CapsOk.get A i J
def AvoidR(sel lost:List Nat):Nat->List Ow->Prop
 |_,[]=>True
 |i,o::l=>(i∈sel\/o.avoid lost)/\AvoidR sel lost (i+1) l
theorem AvoidR.get{sel lost:List Nat}:∀{l:List Ow} {i:Nat},AvoidR sel lost i l->∀k o,i+k∉sel->l[k]? = some o->o.avoid lost
 |[],_,_,k,o,_,h=>by cases h
 |x::l,i,⟨q,A⟩,0,o,g,h=>by
  cases h;exact q.resolve_left g
 |x::l,i,⟨q,A⟩,k+1,o,g,h=>AvoidR.get A k o (by rwa [show i+1+k=i+(k+1)by omega]) Zdj
section
variable {sel lost:List Nat} {i:Nat} {l:List Ow}
theorem AvoidR.nil:AvoidR sel lost i []:=trivial
theorem Aj(h:sel.contains i=true)(Y:AvoidR sel lost (i+1) l):AvoidR sel lost i (vs::l):=⟨.inl (Ybv.1 h),Y⟩
theorem AvoidR.dead(Y:AvoidR sel lost (i+1) l):AvoidR sel lost i (.dead::l):=⟨.inr trivial,Y⟩
theorem AvoidR.varD{T:TypeId}(Y:AvoidR sel lost (i+1) l):AvoidR sel lost i (.var T (v.map .d)::l):=⟨.inr λG r=>by obtain⟨d,_,rfl⟩:=YaD.1 r;rfl,Y⟩
theorem AvoidR.pin{c:List (Value×AV)}(h:c.all (λp=>p.2.avoid lost)=true)(Y:AvoidR sel lost (i+1) l):AvoidR sel lost i (.pin c::l):=⟨.inr (Yah.1 h),Y⟩
end
def LostOk(sel V:List Nat)(m:Nat)(h:List (Nat×AV))(F:List Ow):Prop:=V=[]\/(V.all (Nat.blt · sel.length)=true/\h.all (λp=>p.2.avoid (V.map (BL sel m)))=true/\AvoidR sel (V.map (BL sel m)) 0 F)
theorem AV.avoid_nil(G:AV):G.avoid []=true:=by
 cases G with
 |fn f J=>exact Yah.2 λi _=>rfl
 |_=>rfl
theorem Ow.avoid_nil(o:Ow):o.avoid []:=by
 cases o with
 |var T c=>exact λG _=>G.avoid_nil
 |pin l=>exact λp _=>p.2.avoid_nil
 |_=>trivial
theorem LostOk.get{sel lost:List Nat}(h:LostOk sel lost n vb H):((∀p∈vb,p.2.avoid (lost.map (BL sel n))=true)/\∀i o,i∉sel->H[i]? = some o->o.avoid (lost.map (BL sel n)))/\∀k∈lost,k<sel.length:=by
 rcases h with rfl | ⟨h1,h2,h3⟩
 .exact ⟨⟨λp _=>p.2.avoid_nil,λi o _ _=>o.avoid_nil⟩,λk B=>by cases B⟩
 .exact ⟨⟨Yah.1 h2,λi o J s=>h3.get i o (by rwa [YaH]) s⟩,λk B=>by simpa[Ybq]using Yah.1 h1 k B⟩
section
variable {P:Program} {s0:An} {n:Nat} {ops:Array Oper} {Q:Exit->AS->Prop} {rest:List Oper} {fr:List (Nat×AV)} {hp:List Ow}
end
end Go.Proofs.YtcikkglcoeedlaaGreat
set_option linter.unusedSimpArgs false
set_option linter.unusedVariables false
namespace Go.Proofs.YtcikkglcoeedlaaGreat
open Go.RowKit
section
variable {P:Program} {s0:An} {n:Nat} {ops:Array Oper} {Q:Exit->AS->Prop} {rest:List Oper} {fr:List (Nat×AV)} {hp:List Ow}
variable{l:List Nat}{H vA uT:List Ow}
theorem Kr{t m:Nat}{r B:AV}(h:AWl P s0 n ops Q rest ⟨(t,B)::fr,uT⟩)(q:AVRen (BL l m) r B:=by first | exact AVRen.d | exact AVRen.own rfl | exact AVRen.ptr rfl | exact A7C rfl)(A:SetR (BL l m) hp l H vA:=by repeat (first | exact SetR.nil | (apply SetR.cons;(first | exact OwRen.dead | exact OwRen.varD | exact OwRen.obj | exact OwRen.row | exact OwRen.varA rfl);exact rfl)))(K:AppR (BL l m) vA (Na l.length H) uT:=by repeat (first | exact AppR.nil | (apply AppR.cons;(first | exact OwRen.dead | exact OwRen.varD | exact OwRen.obj | exact OwRen.row | exact OwRen.varA rfl);exact rfl))):∃B vA uT,AVRen (BL l m) r B/\SetR (BL l m) hp l H vA/\AppR (BL l m) vA (Na l.length H) uT/\AWl P s0 n ops Q rest ⟨(t,B)::fr,uT⟩:=⟨_,_,_,q,A,K,h⟩
end
def DownR(id:Nat)(x:D):List Ow->List Ow->Prop
 |[],[]=>True
 |o::l,q::i=>q=o.mapA (down id x)/\DownR id x l i
 |_,_=>False
theorem DownR.eq{id:Nat}{x:D}:∀{l i:List Ow},DownR id x l i->i=l.map (Ow.mapA (down id x))
 |[],[],_=>rfl
 |[],_::_,h=>h.elim
 |_::_,[],h=>h.elim
 |o::l,B::i,⟨q,A⟩=>by rw[Ybb,<-q,DownR.eq A]
section
variable {id:Nat} {x:D} {l l':List Ow}
theorem DownR.nil:DownR id x [] []:=trivial
theorem DownR.row{T sz:Nat}{r:List (List D)}(h:DownR id x l l'):DownR id x (.row T sz r::l) (.row T sz r::l'):=⟨rfl,h⟩
theorem DownR.pin{c:List (Value×AV)}(G:GA id (c.map (·.2))=true)(h:DownR id x l l'):DownR id x (.pin c::l) (.pin c::l'):=⟨by simp only[Ow.mapA,Sg G],h⟩
def LN(id:Nat)(x:D):List AV->Option (List AV)
 |[]=>some []
 |.own j::l=>match LN id x l with
  |some r=>bif Nat.beq j id then some (.d x::r)else some (.own j::r)
  |none=>none
 |.d y::l=>match LN id x l with
  |some r=>some (.d y::r)
  |none=>none
 |.ptr i off::l=>match LN id x l with
  |some r=>some (.ptr i off::r)
  |none=>none
 |.fn f c::l=>match LN id x l with
  |some r=>bif c.contains id then some (.d Cs::r)else some (.fn f c::r)
  |none=>none
theorem Za:∀{c A:List AV},LN id x c=some A->A=c.map (down id x)
 |[],A,h=>by cases h;rfl
 |G::c,A,h=>by
  have key:∃r,LN id x c=some r/\A=down id x G::r:=by
   cases G with
   |d y=>unfold LN at h;split at h<;>first |(cases h;done) |(rename_i r b;cases h;exact⟨r,b,rfl⟩)
   |ptr i o=>unfold LN at h;split at h<;>first |(cases h;done) |(rename_i r b;cases h;exact⟨r,b,rfl⟩)
   |own j=>
    unfold LN at h;split at h
    .rename_i r b
     refine⟨r,b,?_⟩
     cases E:Nat.beq j id with
     |true=>rw[E]at h;cases h;exact Ziy
     |false=>rw[E]at h;cases h;exact Ziy
    .cases h
   |fn f B=>
    unfold LN at h;split at h
    .rename_i r b
     refine⟨r,b,?_⟩
     cases E:B.contains id with
     |true=>rw[E]at h;cases h;exact Ziy
     |false=>rw[E]at h;cases h;exact Ziy
    .cases h
  obtain⟨r,q,rfl⟩:=key;rw[Za q];rfl
theorem DownR.varA{T:TypeId}{c q:List AV}(G:LN id x c=some q)(h:DownR id x l l'):DownR id x (.var T c::l) (.var T q::l'):=⟨by rw[Za G];rfl,h⟩
end
section
variable {P:Program} {s0:An} {n:Nat} {ops:Array Oper} {Q:Exit->AS->Prop} {rest:List Oper} {fr:List (Nat×AV)} {hp:List Ow} {ty:TypeId} {ps:String} {af:Array Edge}
variable{vb:List (Nat×AV)}{H vA:List Ow}{x y:Operand}{z u:Value}
theorem OP{t T J l bytes id m b e:Nat}{d:TypeDesc}{B r2:List (List D)}(C:AS.arg ⟨fr,hp⟩ x=.own id)(M:HO hp (AS.arg ⟨fr,hp⟩ y)=some (slD J l r2))(E:hp[id]? = some (.row T l B))(L:Tab P t (.slice T) m b u)(A:Tab P T d l bytes z)(I:z.cells.size=l)(q:Nat.blt e n=true)(F:(B.length+r2.length)*bytes<=140737488355328)(G:B.length+r2.length<=4611686018427387904)
  (p:IZ id (slD T l B) fr=some vb) (N:DownR id (slD T l B) hp H) (a:Gk H id (.row T l (B++r2))=some vA) (h:AWl P s0 n ops Q rest ⟨(e,.own id)::vb,vA⟩) :
  AWl P s0 n ops Q (⟨some e,.call { callee:=.builtin .append,args:=#[x,y],argTypes:=#[t,t] },ty,ps,af,none⟩::rest) ⟨fr,hp⟩:=by
 refine TH rfl rfl C M E L A I (by simpa[WL]using q) F G ?_;rw[Of p,Ev a,N.eq]at h;exact h
def A5p:List AV->Nat->AV->Option (List AV)
 |[],_,_=>none
 |_::l,0,x=>some (x::l)
 |y::l,k+1,x=>match A5p l k x with
  |some r=>some (y::r)
  |none=>none
theorem VL:∀{l:List AV} {k:Nat} {x:AV} {r:List AV},A5p l k x=some r->k<l.length/\r=l.set k x
 |[],_,_,_,h=>by cases h
 |_::l,0,x,r,h=>by cases h;exact⟨by simp,rfl⟩
 |y::l,k+1,x,r,h=>by
  unfold A5p at h;split at h
  .rename_i B b
   cases h;obtain⟨q,A⟩:=VL b;exact⟨by simpa using q,by rw[A];rfl⟩
  .cases h
variable{h:AV}{R ut:List AV}
theorem Eo{T o:TypeId}{d:TypeDesc}{b id off:Nat}(C:AS.arg ⟨fr,hp⟩ x=.ptr id off)(M:AS.arg ⟨fr,hp⟩ y=h)(E:hp[id]? = some (.var o R))(L:Tab P T d 1 b z)(A:One hp h)(Z:A5p R off h=some ut)(a:Gk hp id (.var o ut)=some H)(q:AWl P s0 n ops Q rest ⟨fr,H⟩) :
  AWl P s0 n ops Q (⟨none,.store T x y,ty,ps,af,none⟩::rest) ⟨fr,hp⟩:=by
 obtain⟨B,K⟩:=VL Z;refine TG (o:=⟨none,.store T x y,ty,ps,af,none⟩) rfl rfl rfl C M E L A B ?_;rw[Ev a,K]at q;exact q
theorem KZ{r:TypeId}{m:Nat}(id k T l:Nat)(g:hp[id]? = some (.var r R))(G:R[k]? = some (.d (eS)))(Z:T≠335)(c:0<l)(N:Ik hp=some m)(xf:A5p R k (.own m)=some ut)(xd:Gk hp id (.var r ut)=some H)(F:Gp H (.row T l [])=some vA):AS.le ⟨fr,hp⟩ ⟨fr,vA⟩:=by
 rw[Fi F,Ev xd];obtain⟨B,xf⟩:=VL xf;obtain rfl:=FX N;subst xf;have z:id<hp.length:=Cu g;intro s0 n a w ⟨s,V,Y,M⟩;have p:(hp++[Ow.row T l []]).length=hp.length+1:=by simp
 have xc := M.new (GS.Le.refl s) (dst := none) (fun d I => by cases I) (v := .slice none 0 0) (u := .slice none 0 0) (r := .own hp.length) (ow := .row T l []) ⟨YeH _, by simp⟩
  ⟨[],⟨by simp,.inl ⟨by simp,rfl⟩⟩,Z,c,λb E=>by simp[DR]at E,λk B=>by simp at B⟩ λb E=>by cases E
 have xb:∀i o,(hp.set id (.var r (R.set k (.own hp.length)))++[Ow.row T l []])[i]? = some o->(i=id/\o=.var r (R.set k (.own hp.length)))\/(hp++[Ow.row T l []])[i]? = some o:=λi o J=>by
  by_cases e:i=id
  .subst e
   rw[Yaw (by rw[YbL];exact z),YcN z]at J;exact .inl ⟨rfl,(Yag J).symm⟩
  .rw [YaQ,YbL]at J
   rw[YaQ];by_cases O:i<hp.length
   .rw [Yao O,YcR (λh=>e h.symm)]at J
    rw[Yao O];exact .inr J
   .rw [Yaj O]at J
    rw[Yaj O];exact .inr J
 have xh:(hp++[Ow.row T l []])[id]? = some (.var r R):=by rw[Yaw z];exact g
 have xg:(hp.set id (.var r (R.set k (.own hp.length)))++[Ow.row T l []]).length=(hp++[Ow.row T l []]).length:=by simp
 have xe:∀i o b,(hp.set id (.var r (R.set k (.own hp.length)))++[Ow.row T l []])[i]? = some o->∀v,OwB s v o b->∃S,(hp++[Ow.row T l []])[i]? = some S/\OwB s v S b:=λi o b J v E=>by
  rcases xb i o J with⟨rfl,rfl⟩ | q
  .exact ⟨_,xh,E⟩
  .exact ⟨o,q,E⟩
 refine⟨s,λi=>if i=hp.length then .slice none 0 0 else V i,Y,xc.le,xc.ok,λt W L=>?_,xc.sz,xc.df,λi o J=>?_,λi j o S xa J X b E U=>?_,λi o b J E=>?_⟩
 .rw [xg]
  exact xc.fr t W L
 .rw [xg]
  rcases xb i o J with⟨rfl,rfl⟩ | q
  .obtain ⟨b,f,q1,q2,q3,q4,q5,q6,q7⟩:=xc.hp _ _ xh
   refine⟨b,f,q1,q2,q3,by simpa using q4,q5,q6,λj W X=>?_⟩;by_cases e:j=k
   .subst e
    rw[YcN B]at X;cases X;obtain⟨u,p1,p2,p3⟩:=q7 j _ G;refine⟨u,p1,p2,by rw[p];exact YeH _,?_⟩;have p3:u=.slice none 0 0:=p3;rw[p3];simp
   .rw [YcR (λh=>e h.symm)]at X
    exact q7 j W X
  .exact xc.hp i o q
 .obtain ⟨x,q,A⟩:=xe i o b J _ E
  obtain⟨y,K,C⟩:=xe j S b X _ U;exact xc.sep i j x y xa q K b A C
 .obtain ⟨x,q,A⟩:=xe i o b J _ E
  exact xc.own i x b q A
end
def oct(r:Nat->D):List D:=[r 0,r 1,r 2,r 3,r 4,r 5,r 6,r 7]
def upF{U:Type}(r:Nat->U)(k:Nat)(u:U):Nat->U:=λj=>if j=k then u else r j
variable{n:Nat}
theorem A1Y{r:Nat->D}(h:n<8):CellAt (oct r) n (r n):=by
 refine⟨h,?_⟩
 match n,h with
 |0,_ |1,_ |2,_ |3,_ |4,_ |5,_ |6,_ |7,_=>rfl
section
variable {P:Program} {hp:List Ow} {arg:Operand->AV} {dd:Option Tmp} {ty:TypeId} {ps:String} {af:Array Edge} {gd:Option (Nat×Bool)} {T U:TypeId} {x y:Operand} {k:IntKind} {a b r:Int}
theorem Dn(C:arg x=.d (ex (.int k a)))(M:arg y=.d (ex (.int k b)))(Y:k.wrap (a+b)=r):Quiet P hp ⟨dd,.binOp .add T x y U,ty,ps,af,gd⟩ arg (.d (ex (.int k r))):=
 CO rfl C M λw=>by simp[eqGuard,binOp,Op.intArith,Y]
theorem Hj(C:arg x=.d (ex (.int k a)))(M:arg y=.d (ex (.int k b)))(Y:k.wrap (a*b)=r):Quiet P hp ⟨dd,.binOp .mul T x y U,ty,ps,af,gd⟩ arg (.d (ex (.int k r))):=
 CO rfl C M λw=>by simp[eqGuard,binOp,Op.intArith,Y]
theorem Hh(C:arg x=.d (ex (.int k a)))(M:arg y=.d (ex (.int k b)))(E:b≠0)(Y:k.wrap (a.tdiv b)=r):Quiet P hp ⟨dd,.binOp .quo T x y U,ty,ps,af,gd⟩ arg (.d (ex (.int k r))):=
 CO rfl C M λw=>by simp[eqGuard,binOp,Op.intDiv,E,Y]
variable{i:IntKind}
theorem MG(C:arg x=.d (ex (.int k a)))(M:arg y=.d (ex (.int i (n:Nat))))(g:Min.min n k.bits=n)(Y:k.wrap (a*2^n)=r):Quiet P hp ⟨dd,.binOp .shl T x y U,ty,ps,af,gd⟩ arg (.d (ex (.int k r))):=
 CO rfl C M λw=>by
  have q:¬((n:Int)<0):=by omega
  simp[eqGuard,binOp,Op.shift,q,g,Y]
theorem Ez(C:arg x=.d (ex (.int k a)))(M:arg y=.d (ex (.int i (n:Nat))))(g:Min.min n k.bits=n)(Y:a.fdiv (2^n)=r):Quiet P hp ⟨dd,.binOp .shr T x y U,ty,ps,af,gd⟩ arg (.d (ex (.int k r))):=
 CO rfl C M λw=>by
  have q:¬((n:Int)<0):=by omega
  simp[eqGuard,binOp,Op.shift,q,g,Y]
theorem Xo(C:arg x=.d (ex (.int k a)))(M:arg y=.d (ex (.int k b)))(Y:k.wrap ((BitVec.ofInt k.bits a ||| BitVec.ofInt k.bits b).toNat)=r):Quiet P hp ⟨dd,.binOp .or T x y U,ty,ps,af,gd⟩ arg (.d (ex (.int k r))):=
 CO rfl C M λw=>by
  simp only[eqGuard,binOp,Op.intBits,Y];simp[Y]
variable{z u:Value}
theorem AO{S t:TypeId}{d:TypeDesc}{n b h H:Nat}(C:arg x=.d (ex (.int k a)))(p:Tab P S d n b z)(e:Tab P t (.int i) h H u)(Y:i.wrap a=r):Quiet P hp ⟨dd,.convert S t x,ty,ps,af,gd⟩ arg (.d (ex (.int i r))):=by
 subst Y;exact Tj rfl C p e
end
theorem EW{n:Int}(h:0<=n/\n<=18446744073709551615):IntKind.u64.wrap n=n:=IntWalk.u64_in n h
def ConP(P:Program)(f:FuncId)(args:List AV)(F:List Ow)(Q:AV->List Ow->Prop)(d:List PanicEntry)(N:Prop):Prop:=
 (∀args w,(callFunc f args).run P w=.ok (.enter f args) w)/\∀(s:GS) (V:Nat->Value) (J:List Value),s.Ok->HpOk 0 V s F->Sep s V F->J.length=args.length->(∀(k:Nat) av,args[k]? = some av->AVr F.length V s av (J.getD k undef)) ->
  Calls P f J.toArray s.w λe q=>(∃v,e=.returned v/\∃(j:GS) (R:Nat->Value) (r:AV) (A:List Ow),Q r A/\j.w=q/\AVr A.length R j r v/\Aft s V F [] j R A)\/(e=.panicked d/\N/\∃j:GS,j.w=q/\Aft s V F [] j V (List.replicate F.length .dead))
variable{vs:Ow}
theorem WK{n i:Nat}(h:(List.replicate n Ow.dead)[i]? = some vs):vs=.dead:=by
 rw[List.getElem?_replicate]at h;split at h
 .exact (Yag h).symm
 .cases h
variable{l:List Nat}{vA:List Ow}{vh:Nat->Value}
theorem Aft.take{s:GS}{hp:List Ow}{s':GS}{ρ':Nat->Value}(h:Aft s vh hp l s' ρ' vA)(I:∀(i:Nat) o,(vA.take hp.length)[i]? = some o->o.below hp.length):Aft s vh hp l s' ρ' (vA.take hp.length):=by
 have E:(vA.take hp.length).length=hp.length:=by rw[YaO];have:=h.len;omega
 have R:∀i o,(vA.take hp.length)[i]? = some o->vA[i]? = some o:=λi o J=>by
  rw[YaK]at J;split at J
  .exact J
  .cases J
 refine⟨h.le,h.ok,λi o J=>?_,λi j o x S J X=>h.sep i j o x S (R i o J) (R j x X),λi o b J=>h.own i o b (R i o J),h.kp,by rw[E];exact Yai _⟩;have q:=h.mem i o (R i o J);rw[E];have B:=I i o J;have K:i<hp.length:=by have:=Cu J;omega
 exact OwR.un (e:=λi=>i) (by
  have:o.ren (λi=>i)=o:=by
   cases o with
   |dead=>rfl
   |var T c=>exact congrArg (Ow.var T) ((YaS λa _=>by cases a<;>simp[AV.ren]).trans (Yep _))
   |row T C r=>rfl
   |obj O=>rfl
   |pin A=>exact congrArg Ow.pin ((YaS λa _=>by obtain⟨v,a⟩:=a;cases a<;>simp[AV.ren]).trans (Yep _))
  rw[this];exact q) B K λ_ _=>rfl
def A9A:AV->Bool
 |.d _=>true
 |_=>false
variable{vd:FuncId}{R:List AV}{H:List Ow}{P:Program}
theorem Con.cut{Q M:AV->List Ow->Prop}(h:Con P vd R H l Q)(m:∀r F,Q r F->A9A r=true/\(∀(i:Nat) o,(F.take H.length)[i]? = some o->o.below H.length)/\M r (F.take H.length)):Con P vd R H l M:=
 ⟨h.1,λs V J q A K B k=>(h.2 s V J q A K B k).mono λe N ⟨v,b,j,G,r,F,I,c,Y,t⟩=>by
  obtain⟨C,E,L⟩:=m r F I
  cases r with
  |d x=>exact⟨v,b,j,G,.d x,_,L,c,Y,t.take E⟩
  |_=>cases C⟩
def FinP(P:Program)(c:Func)(J:List Value)(Q:AV->List Ow->Prop)(d:List PanicEntry)(N:Prop)(e:Exit)(q:AS):Prop:=FinC P c [] J Q e q\/(e=.panic d/\N)
variable{ve:AS}{vQ:Func}{vU:List PanicEntry}{uh:List Value}{vJ:Prop}
theorem FinP.ret{Q:AV->List Ow->Prop}{r:AV}(h:RetsA P ve vQ.results r)(a:Gk ve.hp uh.length .dead=some H)(k:Q r H)(F:ve.hp[uh.length]? = some (.pin (FJ [] 0 uh))):FinP P vQ uh Q vU vJ .ret ve:=.inl (Bt h a k F)
def PanQ(d:List PanicEntry)(Q:Exit->AS->Prop):Prop:=∀e,Q (.panic d) e
theorem AN{Q:AV->List Ow->Prop}(h:vJ):PanQ vU (FinP P vQ uh Q vU vJ):=λ_=>.inr ⟨rfl,h⟩
theorem AH{N:AS->Prop}{Q:Exit->AS->Prop}(h:PanQ vU Q):PanQ vU (AThen N Q):=λe=>⟨h e⟩
theorem PanQ.block{id:Nat}{Q:Exit->AS->Prop}(h:PanQ vU Q):PanQ vU (ABlock id Q):=λe=>⟨h e⟩
theorem PanQ.loop{I:Nat->AS->Prop}{m:Nat}{Q:Exit->AS->Prop}(h:PanQ vU Q):PanQ vU (ALoop I m Q):=λe=>⟨h e⟩
variable{vy:AV->List Ow->Prop}{vp:Code}
theorem ZT(G:P.funcs[vd]? = some vQ)(E:vQ.body=some vp)(xf:∀R w,(callFunc vd R).run P w=.ok (.enter vd R) w)(g:Nat.ble R.length vQ.ntmps=true)
  (h:∀(y:An) (Z:List Value),Z.length=H.length->AWp P y vQ.ntmps vp (FinP P vQ Z vy vU vJ) ⟨Jo 0 R,H++[.pin (FJ [] 0 Z)]⟩):ConP P vd R H vy vU vJ:=by
 refine⟨xf,λs V Z S l xg I M=>calls_of_wp G E ?_⟩;have n:R.length<=vQ.ntmps:=by simpa[YdL]using g
 have xa:((List.range H.length).map V).length=H.length:=by simp
 have d:(H++[Ow.pin (FJ [] 0 ((List.range H.length).map V))]).length=H.length+1:=by simp
 have xb:∀i o,(H++[Ow.pin (FJ [] 0 ((List.range H.length).map V))])[i]? = some o->H[i]? = some o\/o=Ow.pin (FJ [] 0 ((List.range H.length).map V)):=λi o J=>ZaI
 have Iw:∀k,k<H.length->((List.range H.length).map V).getD k undef=V k:=λk B=>by
  exact Zik
 refine wp_mono ((h ⟨s,IU s V H,[]⟩ ((List.range H.length).map V) xa).run { tmps:=Z.toArray++Array.replicate (vQ.ntmps-Z.toArray.size) undef,defers:=[] } s.w ⟨s,V,rfl,GS.LeX.refl _ s,S,λt Y L=>?_,by simp;omega,rfl,λi o J=>?_,λi j o x T J X b xd xh=>?_,λi o b J xd=>?_⟩) ?_
 .exact ZaJ
 .show OwR 0 (H++[Ow.pin _]).length V s i o
  rw[d];rcases xb i o J with q | rfl
  .exact (l i o q).mono (Yej _) (λ_ _=>rfl) (Cu q)
  .exact ZaK
 .exact ZaL
 .rcases xb i o J with q | rfl
  .exact .inl ⟨i,o,q,xd⟩
  .exact xd.elim
 .intro e a w ⟨τ,U,F,f,c,u⟩
  subst c;rcases U with⟨C,⟨r,N,W,xk,m⟩,xj⟩ | ⟨rfl,hN⟩
  rotate_left
  .refine ⟨u.df, .inr ⟨rfl, hN, F, rfl, ⟨u.le, u.ok, λi o J=>?_, λi j o x T J X b E z=>?_, λi o b J E=>?_, λ_ _ _=>rfl, by rw [YdQ]; exact Yai _⟩⟩⟩
   .obtain rfl:=WK J
    trivial
   .obtain rfl:=WK J
    exact E.elim
   .obtain rfl:=WK J
    exact E.elim
  subst xk;rw[xa]at xj m;obtain⟨v,q,A⟩:=W.run _ f F a.tmps vQ rfl u.hp u.fr
  have O:∀i o,(τ.hp.set H.length .dead)[i]? = some o->o=Ow.dead\/τ.hp[i]? = some o:=λi o J=>ZaM
  have U:Aft s V H [] F f (τ.hp.set H.length .dead):=ZaN
  have xe:AVr (τ.hp.set H.length .dead).length f F r v:=by rw[YbL];exact A
  rcases C with rfl | rfl
  .exact Zkm
  .exact Zkm
def KX(e:Nat->Nat)(m:Nat)(y:AV)(c:FuncId)(pre J:List Nat):Prop:=(y=.d (ex (.func (.func c) #[] #[]))/\pre=[]/\J=[])\/(y=.fn c (J.map e)/\pre=[]/\J.all (Nat.blt · m)=true/\Nat.blt c 1000000=true)\/(y=.fn (c+1000000) (pre.map e)/\J=[]/\pre.all (Nat.blt · m)=true)
variable{e uv:Type}
theorem A2o{R:e->uv->Prop}{u:uv}{A B:List e}{V W:List uv}(I:A.length=V.length)(q:∀(k:Nat) a,A[k]? = some a->R a (V.getD k u))(C:∀(k:Nat) a,B[k]? = some a->R a (W.getD k u)):∀(k:Nat) a,(A++B)[k]? = some a->R a ((V++W).getD k u):=λk a h=>by
 rw[YaQ]at h;rw[Yaa,YaQ];split at h
 .rename_i O
  rw[Yao ZbC,<-Yaa];exact q k a h
 .rename_i S
  rw[Yaj ZbC,I.symm,<-Yaa];exact C _ a h
section
variable {P:Program} {s0:An} {n:Nat} {ops:Array Oper} {Q:Exit->AS->Prop} {rest:List Oper} {fr:List (Nat×AV)} {hp:List Ow}
variable{vl:Act}{vt:Array TypeId}{g:List Nat}{vP:List Operand}{va:Oper}{x:Operand}
theorem A6z{hpS:List Ow}(O:va.op=.call { callee:=.value x,args:=vP.toArray,argTypes:=vt })(sel:List Nat){m:Nat}(v:Ik hp=some m)(p:KX (BL sel m) hpS.length (AS.arg ⟨fr,hp⟩ x) vd l g)
  (xc:∀vP w,(callFunc vd vP).run P w=.ok (.enter vd vP) w) (t:ArgsC hp (BL sel m) hpS.length (AS.arg ⟨fr,hp⟩) vP R) (xa:sel.Nodup) (xb:SelR (BL sel m) hp hpS.length sel hpS) (xf:∀i∈l,∃T cells,hpS[i]? = some (.var T cells)) (xe:∀i∈g,∃T cells,hpS[i]? = some (.var T cells))
  {s:GS} (hst:StI s0 n ⟨fr,hp⟩ vl s vh):∃V:List Value,V.length=(l.map (AV.ptr · 0)++R++g.map (AV.ptr · 0)).length/\(execOp vl.eval va).run P s.w=.ok (.enter vd V.toArray) s.w/\HpOk 0 (λk=>vh (BL sel hp.length k)) s hpS/\Sep s (λk=>vh (BL sel hp.length k)) hpS /\
   ∀(k:Nat) S,(l.map (AV.ptr · 0)++R++g.map (AV.ptr · 0))[k]? = some S->AVr hpS.length (λk=>vh (BL sel hp.length k)) s S (V.getD k undef):=by
 obtain rfl:=FX v;obtain⟨Z,Y⟩:=xb.get;obtain⟨xh,xk⟩:=t.get;have xj:∀i,i<hpS.length->(λk=>vh (BL sel hp.length k)) i=vh (BL sel hp.length i):=λ_ _=>rfl
 have H:∀k M,hpS[k]? = some M->hp[BL sel hp.length k]? = some (M.ren (BL sel hp.length)):=λk M E=>by
  rw[Fx (by have:=Cu E;omega)];exact(Y k M E).1
 have a:HpOk 0 (λk=>vh (BL sel hp.length k)) s hpS:=λk M E=>(hst.hp _ _ (H k M E)).un (Y k M E).2 (Cu E) xj
 have xd:Sep s (λk=>vh (BL sel hp.length k)) hpS:=λi j c U z J X b F y=>by
  refine hst.sep _ _ _ _ (λe=>z ?_) (H i c J) (H j U X) b (Rv.2 F) (Rv.2 y);have A:=Cu J;have C:=Cu X;rw[Fx ZbC,Fx ZbC,Yaa,Yab ZbC,Yaa,Yab ZbC]at e;exact UN xa _ _ e
 have xg:∀(k:Nat) S,R[k]? = some S->AVr hpS.length (λk=>vh (BL sel hp.length k)) s S ((vP.map vl.eval).getD k undef):=λk S E=>by
  obtain⟨q,A,C⟩:=xk k S E;have K:=hst.arg q;have G:(vP.map vl.eval).getD k undef=vl.eval q:=by rw[Yaa,Yav,A];rfl
  rw[G];rcases C with⟨d,r,rfl,L,N⟩ | ⟨L,N⟩
  .exact N s _ (DV hst.hp K L)
  .rw [L]at K
   exact K.un N xj
 have xi:∀(B:List Nat),(∀i∈B,∃T cells,hpS[i]? = some (.var T cells))->∀(k:Nat) S,(B.map (AV.ptr · 0))[k]? = some S->AVr hpS.length (λk=>vh (BL sel hp.length k)) s S ((B.map λi=>vh (BL sel hp.length i)).getD k undef):=λB I k S E=>by
  rw[Yav]at E;rw[Yaa,Yav]
  cases J:B[k]? with
  |none=>rw[J]at E;cases E
  |some i=>
   rw[J]at E;cases E;obtain⟨T,cells,A⟩:=I i (Yaz J);obtain⟨b,f,C,_⟩:=a i _ A;exact⟨Cu A,b,C,C⟩
 have o:R.length=vP.length:=xh.symm;refine⟨(l.map λi=>vh (BL sel hp.length i))++vP.map vl.eval++g.map λi=>vh (BL sel hp.length i),by simp[xh],?_,a,xd,A2o (by simp[xh]) (A2o ZbR (xi l xf) xg) (xi g xe)⟩;have K:=hst.arg x;rcases p with⟨G,rfl,rfl⟩ | ⟨G,rfl,L,N⟩ | ⟨G,rfl,L⟩
 .rw [G]at K
  have W:vl.eval x=.func (.func vd) #[] #[]:=K;simp[execOp,O,resolve,W,Deferred.ofValue,invoke,xc]
 .rw [G]at K
  have W:vl.eval x=.func (.func vd) #[] ((g.map (BL sel hp.length)).map vh).toArray:=by rw[K.2,fnV,N];rfl
  exact Ziq
 .rw [G]at K
  have u:Nat.blt (vd+1000000) 1000000=false:=ZaO
  have W:vl.eval x=.func (.func vd) ((l.map (BL sel hp.length)).map vh).toArray #[]:=by rw[K.2,fnV,u,Ycd];rfl
  exact Ziq
variable{vo:List Nat}
theorem A8B{hpS:List Ow}(F:va.op=.call { callee:=.value x,args:=vP.toArray,argTypes:=vt })(sel:List Nat){m:Nat}(B:Ik hp=some m)(p:KX (BL sel m) hpS.length (AS.arg ⟨fr,hp⟩ x) vd l g)
  (G:Con P vd (l.map (AV.ptr · 0)++R++g.map (AV.ptr · 0)) hpS vo vy) (y:LostOk sel vo m fr hp) (t:ArgsC hp (BL sel m) hpS.length (AS.arg ⟨fr,hp⟩) vP R) (z:sel.Nodup) (xa:SelR (BL sel m) hp hpS.length sel hpS) (xe:∀i∈l,∃T cells,hpS[i]? = some (.var T cells)) (xd:∀i∈g,∃T cells,hpS[i]? = some (.var T cells)) (d:WL va.dst n=true)
  (next:∀r C,vy r C->∃L H f,AVRen (BL sel m) r L/\SetR (BL sel m) hp sel C H/\AppR (BL sel m) H (Na sel.length C) f/\AWl P s0 n ops Q rest (AS.put ⟨fr,f⟩ va.dst L)) :
  ∀(s:GS) (V:Nat->Value) (a:Act),StI s0 n ⟨fr,hp⟩ a s V->∀K:Act->World->Prop,(∀w Y N,AWl P s0 n ops Q rest w->St s0 n w Y N->K Y N)->va.wp P a s.w K (GR s0 n Q):=by
 intro s V a u K W;obtain⟨J,U,xf,Z,xb,xg⟩:=A6z F sel B p G.1 t z xa xe xd u;obtain rfl:=FX B;have q:=G.2 s (λk=>V (BL sel hp.length k)) J u.ok Z xb U xg;unfold Oper.wp;rw[xf];refine Calls.mono q λe N h=>?_;obtain⟨v,rfl,j,O,r,C,A,rfl,E,I⟩:=h;obtain⟨L,H,f,M,S,X,b⟩:=next r C A;replace M:L=r.ren (BL sel hp.length):=M;rw[AppR,Oe]at X;subst M;subst X;obtain⟨xc,c,o⟩:=StI.con (sel:=sel) (hpS:=hpS) y.get.1 y.get.2 u z xa I S;exact W _ _ _ b ⟨j,xc,rfl,c.put (GS.Le.refl j) (JJ d) (o r v E)⟩
theorem A8A{hpS Hd:List Ow}(F:va.op=.call { callee:=.value x,args:=vP.toArray,argTypes:=vt })(sel:List Nat){m:Nat}(B:Ik hp=some m)(p:KX (BL sel m) hpS.length (AS.arg ⟨fr,hp⟩ x) vd l g)
  (G:ConP P vd (l.map (AV.ptr · 0)++R++g.map (AV.ptr · 0)) hpS vy vU vJ) (xa:SetR (BL sel m) hp sel (List.replicate hpS.length .dead) Hd) (xi:vJ->Q (.panic vU) ⟨fr,Hd⟩) (t:ArgsC hp (BL sel m) hpS.length (AS.arg ⟨fr,hp⟩) vP R) (xc:sel.Nodup) (xd:SelR (BL sel m) hp hpS.length sel hpS) (xh:∀i∈l,∃T cells,hpS[i]? = some (.var T cells)) (xg:∀i∈g,∃T cells,hpS[i]? = some (.var T cells)) (d:WL va.dst n=true)
  (next:∀r C,vy r C->∃L H w,AVRen (BL sel m) r L/\SetR (BL sel m) hp sel C H/\AppR (BL sel m) H (Na sel.length C) w/\AWl P s0 n ops Q rest (AS.put ⟨fr,w⟩ va.dst L)) :
  ∀(s:GS) (V:Nat->Value) (a:Act),StI s0 n ⟨fr,hp⟩ a s V->∀K:Act->World->Prop,(∀z Y N,AWl P s0 n ops Q rest z->St s0 n z Y N->K Y N)->va.wp P a s.w K (GR s0 n Q):=by
 intro s V a u K b;obtain⟨J,U,xj,Z,xe,xk⟩:=A6z F sel B p G.1 t xc xd xh xg u;obtain rfl:=FX B;obtain⟨S,-⟩:=xd.get;have q:=G.2 s (λk=>V (BL sel hp.length k)) J u.ok Z xe U xk;have xb:LostOk sel [] hp.length fr hp:=.inl rfl;unfold Oper.wp;rw[xj];refine Calls.mono q λe N h=>?_;rcases h with⟨v,rfl,j,O,r,C,A,rfl,E,I⟩ | ⟨rfl,hN,j,rfl,I⟩
 .obtain ⟨L,H,w,M,W,X,f⟩:=next r C A
  replace M:L=r.ren (BL sel hp.length):=M;rw[AppR,Oe]at X;subst M;subst X;obtain⟨xf,o,y⟩:=StI.con (sel:=sel) (hpS:=hpS) xb.get.1 xb.get.2 u xc xd I W;exact b _ _ _ f ⟨j,xf,rfl,o.put (GS.Le.refl j) (JJ d) (y r v E)⟩
 .obtain ⟨xf,o,-⟩:=StI.con (sel:=sel) (hpS:=hpS) xb.get.1 xb.get.2 u xc xd I xa
  have c:(List.replicate hpS.length Ow.dead).drop sel.length=[]:=YaN (by rw[YdQ];omega);rw[c,Ycb,YbD]at o;exact⟨_,xi hN,j,xf,rfl,o⟩
variable{vG:Array Edge}{b:Nat}{vF:String}
theorem AU{Y:TypeId}{t:Nat}(E:List Nat)(pre J:List Nat)(G:Con P vd R H l vy)(u:LostOk E l b fr hp)(C:R=pre.map (AV.ptr · 0)++(R.drop pre.length).take vP.length++J.map (AV.ptr · 0))(v:Ik hp=some b)(p:KX (BL E b) H.length (AS.arg ⟨fr,hp⟩ x) vd pre J)
  (q:ArgsC hp (BL E b) H.length (AS.arg ⟨fr,hp⟩) vP ((R.drop pre.length).take vP.length)) (I:E.Nodup) (K:SelR (BL E b) hp H.length E H) (N:CapsOk H pre) (L:CapsOk H J) (d:Nat.blt t n=true)
  (next:∀r A,vy r A->∃B F O,AVRen (BL E b) r B/\SetR (BL E b) hp E A F/\AppR (BL E b) F (Na E.length A) O/\AWl P s0 n ops Q rest ⟨(t,B)::fr,O⟩) :
  AWl P s0 n ops Q (⟨some t,.call { callee:=.value x,args:=vP.toArray,argTypes:=vt },Y,vF,vG,none⟩::rest) ⟨fr,hp⟩:=by
 rw[C]at G;exact AWl.step rfl (A8B rfl E v p G u q I K N.get L.get d next)
theorem Bd{Y:TypeId}{t:Nat}(E:List Nat)(pre J:List Nat){m:Nat}(G:ConP P vd R H vy vU vJ)(I:SetR (BL E m) hp E (List.replicate H.length .dead) vA)(S:vJ->Q (.panic vU) ⟨fr,vA⟩)(C:R=pre.map (AV.ptr · 0)++(R.drop pre.length).take vP.length++J.map (AV.ptr · 0))(v:Ik hp=some m)(p:KX (BL E m) H.length (AS.arg ⟨fr,hp⟩ x) vd pre J)
  (q:ArgsC hp (BL E m) H.length (AS.arg ⟨fr,hp⟩) vP ((R.drop pre.length).take vP.length)) (K:E.Nodup) (L:SelR (BL E m) hp H.length E H) (N:CapsOk H pre) (M:CapsOk H J) (d:Nat.blt t n=true)
  (next:∀r A,vy r A->∃B F O,AVRen (BL E m) r B/\SetR (BL E m) hp E A F/\AppR (BL E m) F (Na E.length A) O/\AWl P s0 n ops Q rest ⟨(t,B)::fr,O⟩) :
  AWl P s0 n ops Q (⟨some t,.call { callee:=.value x,args:=vP.toArray,argTypes:=vt },Y,vF,vG,none⟩::rest) ⟨fr,hp⟩:=by
 rw[C]at G;exact AWl.step rfl (A8A rfl E v p G I S q K L N.get M.get d next)
end
variable{vG:Array Edge}{x:Operand}{vC:Operand->AV}{vM:Option (Nat×Bool)}{vz:Option Tmp}{vF:String}
theorem EU{Y:TypeId}(C:vC x=.ptr n 0):Quiet P H ⟨vz,.makeFunc (.func vd) #[x] #[],Y,vF,vG,vM⟩ vC (.fn (vd+1000000) [n]):=by
 refine⟨λbase s V i q v Z r=>?_⟩;have Q:=r x ZcR;rw[C]at Q;obtain⟨k,b,A,g⟩:=Q
 have B:Nat.blt (vd+1000000) 1000000=false:=ZaO
 refine BW (v:=.func (.func vd) #[i x] #[]) (by simp[execOp,Instr.makeFunc]) ⟨GS.Le.refl s,λj X=>by rw[Yax.1 X];exact k,?_⟩;rw[fnV,B,Ycd,g,Ybb,Ycb,A];rfl
section
variable {P:Program} {f:FuncId} {fn:Func} {c:Code} {args:List AV} {Q:AV->List Ow->Prop} {ch:List PanicEntry} {N:Prop} (hf:P.funcs[f]? = some fn) (hb:fn.body=some c) (hcf:∀args w,(callFunc f args).run P w=.ok (.enter f args) w) (hn:Nat.ble args.length fn.ntmps=true)
include hf hb hcf hn
theorem Bu(h:∀(y:An) (b:Value),AWp P y fn.ntmps c (FinP P fn [b] Q ch N) ⟨Jo 0 args,[vs,.pin [(b,.own 0)]]⟩):ConP P f args [vs] Q ch N:=
 ZT hf hb hcf hn λy J r=>by
  match J,r with
  |[b],_=>exact h y b
end
variable{vI:Nat->Nat}
theorem BX{j:Nat}(a:Gk H j .dead=some vA):SetR vI H [j] (List.replicate 1 Ow.dead) vA:=SetR.cons OwRen.dead a SetR.nil
section
variable {P:Program} {s0:An} {n:Nat} {ops:Array Oper} {Q:Exit->AS->Prop} {rest:List Oper} {fr:List (Nat×AV)} {hp:List Ow}
theorem Du{Y:TypeId}{T:TypeId}{v:Value}(C:AS.arg ⟨fr,hp⟩ x=.d (ex (.iface T v)))(m:Q (.panic [{ v:=.iface T v,recovered:=false }]) ⟨fr,hp⟩):AWl P s0 n ops Q (⟨none,.panic x,Y,vF,vG,none⟩::rest) ⟨fr,hp⟩:=AWl.step rfl λs V a u K g=>by
 have e:a.eval x=.iface T v:=by
  have:=u.arg x;exact Zjm
 have q:(execOp a.eval ⟨none,.panic x,Y,vF,vG,none⟩).run P s.w=.halt (.panic (.iface T v)) s.w:=by
  simp[execOp,e,Instr.panic]
 unfold Oper.wp;rw[q];exact⟨⟨fr,hp⟩,m,s,V,rfl,u⟩
end
theorem OU{Q:Exit->Act->World->Prop}{L:Array Oper}(I:Array Bool->Act->World->Prop)
  (C:∀B a w i,B.size=L.size->I B a w->i∈Region.ready .any L B->wpOp P L Q i (λY N=>I (B.setIfInBounds i true) Y N) a w)
  (z:∀B a w,B.size=L.size->I B a w->Region.ready .any L B=[]->Q .normal a w) :
  ∀(f:Nat) (B:Array Bool) a w,B.size=L.size->B.count false<=f->I B a w->wpAny P .any L Q f B a w:=by
 have R:∀(B:Array Bool) i,i∈Region.ready .any L B->∃h:i<B.size,B[i]=false:=λB i J=>by
  have q:=(mem_ready.1 J).1
  have O:i<B.size:=by
   rcases YaI i B.size with h | h
   .exact h
   .rw [YaA,Array.getElem?_eq_none h]at q
    simp at q
  refine⟨O,?_⟩;rw[YaA,YaF O]at q;exact ZjI
 have x:∀(B:Array Bool),Region.ready .any L B≠[]->B.count false≠0:=λB h=>by
  obtain⟨i,J⟩:=List.exists_mem_of_ne_nil _ h;obtain⟨O,r⟩:=R B i J;rw[<-YdG];have A:B.toList[i]'(Zfc)=false:=by simpa using r
  have K:0<B.toList.count false:=List.count_pos_iff.2 (A▸Ybs _);omega
 intro f
 induction f with
 |zero=>
  intro B a w v p m;have c:Region.ready .any L B=[]:=Ydo λh=>x B h ZbC;exact⟨c,z B a w v m c⟩
 |succ f u=>
  intro B a w v p m;refine⟨λc=>z B a w v m c,λi J=>?_⟩;refine wpOp_mono (λY N E=>u _ Y N (by simpa using v) ?_ E) (C B a w i v m J);obtain⟨O,r⟩:=R B i J
  have G:(B.setIfInBounds i true).count false+1=B.count false:=by
   rw[<-YdG,<-YdG,Array.toList_setIfInBounds,List.count_set Zfc];have A:B.toList[i]'(Zfc)=false:=by simpa using r
   have K:0<B.toList.count false:=List.count_pos_iff.2 (A▸Ybs _);rw[A];have W:(if((false:Bool)==false)=true then 1 else 0)=1:=rfl;have o:(if((true:Bool)==false)=true then 1 else 0)=0:=rfl;rw[W,o];omega
  omega
theorem A5Y{s:GS}(C:s.Ok)(F:Nat->Value){T sz:Nat}(e:T≠335)(c:0<sz):∃(q:GS) (R:Nat->Value),q.w=s.w.alloc (.cells #[] T)/\R 0=.slice (some ⟨s.w.heap.size,0,none⟩) 0 0/\Aft s F [.row T sz []] [0] q R [.row T sz []]:=by
 obtain⟨q,R,A,u⟩:=Wi (s0:=⟨s,λ_=>False,[]⟩) (n:=1) (σ:=⟨[],[]⟩) (ρ:=F) (a:={ tmps:=#[undef],defers:=[] }) (s:=s) (T:=T) (sz:=sz) (arr:=#[]) (cap:=0) (dst:=some 0) ⟨GS.LeX.refl _ s,C,(λt G L=>by cases L),rfl,rfl,(λi o J=>by simp at J),(λi j o x S J=>by simp at J),λi o b J=>by simp at J⟩ e c (by simp[maxLen]) ZbR rfl;have r:=u.fr 0 (.own 0) rfl;refine⟨q,R,A,r.2.symm,(GS.LeX.refl _ s).trans (u.le.le (λb h=>h)),u.ok,u.hp,u.sep,λi o b J E=>.inr ((u.own i o b J E).resolve_left λh=>h),λi J g=>absurd J (λh=>g (by simp at h ⊢;exact h)),Yai _⟩
inductive CK
 |q (r:AV)
 |o (k:Nat)
 |t (k:Nat)
def CK.hr:CK->HR
 |.q r=>.av r
 |_=>.av (.d Cs)
def CK.isO(k:Nat):CK->Bool
 |.o j=>Nat.beq j k
 |_=>false
def CK.isT(k:Nat):CK->Bool
 |.t j=>Nat.beq j k
 |_=>false
theorem A4H{c:CK}(h:c.isO n=true):c=.o n:=by
 cases c with
 |o j=>rw[Yan h]
 |_=>cases h
theorem A4G{c:CK}(h:c.isT n=true):c=.t n:=by
 cases c with
 |t j=>rw[Yan h]
 |_=>cases h
def atK(I:List CK)(i:Nat)(p:CK->Bool):Bool:=match I[i]? with | some c=>p c | none=>false
def Wj:Op->Option Operand
 |.move x=>some x
 |.assign x=>some x
 |_=>none
def Wk:Op->Option (FuncId×Operand×Operand)
 |.call { callee:=.value (.func f),args:=#[x,y],.. }=>some (f,x,y)
 |_=>none
def Ac7:Op->Bool
 |.buildSlice _ 0 #[]=>true
 |_=>false
def Qk(L:List Oper)(e:List (Nat×Nat)):Operand->Bool
 |.tmp t=>(e.any λp=>p.1==t)||(L.all λx=>x.dst != some t)
 |_=>true
def RO(I:List CK)(e:List (Nat×Nat))(B:Option Nat)(k:Nat)(V:Nat->Nat):Operand->Bool
 |.tmp x=>(Nat.beq k 0&&B==some x)||e.any λp=>p.1==x&&((atK I p.2 (CK.isO k))||(Nat.blt 0 k&&p.2==V (k-1)))
 |_=>false
def AaV(L:List Oper)(z:List (List (Nat×Nat)))(I:List CK)(w:List (Nat×AV))(n:Nat)(B:Option Nat)(K:Nat)(V:Nat->Nat):Bool:=
 Nat.beq L.length z.length&&Nat.beq L.length I.length&&(w.all λp=>L.all λq=>q.dst != some p.1)&&((List.range K).all λk=>atK I (V k) (CK.isT k)) &&
 (List.range L.length).all λi=>match L[i]?,z[i]?,I[i]? with
  |some o,some e,some c=>BN o.op&&o.guard.isNone&&((Bw o).all λk=>decide (k<i))&&(e.all λp=>(Bw o).contains p.2&&(match L[p.2]? with |some q=>q.dst==some p.1 |none=>false)) &&
   (match o.dst with | none=>false | some d=>decide (d<n)&&((List.range L.length).all λj=>j==i||(match L[j]? with | some q=>q.dst != some d | none=>true))) &&
   (match c with
    |.q _=>(match B with |some t=>o.dst != some t |none=>true)&&o.op.operands.all (Qk L e)
    |.o k=>Nat.ble k K&&(Nat.beq k 0||(Bw o).contains (V (k-1)))&&(Nat.beq k K||(match L[V k]? with |some q=>(Bw q).contains i |none=>false))&&(match Wj o.op with |some x=>RO I e B k V x |none=>false)
    |.t k=>Nat.blt k K&&i==V k&&(Nat.beq k 0||(Bw o).contains (V (k-1)))&&(Ac7 o.op||match Wk o.op with |some (_,x,y)=>RO I e B k V x&&Qk L e y |none=>false))
  |_,_,_=>false
structure ChkC(L:List Oper)(ks:List CK)(n:Nat)(tb:Option Nat)(K:Nat)(tp:Nat->Nat)(i:Nat)(o:Oper)(e:List (Nat×Nat))(c:CK)(d:Nat):Prop where
 ns:BN o.op=true
 gd:o.guard=none
 lt:∀k∈Bw o,k<i
 env:∀p∈e,p.2∈Bw o/\∃o',L[p.2]? = some o'/\o'.dst=some p.1
 dst:o.dst=some d
 dn:d<n
 du:∀(j:Nat) o',L[j]? = some o'->o'.dst=some d->j=i
 kq:∀r,c=.q r->tb≠some d/\∀y∈o.op.operands,Qk L e y=true
 ko:∀k,c=.o k->k<=K/\(k=0\/tp (k-1)∈Bw o)/\(k=K\/∃o',L[tp k]? = some o'/\i∈Bw o')/\∃x,Wj o.op=some x/\RO ks e tb k tp x=true
 kt:∀k,c=.t k->k<K/\i=tp k/\(k=0\/tp (k-1)∈Bw o)/\(Ac7 o.op=true\/∃f x y,Wk o.op=some (f,x,y)/\RO ks e tb k tp x=true/\Qk L e y=true)
variable{uH:List (List (Nat×Nat))}{vb:List (Nat×AV)}{vf:List Oper}{b:Nat}
theorem A8F{O:List CK}{w:Option Nat}(h:AaV vf uH O vb n w b vI=true):vf.length=O.length/\(∀p∈vb,∀L∈vf,L.dst≠some p.1)/\(∀k,k<b->O[vI k]? = some (.t k))/\∀(i:Nat) o,vf[i]? = some o->∃e c d,uH[i]? = some e/\O[i]? = some c/\ChkC vf O n w b vI i o e c d:=by
 unfold AaV at h;simp only[Yam]at h;obtain⟨⟨⟨⟨q,A⟩,K⟩,Q⟩,J⟩:=h;refine⟨Yan A,λp F L V=>by simpa using Yah.1 (Yah.1 K p F) L V,λk B=>?_,λi o s=>?_⟩
 .have:=Yah.1 Q k (Ybd.2 B)
  unfold atK at this
  cases G:O[vI k]? with
  |none=>rw[G]at this;cases this
  |some c=>rw[G]at this;rw[A4G this]
 .have N:=Yah.1 J i (Ybd.2 (Yae.1 s).1)
  rw[s]at N
  cases E:uH[i]? with
  |none=>rw[E]at N;cases N
  |some e=>
   cases G:O[i]? with
   |none=>rw[E,G]at N;cases N
   |some c=>
    rw[E,G]at N;simp only[Yam]at N;obtain⟨⟨⟨⟨⟨t,g⟩,m⟩,H⟩,u⟩,T⟩:=N
    cases I:o.dst with
    |none=>rw[I]at u;cases u
    |some d=>
     rw[I]at u;simp only[Yam,YaZ]at u;refine⟨e,c,d,rfl,rfl,t,by simpa using g,λk B=>by simpa using Yah.1 m k B,λp F=>?_,I,u.1,λj L V X=>?_,λr Y=>?_,λk B=>?_,λk B=>?_⟩
     .have:=Yah.1 H p F
      simp only[Yam]at this;refine⟨by simpa using this.1,?_⟩;have A:=this.2
      cases S:vf[p.2]? with
      |none=>rw[S]at A;cases A
      |some L=>rw[S]at A;exact⟨L,rfl,by simpa using A⟩
     .have:=Yah.1 u.2 j (Ybd.2 (Yae.1 V).1)
      rw[V]at this;simpa[X]using this
     .subst Y
      simp only[Yam]at T;exact⟨λW=>by subst W;simp[I]at T,λy M=>(Yeu.1 T.2) y M⟩
     .subst B
      simp only[Yam,YaT]at T;obtain⟨⟨⟨Z,a⟩,l⟩,v⟩:=T;refine⟨YbE Z,a.imp Yan (λh=>by simpa using h),l.imp Yan (λh=>?_),?_⟩
      .cases S:vf[vI k]? with
       |none=>rw[S]at h;cases h
       |some L=>rw[S]at h;exact⟨L,rfl,by simpa using h⟩
      .cases C:Wj o.op with
       |none=>rw[C]at v;cases v
       |some x=>rw[C]at v;exact⟨x,rfl,v⟩
     .subst B
      simp only[Yam,YaT]at T;obtain⟨⟨⟨Z,a⟩,l⟩,v⟩:=T;refine⟨by rwa [Ybq]at Z,by simpa using a,l.imp Yan (λh=>by simpa using h),v.imp id λv=>?_⟩
      cases C:Wk o.op with
      |none=>rw[C]at v;cases v
      |some z=>
       obtain⟨f,x,y⟩:=z;rw[C]at v;simp only[Yam]at v;exact⟨f,x,y,rfl,v.1,v.2⟩
def Gr(F:List Ow)(id T sz:Nat)(B:List (List D)):List Ow:=F.set id (.row T sz B)
def A9N(P:Program)(w:List (Nat×AV))(F:List Ow)(id T l:Nat)(B:Nat->List (List D))(K:Nat)(E:Option Nat)(V:Nat->Nat)(I:List CK)(q:List (Nat×Nat))(o:Oper):CK->Prop
 |.q r=>(∀j,Quiet P (Gr F id T l (B j)) o (DN ⟨w,Gr F id T l (B j)⟩ (I.map CK.hr) q) r)\/(0<K/\V (K-1)∈Bw o/\∃x,o.op.operands=#[x]/\RO I q E K V x=true/\Quiet P (Gr F id T l (B K)) o (λ_=>.own id) r)
 |.o _=>True
 |.t k=>(∃t m b bytes z O d,o.op=.buildSlice t 0 #[]/\Tab P t (.slice T) m b O/\Tab P T d l bytes z/\T≠335/\0<l/\B k=[]/\B (k+1)=[])\/∃f x y C d h,o.op=.call { callee:=.value (.func f),args:=#[x,y],argTypes:=C }/\(∀j,DN ⟨w,Gr F id T l (B j)⟩ (I.map CK.hr) q y=.d h)/\D.le h d/\Con P f [.own 0,.d d] [.row T l (B k)] [0] (λr A=>r=.own 0/\A=[.row T l (B (k+1))])
def CSteps(P:Program)(w:List (Nat×AV))(F:List Ow)(id T sz:Nat)(B:Nat->List (List D))(K:Nat)(q:Option Nat)(V:Nat->Nat)(I:List CK):List Oper->List (List (Nat×Nat))->List CK->Prop
 |o::L,x::S,c::R=>A9N P w F id T sz B K q V I x o c/\CSteps P w F id T sz B K q V I L S R
 |[],[],[]=>True
 |_,_,_=>False
theorem CSteps.at{P:Program}{w:List (Nat×AV)}{hp:List Ow}{id T sz:Nat}{rows:Nat->List (List D)}{K:Nat}{E:Option Nat}{V:Nat->Nat}{I:List CK}:∀{L:List Oper} {S:List (List (Nat×Nat))} {R:List CK},CSteps P w hp id T sz rows K E V I L S R->∀(i:Nat) o x c,L[i]? = some o->S[i]? = some x->R[i]? = some c->A9N P w hp id T sz rows K E V I x o c
 |[],[],[],_,i,o,x,c,h,_,_=>by simp at h
 |[],[],_::_,h,_,_,_,_,_,_,_=>h.elim
 |[],_::_,R,h,_,_,_,_,_,_,_=>by cases R<;>exact h.elim
 |_::_,[],R,h,_,_,_,_,_,_,_=>by cases R<;>exact h.elim
 |_::_,_::_,[],h,_,_,_,_,_,_,_=>h.elim
 |B::L,N::S,l::R,⟨q,A⟩,0,o,x,c,s,C,G=>by
  simp at s C G;subst s;subst C;subst G;exact q
 |B::L,N::S,l::R,⟨q,A⟩,i+1,o,x,c,s,C,G=>CSteps.at A i o x c ZdQ ZeA (by simpa using G)
def MS(K id:Nat):List Oper->List CK->List (Nat×AV)->List (Nat×AV)
 |o::L,.q r::I,h=>match o.dst with |some d=>(d,r)::MS K id L I h |none=>MS K id L I h
 |o::L,.o k::I,h=>match o.dst with |some d=>bif Nat.beq k K then(d,.own id)::MS K id L I h else MS K id L I h |none=>MS K id L I h
 |o::L,.t k::I,h=>match o.dst with |some d=>bif Nat.beq (k+1) K then(d,.own id)::MS K id L I h else MS K id L I h |none=>MS K id L I h
 |_,_,h=>h
theorem YV{K id:Nat}{p:Nat×AV}:∀{L:List Oper} {I:List CK} {B:List (Nat×AV)},p∈MS K id L I B->p∈B\/∃(i:Nat) (o:Oper) (c:CK),L[i]? = some o/\I[i]? = some c/\o.dst=some p.1/\(c=.q p.2\/(p.2=.own id/\(c=.o K\/∃k,c=.t k/\k+1=K)))
 |[],_,B,h=>.inl (by unfold MS at h;exact h)
 |o::L,[],B,h=>.inl (by unfold MS at h;exact h)
 |o::L,c::I,B,h=>by
  have key:p∈MS K id L I B->p∈B\/∃(i:Nat) (x:Oper) (l:CK),(o::L)[i]? = some x/\(c::I)[i]? = some l/\x.dst=some p.1/\(l=.q p.2\/(p.2=.own id/\(l=.o K\/∃k,l=.t k/\k+1=K))):=λh=>by
   rcases YV h with h | ⟨i,x,l,h1,h2,h3⟩
   .exact .inl h
   .exact .inr ⟨i+1,x,l,by simpa using h1,by simpa using h2,h3⟩
  cases c with
  |q r=>
   unfold MS at h;split at h
   .rename_i d A
    rcases YaL.1 h with rfl | h
    .exact .inr ⟨0,o,_,rfl,rfl,A,.inl rfl⟩
    .exact key h
   .exact key h
  |o k=>
   unfold MS at h;split at h
   .rename_i d A
    cases E:Nat.beq k K with
    |true=>
     rw[E]at h;rcases YaL.1 h with rfl | h
     .exact .inr ⟨0,o,_,rfl,rfl,A,.inr ⟨rfl,.inl (by rw[Yan E])⟩⟩
     .exact key h
    |false=>rw[E]at h;exact key h
   .exact key h
  |t k=>
   unfold MS at h;split at h
   .rename_i d A
    cases E:Nat.beq (k+1) K with
    |true=>
     rw[E]at h;rcases YaL.1 h with rfl | h
     .exact .inr ⟨0,o,_,rfl,rfl,A,.inr ⟨rfl,.inr ⟨k,rfl,Yan E⟩⟩⟩
     .exact key h
    |false=>rw[E]at h;exact key h
   .exact key h
structure CInv(s0:An)(n:Nat)(hp:List Ow)(id T sz:Nat)(rows:Nat->List (List D))(K:Nat)(tb:Option Nat)(tp:Nat->Nat)(L:List Oper)(ks:List CK)(frB:List (Nat×AV))(listed:Array Bool)(a:Act)(j:Nat)(s:GS)(ρ:Nat->Value):Prop where
 st:StI s0 n ⟨[],Gr hp id T sz (rows j)⟩ a s ρ
 jK:j<=K
 hj:∀k,k<K->(listed.getD (tp k) false=true↔k<j)
 closed:∀i o,L[i]? = some o->listed.getD i false=true->∀e∈Bw o,listed.getD e false=true
 hq:∀i o d r,L[i]? = some o->o.dst=some d->ks[i]? = some (.q r)->listed.getD i false=true->AVr hp.length ρ s r (a.tmps.getD d undef)
 hb:∀p∈frB,AVr hp.length ρ s p.2 (a.tmps.getD p.1 undef)
 h0:∀t,tb=some t->j=0->a.tmps.getD t undef=ρ id
 ho:∀i o d c,L[i]? = some o->o.dst=some d->ks[i]? = some c->listed.getD i false=true->(c=.o j\/∃k,c=.t k/\j=k+1)->a.tmps.getD d undef=ρ id
variable{vl:Act}
theorem Lt{v:Value}(h:n<vl.tmps.size):(vl.put (some n) v).tmps.getD n undef=v:=by
 simp[Act.put,h]
theorem GI{v:Value}(h:b≠n):(vl.put (some n) v).tmps.getD b undef=vl.tmps.getD b undef:=by
 rw[YaA,YaA];simp[Act.put,YaP (λe=>h e.symm:n≠b)]
theorem StI.bare{s0:An}{s:GS}(h:StI s0 n ve vl s vh):StI s0 n ⟨[],ve.hp⟩ vl s vh:=⟨h.le,h.ok,(λt G L=>by cases L),h.sz,h.df,h.hp,h.sep,h.own⟩
theorem YF(F:List Ow)(id T sz:Nat)(r:List (List D)):(Gr F id T sz r).length=F.length:=by simp[Gr]
theorem A8i{id T sz:Nat}{r:List (List D)}(h:id<H.length):(Gr H id T sz r)[id]? = some (.row T sz r):=by simp[Gr,h]
theorem Pt:∀{F:List (Nat×AV)} {p:Nat×AV},p∈F->(∀q∈F,q.1=p.1->q=p)->Ce F p.1=some p.2
 |(a,v)::r,p,h,Q=>by
  unfold Ce
  cases E:Nat.beq a p.1 with
  |true=>
   have:=Q (a,v) Ybk (Yan E);rw[<-this];rfl
  |false=>
   rcases YaL.1 h with rfl | h
   .rw [YcA]at E;cases E
   .exact Pt h λq m=>Q q (Ybc _ m)
def IQ(L:List Oper)(I:List CK)(w:List (Nat×AV))(q:Array Bool):List (Nat×AV):=
 ((List.range L.length).flatMap λi=>match L[i]?,I[i]? with
  |some o,some (CK.q r)=>match o.dst with
   |some d=>if q.getD i false=true then[(d,r)]else[]
   |none=>[]
  |_,_=>[])++w
variable{vO:Array Bool}
theorem Em{L:List Oper}{E:List CK}{p:Nat×AV}:p∈IQ L E vb vO↔(∃i o,L[i]? = some o/\E[i]? = some (.q p.2)/\o.dst=some p.1/\vO.getD i false=true)\/p∈vb:=by
 unfold IQ;rw[YbW,YeG];refine or_congr ⟨λ⟨i,J,h⟩=>?_,λ⟨i,o,A,B,K,Q⟩=>⟨i,Ybd.2 (Yae.1 A).1,?_⟩⟩ Ydt
 .cases s:L[i]? with
  |none=>rw[s]at h;simp at h
  |some o=>
   cases G:E[i]? with
   |none=>rw[s,G]at h;simp at h
   |some c=>
    rw[s,G]at h
    cases c with
    |q r=>
     cases C:o.dst with
     |none=>simp[C]at h
     |some d=>
      simp only[C]at h;split at h
      .rename_i I
       have:=Yax.1 h;subst this;exact⟨i,o,s,G,C,I⟩
      .cases h
    |o k=>simp at h
    |t k=>simp at h
 .rw [A,B]
  simp only[K];rw[Yao Q];exact Yax.2 rfl
def FrIn(h:List (Nat×AV)):List (Nat×AV)->Prop
 |[]=>True
 |p::r=>Ce h p.1=some p.2/\FrIn h r
theorem FrIn.mem{C:List (Nat×AV)}:∀{F:List (Nat×AV)},FrIn C F->∀p∈F,Ce C p.1=some p.2
 |[],_,p,h=>by cases h
 |q::r,⟨A,B⟩,p,h=>by
  rcases YaL.1 h with rfl | h
  .exact A
  .exact FrIn.mem B p h
variable{vm:Exit->AS->Prop}
theorem Fn{s0:An}(id T sz:Nat)(xd:Nat->List (List D))(K:Nat)(tb:Option Nat)(tp:Nat->Nat)(ks:List CK)(xi F:List (Nat×AV))(hm:P.follows .mixedOrders=true)(xr:H[id]? = some (.row T sz (xd 0)))(yc:FrIn vb xi)(yF:∀t,tb=some t->Ce vb t=some (.own id))
  (steps:CSteps P xi H id T sz xd K tb tp ks vf (Ho vf) ks) (xe:AaV vf (Ho vf) ks xi n tb K tp=true) (xq:((xi.all λp=>p.2.avoid [id])&&ks.all λc=>c.hr.val.avoid [id])=true) (xm:AvoidR [id] [id] 0 H) (hF:FrIn (MS K id vf ks xi) F) (M:List Ow) (hM:Gr H id T sz (xd K)=M) (fin:vm .normal ⟨F,M⟩):AWp P s0 n (.region b vf.toArray true) vm ⟨vb,H⟩:=by
 generalize Ho vf=es at steps xe;refine⟨λa w ⟨s,W,hw,xa⟩=>?_⟩;subst hw;subst hM;have yn:=yc.mem;obtain⟨yH,xA,ys,xI⟩:=A8F xe;simp only[Yam]at xq;have xG:id<H.length:=Cu xr;have ya:∀r,(Gr H id T sz r)[id]? = some (.row T sz r):=λr=>A8i xG;have yk:∀r,(Gr H id T sz r).length=H.length:=YF H id T sz;have xL:∀r r',(Gr H id T sz r).set id (.row T sz r')=Gr H id T sz r':=λr r'=>by simp[Gr]
 have xw:∀j,(Array.replicate vf.toArray.size false).getD j false=false:=λj=>by
  rcases YaI j vf.length with h | h
  .simp [h]
  .simp [h]
 have yu:Gr H id T sz (xd 0)=H:=by
  unfold Gr;apply YbX;intro i;rw[YbM];split
  .rename_i h;subst h;exact xr.symm
  .rfl
 have yr:StI s0 n ⟨vb,H⟩ a s.dr W:=xa.put (Kq s) (dst:=none) (λd u=>by cases u) (v:=undef) (r:=.d Cs) trivial;refine wp_region_any hm (OU (λxc a' S=>∃j s' xj,s'.w=S/\CInv s0 n H id T sz xd K tb tp vf ks xi xc a' j s' xj) ?_ ?_ _ _ a s.w.drew ZbR ?_ ⟨0,s.dr,W,rfl,by rw[yu];exact yr.bare,Yay _,(λk _=>⟨λh=>absurd (h.symm.trans (xw _)) ZbH,λh=>absurd h (Ybj k)⟩),(λi o _ h=>absurd (h.symm.trans (xw _)) ZbH),(λi o d r _ _ _ h=>absurd (h.symm.trans (xw _)) ZbH),(λp xb=>yr.fr _ _ (yn p xb)),(λt O _=>(yr.fr _ _ (yF t O)).2),λi o d c _ _ _ h=>absurd (h.symm.trans (xw _)) ZbH⟩)
 .rintro xc a' _ i xh ⟨j,s1,xE,rfl,xg⟩ L
  have xh:xc.size=vf.length:=by simpa using xh
  obtain⟨_,o,ho,_⟩:=mem_ready.1 L;have ho:vf[i]? = some o:=by simpa using ho
  obtain⟨xx,xt⟩:=(DH xh ho).1 L;obtain⟨e,c,d,Z,I,ck⟩:=xI i o ho;have yg:i<xc.size:=by rw[xh];exact(Yae.1 ho).1
  have xJ:=steps.at i o e c ho Z I;have xV:vf.toArray[i]? = some o:=by simpa using ho
  have xX:d<a'.tmps.size:=by rw[xg.st.sz];exact ck.dn
  have xD:∀k,(xc.setIfInBounds i true).getD k false=true↔k=i\/xc.getD k false=true:=λk=>by
   by_cases E:k=i
   .subst E;simp[yg]
   .exact ZaP
  have yo:∀i' o',vf[i']? = some o'->(xc.setIfInBounds i true).getD i' false=true->∀e∈Bw o',(xc.setIfInBounds i true).getD e false=true:=λi' o' xl J e' xC=>by
   rw[xD]at J ⊢;rcases J with rfl | J
   .obtain rfl:o'=o:=Yag (xl.symm.trans ho)
    exact .inr (xt e' xC)
   .exact .inr (xg.closed i' o' xl J e' xC)
  have xk:∀i' o' d',vf[i']? = some o'->o'.dst=some d'->xc.getD i' false=true->d'≠d:=λi' o' d' xl xn J e'=>by
   subst e';have:=ck.du i' o' xl xn;subst this;rw[xx]at J;cases J
  have yy:∀p∈xi,p.1≠d:=λp xb e'=>xA p xb o (Yaz ho) (by rw[e'];exact ck.dst)
  have yx:∀(R:Act->World->Prop),o.wp P a' s1.w (λyb xy=>R yb xy) (GR s0 n vm)->wpOp P vf.toArray (GR s0 n vm) i (λyb xy=>R yb xy) a' s1.w:=λR h=>by
   unfold wpOp;rw[xV];show if Region.wanted o (yielded vf.toArray a'.tmps)=true then _ else _
   exact Zjh
  have yd:∀y,Qk vf e y=true->AVr H.length xE s1 (DN ⟨xi,Gr H id T sz (xd j)⟩ (ks.map CK.hr) e y) (a'.eval y):=λy Q=>by
   cases y with
   |tmp t=>
    show AVr _ xE s1 (match e.find? (λp=>p.1==t)with
     |some p=>match (ks.map CK.hr)[p.2]? with
      |some h=>h.val
      |none=>.d Cs
     |none=>(Ce xi t).getD (.d Cs)) (a'.tmps.getD t undef)
    cases yt:e.find? (λp=>p.1==t)with
    |some p=>
     have xb:p∈e:=Ybp yt;have xU:p.1=t:=by simpa using YcJ yt
     simp only;rw[Yav]
     cases yi:ks[p.2]? with
     |none=>trivial
     |some c'=>
      cases c' with
      |q r=>
       obtain⟨xZ,o',xl,xn⟩:=ck.env p xb;have:=xg.hq p.2 o' p.1 r xl xn yi (xt _ xZ);rwa [xU]at this
      |o k=>trivial
      |t k=>trivial
    |none=>
     simp only
     cases J:Ce xi t with
     |none=>trivial
     |some av=>exact xg.hb (t,av) (Fj J)
   |const v=>exact Zkn
   |global A=>trivial
   |func f=>exact Zko
  have yC:∀k x,j=k->RO ks e tb k tp x=true->a'.eval x=xE id:=λk x yp G=>by
   subst yp
   cases x with
   |tmp t=>
    show a'.tmps.getD t undef=xE id;simp only[RO,YaT,Yam]at G;rcases G with⟨B,C⟩ | h
    .exact xg.h0 t ZeA (Yan B)
    .obtain ⟨p,xb,B⟩:=YbF.1 h
     simp only[Yam,YaT]at B;obtain⟨B,C⟩:=B;have xU:p.1=t:=by simpa using B
     obtain⟨xZ,o',xl,xn⟩:=ck.env p xb;rcases C with C | ⟨C,N⟩
     .unfold atK at C
      cases yi:ks[p.2]? with
      |none=>rw[yi]at C;cases C
      |some c'=>
       rw[yi]at C;have:=xg.ho p.2 o' p.1 c' xl xn yi (xt _ xZ) (.inl (A4H C));rwa [xU]at this
     .have N:p.2=tp (j-1):=by simpa using N
      have C:0<j:=by rwa [Ybq]at C
      have E:j-1<K:=by have:=xg.jK;omega
      have:=xg.ho p.2 o' p.1 _ xl xn (by rw[N];exact ys _ E) (xt _ xZ) (.inr ⟨j-1,rfl,by omega⟩);rwa [xU]at this
   |const v=>cases G
   |global A=>cases G
   |func f=>cases G
  have yJ:∀k,(k=0\/tp (k-1)∈Bw o)->k<=K->k<=j:=λk h E=>by
   rcases h with rfl | h
   .exact Yay _
   .rcases YaB k with rfl | l
    .exact Yay _
    .have:=(xg.hj (k-1) ZbC).1 (xt _ h)
     omega
  have keep:∀(v:Value) (s2:GS) (c0:CK),c=c0->GS.Le s1 s2->(∀r,c0=.q r->AVr H.length xE s2 r v)->(∀k,c0=.o k->k=j/\v=xE id)->(∀k,c0≠.t k)->CInv s0 n H id T sz xd K tb tp vf ks xi (xc.setIfInBounds i true) (a'.put o.dst v) j s2 xE:=λv s2 c0 xT xo xB yI yE=>by
   subst xT;have B:=xg.st.put xo (dst:=o.dst) (λd' xn=>by rw[ck.dst]at xn;cases xn;exact ck.dn) (v:=v) (r:=.d Cs) trivial;rw[ck.dst]at B ⊢;refine⟨B.bare,xg.jK,λk E=>?_,yo,λi' o' d' r xl xn xK J=>?_,λp xb=>?_,λyM yK h=>?_,λi' o' d' c' xl xn xK J xQ=>?_⟩
   .rw [xD]
    refine⟨λh=>h.elim (λe'=>?_) (xg.hj k E).1,λh=>.inr ((xg.hj k E).2 h)⟩;have:=ys k E;rw[e',I]at this;exact absurd (Yag this) (yE k)
   .rw [xD]at J
    rcases J with rfl | J
    .obtain rfl:o'=o:=Yag (xl.symm.trans ho)
     obtain rfl:d'=d:=Yag (xn.symm.trans ck.dst);rw[Lt xX];exact xB r (Yag (I.symm.trans xK))
    .rw [GI (xk i' o' d' xl xn J)]
     exact(xg.hq i' o' d' r xl xn xK J).chg xo.chg
   .rw [GI (yy p xb)]
    exact(xg.hb p xb).chg xo.chg
   .by_cases yL:yM=d
    .subst yL
     rw[Lt xX]
     cases c with
     |q r=>exact absurd yK (ck.kq r rfl).1
     |o k=>exact(yI k rfl).2
     |t k=>exact absurd rfl (yE k)
    .rw [GI yL]
     exact xg.h0 yM yK h
   .rw [xD]at J
    rcases J with rfl | J
    .obtain rfl:o'=o:=Yag (xl.symm.trans ho)
     obtain rfl:d'=d:=Yag (xn.symm.trans ck.dst);obtain rfl:c'=c:=Yag (xK.symm.trans I);rw[Lt xX];rcases xQ with rfl | ⟨k,rfl,_⟩
     .exact (yI j rfl).2
     .exact absurd rfl (yE k)
    .rw [GI (xk i' o' d' xl xn J)]
     exact xg.ho i' o' d' c' xl xn xK J xQ
  cases c with
  |q r=>
   have hq:RegG.OpStep P o a'.eval s1 (λv s2=>GS.Le s1 s2/\AVr H.length xE s2 r v):=by
    rcases xJ with xJ | ⟨hK0,hmem,x,hops,hsr,hqt⟩
    .have hq:=(xJ j).run 0 s1 xE a'.eval xg.st.ok (Yay _) xg.st.hp (λy Q=>by rw [yk]; exact yd y ((ck.kq r rfl).2 y Q))
     rw[yk]at hq;exact hq
    .have B:=(xg.hj (K-1) ZbC).1 (xt _ hmem)
     have C:=xg.jK;obtain rfl:j=K:=by omega
     have hv:=yC j x rfl hsr
     have hq:=hqt.run 0 s1 xE a'.eval xg.st.ok (Yay _) xg.st.hp (λy Q=>by
      rw[hops]at Q;obtain rfl:y=x:=by simpa using Q
      rw[yk];exact⟨xG,hv⟩)
     rw[yk]at hq;exact hq
   exact yx _ (RegG.opStep_wp ck.ns (λ_ _=>rfl) hq λv s2 ⟨B,C⟩=>⟨j,s2,xE,rfl,keep v s2 _ rfl B (λr' xO=>by cases xO;exact C) (λk E=>by cases E) λk E=>by cases E⟩)
  |o k=>
   obtain⟨B,C,N,x,G,xM⟩:=ck.ko k rfl
   have yp:j=k:=by
    have V:=yJ k C B;have h5:=xg.jK;rcases N with rfl | ⟨o',xl,h6⟩
    .omega
    .by_cases yO:k<j
     .have:=xg.closed _ o' xl ((xg.hj k ZbC).2 yO) i h6
      rw[xx]at this;cases this
     .omega
   have hv:=yC k x yp xM
   have xp:(execOp a'.eval o).run P s1.w=.ok (.value (a'.eval x)) s1.w:=by
    cases xf:o.op<;>rw[xf]at G<;>simp[Wj]at G
    .subst G;simp[execOp,xf]
    .subst G;simp[execOp,xf]
   refine yx _ ?_;unfold Oper.wp;rw[xp];exact⟨j,s1,xE,rfl,keep _ s1 _ rfl (GS.Le.refl _) (λr Y=>by cases Y) (λk' xv=>by cases xv;exact⟨yp.symm,hv⟩) λk' xv=>by cases xv⟩
  |t k=>
   obtain⟨yG,yB,xP,G⟩:=ck.kt k rfl
   have yp:j=k:=by
    have V:=yJ k xP ZbC
    have h5:¬k<j:=λh=>by
     have:=(xg.hj k yG).2 h;rw[<-yB,xx]at this;cases this
    omega
   subst yp;let m:=(Gr H id T sz (xd j)).length;let ym:Nat->Value:=λq=>xE (BL [id] m q);have xN:=xg.st.hp id _ (ya (xd j))
   have yP:RegG.OpStep P o a'.eval s1 (λv s'=>∃(xj:Nat->Value) (r:AV) (xb:List Ow),(r=.own 0/\xb=[.row T sz (xd (j+1))])/\AVr xb.length xj s' r v/\Aft s1 ym [.row T sz (xd j)] [0] s' xj xb):=by
    rcases xJ with⟨t,m',A,bytes,z,z',dd,xf,O,hT,xS,l,yq,yh⟩ | ⟨f',x',y',tys,d1,d2,xf,hyd,hled,hcon⟩
    .obtain ⟨s',xj,hw,hv,yz⟩:=A5Y (sz:=sz) xg.st.ok ym xS l
     have xp:(execOp a'.eval o).run P s1.w=.ok (.value (.slice (some ⟨s1.w.heap.size,0,none⟩) 0 0)) (s1.w.alloc (.cells #[] T)):=by
      have U:∀arr,(newRow T arr).run P s1.w=.ok ⟨s1.w.heap.size,0,none⟩ (s1.w.alloc (.cells arr T)):=λ_=>rfl;simp[execOp,xf,Instr.buildSlice,run_underlying O.und,hT.run_size,Instr.fill,U];exact ZhF
     unfold RegG.OpStep;rw[xp];exact⟨s',hw,xj,.own 0,_,⟨rfl,by rw[yh]⟩,⟨by simp,hv.symm⟩,by rw[yq];exact yz⟩
    .rcases G with G | ⟨f,x,y,hcall,G,Q⟩
     .rw [xf]at G
      cases G
     rw[xf]at hcall
     obtain⟨rfl,rfl,rfl⟩:f'=f/\x'=x/\y'=y:=by
      have:=Yag hcall;simp only[YeF]at this;exact this
     have yj:=yC j x' rfl G;have yw:=yd y' Q;rw[hyd j]at yw
     have yA:=hcon.2 s1 ym [xE id,a'.eval y'] xg.st.ok (λq o' hq=>by
      cases q with
      |zero=>
       cases hq;unfold OwR at xN ⊢;exact xN
      |succ q=>cases hq) (λp q o1 o2 yv yf xB=>by
      have:=Cu yf;have:=Cu xB;simp only[Yck]at *;omega) rfl (λq av hq=>by
      match q,hq with
      |0,hq=>cases hq;exact⟨YcV,rfl⟩
      |1,hq=>cases hq;exact hled s1 _ yw
      |q+2,hq=>simp at hq)
     have xp:(execOp a'.eval o).run P s1.w=.ok (.enter f' #[xE id,a'.eval y']) s1.w:=by
      have X:a'.eval (.func f')=.func (.func f') #[] #[]:=rfl;simp[execOp,xf,resolve,X,yj,Deferred.ofValue,invoke,hcon.1]
     unfold RegG.OpStep;rw[xp];exact yA.mono λe S ⟨v,Z,s',xj,r,xb,h5,h6,h7,h8⟩=>⟨v,Z,s',h6,xj,r,xb,h5,h7,h8⟩
   refine yx _ (RegG.opStep_wp ck.ns (λ_ _=>rfl) yP ?_)
   .rintro v s' ⟨xj,r,xb,⟨rfl,rfl⟩,h6,h7⟩
    have yD:StI s0 n ⟨IQ vf ks xi xc,Gr H id T sz (xd j)⟩ a' s1 xE:=⟨xg.st.le,xg.st.ok,λt av O=>by
     rw[show(⟨IQ vf ks xi xc,Gr H id T sz (xd j)⟩:AS).hp.length=H.length from yk _];rcases Em.1 (Fj O)with⟨i',o',g1,g2,g3,g4⟩ | g
     .exact xg.hq i' o' t av g1 g3 g2 g4
     .exact xg.hb _ g,xg.st.sz,xg.st.df,xg.st.hp,xg.st.sep,xg.st.own⟩
    obtain⟨xF,xu,xz⟩:=StI.con (sel:=[id]) (lost:=[0]) (hpS:=[.row T sz (xd j)]) (hp':=[.row T sz (xd (j+1))]) (H1:=(Gr H id T sz (xd j)).set id (.row T sz (xd (j+1)))) ⟨λp xb=>by
     rcases Em.1 xb with⟨i',o',g1,g2,g3,g4⟩ | g
     .exact Yah.1 xq.2 _ (Yaz g2)
     .exact Yah.1 xq.1 _ g,λi' o' xR xl=>by
     refine AvoidR.get xm i' o' (by simpa using xR) ?_;have xl:(Gr H id T sz (xd j))[i']? = some o':=xl;rwa [Gr,YcR (λe=>xR (by rw[e];exact Yax.2 rfl))]at xl⟩ (λk E=>by rw[Yax.1 E];exact YcV) yD ZbR ⟨ya (xd j),trivial,trivial⟩ h7 rfl
    simp only[Yck,Ybn,List.drop_nil,YaW,Ycb,YbD,xL]at xu xz;have hv:v=xF id:=(xz _ v h6).2
    have xW:∀(p:Nat×AV),p∈IQ vf ks xi xc->AVr H.length xF s' p.2 (a'.tmps.getD p.1 undef):=λp xb=>by
     have:=xu.fr p.1 p.2 (Pt xb λq hq X=>by
      rcases Em.1 xb with⟨i1,o1,g1,g2,g3,g4⟩ | g<;>rcases Em.1 hq with⟨i2,o2,k1,k2,k3,k4⟩ | k0
      .rw [X]at k3
       obtain⟨_,_,d3,_,_,yl⟩:=xI i1 o1 g1;obtain rfl:d3=p.1:=Yag (yl.dst.symm.trans g3);obtain rfl:=yl.du i2 o2 k1 k3;rw[g2]at k2;have:=Yag k2;simp only[CK.q.injEq]at this;exact Prod.ext X this.symm
      .exact absurd (g3.trans (congrArg some X.symm)) (xA q k0 o1 (Yaz g1))
      .exact absurd (k3.trans (congrArg some X)) (xA p g o2 (Yaz k1))
      .have B:=yn p g
       have C:=yn q k0;rw[X,B]at C;exact Prod.ext X (Yag C).symm)
     rwa [show(⟨IQ vf ks xi xc,Gr H id T sz (xd (j+1))⟩:AS).hp.length=H.length from yk _]at this
    refine⟨j+1,s',xF,rfl,?_⟩;have B:=xu.put (GS.Le.refl s') (dst:=o.dst) (λd' xn=>by rw[ck.dst]at xn;cases xn;exact ck.dn) (v:=v) (r:=.d Cs) trivial;rw[ck.dst]at B ⊢;refine⟨B.bare,yG,λk E=>?_,yo,λi' o' d' r xl xn xK J=>?_,λp xb=>?_,λ_ _ h=>absurd h (Nat.succ_ne_zero _),λi' o' d' c' xl xn xK J xQ=>?_⟩
    .rw [xD,xg.hj k E]
     refine⟨λh=>?_,λh=>?_⟩
     .rcases h with h | h
      .have B:=ys k E
       rw[h,I]at B;have C:=Yag B;simp only[CK.t.injEq]at C;omega
      .omega
     .rcases Nat.lt_succ_iff_lt_or_eq.1 h with h | h
      .exact .inr h
      .exact .inl (by rw[h];exact yB.symm)
    .rw [xD]at J
     rcases J with rfl | J
     .rw [I]at xK
      cases xK
     .rw [GI (xk i' o' d' xl xn J)]
      exact xW (d',r) (Em.2 (.inl ⟨i',o',xl,xK,xn,J⟩))
    .rw [GI (yy p xb)]
     exact xW p (Em.2 (.inr xb))
    .rw [xD]at J
     rcases J with rfl | J
     .obtain rfl:o'=o:=Yag (xl.symm.trans ho)
      obtain rfl:d'=d:=Yag (xn.symm.trans ck.dst);rw[Lt xX];exact hv
     .obtain ⟨e3,c3,d3,xY,ye,yl⟩:=xI i' o' xl
      obtain rfl:c3=c':=Yag (ye.symm.trans xK)
      have xH:xc.getD (tp j) false≠true:=λh=>by
       rw[<-yB,xx]at h;cases h
      rcases xQ with rfl | ⟨k',rfl,xv⟩
      .obtain ⟨_,q2,_,_⟩:=yl.ko _ rfl
       rcases q2 with q2 | q2
       .cases q2
       .exact absurd (xg.closed i' o' xl J _ q2) xH
      .obtain ⟨_,q2,_⟩:=yl.kt _ rfl
       obtain rfl:k'=j:=by omega
       rw[q2]at J;exact absurd J xH
 .rintro xc a' _ xh ⟨j,s1,xE,rfl,xg⟩ l
  have xh:xc.size=vf.length:=by simpa using xh
  have xs:∀i,i<vf.length->xc.getD i false=true:=by
   intro i
   induction i using Nat.strongRecOn with
   |_ i ih=>
    intro L;have ho:vf[i]? = some vf[i]:=Yab L;obtain⟨e,c,d,Z,I,ck⟩:=xI i _ ho
    cases hg:xc.getD i false with
    |true=>rfl
    |false=>
     have:i∈Region.ready .any vf.toArray xc:=(DH xh ho).2 ⟨hg,λk E=>ih k (ck.lt k E) (by have:=ck.lt k E;omega)⟩;rw[l]at this;cases this
  have yN:j=K:=by
   have B:=xg.jK;rcases YaB K with C | C
   .omega
   .have N:=ys (K-1) ZbC
    have V:=(xg.hj (K-1) ZbC).1 (xs _ (by rw[yH];exact(Yae.1 N).1));omega
  subst yN;refine⟨_,fin,s1,xE,rfl,xg.st.le,xg.st.ok,λt av O=>?_,xg.st.sz,xg.st.df,xg.st.hp,xg.st.sep,xg.st.own⟩;rw[show(⟨F,Gr H id T sz (xd j)⟩:AS).hp.length=H.length from yk _];rcases YV (Fj (hF.mem _ (Fj O)))with h | ⟨i,o,c,B,C,N,V⟩
  .exact xg.hb _ h
  .have J:=xs i (Yae.1 B).1
   rcases V with rfl | ⟨V,h5⟩
   .exact xg.hq i o t av B N C J
   .replace V:av=.own id:=V
    subst V;refine⟨xG,xg.ho i o t c B N C J ?_⟩;rcases h5 with h5 | ⟨k,h5,h6⟩
    .exact .inl h5
    .exact .inr ⟨k,h5,h6.symm⟩
 .rw [Array.count_replicate]
  simp
section
variable {P:Program} {frB:List (Nat×AV)} {hp:List Ow} {id T sz:Nat} {rows:Nat->List (List D)} {K:Nat} {tb:Option Nat} {tp:Nat->Nat} {ks:List CK} {es:List (Nat×Nat)} {o:Oper} {L:List Oper} {S:List (List (Nat×Nat))} {R:List CK}
theorem CSteps.q{r:AV}(h:∀j,Quiet P (Gr hp id T sz (rows j)) o (DN ⟨frB,Gr hp id T sz (rows j)⟩ (ks.map CK.hr) es) r)(a:CSteps P frB hp id T sz rows K tb tp ks L S R):CSteps P frB hp id T sz rows K tb tp ks (o::L) (es::S) (.q r::R):=⟨.inl h,a⟩
theorem CSteps.s{k:Nat}(a:CSteps P frB hp id T sz rows K tb tp ks L S R):CSteps P frB hp id T sz rows K tb tp ks (o::L) (es::S) (.o k::R):=⟨trivial,a⟩
variable{vt:Array TypeId}{r:D}{y:Operand}
theorem CSteps.t{k:Nat}{dd:Option Tmp}{ty:TypeId}{ps:String}{af:Array Edge}{gd:Option (Nat×Bool)}{f:FuncId}(G:Con P f [.own 0,.d r] [.row T sz (rows k)] [0] (λq A=>q=.own 0/\A=[.row T sz (rows (k+1))]))(M:∀j,DN ⟨frB,Gr hp id T sz (rows j)⟩ (ks.map CK.hr) es y=.d r)(a:CSteps P frB hp id T sz rows K tb tp ks L S R):CSteps P frB hp id T sz rows K tb tp ks (⟨dd,.call { callee:=.value (.func f),args:=#[x,y],argTypes:=vt },ty,ps,af,gd⟩::L) (es::S) (.t k::R):=⟨.inr ⟨f,x,y,vt,r,r,rfl,M,D.le.refl _,G⟩,a⟩
variable{z u:Value}
theorem CSteps.m{k:Nat}{ty:TypeId}{t m b bytes:Nat}{d:TypeDesc}(B:Tab P t (.slice T) m b u)(e:Tab P T d sz bytes z)(J:Nat.beq T 335=false)(c:Nat.blt 0 sz=true)(q:rows k=[])(A:rows (k+1)=[])(a:CSteps P frB hp id T sz rows K tb tp ks L S R):CSteps P frB hp id T sz rows K tb tp ks (⟨vz,.buildSlice t 0 #[],ty,vF,vG,vM⟩::L) (es::S) (.t k::R):=⟨.inl ⟨t,m,b,bytes,z,u,d,rfl,B,e,YaJ J,by simpa[Ybq]using c,q,A⟩,a⟩
theorem CSteps.nil:CSteps P frB hp id T sz rows K tb tp ks [] [] []:=trivial
theorem EX{r:AV}(a:CSteps P frB hp id T sz rows K tb tp ks L S R)(h:∀j,Quiet P (Gr hp id T sz (rows j)) o (DN ⟨frB,Gr hp id T sz (rows j)⟩ (ks.map CK.hr) es) r:=by intro _;first | exact AG (ah rfl) | exact Bm (ah rfl) | exact Az (ah rfl) (Aa rfl) rfl (Aa rfl) rfl rfl | exact AF | exact As | exact Je rfl (ah rfl) (Aa rfl) (Aa rfl) rfl ZcE ZcE | exact Md (ah rfl) (ah rfl) (Aa rfl) (Aa rfl) ZcE | exact A77 (ah rfl) (Aa rfl) rfl (Aa rfl) rfl rfl | exact Tp (ah rfl) (Aa rfl) rfl rfl | exact Gv (ah rfl) (Aa rfl) rfl rfl | exact Xt (ah rfl) (Aa rfl) rfl (A1I ZcE) | exact Xt (ah rfl) (Aa rfl) rfl (A1H ZcE)):CSteps P frB hp id T sz rows K tb tp ks (o::L) (es::S) (.q r::R):=CSteps.q h a
theorem OT{k:Nat}{Y:TypeId}(G:Con P vd [.own 0,.d r] [.row T sz (rows k)] [0] (λq A=>q=.own 0/\A=[.row T sz (rows (k+1))]))(a:CSteps P frB hp id T sz rows K tb tp ks L S R)(M:∀j,DN ⟨frB,Gr hp id T sz (rows j)⟩ (ks.map CK.hr) es y=.d r:=by intro _;rfl):CSteps P frB hp id T sz rows K tb tp ks (⟨vz,.call { callee:=.value (.func vd),args:=#[x,y],argTypes:=vt },Y,vF,vG,vM⟩::L) (es::S) (.t k::R):=CSteps.t G M a
end
theorem MN{s0:An}(T sz:Nat)(e:Nat.beq T 335=false)(c:Nat.blt 0 sz=true)(q:Gp H (.row T sz [])=some vA)(k:AWp P s0 n vp vm ⟨vb,vA⟩):AWp P s0 n vp vm ⟨vb,H⟩:=by
 rw[Fi q]at k;refine⟨λa w ⟨s,V,C,u⟩=>?_⟩
 have := u.new (GS.Le.refl s) (dst := none) (v := undef) (u := .slice none 0 0) (r := .d Cs) (ow := .row T sz []) (fun d A => by cases A) trivial
  ⟨[],by simp only[Yao];exact⟨by simp,.inl ⟨rfl,rfl⟩⟩,YaJ e,by simpa[Ybq]using c,λb E=>by simp[DR]at E,λk B=>absurd B (Ybj k)⟩ (λb E=>by cases E)
 exact k.run a w ⟨s,_,C,this⟩
def wipe(G:List Nat):List (Nat×AV)->List (Nat×AV)
 |[]=>[]
 |p::r=>(bif p.2.avoid G then p else(p.1,.d Cs))::wipe G r
theorem OW{A:List Nat}{t:Nat}{G:AV}:∀{q:List (Nat×AV)},Ce (wipe A q) t=some G->G=.d Cs\/Ce q t=some G
 |[],h=>by cases h
 |(u,x)::r,h=>by
  unfold wipe at h;rw[CX]
  cases E:x.avoid A with
  |true=>
   simp only[E,cond_true]at h;rw[CX]at h;split
   .rename_i e;rw[Yao e]at h;exact .inr h
   .rename_i e;rw[Yaj e]at h;exact OW h
  |false=>
   simp only[E,cond_false]at h;rw[CX]at h;split
   .rename_i e;rw[Yao e]at h;exact .inl (Yag h).symm
   .rename_i e;rw[Yaj e]at h;exact OW h
theorem RC{G:List Nat}:∀{h:List (Nat×AV)},(wipe G h).all (λp=>p.2.avoid G)=true
 |[]=>rfl
 |p::r=>by
  unfold wipe;rw[List.all_cons,RC,Bool.and_true]
  cases E:p.2.avoid G with
  |true=>simp only[cond_true];exact E
  |false=>rfl
theorem StI.wipe{s0:An}{s:GS}(q:List Nat)(h:StI s0 n ⟨vb,H⟩ vl s vh):StI s0 n ⟨Go.Proofs.YtcikkglcoeedlaaGreat.wipe q vb,H⟩ vl s vh:=⟨h.le,h.ok,λt G L=>(OW L).elim (λe=>e▸trivial) (h.fr t G),h.sz,h.df,h.hp,h.sep,h.own⟩
section
variable {P:Program} {s0:An} {n:Nat} {ops:Array Oper} {Q:Exit->AS->Prop} {rest:List Oper} {fr:List (Nat×AV)} {hp:List Ow}
variable{vt:Array TypeId}{vP:List Operand}{va:Oper}
theorem A8C{hpS:List Ow}(F:va.op=.call { callee:=.value x,args:=vP.toArray,argTypes:=vt })(sel:List Nat){m:Nat}(B:Ik hp=some m)(p:KX (BL sel m) hpS.length (AS.arg ⟨fr,hp⟩ x) vd [] [])
  (G:Con P vd R hpS l vy) (S:l.all (Nat.blt · sel.length)=true) (c:AvoidR sel (l.map (BL sel m)) 0 hp) (t:ArgsC hp (BL sel m) hpS.length (AS.arg ⟨fr,hp⟩) vP R) (xa:sel.Nodup) (xb:SelR (BL sel m) hp hpS.length sel hpS) (d:WL va.dst n=true)
  (next:∀r C,vy r C->∃L H w,AVRen (BL sel m) r L/\SetR (BL sel m) hp sel C H/\AppR (BL sel m) H (Na sel.length C) w/\AWl P s0 n ops Q rest (AS.put ⟨wipe (l.map (BL sel m)) fr,w⟩ va.dst L)) :
  ∀(s:GS) (V:Nat->Value) (a:Act),StI s0 n ⟨fr,hp⟩ a s V->∀K:Act->World->Prop,(∀z Y N,AWl P s0 n ops Q rest z->St s0 n z Y N->K Y N)->va.wp P a s.w K (GR s0 n Q):=by
 intro s V a u K b;have xg:R=([]:List Nat).map (AV.ptr · 0)++R++([]:List Nat).map (AV.ptr · 0):=by simp
 rw[xg]at G;obtain⟨I,U,xe,Z,xc,xf⟩:=A6z F sel B p G.1 t xa xb (λi J=>by cases J) (λi J=>by cases J) u;obtain rfl:=FX B;have T:LostOk sel l hp.length (wipe (l.map (BL sel hp.length)) fr) hp:=.inr ⟨S,RC,c⟩;have q:=G.2 s (λk=>V (BL sel hp.length k)) I u.ok Z xc U xf;unfold Oper.wp;rw[xe];refine Calls.mono q λe N h=>?_;obtain⟨v,rfl,j,O,r,C,A,rfl,E,g⟩:=h;obtain⟨L,H,w,M,W,X,f⟩:=next r C A;replace M:L=r.ren (BL sel hp.length):=M;rw[AppR,Oe]at X;subst M;subst X;obtain⟨xd,o,y⟩:=StI.con (sel:=sel) (hpS:=hpS) T.get.1 T.get.2 (u.wipe _) xa xb g W;exact b _ _ _ f ⟨j,xd,rfl,o.put (GS.Le.refl j) (JJ d) (y r v E)⟩
theorem Cx{Y:TypeId}{t:Nat}(J:List Nat)(G:Con P vd R H l vy)(C:l.all (Nat.blt · J.length)=true)(E:AvoidR J (l.map (BL J b)) 0 hp)(v:Ik hp=some b)(p:KX (BL J b) H.length (AS.arg ⟨fr,hp⟩ x) vd [] [])
  (q:ArgsC hp (BL J b) H.length (AS.arg ⟨fr,hp⟩) vP R) (I:J.Nodup) (K:SelR (BL J b) hp H.length J H) (d:Nat.blt t n=true)
  (next:∀r A,vy r A->∃B F O,AVRen (BL J b) r B/\SetR (BL J b) hp J A F/\AppR (BL J b) F (Na J.length A) O/\AWl P s0 n ops Q rest ⟨(t,B)::wipe (l.map (BL J b)) fr,O⟩) :
  AWl P s0 n ops Q (⟨some t,.call { callee:=.value x,args:=vP.toArray,argTypes:=vt },Y,vF,vG,none⟩::rest) ⟨fr,hp⟩:=AWl.step rfl (A8C rfl J v p G C E q I K d next)
end
def gdD(t:Bool)(x:D):D:=⟨λs v=>(t=true->x.rel s v)/\(t=false->v=undef),λh G=>⟨λL=>x.st (h.1 L) G,h.2⟩⟩
variable{o:Bool}{r:D}
theorem A6l(h:o=true):D.le r (gdD o r):=λ_ _ q=>⟨λ_=>q,(λe=>by rw[h]at e;cases e)⟩
theorem A8q(h:o=false):D.le (ex undef) (gdD o r):=λ_ _ q=>⟨(λe=>by rw[h]at e;cases e),λ_=>q⟩
def Ovr(t:Bool)(h:List (Nat×AV))(l:List (Nat×AV)):Prop:=∀p∈l,∃x,p.2=.d x/\Ce h p.1=some (.d (gdD t x))
theorem Ovr.nil{t:Bool}:Ovr t vb []:=λp F=>by cases F
theorem Ovr.cons{t:Bool}{q l:List (Nat×AV)}{u:Nat}{x:D}(h:Ce q u=some (.d (gdD t x)))(a:Ovr t q l):Ovr t q ((u,.d x)::l):=λp F=>by
 rcases YaL.1 F with rfl | F
 .exact ⟨x,rfl,h⟩
 .exact a p F
variable{h:AV}{uA:List (Nat×AV)}
theorem YK(A:Ce (vb++uA) n=some h):(∃p∈vb,p.1=n/\p.2=h)\/Ce uA n=some h:=by
 induction vb with
 |nil=>exact .inr A
 |cons p vb u=>
  rw[Ycn,CX]at A;split at A
  .rename_i e
   exact .inl ⟨p,Ybk,e,Yag A⟩
  .rcases u A with⟨q,m,e⟩ | A
   .exact .inl ⟨q,Ybc _ m,e⟩
   .exact .inr A
theorem Ovr.sti{s0:An}{s:GS}(h:Ovr o vb uA)(L:o=true)(hst:StI s0 n ⟨vb,H⟩ vl s vh):StI s0 n ⟨uA++vb,H⟩ vl s vh:=⟨hst.le,hst.ok,λu G Q=>by
 rcases YK Q with⟨p,P,W,q⟩ | Q
 .obtain ⟨x,A,O⟩:=h p P
  rw[<-q,A];rw[W]at O;exact(hst.fr u _ O).1 L
 .exact hst.fr u G Q,hst.sz,hst.df,hst.hp,hst.sep,hst.own⟩
theorem Ovr.back(h:Ovr o vb uA)(L:o=true):AS.le ⟨(n,.d r)::(uA++vb),H⟩ ⟨(n,.d (gdD o r))::vb,H⟩:=λy q a w ⟨s,V,c,C⟩=>⟨s,V,c,⟨C.le,C.ok,λu G Q=>by
 rw[CX]at Q;split at Q
 .rename_i e
  cases Q;have A:=C.fr u (.d r) (by show Ce ((n,.d r)::(uA++vb)) u=_;rw[CX,Yao e]);exact A6l L _ _ A
 .rename_i e
  have R:∀uA:List (Nat×AV),Ce (uA++vb) u≠none:=λuA=>by
   induction uA with
   |nil=>rw[Ycy,Q];exact λh=>by cases h
   |cons p uA E=>
    rw[Ycn,CX];split
    .exact λh=>by cases h
    .exact E
  cases I:Ce (uA++vb) u with
  |none=>exact absurd I (R uA)
  |some f=>
   have A:=C.fr u f (by show Ce ((n,.d r)::(uA++vb)) u=_;rw[CX,Yaj e,I]);rcases YK I with⟨p,P,W,B⟩ | I
   .obtain ⟨x,F,O⟩:=h p P
    rw[W,Q]at O;cases O;rw[<-B,F]at A;exact A6l L _ _ A
   .rw [Q]at I
    cases I;exact A,C.sz,C.df,C.hp,C.sep,C.own⟩⟩
section
variable {P:Program} {s0:An} {n:Nat} {ops:Array Oper} {Q:Exit->AS->Prop} {rest:List Oper} {fr:List (Nat×AV)} {hp:List Ow} {ty:TypeId} {ps:String} {af:Array Edge}
variable{T:Nat}{uk:Op}
theorem GE{d:Nat}{q t g:Bool}(l:List (Nat×AV))(R:g=(t==q))(W:Ovr g fr l)(M:(ops[b]?).bind (·.dst)=some T)(I:Ce fr T=some (.d (eB t)))(N:Nat.blt T n=true)(A:BN uk=true)(B:Nat.blt d n=true)(m:g=true->Quiet P hp ⟨some d,uk,ty,ps,af,some (b,q)⟩ (AS.arg ⟨l++fr,hp⟩) (.d r))(h:AWl P s0 n ops Q rest ⟨(d,.d (gdD g r))::fr,hp⟩):AWl P s0 n ops Q (⟨some d,uk,ty,ps,af,some (b,q)⟩::rest) ⟨fr,hp⟩:=by
 cases O:g with
 |true=>
  have S:t=q:=by rw[O]at R;exact(YcI.1 R.symm)
  subst S;exact A00 (o:=⟨some d,uk,ty,ps,af,some (b,t)⟩) rfl M I (λs V a C K J=>Se (o:=⟨some d,uk,ty,ps,af,some (b,t)⟩) (n:=n) (σ:=⟨l++fr,hp⟩) A (show WL (some d) n=true from B) (m O) (Bi (W.back O) h) s V a (W.sti O C) K J) ZeJ
 |false=>
  have F:isB (.bool t) q=false:=by
   rw[O]at R;exact R.symm
  refine TC M I F N B (Bi ?_ h)
  exact λs0 n a w ⟨s,V,c,C⟩=>⟨s,V,c,⟨C.le,C.ok,λu G E=>by
   rw[CX]at E;split at E
   .rename_i L
    cases E;exact A8q O _ _ (C.fr u (.d (ex undef)) (by show Ce ((d,.d (ex undef))::fr) u=_;rw[CX,Yao L]))
   .rename_i L
    exact C.fr u G (by show Ce ((d,.d (ex undef))::fr) u=_;rw[CX,Yaj L];exact E),C.sz,C.df,C.hp,C.sep,C.own⟩⟩
theorem EJ{d:Nat}(m:o=true->Quiet P hp ⟨some d,uk,ty,ps,af,some (b,true)⟩ (AS.arg ⟨[]++fr,hp⟩) (.d r))(h:AWl P s0 n ops Q rest ⟨(d,.d (gdD o r))::fr,hp⟩)(M:(ops[b]?).bind (·.dst)=some T:=by exact rfl)(I:Ce fr T=some (.d (eB o)):=by exact rfl)(N:Nat.blt T n=true:=by exact rfl)(a:BN uk=true:=by exact rfl)(q:Nat.blt d n=true:=by exact rfl):AWl P s0 n ops Q (⟨some d,uk,ty,ps,af,some (b,true)⟩::rest) ⟨fr,hp⟩:=GE _ ZdO Ovr.nil M I N a q m h
variable{vv:D}
theorem CG{d:Nat}(A:Nat)(B:Ce fr A=some (.d (gdD o vv)))(m:o=true->Quiet P hp ⟨some d,uk,ty,ps,af,some (b,true)⟩ (AS.arg ⟨[(A,.d vv)]++fr,hp⟩) (.d r))(h:AWl P s0 n ops Q rest ⟨(d,.d (gdD o r))::fr,hp⟩)(M:(ops[b]?).bind (·.dst)=some T:=by exact rfl)(I:Ce fr T=some (.d (eB o)):=by exact rfl)(N:Nat.blt T n=true:=by exact rfl)(a:BN uk=true:=by exact rfl)(q:Nat.blt d n=true:=by exact rfl):AWl P s0 n ops Q (⟨some d,uk,ty,ps,af,some (b,true)⟩::rest) ⟨fr,hp⟩:=GE _ ZdO (Ovr.cons B Ovr.nil) M I N a q m h
variable{uq:D}
theorem Zu{d:Nat}(A:Nat)(C:Ce fr A=some (.d (gdD o vv)))(B:Nat)(E:Ce fr B=some (.d (gdD o uq)))(m:o=true->Quiet P hp ⟨some d,uk,ty,ps,af,some (b,true)⟩ (AS.arg ⟨[(A,.d vv),(B,.d uq)]++fr,hp⟩) (.d r))(h:AWl P s0 n ops Q rest ⟨(d,.d (gdD o r))::fr,hp⟩)(M:(ops[b]?).bind (·.dst)=some T:=by exact rfl)(I:Ce fr T=some (.d (eB o)):=by exact rfl)(N:Nat.blt T n=true:=by exact rfl)(a:BN uk=true:=by exact rfl)(q:Nat.blt d n=true:=by exact rfl):AWl P s0 n ops Q (⟨some d,uk,ty,ps,af,some (b,true)⟩::rest) ⟨fr,hp⟩:=GE _ ZdO (Ovr.cons C (Ovr.cons E Ovr.nil)) M I N a q m h
theorem Wu4{d:Nat}{u C X w:D}(A:Nat)(E:Ce fr A=some (.d (gdD o u)))(B:Nat)(G:Ce fr B=some (.d (gdD o C)))(f:Nat)(J:Ce fr f=some (.d (gdD o X)))(F:Nat)(K:Ce fr F=some (.d (gdD o w)))(m:o=true->Quiet P hp ⟨some d,uk,ty,ps,af,some (b,true)⟩ (AS.arg ⟨[(A,.d u),(B,.d C),(f,.d X),(F,.d w)]++fr,hp⟩) (.d r))(h:AWl P s0 n ops Q rest ⟨(d,.d (gdD o r))::fr,hp⟩)(M:(ops[b]?).bind (·.dst)=some T:=by exact rfl)(I:Ce fr T=some (.d (eB o)):=by exact rfl)(N:Nat.blt T n=true:=by exact rfl)(a:BN uk=true:=by exact rfl)(q:Nat.blt d n=true:=by exact rfl):AWl P s0 n ops Q (⟨some d,uk,ty,ps,af,some (b,true)⟩::rest) ⟨fr,hp⟩:=GE _ ZdO (Ovr.cons E (Ovr.cons G (Ovr.cons J (Ovr.cons K Ovr.nil)))) M I N a q m h
theorem Wv0{d:Nat}(m:(!o)=true->Quiet P hp ⟨some d,uk,ty,ps,af,some (b,false)⟩ (AS.arg ⟨[]++fr,hp⟩) (.d r))(h:AWl P s0 n ops Q rest ⟨(d,.d (gdD (!o) r))::fr,hp⟩)(M:(ops[b]?).bind (·.dst)=some T:=by exact rfl)(I:Ce fr T=some (.d (eB o)):=by exact rfl)(N:Nat.blt T n=true:=by exact rfl)(a:BN uk=true:=by exact rfl)(q:Nat.blt d n=true:=by exact rfl):AWl P s0 n ops Q (⟨some d,uk,ty,ps,af,some (b,false)⟩::rest) ⟨fr,hp⟩:=GE _ ZdO Ovr.nil M I N a q m h
theorem Wv1{d:Nat}(A:Nat)(B:Ce fr A=some (.d (gdD (!o) vv)))(m:(!o)=true->Quiet P hp ⟨some d,uk,ty,ps,af,some (b,false)⟩ (AS.arg ⟨[(A,.d vv)]++fr,hp⟩) (.d r))(h:AWl P s0 n ops Q rest ⟨(d,.d (gdD (!o) r))::fr,hp⟩)(M:(ops[b]?).bind (·.dst)=some T:=by exact rfl)(I:Ce fr T=some (.d (eB o)):=by exact rfl)(N:Nat.blt T n=true:=by exact rfl)(a:BN uk=true:=by exact rfl)(q:Nat.blt d n=true:=by exact rfl):AWl P s0 n ops Q (⟨some d,uk,ty,ps,af,some (b,false)⟩::rest) ⟨fr,hp⟩:=GE _ ZdO (Ovr.cons B Ovr.nil) M I N a q m h
theorem Wv2{d:Nat}(A:Nat)(C:Ce fr A=some (.d (gdD (!o) vv)))(B:Nat)(E:Ce fr B=some (.d (gdD (!o) uq)))(m:(!o)=true->Quiet P hp ⟨some d,uk,ty,ps,af,some (b,false)⟩ (AS.arg ⟨[(A,.d vv),(B,.d uq)]++fr,hp⟩) (.d r))(h:AWl P s0 n ops Q rest ⟨(d,.d (gdD (!o) r))::fr,hp⟩)(M:(ops[b]?).bind (·.dst)=some T:=by exact rfl)(I:Ce fr T=some (.d (eB o)):=by exact rfl)(N:Nat.blt T n=true:=by exact rfl)(a:BN uk=true:=by exact rfl)(q:Nat.blt d n=true:=by exact rfl):AWl P s0 n ops Q (⟨some d,uk,ty,ps,af,some (b,false)⟩::rest) ⟨fr,hp⟩:=GE _ ZdO (Ovr.cons C (Ovr.cons E Ovr.nil)) M I N a q m h
end
section
variable {P:Program} {hp:List Ow} {arg:Operand->AV} {dd:Option Tmp} {ty:TypeId} {ps:String} {af:Array Edge} {gd:Option (Nat×Bool)}
variable{uo:Bool}{y vT:Operand}
theorem OI(C:arg y=.d (gdD o (eB uo)))(M:arg vT=.d (eB false))(G:arg x=.d (eB o)):Quiet P hp ⟨dd,.pick x y vT,ty,ps,af,gd⟩ arg (.d (eB (o&&uo))):=by
 cases o with
 |false=>exact QG (o:=⟨dd,.pick x y vT,ty,ps,af,gd⟩) rfl M G
 |true=>
  refine⟨λbase s V i E v Z h=>?_⟩;have q:=h x ZcR;have A:=h y ZcR;rw[G]at q;rw[C]at A;have W:i x=.bool true:=q;have B:i y=.bool uo:=A.1 rfl;exact BW (v:=i y) (by simp[execOp,W,asBool]) ⟨GS.Le.refl s,by rw[B];rfl⟩
theorem OH(C:arg vT=.d (gdD (!o) (eB uo)))(M:arg y=.d (eB true))(G:arg x=.d (eB o)):Quiet P hp ⟨dd,.pick x y vT,ty,ps,af,gd⟩ arg (.d (eB (o||uo))):=by
 cases o with
 |true=>exact QF (o:=⟨dd,.pick x y vT,ty,ps,af,gd⟩) rfl M G
 |false=>
  refine⟨λbase s V i E v Z h=>?_⟩;have q:=h x ZcR;have A:=h vT ZcR;rw[G]at q;rw[C]at A;have W:i x=.bool false:=q;have B:i vT=.bool uo:=A.1 rfl;exact BW (v:=i vT) (by simp[execOp,W,asBool]) ⟨GS.Le.refl s,by rw[B];rfl⟩
theorem CR(C:arg y=.d (gdD o (eB uo)):=by first | exact ao rfl | exact ah rfl)(M:arg vT=.d (eB false):=by first | exact ao rfl | exact ah rfl)(G:arg x=.d (eB o):=by first | exact ao rfl | exact ah rfl):Quiet P hp ⟨dd,.pick x y vT,ty,ps,af,gd⟩ arg (.d (eB (o&&uo))):=OI C M G
theorem Ox(C:arg vT=.d (gdD (!o) (eB uo)):=by first | exact ao rfl | exact ah rfl)(M:arg y=.d (eB true):=by first | exact ao rfl | exact ah rfl)(G:arg x=.d (eB o):=by first | exact ao rfl | exact ah rfl):Quiet P hp ⟨dd,.pick x y vT,ty,ps,af,gd⟩ arg (.d (eB (o||uo))):=OH C M G
end
structure CutS{ι:Type}(f:ι->AS)(p:ι->Prop)(Q:Exit->AS->Prop)(e:Exit)(σ:AS):Prop where
 h:(e=.normal/\∃i,p i/\AS.le σ (f i))\/(e≠.normal/\Q e σ)
theorem CutS.normal{f:e->AS}{p:e->Prop}{Q:Exit->AS->Prop}{σ:AS}(i:e)(F:p i)(I:AS.le σ (f i)):CutS f p Q .normal σ:=⟨.inl ⟨rfl,i,F,I⟩⟩
theorem CutS.ret{f:e->AS}{p:e->Prop}{Q:Exit->AS->Prop}(h:Q .ret ve):CutS f p Q .ret ve:=⟨.inr ⟨by simp,h⟩⟩
variable{ud:Code}
theorem ZY{s0:An}(f:e->AS)(p:e->Prop)(run:AWp P s0 n vp (CutS f p vm) ve)(k:∀i,p i->AWp P s0 n ud vm (f i)):AWp P s0 n vp (AThen (AWp P s0 n ud vm) vm) ve:=⟨λa w C=>wp_mono (run.run a w C) λq Y N ⟨u,⟨A⟩,B⟩=>by
 rcases A with⟨rfl,i,J,I⟩ | ⟨hne,hQ⟩
 .exact ⟨u,⟨CT I (k i J)⟩,B⟩
 .refine ⟨u,?_,B⟩
  cases q with
  |normal=>exact absurd rfl hne
  |ret=>exact Dv hQ
  |exit i=>exact Bz hQ
  |_=>exact⟨hQ⟩⟩
theorem AWp.cutB{s0:An}(id:Nat)(f:e->AS)(p:e->Prop)(run:AWp P s0 n (.block id vp) (CutS f p vm) ve)(k:∀i,p i->AWp P s0 n ud vm (f i)):AWp P s0 n (.seq (.block id vp) ud) vm ve:=Ah (ZY f p run k)
theorem ZZ{s0:An}(id:Nat)(f:e->AS)(p:e->Prop)(run:AWp P s0 n (.block id vp) (CutS f p vm) ve)(k:∀i,p i->AWp P s0 n ud vm (f i)):AWp P s0 n (.block id vp) (AThen (AWp P s0 n ud vm) vm) ve:=ZY f p run k
def CellsLe(F:List Ow)(m:Nat):List AV->List AV->Prop
 |[],[]=>True
 |x::l,y::r=>AVle F m x y/\CellsLe F m l r
 |_,_=>False
theorem CellsLe.nil{hp:List Ow}{m:Nat}:CellsLe hp m [] []:=trivial
theorem CellsLe.cons{m:Nat}{x y:AV}{l r:List AV}(h:AVle H m x y)(a:CellsLe H m l r):CellsLe H m (x::l) (y::r):=⟨h,a⟩
theorem CellsLe.get{F:List Ow}{m:Nat}:∀{l r:List AV},CellsLe F m l r->l.length=r.length/\∀(k:Nat) y,r[k]? = some y->∃x,l[k]? = some x/\AVle F m x y
 |[],[],_=>⟨rfl,λk y h=>by cases h⟩
 |[],_::_,h=>h.elim
 |_::_,[],h=>h.elim
 |x::l,y::r,⟨q,A⟩=>by
  obtain⟨K,Q⟩:=CellsLe.get A;refine⟨by simp[K],λk z n=>?_⟩
  cases k with
  |zero=>cases n;exact⟨x,rfl,q⟩
  |succ k=>exact Q k z (by simpa using n)
theorem OwLe.cells{m T:Nat}{c l:List AV}(h:CellsLe H m c l):OwLe H m (.var T c) (.var T l):=OwLe.var h.get.1 h.get.2
def DsLe:List D->List D->Prop
 |[],[]=>True
 |x::l,y::r=>D.le x y/\DsLe l r
 |_,_=>False
theorem DsLe.nil:DsLe [] []:=trivial
theorem DsLe.cons{x y:D}{l r:List D}(h:D.le x y)(a:DsLe l r):DsLe (x::l) (y::r):=⟨h,a⟩
theorem DsLe.get:∀{l r:List D},DsLe l r->l.length=r.length/\∀k,k<l.length->D.le (Dd l k) (Dd r k)
 |[],[],_=>⟨rfl,λk h=>absurd h ZbR⟩
 |[],_::_,h=>h.elim
 |_::_,[],h=>h.elim
 |x::l,y::r,⟨q,A⟩=>by
  obtain⟨K,Q⟩:=DsLe.get A;refine⟨by simp[K],λk B=>?_⟩
  cases k with
  |zero=>exact q
  |succ k=>exact Q k ZcZ
theorem Ch {l r : List D} (h : DsLe l r) : D.le (AP l) (AP r) := fun s v ⟨f, q, A, K⟩ => ⟨f, q, by rw [A, h.get.1], fun k B => by
 rw[<-h.get.1]at B;obtain⟨u,Q,C,E⟩:=K k B;exact⟨u,Q,C,h.get.2 k B s u E⟩⟩
theorem ConP.con(h:ConP P vd R H vy vU vJ)(B:¬vJ):Con P vd R H [] vy:=
 ⟨h.1,λs V J q A K Q k=>(h.2 s V J q A K Q k).mono λe N n=>n.elim (λh=>h) λ⟨_,h,_⟩=>absurd h B⟩
def Zh(L:List Oper)(z:List (List (Nat×Nat)))(I:List AV)(w:List (Nat×AV))(n:Nat):Bool:=
 Nat.beq L.length z.length&&Nat.beq L.length I.length&&(w.all λp=>L.all λx=>x.dst != some p.1) &&
 (List.range L.length).all λi=>match L[i]?,z[i]? with
  |some o,some e=>BN o.op&&o.guard.isNone&&((Bw o).all λk=>decide (k<i))&&(e.all λp=>(Bw o).contains p.2&&(match L[p.2]? with |some x=>x.dst==some p.1 |none=>false)) &&
   (match o.dst with | none=>false | some d=>decide (d<n)&&((List.range L.length).all λj=>j==i||(match L[j]? with | some x=>x.dst != some d | none=>true)))&&o.op.operands.all (Qk L e)
  |_,_=>false
structure ChkD(L:List Oper)(n:Nat)(i:Nat)(o:Oper)(e:List (Nat×Nat))(d:Nat):Prop where
 ns:BN o.op=true
 gd:o.guard=none
 lt:∀k∈Bw o,k<i
 env:∀p∈e,p.2∈Bw o/\∃o',L[p.2]? = some o'/\o'.dst=some p.1
 dst:o.dst=some d
 dn:d<n
 du:∀(j:Nat) o',L[j]? = some o'->o'.dst=some d->j=i
 kq:∀y∈o.op.operands,Qk L e y=true
theorem A8E{L:List Oper}(h:Zh L uH R vb n=true):L.length=R.length/\(∀p∈vb,∀x∈L,x.dst≠some p.1)/\∀(i:Nat) o,L[i]? = some o->∃e r d,uH[i]? = some e/\R[i]? = some r/\ChkD L n i o e d:=by
 unfold Zh at h;simp only[Yam]at h;obtain⟨⟨⟨q,A⟩,K⟩,E⟩:=h;have A:=Yan A;refine⟨A,λp F x N=>by simpa using Yah.1 (Yah.1 K p F) x N,λi o s=>?_⟩;have J:=(Yae.1 s).1;have G:=Yah.1 E i (Ybd.2 J);rw[s]at G
 cases b:uH[i]? with
 |none=>rw[b]at G;cases G
 |some e=>
  rw[b]at G;simp only[Yam]at G;obtain⟨⟨⟨⟨⟨t,Q⟩,m⟩,S⟩,v⟩,T⟩:=G
  cases C:o.dst with
  |none=>rw[C]at v;cases v
  |some d=>
   rw[C]at v;simp only[Yam,YaZ]at v;refine⟨e,R[i]'(ZbC),d,rfl,Yab _,t,by simpa using Q,λk B=>by simpa using Yah.1 m k B,λp F=>?_,C,v.1,λj x N O=>?_,λy M=>(Yeu.1 T) y M⟩
   .have:=Yah.1 S p F
    simp only[Yam]at this;refine⟨by simpa using this.1,?_⟩;have A:=this.2
    cases I:L[p.2]? with
    |none=>rw[I]at A;cases A
    |some x=>rw[I]at A;exact⟨x,rfl,by simpa using A⟩
   .have:=Yah.1 v.2 j (Ybd.2 (Yae.1 N).1)
    rw[N]at this;simpa[O]using this
def EY(F:List Ow)(id:Nat)(Y f:Ow)(b:Bool):List Ow:=F.set id (bif b then f else Y)
def A32(P:Program)(w:List (Nat×AV))(F:List Ow)(id:Nat)(Y f:Ow)(I:List AV)(z:List (Nat×Nat))(o:Oper)(r:AV):Prop:=∀b,Quiet P (EY F id Y f b) o (DN ⟨w,EY F id Y f b⟩ (I.map HR.av) z) r
def DCall(P:Program)(w:List (Nat×AV))(F:List Ow)(id:Nat)(Y B:Ow)(I:List AV)(z:List (Nat×Nat))(o:Oper)(r:AV):Prop:=∃f x C d,o.op=.call { callee:=.value (.func f),args:=#[x],argTypes:=C }/\r=.d d/\(∀b,DN ⟨w,EY F id Y B b⟩ (I.map HR.av) z x=.ptr id 0)/\Con P f [.ptr 0 0] [Y] [] (λA q=>A=.d d/\q=[B])
def DSteps(P:Program)(w:List (Nat×AV))(F:List Ow)(id:Nat)(Y f:Ow)(I:List AV)(c:Nat)(C:List (Nat×Nat)->Oper->AV->Prop):Nat->List Oper->List (List (Nat×Nat))->List AV->Prop
 |i,o::L,x::S,r::R=>(bif Nat.beq i c then C x o r else A32 P w F id Y f I x o r)/\DSteps P w F id Y f I c C (i+1) L S R
 |_,[],[],[]=>True
 |_,_,_,_=>False
theorem DSteps.at{P:Program}{w:List (Nat×AV)}{hp:List Ow}{id:Nat}{Y f:Ow}{I:List AV}{c:Nat}{C:List (Nat×Nat)->Oper->AV->Prop}:∀{L:List Oper} {S:List (List (Nat×Nat))} {R:List AV} {j:Nat},DSteps P w hp id Y f I c C j L S R->∀(i:Nat) o x r,L[i]? = some o->S[i]? = some x->R[i]? = some r->(bif Nat.beq (j+i) c then C x o r else A32 P w hp id Y f I x o r)
 |[],[],[],_,_,i,o,x,c,h,_,_=>by simp at h
 |[],[],_::_,_,h,_,_,_,_,_,_,_=>h.elim
 |[],_::_,R,_,h,_,_,_,_,_,_,_=>by cases R<;>exact h.elim
 |_::_,[],R,_,h,_,_,_,_,_,_,_=>by cases R<;>exact h.elim
 |_::_,_::_,[],_,h,_,_,_,_,_,_,_=>h.elim
 |E::L,N::S,l::R,j,⟨q,A⟩,0,o,x,c,s,B,G=>by
  simp at s B G;subst s;subst B;subst G;exact q
 |E::L,N::S,l::R,j,⟨q,A⟩,i+1,o,x,c,s,B,G=>by
  have:=DSteps.at A i o x c ZdQ ZcZ (by simpa using G);exact Zkp
def QQ:List Oper->List AV->List (Nat×AV)->List (Nat×AV)
 |o::L,r::I,h=>match o.dst with |some d=>(d,r)::QQ L I h |none=>QQ L I h
 |_,_,h=>h
theorem YU{p:Nat×AV}:∀{L:List Oper} {I:List AV} {A:List (Nat×AV)},p∈QQ L I A->p∈A\/∃(i:Nat) (o:Oper),L[i]? = some o/\I[i]? = some p.2/\o.dst=some p.1
 |[],_,A,h=>.inl (by unfold QQ at h;exact h)
 |o::L,[],A,h=>.inl (by unfold QQ at h;exact h)
 |o::L,c::I,A,h=>by
  have key:p∈QQ L I A->p∈A\/∃(i:Nat) (x:Oper),(o::L)[i]? = some x/\(c::I)[i]? = some p.2/\x.dst=some p.1:=λh=>by
   rcases YU h with h | ⟨i,x,h1,h2,h3⟩
   .exact .inl h
   .exact .inr ⟨i+1,x,by simpa using h1,by simpa using h2,h3⟩
  unfold QQ at h;split at h
  .rename_i d q
   rcases YaL.1 h with rfl | h
   .exact .inr ⟨0,o,rfl,rfl,q⟩
   .exact key h
  .exact key h
theorem Jr(F:List Ow)(id:Nat)(Y f:Ow)(b:Bool):(EY F id Y f b).length=F.length:=by simp[EY]
def DCallP(P:Program)(w:List (Nat×AV))(F:List Ow)(id:Nat)(Y:Ow)(I:List AV)(A:AV->List Ow->Prop)(d:List PanicEntry)(N:Prop)(z:List (Nat×Nat))(o:Oper)(_:AV):Prop:=∃f x q,o.op=.call { callee:=.value (.func f),args:=#[x],argTypes:=q }/\(∀b,DN ⟨w,EY F id Y Y b⟩ (I.map HR.av) z x=.ptr id 0)/\ConP P f [.ptr 0 0] [Y] A d N
def MZ(L:List Oper):List Nat->List Nat->Bool
 |_,[]=>true
 |seen,k::r=>(seen.any λj=>match L[j]? with |some o=>(Bw o).contains k |none=>false)&&MZ L (k::seen) r
theorem Mo{L:List Oper}{f:Nat->Bool}:∀{E seen:List Nat},MZ L seen E=true->(∀i o,L[i]? = some o->f i=true->∀e∈Bw o,f e=true)->(∀k∈seen,∀o,L[k]? = some o->∀e∈Bw o,f e=true)->∀k∈E,f k=true
 |[],_,_,_,_,k,B=>by cases B
 |k::r,seen,h,G,a,b,F=>by
  unfold MZ at h;simp only[Yam]at h;obtain⟨j,X,A⟩:=YbF.1 h.1
  have l:f k=true:=by
   cases C:L[j]? with
   |none=>rw[C]at A;cases A
   |some o=>
    rw[C]at A;exact a j X o C k ZdE
  rcases YaL.1 F with rfl | F
  .exact l
  .exact Mo h.2 G (λq m o s=>by
    rcases YaL.1 m with rfl | m
    .exact G q o s l
    .exact a q m o s) b F
section
variable {P:Program} {frB:List (Nat×AV)} {hp:List Ow} {id:Nat} {o0 o1:Ow} {ks:List AV} {c i:Nat} {C:List (Nat×Nat)->Oper->AV->Prop} {L:List Oper} {x:List (Nat×Nat)} {S:List (List (Nat×Nat))} {r:AV} {R:List AV} {o:Oper}
theorem DSteps.q(g:Nat.beq i c=false)(h:A32 P frB hp id o0 o1 ks x o r)(a:DSteps P frB hp id o0 o1 ks c C (i+1) L S R):DSteps P frB hp id o0 o1 ks c C i (o::L) (x::S) (r::R):=⟨by rw[g];exact h,a⟩
theorem DSteps.k(g:Nat.beq i c=true)(h:C x o r)(a:DSteps P frB hp id o0 o1 ks c C (i+1) L S R):DSteps P frB hp id o0 o1 ks c C i (o::L) (x::S) (r::R):=⟨by rw[g];exact h,a⟩
theorem DSteps.nil:DSteps P frB hp id o0 o1 ks c C i [] [] []:=trivial
variable {dd:Option Tmp} {ty:TypeId} {ps:String} {af:Array Edge} {gd:Option (Nat×Bool)} {f:FuncId} {y:Operand} {tys:Array TypeId} {es:List (Nat×Nat)}
theorem DCall.mk{d:D}(q:∀b,DN ⟨frB,EY hp id o0 o1 b⟩ (ks.map HR.av) es y=.ptr id 0)(G:Con P f [.ptr 0 0] [o0] [] (λB A=>B=.d d/\A=[o1])):DCall P frB hp id o0 o1 ks es ⟨dd,.call { callee:=.value (.func f),args:=#[y],argTypes:=tys },ty,ps,af,gd⟩ (.d d):=⟨f,y,tys,d,rfl,rfl,q,G⟩
theorem DCallP.mk(q:∀b,DN ⟨frB,EY hp id o0 o0 b⟩ (ks.map HR.av) es y=.ptr id 0)(G:ConP P f [.ptr 0 0] [o0] vy vU vJ):DCallP P frB hp id o0 ks vy vU vJ es ⟨dd,.call { callee:=.value (.func f),args:=#[y],argTypes:=tys },ty,ps,af,gd⟩ r:=⟨f,y,tys,rfl,q,G⟩
end
def DTurn(P:Program)(s0:An)(n:Nat)(w:List (Nat×AV))(q:List Ow)(id:Nat)(Y f:Ow)(I:List AV)(A:List Nat)(c:Nat)(z:List (Nat×Nat))(o:Oper)(r:AV):Prop:=∀F:List (Nat×AV),(∀p∈F,(∃i,i≠c/\i∉A/\I[i]? = some p.2)\/p∈w)->∀(s:GS) (V:Nat->Value) (a:Act),StI s0 n ⟨F,EY q id Y f false⟩ a s V->(∀y∈o.op.operands,AVr q.length V s (DN ⟨w,EY q id Y f false⟩ (I.map HR.av) z y) (a.eval y))->RegG.OpStep P o a.eval s λv j=>∃R,StI s0 n ⟨F,EY q id Y f true⟩ a j R/\AVr q.length R j r v
def A0a(V:List Nat):Nat->List AV->List AV
 |_,[]=>[]
 |i,r::I=>(bif V.any (Nat.beq i)then .d Cs else r)::A0a V (i+1) I
def ckK(V:List Nat)(I:List AV):List CK:=I.mapIdx λi r=>if i∈V then .t 0 else .q r
theorem A2Q{r:AV}:(ckK l R)[n]? = some (.q r)↔n∉l/\R[n]? = some r:=by
 unfold ckK;rw[List.getElem?_mapIdx]
 cases R[n]? with
 |none=>simp
 |some x=>
  simp only[Ydd,YcS];by_cases h:n∈l
  .simp [h]
  .simp [h]
