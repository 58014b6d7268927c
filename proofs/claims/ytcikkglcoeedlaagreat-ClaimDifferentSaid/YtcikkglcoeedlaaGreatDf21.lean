/- Part 21. No condition. -/
import Derived.Test.YtcikkglcoeedlaaGreatDf3
import Derived.Test.YtcikkglcoeedlaaGreatDf18
import Derived.Test.YtcikkglcoeedlaaGreatDf19
import Derived.Test.YtcikkglcoeedlaaGreatDf20
set_option linter.unusedSimpArgs false
set_option linter.unusedVariables false
set_option maxRecDepth 100000
namespace Go.Proofs.YtcikkglcoeedlaaGreat
open _root_.Go.Proofs.Tryz
variable{vf:AS}{vy:AV->List Ow->Prop}{vM:Array Bool}{vs:Array TypeId}{vl:Exit->AS->Prop}{ve:FuncId}{vm ud:List (List D)}{vc:List (Nat×AV)}{vw:List (Nat×Nat)}{ue:List (Nat×Operand)}{R:List AV}{vd:List Oper}{H vA uQ:List Ow}{b T vk:Nat}{vX uZ:Nat->Bool}{vi:Nat->Value}{va:Oper}{x y vS:Operand}{vt uE:Ow}{P:Program}{vI xe:Prop}{e:Type}{d:TypeDesc}{t U:TypeId}{z u:Value}{uj:e->List Nat}
section
open Go.RowKit
theorem DSteps.imp{P:Program}{u:List (Nat×AV)}{G:List Ow}{id:Nat}{V e:Ow}{B:List AV}{c:Nat}{C b:List (Nat×Nat)->Oper->AV->Prop}(h:∀x o r,C x o r->b x o r):∀{L:List Oper} {S:List (List (Nat×Nat))} {R:List AV} {j:Nat},DSteps P u G id V e B c C j L S R->DSteps P u G id V e B c b j L S R
 |[],[],[],_,_=>trivial
 |[],[],_::_,_,h=>h.elim
 |[],_::_,R,_,h=>by cases R<;>exact h.elim
 |_::_,[],R,_,h=>by cases R<;>exact h.elim
 |_::_,_::_,[],_,h=>h.elim
 |t::L,F::S,k::R,j,⟨q,A⟩=>⟨by
  cases E:Nat.beq j c with
  |true=>rw[E]at q;exact h _ _ _ q
  |false=>rw[E]at q;exact q,DSteps.imp h A⟩
def DTW(P:Program)(s0:An)(n:Nat)(Q:Exit->AS->Prop)(E:Prop)(u:List (Nat×AV))(G:List Ow)(id:Nat)(V e:Ow)(A:List AV)(M:List Nat)(c:Nat)(q:List (Nat×Nat))(o:Oper)(r:AV):Prop:=BO o.op=true->∀F:List (Nat×AV),(∀p∈F,(∃i,i≠c/\i∉M/\A[i]? = some p.2)\/p∈u)->∀(s:GS) (X:Nat->Value) (a:Act),StI s0 n ⟨F,EU G id V e false⟩ a s X->(∀y∈o.op.operands,AVr G.length X s (DT ⟨u,EU G id V e false⟩ (A.map HR.av) q y) (a.eval y))->∀R:Act->World->Prop,(∀v j H,E->StI s0 n ⟨F,EU G id V e true⟩ a j H->AVr G.length H j r v->R (a.put o.dst v) j.w)->o.wp P a s.w R (GG s0 n Q)
theorem TT{c:Nat}{f:Nat->Bool}(B:f c=true){M:List Nat}:∀{i:Nat} {G:List AV},HZ f (M.map λj=>(j,c)) i G=ZN M i G
 |_,[]=>rfl
 |i,r::G=>by
  have e:(M.map λj=>(j,c)).any (λp=>Nat.beq p.1 i&&f p.2)=M.any (Nat.beq i):=by
   rw[List.any_map,YcJ,YbI,YbI];simp only[Function.comp,B,Bool.and_true];exact⟨λ⟨x,q,A⟩=>⟨x,q,by rw[Yao A];exact YcU i⟩,λ⟨x,q,A⟩=>⟨x,q,by rw[Yao A];exact YcU x⟩⟩
  unfold HZ ZN;rw[e,TT B]
theorem A1J{f:Nat->Bool}(h:∀q∈vw,f q.2=false):HZ f vw 0 R=R:=Ycd λj=>LE λq k _=>h q k
theorem A6d{f:Nat->Bool}{x:List (Nat×Nat)}(h:∀p∈x,∀q∈vw,q.1≠p.2):DT vf ((HZ f vw 0 R).map HR.av) x=DT vf (R.map HR.av) x:=funext λy=>by
 cases y with
 |tmp t=>
  show(match x.find? (λp=>p.1==t)with
   |some p=>match ((HZ f vw 0 R).map HR.av)[p.2]? with
    |some h=>h.val
    |none=>.d CC
   |none=>(Ch vf.fr t).getD (.d CC))=(match x.find? (λp=>p.1==t)with
   |some p=>match (R.map HR.av)[p.2]? with
    |some h=>h.val
    |none=>.d CC
   |none=>(Ch vf.fr t).getD (.d CC))
  cases C:x.find? (λp=>p.1==t)with
  |none=>rfl
  |some p=>
   dsimp only
   rw[Yau,Yau,LE λq k e=>absurd e (h p (Ybt C) q k)]
 |_=>rfl
theorem LF(f:Nat->Bool)(i:Nat):GE f i i=true:=by
 unfold GE;rw[YcU];rfl
theorem Nf{f:Nat->Bool}{i c:Nat}(h:i≠c):GE f i c=f c:=by
 unfold GE
 cases E:Nat.beq c i with
 |true=>exact absurd (Yao E).symm h
 |false=>rfl
theorem MY{E:Prop}{s0:An}{n:Nat}{L0:Array Oper}(id:Nat)(o0 o1:Ow)(c m:Nat)(xe xb:List Nat)(w:List AV)(N:List (List (Nat×Nat)))(U F:List (Nat×AV))(O:DrawOk P s0 n b L0 vd vl vl)(xd:H[id]? = some o0)(xi:FrIn vc U)(xc:Nat.blt c m=true)(T:Nat.blt m vd.length=true)(xl:E->((List.range (vd.length-m)).all λt=>(match vd[m+t]? with | some o=>Bz o | none=>[]).all λk=>decide (k<m+t))=true)(xm:((List.range (vd.length-m-1)).all λt=>(match vd[m+t+1]? with | some o=>Bz o | none=>[]).contains (m+t))=true)(xj:(Mx vd [m] xe&&(List.range m).all λj=>xe.contains j)=true)
  (steps:DSteps P U H id o0 o1 w c (DTW P s0 n vl E U H id o0 o1 w xb c) 0 (vd.take m) N w) (g:YK (vd.take m) N w U n=true) (xg:(N.zipIdx.all λp=>Nat.beq p.2 c||p.1.all λq=>!xb.contains q.2)=true) (hF:FrIn (Qt (vd.take m) (ZN xb 0 w) U) F) (M:List Ow) (hM:EU H id o0 o1 true=M) (fin:E->AWl P s0 n vd.toArray vl (vd.drop m) ⟨F,M⟩):AWp P s0 n (.region b L0 true) vl ⟨vc,H⟩:=by
 subst hM;have xk:Nat.blt c m=true:=xc
 refine PJ (fun f => f c = true → E) m xe (fun f => EU H id o0 o1 (f c)) (xb.map fun j => (j, c)) w N U F O xi T (fun h => by cases h) (Xz xd) (fun f => Jh H id o0 o1 _) (fun h => xl (h xk)) xm xj (fun i o x r L C V => ?_) g (by rw [TT (f := fun k => Nat.blt k m) xk]; exact hF) (fun h => by
  have:=fin (h xk);rw[<-xk]at this;exact this)
 have Z:=steps.at i o x r L C V;rw[YaG]at Z;by_cases xh:i=c
 .subst xh
  rw[YcU]at Z;intro xf f G y F' xn s X a Y l R d;have Z:DTW P s0 n vl E U H id o0 o1 w xb i x o r:=Z
  have z:HZ f (xb.map λj=>(j,i)) 0 w=w:=A1J λq J=>by
   obtain⟨j,_,rfl⟩:=YaA.1 J;exact G.no
  dsimp only at Y l d
  rw[G.no]at Y;rw[z,G.no,Jh]at l;rw[LF,G.no,Jh]at d
  exact Z xf F' (fun p S => (xn p S).imp (fun ⟨j, A, B, K⟩ => ⟨j, (fun e => by rw [e, G.no] at A; cases A), (fun O => by
   have:=B (j,i) (YaA.2 ⟨j,O,rfl⟩) rfl;rw[LF]at this;cases this),K⟩) λh=>h) s X a Y l R λv I xa Q A B=>d v I xa (λ_=>Q) A B
 .rw [show Nat.beq i c=false from YdH.2 λh=>xh (Yao h)]at Z
  have Z:A2D P U H id o0 o1 w x o r:=Z;refine XStep.q (λf _ h=>by rwa [Nf xh]) (λf=>by rw[Nf xh]) λf _=>?_;rw[A6d λp S q J=>?_]
  .exact Z (f c)
  .obtain ⟨j,W,rfl⟩:=YaA.1 J
   intro e;have u:=Yaj.1 xg (x,i) (by rw[YbN];exact C);simp only[YaZ]at u;rcases u with u | u
   .exact xh (Yao u)
   .have:=Yaj.1 u p S
    replace e:j=p.2:=e;rw[e]at W;simp[W]at this
theorem FH{s0:An}{n:Nat}(id:Nat)(V e:Ow)(c m:Nat)(S N:List Nat)(J:List AV)(E:List (List (Nat×Nat)))(u F:List (Nat×AV))(x:P.follows .mixedOrders=true)(Q:H[id]? = some V)(Y:FrIn vc u)(O:Nat.blt c m=true)(K:Nat.blt m vd.length=true)(g:((List.range (vd.length-m)).all λt=>(match vd[m+t]? with | some o=>Bz o | none=>[]).all λk=>decide (k<m+t))=true)(i:((List.range (vd.length-m-1)).all λt=>(match vd[m+t+1]? with | some o=>Bz o | none=>[]).contains (m+t))=true)(f:(Mx vd [m] S&&(List.range m).all λj=>S.contains j)=true)
  (steps:DSteps P u H id V e J c (DTurn P s0 n u H id V e J N c) 0 (vd.take m) E J) (I:YK (vd.take m) E J u n=true) (r:(E.zipIdx.all λp=>Nat.beq p.2 c||p.1.all λq=>!N.contains q.2)=true) (hF:FrIn (Qt (vd.take m) (ZN N 0 J) u) F) (M:List Ow) (d:EU H id V e true=M) (fin:AWl P s0 n vd.toArray vl (vd.drop m) ⟨F,M⟩):AWp P s0 n (.region b vd.toArray true) vl ⟨vc,H⟩:=MY (E:=True) id V e c m S N J E u F (GD x) Q Y O K (λ_=>g) i f (steps.imp λ_ _ _ h W F hF s X a Z l _ G=>RegG.opStep_wp W (λ_ _=>rfl) (h F hF s X a Z l) λv C ⟨L,A,B⟩=>G v C L trivial A B) I r hF M d λ_=>fin
theorem Xi:∀(i:Nat) (G:List AV),ZN [] i G=G
 |_,[]=>rfl
 |i,r::G=>by
  unfold ZN;rw[Xi];rfl
theorem Con.toP{ch:List PanicEntry}(h:Con P ve R H [] vy):ConP P ve R H vy ch False:=⟨h.1,λs X J q A K Y n=>Calls.mono (h.2 s X J q A K Y n) λ_ _ ⟨v,e,r⟩=>.inl ⟨v,e,r⟩⟩
theorem Zz{s0:An}{n:Nat}{E:Prop}{r:AV}{ch:List PanicEntry}(g:H[b]? = some vt)(xh:(∀e,vt.ren e=vt)/\(∀e,uE.ren e=uE)/\vt.below 1)(S:va.op=.call { callee:=.value (.func ve),args:=#[x],argTypes:=vs })(xr:∀A,DT ⟨vc,EU H b vt uE A⟩ (R.map HR.av) vw x=.ptr b 0)(xm:ConP P ve [.ptr 0 0] [vt] vy ch xe)(xs:∀l L,vy l L->E/\l=r/\L=[uE]/\∃d,r=.d d)(xo:xe->∀c,vl (.panic ch) c):DTW P s0 n vl E vc H b vt uE R [] T vw va r:=λxb F hF X s a xg xk J O=>by
 have z:b<H.length:=Cs g;have xl:∀A,(EU H b vt uE A).length=H.length:=Jh H b vt uE;have xj:(EU H b vt uE false)[b]? = some vt:=by simp[EU,z]
 have C:=xk x (by rw[S];simp[Op.operands,Call.operands]);rw[xr false]at C;obtain⟨_,bb,xa,xd⟩:=C;let mm:=(EU H b vt uE false).length;let xn:Nat->Value:=λq=>s (BM [b] mm q);have U:OwR 0 (EU H b vt uE false).length s X b vt:=xg.hp b vt xj
 have xq:=xm.2 X xn [a.eval x] xg.ok (λq t I=>by
  cases q with
  |zero=>
   cases I;exact OwR.un (e:=BM [b] mm) (by rw[xh.1];exact U) xh.2.2 YcI λ_ _=>rfl
  |succ q=>cases I) (λp q uE u xp xi m=>by
  have:=Cs xi;have:=Cs m;simp only[Ycu]at *;omega) rfl (λq V I=>by
  match q,I with
  |0,I=>cases I;exact⟨YcI,bb,xa,xd⟩
  |q+1,I=>simp at I)
 have Z:(execOp a.eval va).run P X.w=.ok (.enter ve #[a.eval x]) X.w:=by
  have G:a.eval (.func ve)=.func (.func ve) #[] #[]:=rfl;simp[execOp,S,resolve,G,Deferred.ofValue,invoke,xm.1]
 unfold Oper.wp;rw[Z];refine Calls.mono xq λe M h=>?_;rcases h with⟨v,rfl,j,W,l,L,K,N,f,y⟩ | ⟨rfl,hN,j,rfl,f⟩
 .obtain ⟨Q,rfl,rfl,d,rfl⟩:=xs _ _ K
  subst N;obtain⟨w,o,-⟩:=StI.con (sel:=[b]) (lost:=[]) (hpS:=[vt]) (hp':=[uE]) (H1:=(EU H b vt uE false).set b uE) ⟨λp L=>AV.avoid_nil _,λi t xf Y=>Ow.avoid_nil _⟩ (λk B=>by cases B) xg ZbV ⟨by rw[xh.1];exact xj,xh.2.2,trivial⟩ y (by show(EU H b vt uE false).set b (uE.ren _)=_;rw[xh.2.1]);have xc:(EU H b vt uE false).set b uE=EU H b vt uE true:=by simp[EU]
  simp only[Ycu,Ybf,List.drop_nil,YaP,Ycj,YbC,xc]at o;exact O v j w Q o f
 .obtain ⟨w, o, -⟩:=StI.con (sel:=[b]) (lost:=[]) (hpS:=[vt]) (hp':=[.dead]) (H1:=(EU H b vt uE false).set b .dead) ⟨λp L=>AV.avoid_nil _, λi t xf Y=>Ow.avoid_nil _⟩ (λk B=>by cases B) xg ZbV ⟨by rw [xh.1]; exact xj, xh.2.2, trivial⟩ f rfl
  exact⟨_,xo hN _,j,w,rfl,o⟩
theorem Na{s0:An}{n:Nat}(id:Nat)(J L:Ow)(c m:Nat)(Q:List Nat)(G:List AV)(q:List (List (Nat×Nat)))(u F:List (Nat×AV))(A:P.follows .mixedOrders=true)(a:H[id]? = some J)(i:(∀e,J.ren e=J)/\(∀e,L.ren e=L)/\J.below 1)(S:FrIn vc u)(N:Nat.blt c m=true)(I:Nat.beq vd.length (m+1)=true)(Y:((match vd[m]? with | some o=>Bz o | none=>[]).all λk=>decide (k<m))=true)(W:(Mx vd [m] Q&&(List.range m).all λj=>Q.contains j)=true)
  (steps:DSteps P u H id J L G c (DCall P u H id J L G) 0 (vd.take m) q G) (C:YK (vd.take m) q G u n=true) (hF:FrIn (Qt (vd.take m) G u) F) (M:List Ow) (K:EU H id J L true=M) (fin:AWl P s0 n vd.toArray vl (vd.drop m) ⟨F,M⟩):AWp P s0 n (.region b vd.toArray true) vl ⟨vc,H⟩:=MY (E:=True) id J L c m Q [] G q u F (GD A) a S N (by rw[Ybh,Yao I];omega) (λ_=>by rw[Yao I,show m+1-m=1 by omega];simpa using Y) (by rw[Yao I,show m+1-m-1=0 by omega];rfl) W (steps.imp λ_ _ _ ⟨f,x,O,d,E,V,Z,X⟩=>Zz (ch:=[]) a i E Z X.toP (λl B h=>⟨trivial,h.1.trans V.symm,h.2,d,V⟩) λh=>h.elim) C ZbV (by rw[Xi];exact hF) M K λ_=>fin
theorem MZ{s0:An}{n:Nat}{R:List PanicEntry}(id:Nat)(V:Ow)(c m:Nat)(J:List Nat)(G:List AV)(o:List (List (Nat×Nat)))(u:List (Nat×AV))(A:P.follows .mixedOrders=true)(a:H[id]? = some V)(i:(∀e,V.ren e=V)/\V.below 1)(K:FrIn vc u)(I:Nat.blt c m=true)(F:Nat.beq vd.length (m+1)=true)(L:(Mx vd [m] J&&(List.range m).all λj=>J.contains j)=true)
  (steps:DSteps P u H id V V G c (DCallP P u H id V G vy R vI) 0 (vd.take m) o G) (C:YK (vd.take m) o G u n=true) (Q:∀r B,¬vy r B) (N:vI->∀q,vl (.panic R) q):AWp P s0 n (.region b vd.toArray true) vl ⟨vc,H⟩:=MY (E:=False) id V V c m J [] G o u [] (GD A) a K I (by rw[Ybh,Yao F];omega) (λh=>h.elim) (by rw[Yao F,show m+1-m-1=0 by omega];rfl) L (steps.imp λ_ _ _ ⟨f,x,k,E,O,M⟩=>Zz a ⟨i.1,i.1,i.2⟩ E O M (λl B h=>absurd h (Q _ _)) N) C ZbV trivial _ rfl λh=>h.elim
inductive HY
 |av (r:AV)
 |new (T:TypeId) (cs:List Value)
 |newS (T:TypeId) (k:Nat) (ds:List D)
 |st (j:Nat)
def HY.hr:HY->HR
 |.av r=>.av r
 |_=>.av (.d CC)
def HYStep(P:Program)(c:AS)(rs:List HY)(q:List (Nat×Nat))(i:Nat)(o:Oper):HY->Prop
 |.av r=>o.guard=none/\Quiet P c.hp o (DT c (rs.map HY.hr) q) r
 |.new T f=>HStep P c [] q o (.new T f)
 |.newS T k S=>(∃f,HStep P c [] q o (.new T f)/\f.length=S.length)/\rs[k]? = some (.st i)
 |.st j=>o.guard=none/\o.dst=none/\∃T x y A S d b z,o.op=.store T (.tmp x) y/\(x,j)∈q/\rs[j]? = some (.newS A i S)/\DT c (rs.map HY.hr) q y=.d (AQ S)/\Tab P T d S.length b z
def HYSteps(P:Program)(c:AS)(rs:List HY):Nat->List Oper->List (List (Nat×Nat))->List HY->Prop
 |i,o::L,x::S,r::T=>HYStep P c rs x i o r/\HYSteps P c rs (i+1) L S T
 |_,[],[],[]=>True
 |_,_,_,_=>False
theorem HYSteps.at{P:Program}{σ:AS}{rs:List HY}:∀{L:List Oper} {S:List (List (Nat×Nat))} {T:List HY} {i:Nat},HYSteps P σ rs i L S T->L.length=S.length/\L.length=T.length/\∀(k:Nat) o x r,L[k]? = some o->S[k]? = some x->T[k]? = some r->HYStep P σ rs x (i+k) o r
 |[],[],[],i,_=>⟨rfl,rfl,λk o x r h=>by simp at h⟩
 |[],[],_::_,i,h=>h.elim
 |[],_::_,T,i,h=>by cases T<;>exact h.elim
 |_::_,[],T,i,h=>by cases T<;>exact h.elim
 |_::_,_::_,[],i,h=>h.elim
 |o::L,x::S,r::T,i,⟨q,A⟩=>by
  obtain⟨b,y,B⟩:=HYSteps.at A;refine⟨by simp[b],by simp[y],λk t G l m C V=>?_⟩
  cases k with
  |zero=>
   simp at m C V;subst m;subst C;subst V;exact q
  |succ k=>
   simp at m C V;have:=B k t G l m C V;rw[show i+(k+1)=i+1+k by omega];exact this
def AS.aftS(c:AS):List Oper->List HY->AS
 |o::L,.av r::q=>AS.aftS (c.put o.dst r) L q
 |o::L,.new T f::q=>AS.aftS (c.new o.dst (.ptr c.hp.length 0) (.var T (ZL f))) L q
 |o::L,.newS T _ S::q=>AS.aftS (c.new o.dst (.ptr c.hp.length 0) (.var T (S.map .d))) L q
 |_::L,.st _::q=>AS.aftS c L q
 |_,_=>c
def SFact(m:Nat)(ρ:Nat->Value)(W:Nat)(done:Nat->Bool)(i:Nat):HY->Value->GS->Prop
 |.av r=>λv s=>AVr m ρ s r v
 |.new T f=>HFact m ρ W i (.new T f)
 |.newS T k S=>λv s=>∃b f,v=.pointer (some ⟨b,0,none⟩)/\W<=b/\s.w.heap[b]? = some (.cells f T (0,0))/\(∀k,¬s.S b k)/\s.tag b=i+1/\T≠335/\f.size=S.length/\(done k=true->∀j,j<S.length->∃u,f[j]? = some u/\u.oneCell'=true/\(DM S j).rel s u)
 |.st _=>λ_ _=>True
theorem SFact.st{m:Nat}{ρ:Nat->Value}{W i:Nat}{r:HY}{v:Value}{s s':GS}(I:GS.Le s s')(B:∀T k S,r=.newS T k S->uZ k=vX k)(h:SFact m ρ W vX i r v s):SFact m ρ W uZ i r v s':=by
 cases r with
 |av r=>exact AVr.chg h I.chg
 |new T f=>exact HFact.st (m:=m) (ρ:=ρ) (W:=W) (i:=i) (r:=.new T f) v s s' I h
 |newS T k S=>
  obtain⟨b,f,q,A,K,Y,n,F,G,J⟩:=h;refine⟨b,f,q,A,(I.ext.block (Bw K)).trans K,λk B=>Y k (I.old b k (Bw K) B),(I.tag b (Bw K)).trans n,F,G,λe j C=>?_⟩;rw[B T k S rfl]at e;obtain⟨u,E,y,L⟩:=J e j C;exact⟨u,E,y,(DM S j).st L I.chg⟩
 |st j=>trivial
theorem SFact.turn{m:Nat}{W i g tg:Nat}{r:HY}{v:Value}{s s':GS}(F:GS.Chg s s')(X:∀b,b≠g->s'.w.heap[b]? = s.w.heap[b]?)(p:∀b k,s'.S b k->s.S b k)(L:∀b,s'.tag b=s.tag b)(J:s.tag g=tg+1)(V:i≠tg)(B:∀T k S,r=.newS T k S->uZ k=vX k)(h:SFact m vi W vX i r v s):SFact m vi W uZ i r v s':=by
 cases r with
 |av r=>exact AVr.chg h F
 |new T f=>
  obtain⟨b,q,A,K,Y,n,M,N⟩:=h;have E:b≠g:=λe=>by rw[e,J]at n;omega
  exact⟨b,q,A,(X b E).trans K,λk B=>Y k (p b k B),(L b).trans n,M,N⟩
 |newS T k S=>
  obtain⟨b,f,q,A,K,Y,n,M,N,O⟩:=h;have E:b≠g:=λe=>by rw[e,J]at n;omega
  refine⟨b,f,q,A,(X b E).trans K,λk B=>Y k (p b k B),(L b).trans n,M,N,λI j C=>?_⟩;rw[B T k S rfl]at I;obtain⟨u,G,y,Q⟩:=O I j C;exact⟨u,G,y,(DM S j).st Q F⟩
 |st j=>trivial
theorem NL{s0:An}{n:Nat}{s':GS}{m W:Nat}{ρ0:Nat->Value}{g:Nat->Value}:∀{L:List Oper} {rs:List HY} {i:Nat} {σ:AS} {a:Act} {ρ:Nat->Value},L.length=rs.length->StI s0 n σ a s' ρ->m<=σ.hp.length->(∀j,j<m->ρ j=ρ0 j)->s0.g.w.heap.size<=W ->
  (∀k o b,σ.hp[k]? = some o->OwB s' (ρ k) o b->b<W\/∃j,j<i/\s'.tag b=j+1)->(∀(j:Nat) r,rs[j]? = some r->SFact m ρ0 W (λ_=>true) (i+j) r (g (i+j)) s')->(∀(j:Nat) o k,L[j]? = some o->rs[j]? = some (.st k)->o.dst=none)->(∀o∈L,∀d,o.dst=some d->d<n)->∃ρ',StI s0 n (σ.aftS L rs) (Fw g L i a) s' ρ'
 | [],[],i,σ,a,ρ,_,h,_,_,_,_,_,_,_=>⟨ρ,h⟩
 | [],_::_,_,_,_,_,hl,_,_,_,_,_,_,_,_=>by simp at hl
 | _::_,[],_,_,_,_,hl,_,_,_,_,_,_,_,_=>by simp at hl
 | o::L,r::rs,i,σ,a,ρ,hl,h,hm,hρ,hW,hb,hf,hst,hd=>by
  have hd1:∀d,o.dst=some d->d<n:=hd o (by simp)
  have hd2:∀o∈L,∀d,o.dst=some d->d<n:=λo ho=>hd o (by simp [ho])
  have hst2:∀(j:Nat) o k,L[j]? = some o->rs[j]? = some (.st k)->o.dst=none:=λj o k h1 h2=>hst (j+1) o k (by simpa using h1) (by simpa using h2)
  have hf0:=hf 0 r rfl
  rw [Ybi] at hf0
  have hf':∀(j:Nat) r',rs[j]? = some r'->SFact m ρ0 W (λ_=>true) (i+1+j) r' (g (i+1+j)) s':=λj r' hj=>by
   have:=hf (j+1) r' (by simpa using hj)
   rw [show i+(j+1)=i+1+j by omega] at this
   exact this
  have hbn:∀(b:Nat) (T:TypeId) (c:List AV),s'.tag b=i+1->∀(k:Nat) o' b',(σ.hp++[Ow.var T c])[k]? = some o'->OwB s' (if k=σ.hp.length then .pointer (some ⟨b,0,none⟩) else ρ k) o' b'->b'<W\/∃j,j<i+1/\s'.tag b'=j+1:=by
   intro b T c e5 k o' b' hk hv
   rw [YaQ] at hk
   split at hk
   .rename_i hlt
    rw [Yai (by omega)] at hv
    rcases hb k o' b' hk hv with h2 | ⟨j,h2,h3⟩
    .exact .inl h2
    .exact .inr ⟨j,by omega,h3⟩
   .rename_i hge
    have:k=σ.hp.length:=by
     have:=Cs hk
     simp at this
     omega
    subst this
    rw [Yan rfl] at hv
    have ho:o' = .var T c:=by simp at hk;exact hk.symm
    subst ho
    cases hv
    exact .inr ⟨i,by omega,e5⟩
  have hsep:∀(b:Nat) (T:TypeId) (c:List AV),W<=b->s'.tag b=i+1->∀b',OwB s' (.pointer (some ⟨b,0,none⟩)) (.var T c) b'->∀k o',σ.hp[k]? = some o'->¬OwB s' (ρ k) o' b':=by
   intro b T c e2 e5 b' hb' k o' hk hv
   cases hb'
   rcases hb k o' b hk hv with h2 | ⟨j,h2,h3⟩
   .omega
   .omega
  cases r with
  | av r=>
   have h1:=h.put (GS.Le.refl s') hd1 (v:=g i) (r:=r) (AVr.mono hf0 hm hρ)
   refine NL (L:=L) (rs:=rs) (i:=i+1) (by simpa using hl) h1 ?_ hρ hW ?_ hf' hst2 hd2
   .cases hdo:o.dst<;>exact hm
   .intro k o' b hk hv
    have hk':σ.hp[k]? = some o':=by cases hdo:o.dst<;>(rw [hdo] at hk;exact hk)
    rcases hb k o' b hk' hv with h2 | ⟨j,h2,h3⟩
    .exact .inl h2
    .exact .inr ⟨j,by omega,h3⟩
  | st j=>
   have hdn:o.dst=none:=hst 0 o j rfl rfl
   have ha:Fw g (o::L) i a=Fw g L (i+1) a:=by show Fw g L (i+1) (a.put o.dst (g i))=_;rw [hdn];rfl
   rw [ha]
   refine NL (L:=L) (rs:=rs) (i:=i+1) (by simpa using hl) h hm hρ hW ?_ hf' hst2 hd2
   intro k o' b hk hv
   rcases hb k o' b hk hv with h2 | ⟨j,h2,h3⟩
   .exact .inl h2
   .exact .inr ⟨j,by omega,h3⟩
  | new T cs=>
   obtain ⟨b,e1,e2,e3,e4,e5,e6,e7⟩:=hf0
   have h1:=h.newG (GS.Le.refl s') hd1 (v:=g i) (u:=.pointer (some ⟨b,0,none⟩)) (r:=.ptr σ.hp.length 0) (ow:=.var T (ZL cs)) ⟨by omega,b,by simp,e1⟩ ?_ (hsep b T _ e2 e5) (λb' hb'=>by cases hb';exact .inr (Yat hW e2))
   .exact NL (L:=L) (rs:=rs) (i:=i+1) (by simpa using hl) h1 (by show m<=(σ.hp++[_]).length;simp;omega) (λj hj=>by rw [Yai (by omega)];exact hρ j hj) hW (hbn b T _ e5) hf' hst2 hd2
   .refine ⟨b, cs.toArray, by simp, Yaw _, e3, by simp [ZL], e6, e4, λk av hk=>?_⟩
    unfold ZL at hk
    rw [Yau] at hk
    cases hz:cs[k]? with
    | none=>rw [hz] at hk;cases hk
    | some u=>
     rw [hz] at hk
     cases hk
     exact ⟨u,by simpa using hz,Yaj.1 e7 u (YaB hz),rfl⟩
  | newS T k0 ds=>
   obtain ⟨b,cs,e1,e2,e3,e4,e5,e6,e7,e8⟩:=hf0
   have h1:=h.newG (GS.Le.refl s') hd1 (v:=g i) (u:=.pointer (some ⟨b,0,none⟩)) (r:=.ptr σ.hp.length 0) (ow:=.var T (ds.map .d)) ⟨by omega,b,by simp,e1⟩ ?_ (hsep b T _ e2 e5) (λb' hb'=>by cases hb';exact .inr (Yat hW e2))
   .exact NL (L:=L) (rs:=rs) (i:=i+1) (by simpa using hl) h1 (by show m<=(σ.hp++[_]).length;simp;omega) (λj hj=>by rw [Yai (by omega)];exact hρ j hj) hW (hbn b T _ e5) hf' hst2 hd2
   .refine ⟨b, cs, by simp, Yaw _, e3, by simp [e7], e6, e4, λk av hk=>?_⟩
    rw [Yau] at hk
    cases hz:ds[k]? with
    | none=>rw [hz] at hk;cases hk
    | some u=>
     rw [hz] at hk
     cases hk
     obtain ⟨x,q1,q2,q3⟩:=e8 rfl k (Yae.1 hz).1
     refine ⟨x,q1,q2,?_⟩
     have:DM ds k=u:=by simp [DM,hz]
     rw [this] at q3
     exact q3
def A9U(L:List Oper)(q:List (List (Nat×Nat)))(n:Nat):Bool:=
 (List.range L.length).all λi=>match L[i]?,q[i]? with
  |some o,some e=>BO o.op&&((Bz o).all λk=>decide (k<i))&&(e.all λp=>(Bz o).contains p.2&&(match L[p.2]? with |some A=>A.dst==some p.1 |none=>false)) &&
   (o.op.operands.all λy=>match y with | .tmp t=>(e.any λp=>p.1==t)||(L.all λA=>A.dst != some t) | _=>true) &&
   (match o.dst with | none=>true | some d=>decide (d<n)&&((List.range L.length).all λj=>j==i||(match L[j]? with | some A=>A.dst != some d | none=>true)))
  |_,_=>false
structure ChkS(L:List Oper)(n i:Nat)(o:Oper)(e:List (Nat×Nat)):Prop where
 ns:BO o.op=true
 lt:∀k∈Bz o,k<i
 env:∀p∈e,p.2∈Bz o/\∃o',L[p.2]? = some o'/\o'.dst=some p.1
 out:∀t,Operand.tmp t∈o.op.operands->(∃p∈e,p.1=t)\/∀o'∈L,o'.dst≠some t
 dst:∀d,o.dst=some d->d<n/\∀(j:Nat) o',L[j]? = some o'->o'.dst=some d->j=i
theorem Jn{L:List Oper}{o:List (List (Nat×Nat))}{n:Nat}(h:A9U L o n=true){i:Nat}(m:L[i]? = some va):∃e,o[i]? = some e/\ChkS L n i va e:=by
 have q:=Yaj.1 h i (Ybd.2 (Yae.1 m).1);rw[m]at q
 cases a:o[i]? with
 |none=>rw[a]at q;cases q
 |some e=>
  rw[a]at q;simp only[Yam]at q;obtain⟨⟨⟨⟨K,O⟩,N⟩,M⟩,v⟩:=q;refine⟨e,rfl,K,λk B=>by simpa using Yaj.1 O k B,λp G=>?_,λt C=>?_,λd E=>?_⟩
  .have:=Yaj.1 N p G
   simp only[Yam]at this;refine⟨by simpa using this.1,?_⟩;have A:=this.2
   cases I:L[p.2]? with
   |none=>rw[I]at A;cases A
   |some F=>rw[I]at A;exact⟨F,rfl,by simpa using A⟩
  .have:=(Yen.1 M) _ C
   simp only[YaZ]at this;rcases this with A | A
   .obtain ⟨p,G,b⟩:=YbI.1 A
    exact .inl ⟨p,G,by simpa using b⟩
   .exact .inr λF J=>by simpa using Yaj.1 A F J
  .rw [E]at v
   simp only[Yam,Yba]at v;refine⟨v.1,λj F J f=>?_⟩;have:=Yaj.1 v.2 j (Ybd.2 (Yae.1 J).1);rw[J]at this;simpa[f]using this
structure SInvY(σ:AS)(L:List Oper)(rs:List HY)(ρ:Nat->Value)(s:GS)(a:Act)(listed:Array Bool)(g:Nat->Value)(a':Act)(s':GS):Prop where
 le:GS.Le s.dr s'
 asz:a'.tmps.size=a.tmps.size
 adef:a'.defers=a.defers
 closed:∀j o,L[j]? = some o->listed.getD j false=true->∀e∈Bz o,listed.getD e false=true
 a1:∀j o d,L[j]? = some o->listed.getD j false=true->o.dst=some d->a'.tmps[d]? = some (g j)
 a2:∀t,(∀j o,L[j]? = some o->listed.getD j false=true->o.dst≠some t)->a'.tmps[t]? = a.tmps[t]?
 facts:∀j r,rs[j]? = some r->listed.getD j false=true->SFact σ.hp.length ρ s.w.heap.size (λk=>listed.getD k false) j r (g j) s'
theorem SInvY.put{σ:AS}{L:List Oper}{rs:List HY}{s:GS}{a:Act}{g:Nat->Value}{E:Act}{s1 s2:GS}{n i:Nat}{e:List (Nat×Nat)}(O:SInvY σ L rs vi s a vM g E s1)(C:a.tmps.size=n)(G:vM.size=L.length)(m:L[i]? = some va)(F:ChkS L n i va e)(Z:vM.getD i false=false)(X:∀e∈Bz va,vM.getD e false=true){v:Value}(N:GS.Le s.dr s2)
  (p:∀j r,rs[j]? = some r->j≠i->vM.getD j false=true->SFact σ.hp.length vi s.w.heap.size (λk=>(vM.setIfInBounds i true).getD k false) j r (g j) s2) (J:∀r,rs[i]? = some r->SFact σ.hp.length vi s.w.heap.size (λk=>(vM.setIfInBounds i true).getD k false) i r v s2) :
  SInvY σ L rs vi s a (vM.setIfInBounds i true) (λk=>if k=i then v else g k) (E.put va.dst v) s2:=by
 have b:i<vM.size:=by rw[G];exact(Yae.1 m).1
 have o:∀j,(vM.setIfInBounds i true).getD j false=true->j≠i->vM.getD j false=true:=λj h W=>by
  exact Zhy
 refine⟨N,?_,?_,λj c Q I k B=>?_,λj c d Q I l=>?_,λt q=>?_,λj r V I=>?_⟩
 .unfold Act.put;split<;>simp[O.asz]
 .unfold Act.put;split<;>simp[O.adef]
 .by_cases Y:j=i
  .subst Y
   obtain rfl:c=va:=Yag (Q.symm.trans m);exact getD_set_true (X k B)
  .exact getD_set_true (O.closed j c Q (o j I Y) k B)
 .by_cases Y:j=i
  .subst Y
   obtain rfl:c=va:=Yag (Q.symm.trans m);have w:d<E.tmps.size:=by rw[O.asz,C];exact(F.dst d l).1
   simp[Act.put,l,w]
  .have u:=o j I Y
   have K:va.dst≠some d:=λS=>Y ((F.dst d S).2 j c Q l);rw[Yai Y,<-O.a1 j c d Q u l];unfold Act.put;split
   .rename_i M f
    have:M≠d:=λe=>K ZeI;exact Zju
   .rfl
 .have A:va.dst≠some t:=q i va m (by simp [b])
  rw[<-O.a2 t λj c Q I=>q j c Q (getD_set_true I)];unfold Act.put;split
  .rename_i M f
   have:M≠t:=λe=>A ZeI;exact Zju
  .rfl
 .by_cases Y:j=i
  .subst Y
   simp only[if_true];exact J r V
  .simp only[Yai Y]
   exact p j r V Y (o j I Y)
theorem A4g{P:Program}{s0:An}{n:Nat}{Q:Exit->AS->Prop}{σ:AS}{id:Nat}{L:List Oper}(hm:P.follows .mixedOrders=true)(es:List (List (Nat×Nat)))(rs:List HY)(hok:A9U L es n=true)(steps:HYSteps P σ rs 0 L es rs)(fin:Q .normal (σ.aftS L rs)):AWp P s0 n (.region id L.toArray true) Q σ:=by
 refine ⟨λa w ⟨s,ρ,hw,hst⟩=>?_⟩
 subst hw
 obtain ⟨hl1,hl2,hat⟩:=steps.at
 have hn:a.tmps.size=n:=hst.sz
 have hfz:∀j,(Array.replicate L.toArray.size false).getD j false=false:=λj=>by
  rcases YaD j L.length with h | h
  .simp [h]
  .simp [h]
 have hat':∀{i:Nat} {o:Oper} {e:List (Nat×Nat)},L[i]? = some o->es[i]? = some e->∃r,rs[i]? = some r/\HYStep P σ rs e i o r:=λ{i o e} ho he=>by
  have hi:=(Yae.1 ho).1
  have hr:rs[i]? = some (rs[i]'(by omega)):=Yac _
  refine ⟨_,hr,?_⟩
  have:=hat i o e _ ho he hr
  rwa [YaG] at this
 refine wp_region_any hm (Oy (λlisted a' w'=>∃g s',s'.w=w'/\SInvY σ L rs ρ s a listed g a' s') ?_ ?_ _ _ a s.w.drew (by simp) ?_ ⟨λ_=>undef,s.dr,rfl,GS.Le.refl _,rfl,rfl,(λj o _ h=>by rw [hfz] at h;cases h),(λj o d _ h=>by rw [hfz] at h;cases h),λt _=>rfl,λj r _ h=>by rw [hfz] at h;cases h⟩)
 .rintro listed a' _ i hsz ⟨g,s1,rfl,inv⟩ hi
  have hsz:listed.size=L.length:=by simpa using hsz
  obtain ⟨_,o,ho,_⟩:=mem_ready.1 hi
  have ho:L[i]? = some o:=by simpa using ho
  obtain ⟨hun,hed⟩:=(DD hsz ho).1 hi
  obtain ⟨e,he,hc⟩:=Jn hok ho
  obtain ⟨r,hr,hs⟩:=hat' ho he
  have hil:i<listed.size:=by rw [hsz];exact (Yae.1 ho).1
  have hle:GS.Le s s1:=(Ka s).trans inv.le
  have hhp:=hst.hp.le hle
  have hok1:=hle.ok hst.ok
  have hdone:∀k,k≠i->(listed.setIfInBounds i true).getD k false=listed.getD k false:=λk hk=>getD_set_ne false λe=>hk e.symm
  have hnewS:∀(j:Nat) T k ds,rs[j]? = some (.newS T k ds)->j<L.length->rs[k]? = some (.st j):=λj T k ds hj hlt=>by
   have hoj:L[j]? = some L[j]:=Yac hlt
   obtain ⟨ej,hej,_⟩:=Jn hok hoj
   obtain ⟨r',hr',hs'⟩:=hat' hoj hej
   obtain rfl:r'=_:=Yag (hr'.symm.trans hj)
   exact hs'.2
  have hrlt:∀(j:Nat) r,rs[j]? = some r->j<L.length:=λj r hj=>by have:=(Yae.1 hj).1;omega
  have hargs:∀y,y∈o.op.operands->AVr σ.hp.length ρ s1 (DT σ (rs.map HY.hr) e y) (a'.eval y):=by
   intro y hy
   cases y with
   | tmp t=>
    show AVr _ ρ s1 (match e.find? (λp=>p.1==t) with
     | some p=>match (rs.map HY.hr)[p.2]? with
      | some h=>h.val
      | none=>.d CC
     | none=>(Ch σ.fr t).getD (.d CC)) (a'.tmps.getD t undef)
    cases hfd:e.find? (λp=>p.1==t) with
    | some p=>
     have hp:p∈e:=Ybt hfd
     have hpt:p.1=t:=by simpa using YcQ hfd
     simp only
     rw [Yau]
     cases hrp:rs[p.2]? with
     | none=>trivial
     | some h=>
      obtain ⟨hpe,o',ho',hd'⟩:=hc.env p hp
      have h1:=inv.facts p.2 h hrp (hed _ hpe)
      have h2:=inv.a1 p.2 o' p.1 ho' (hed _ hpe) hd'
      have h3:a'.tmps.getD t undef=g p.2:=by rw [<-hpt,YaH,h2];rfl
      rw [h3]
      cases h with
      | av r=>exact h1
      | _=>trivial
    | none=>
     simp only
     have h1:a'.tmps[t]? = a.tmps[t]?:=by
      refine inv.a2 t λj oj hoj _ hdj=>?_
      rcases hc.out t hy with ⟨p,hp,e1⟩ | h
      .have:=Ycx.1 hfd p hp
       simp [e1] at this
      .exact h oj (YaB hoj) hdj
     rw [YaH,h1,<-YaH]
     exact (hst.arg (.tmp t)).chg hle.chg
   | const v=>exact (show a'.eval (.const v)=v from rfl)
   | global b=>trivial
   | func f=>exact (show a'.eval (.func f)=_ from rfl)
  have ho2:L.toArray[i]? = some o:=by simpa using ho
  have quiet:o.guard=none->(∀j,r ≠ .st j)->RegG.OpStep P o a'.eval s1 (λv s2=>GS.Le s1 s2/\SFact σ.hp.length ρ s.w.heap.size (λk=>(listed.setIfInBounds i true).getD k false) i r v s2)->wpOp P L.toArray (GG s0 n Q) i (λa' w'=>∃g s',s'.w=w'/\SInvY σ L rs ρ s a (listed.setIfInBounds i true) g a' s') a' s1.w:=by
   intro hg hns h
   unfold wpOp
   rw [ho2]
   show if Region.wanted o (yielded L.toArray a'.tmps)=true then _ else _
   rw [Yan (by simp [Region.wanted,hg])]
   refine .inl (RegG.opStep_wp hc.ns (λ_ _=>rfl) h λv s2 ⟨h1,h2⟩=>⟨_,s2,rfl,inv.put hn hsz ho hc hun hed (inv.le.trans h1) (λj r' hr' hji hl=>?_) λr' hr'=>?_⟩)
   .refine (inv.facts j r' hr' hl).st h1 λT k ds e1=>?_
    subst e1
    refine hdone k λe2=>?_
    subst e2
    exact hns j (Yag (hr.symm.trans (hnewS j T k ds hr' (hrlt _ _ hr'))))
   .obtain rfl:r'=r:=Yag (hr'.symm.trans hr)
    exact h2
  have hnewrun:∀T cs,HStep P σ [] e o (.new T cs)->o.guard=none/\T≠335/\HO cs=true/\∃z:Value,z.cells.toList=cs/\(execOp a'.eval o).run P s1.w = .ok (.value (.pointer (some ⟨s1.w.heap.size,0,none⟩))) (s1.w.alloc (.cells z.cells T)):=λT cs h=>by
   obtain ⟨hg,hop,hT,h1,d,k,b,z,ht,hz⟩:=h
   exact ⟨hg,hT,h1,z,hz,by simp [execOp,hop,Instr.alloc,ht.run_zero,Iy]⟩
  cases r with
  | av r=>
   exact quiet hs.1 (λj h=>by cases h) (hs.2.run 0 s1 ρ a'.eval hok1 (Yaw _) hhp hargs)
  | new T cs=>
   obtain ⟨hg,hT,h1,z,hz,hrun⟩:=hnewrun T cs hs
   subst hz
   refine quiet hg (λj h=>by cases h) (Jf hrun (s1.mk' z.cells T (i+1)) rfl ⟨s1.le_mk' z.cells T (i+1) hT,s1.w.heap.size,rfl,hle.ext.size,heap_alloc_new s1.w _,λk hk=>absurd (hok1.lt _ _ hk) (Ycf _),?_,hT,h1⟩)
   show (if s1.w.heap.size=s1.w.heap.size then i+1 else _)=i+1
   rw [Yan rfl]
  | newS T k ds=>
   obtain ⟨⟨cs,hs,hcl⟩,hk⟩:=hs
   obtain ⟨hg,hT,h1,z,hz,hrun⟩:=hnewrun T cs hs
   subst hz
   refine quiet hg (λj h=>by cases h) (Jf hrun (s1.mk' z.cells T (i+1)) rfl ⟨s1.le_mk' z.cells T (i+1) hT,s1.w.heap.size,z.cells,rfl,hle.ext.size,heap_alloc_new s1.w _,λk hk=>absurd (hok1.lt _ _ hk) (Ycf _),?_,hT,by simpa using hcl,λhd=>?_⟩)
   .show (if s1.w.heap.size=s1.w.heap.size then i+1 else _)=i+1
    rw [Yan rfl]
   .exfalso
    have hki:k≠i:=λe1=>by
     subst e1
     rw [hr] at hk
     cases hk
    have hd:=(hdone k hki).symm.trans hd
    have hok':L[k]? = some (L[k]'(hrlt _ _ hk)):=Yac _
    obtain ⟨ek,hek,hck⟩:=Jn hok hok'
    obtain ⟨r',hr',hs'⟩:=hat' hok' hek
    obtain rfl:r'=_:=Yag (hr'.symm.trans hk)
    obtain ⟨_,_,T',x,y,T0,ds',d,b,z',_,hx,_⟩:=hs'
    have:=inv.closed k _ hok' hd i (hck.env _ hx).1
    rw [hun] at this
    cases this
  | st j=>
   obtain ⟨hg,hdn,T,x,y,T0,ds,d,b,z,hop,hx,hrj,hy,ht⟩:=hs
   obtain ⟨hje,oj,hoj,hdj⟩:=hc.env _ hx
   have hlj:=hed _ hje
   obtain ⟨gb,cs,e1,e2,e3,e4,e5,e6,e7,_⟩:=inv.facts j _ hrj hlj
   have hxv:a'.eval (.tmp x) = .pointer (some ⟨gb,0,none⟩):=by
    rw [<-e1]
    show a'.tmps.getD x undef=g j
    rw [YaH,inv.a1 j oj x hoj hlj hdj];rfl
   have hya:=hargs y (by rw [hop];simp [Op.operands])
   rw [hy] at hya
   obtain ⟨vs,p1,p2,p3⟩:=hya
   have hvone:∀v∈vs.toList,v.oneCell'=true:=λv hv=>by
    obtain ⟨k,hk,rfl⟩:=YcH hv
    simp at hk
    obtain ⟨u,h9,h10,_⟩:=p3 k (by omega)
    rw [YaJ hk] at h9
    cases h9
    simpa using h10
   have hst1:=run_storeCells_at P gb 0 T0 vs.toList 0 cs s1.w e3 (by simp;omega) hvone
   simp only [Ybi] at hst1
   have hcont:(cs.toList.take 0++vs.toList++cs.toList.drop (0+vs.toList.length)).toArray=vs:=by
    rw [List.drop_of_length_le (by simp;omega)]
    simp
   rw [hcont] at hst1
   obtain ⟨W,hW⟩:∃W,W=s1.w.setRow gb vs:=⟨_,rfl⟩
   rw [<-hW] at hst1
   have hrun:(execOp a'.eval o).run P s1.w = .ok .skip W:=by
    simp [execOp,hop,hxv,p1,Instr.storeAt,Instr.sureAddr,storeVar,Value.cells,p2,ht.run_size,hst1]
   have hfar:∀b,b≠gb->W.heap[b]? = s1.w.heap[b]?:=λb hb=>by rw [hW];exact setRow_other s1.w gb b _ (λe=>hb e)
   have hnew:W.heap[gb]? = some (.cells vs T0 (0,0)):=by rw [hW];exact setRow_heap s1.w gb cs _ T0 _ e3
   have hwsz:W.heap.size=s1.w.heap.size:=by rw [hW];simp [World.setRow]
   have hok2 : s1.Ok → GS.Ok { s1 with w := W } := fun h => MX h (fun _ _ h => h) (by show _ ≤ W.heap.size; omega) (fun _ _ h => h) fun b ⟨c, fz, hb⟩ => by
    by_cases e:b=gb
    .subst e
     have hb:W.heap[b]? = _:=hb
     rw [hnew] at hb
     cases hb
     exact absurd rfl e6
    .exact ⟨c,fz,(hfar b e).symm.trans hb⟩
   have hch : GS.Chg s1 { s1 with w := W } := ⟨by show _ ≤ W.heap.size; omega, fun _ _ h => h, fun b c T fz hb => by
    by_cases e:b=gb
    .subst e
     rw [e3] at hb
     cases hb
     exact ⟨_,_,hnew,λk hk=>absurd hk (e4 k)⟩
    .exact ⟨c,fz,(hfar b e).trans hb,λ_ _=>rfl⟩⟩
   have hdrs:s.dr.w.heap.size=s.w.heap.size:=rfl
   have hle2:GS.Le s.dr { s1 with w:=W }:=by
    refine ⟨⟨?_,?_,?_,?_,λk hk=>?_⟩,inv.le.up,inv.le.old,inv.le.tag,λh=>hok2 (inv.le.ok h)⟩
    .rw [<-inv.le.ext.os];rw [hW];rfl
    .rw [<-inv.le.ext.tape];rw [hW];rfl
    .rw [<-inv.le.ext.output];rw [hW];rfl
    .show _<=W.heap.size
     rw [hwsz]
     exact inv.le.ext.size
    .show W.heap[k]? = _
     rw [hfar k (by omega)]
     exact inv.le.ext.block hk
   have hfin:SInvY σ L rs ρ s a (listed.setIfInBounds i true) (λk=>if k=i then undef else g k) (a'.put o.dst undef) { s1 with w:=W }:=by
    refine inv.put hn hsz ho hc hun hed hle2 (λj' r' hr' hji hl=>?_) λr' hr'=>?_
    .by_cases hjj:j'=j
     .subst hjj
      obtain rfl:r'=_:=Yag (hr'.symm.trans hrj)
      exact ⟨gb,vs,e1,e2,hnew,e4,e5,e6,p2,λ_ k hk=>by
       obtain ⟨u,q1,q2,q3⟩:=p3 k hk
       exact ⟨u,q1,q2,(DM ds k).st q3 hch⟩⟩
     .refine (inv.facts j' r' hr' hl).turn (g:=gb) (tg:=j) hch hfar (λ_ _ h=>h) (λ_=>rfl) e5 hjj λT' k' ds' e9=>?_
      subst e9
      refine hdone k' λe10=>?_
      subst e10
      have:=hnewS j' T' k' ds' hr' (hrlt _ _ hr')
      rw [hr] at this
      cases this
      exact hjj rfl
    .obtain rfl:r'=_:=Yag (hr'.symm.trans hr)
     trivial
   unfold wpOp
   rw [ho2]
   show if Region.wanted o (yielded L.toArray a'.tmps)=true then _ else _
   rw [Yan (by simp [Region.wanted,hg])]
   refine .inl ?_
   unfold Oper.wp
   rw [hrun]
   exact ⟨_,_,rfl,hfin⟩
 .rintro listed a' _ hsz ⟨g,s1,rfl,inv⟩ h0
  have hsz:listed.size=L.length:=by simpa using hsz
  have hall:∀i,i<L.length->listed.getD i false=true:=by
   intro i
   induction i using Nat.strongRecOn with
   | _ i ih=>
    intro hi
    have ho:L[i]? = some L[i]:=Yac hi
    obtain ⟨e,he,hc⟩:=Jn hok ho
    cases hg:listed.getD i false with
    | true=>rfl
    | false=>
     have:i∈Region.ready .any L.toArray listed:=(DD hsz ho).2 ⟨hg,λk hk=>ih k (hc.lt k hk) (by have:=hc.lt k hk;omega)⟩
     rw [h0] at this
     cases this
  have hle:GS.Le s s1:=(Ka s).trans inv.le
  have hst':StI s0 n σ a s1 ρ:=hst.put hle (dst:=none) (λd hd=>by cases hd) (v:=undef) (r:=.d CC) trivial
  have hdl:∀o∈L,∀d,o.dst=some d->d<n:=λo ho d hd=>by
   obtain ⟨i,hi⟩:=YbL ho
   obtain ⟨e,he,hc⟩:=Jn hok hi
   exact (hc.dst d hd).1
  obtain ⟨ρ',hfin⟩:=NL (g:=g) (L:=L) (rs:=rs) (i:=0) (W:=s.w.heap.size) (m:=σ.hp.length) (ρ0:=ρ) hl2 hst' (Yah _) (λ_ _=>rfl) hst.le.size (λk o b hk hv=>.inl ((hst.hp k o hk).blk_lt0 (OwB.le (hst.hp k o hk) hle hv))) (λj r hj=>by
   rw [YaG]
   refine (inv.facts j r hj (hall j (by have:=(Yae.1 hj).1;omega))).st (GS.Le.refl _) λT k ds e1=>?_
   subst e1
   have hjl:j<L.length:=by have:=(Yae.1 hj).1;omega
   have hoj:L[j]? = some L[j]:=Yac hjl
   obtain ⟨ej,hej,_⟩:=Jn hok hoj
   obtain ⟨r',hr',hs'⟩:=hat' hoj hej
   obtain rfl:r'=_:=Yag (hr'.symm.trans hj)
   have:=hs'.2
   exact (hall k (by have:=(Yae.1 this).1;omega)).symm) (λj o k hj hr=>by
   obtain ⟨ej,hej,_⟩:=Jn hok hj
   obtain ⟨r',hr',hs'⟩:=hat' hj hej
   obtain rfl:r'=_:=Yag (hr'.symm.trans hr)
   exact hs'.2.1) hdl
  have hpa:Fw g L 0 a=a':=by
   obtain ⟨q1,q2,q3,q4⟩:=Hn (g:=g) L 0 a (λj k o o' d hj hk e1 e2=>by
    obtain ⟨e,he,hc⟩:=Jn hok hj
    exact ((hc.dst d e1).2 k o' hk e2).symm) (λo ho d hdo=>by rw [hn];exact hdl o ho d hdo)
   refine NM (Ydz λt=>?_) (q2.trans inv.adef.symm)
   by_cases ht:∃(j:Nat) (o:Oper),L[j]? = some o/\o.dst=some t
   .obtain ⟨j,o,hj,hdo⟩:=ht
    rw [q3 j o t hj hdo,inv.a1 j o t hj (hall j (Yae.1 hj).1) hdo]
    simp
   .rw [q4 t λj o hj e=>ht ⟨j,o,hj,e⟩,inv.a2 t λj o hj _ e=>ht ⟨j,o,hj,e⟩]
  rw [hpa] at hfin
  exact ⟨_,fin,s1,ρ',rfl,hfin⟩
 .rw [<-YdB]
  simp
section
variable {P:Program} {σ:AS} {rs:List HY} {es:List (Nat×Nat)} {i:Nat} {o:Oper}
theorem HYSteps.cons{x:List (Nat×Nat)}{r:HY}{L:List Oper}{S:List (List (Nat×Nat))}{T:List HY}(h:HYStep P σ rs x i o r)(Z:HYSteps P σ rs (i+1) L S T):HYSteps P σ rs i (o::L) (x::S) (r::T):=⟨h,Z⟩
theorem HYSteps.nil:HYSteps P σ rs i [] [] []:=trivial
theorem HYStep.q{r:AV}(T:o.guard=none)(k:Quiet P σ.hp o (DT σ (rs.map HY.hr) es) r):HYStep P σ rs es i o (.av r):=⟨T,k⟩
theorem HYStep.n{T n b k:Nat}{ds:List D}(A:o.guard=none)(L:Tab P T d n b z)(E:o.op=.alloc T)(C:Nat.beq T 335=false)(q:HO z.cells.toList=true)(I:z.cells.toList.length=ds.length)(B:rs[k]? = some (.st i)):HYStep P σ rs es i o (.newS T k ds):=⟨⟨_,HStep.n A L E (YaI C) q,I⟩,B⟩
theorem HYStep.s{T x j A:Nat}{y:Operand}{ds:List D}{b:Nat}(q:o.guard=none)(X:o.dst=none)(E:o.op=.store T (.tmp x) y)(C:(x,j)∈es)(W:rs[j]? = some (.newS A i ds))(N:DT σ (rs.map HY.hr) es y=.d (AQ ds))(L:Tab P T d ds.length b z):HYStep P σ rs es i o (.st j):=⟨q,X,T,x,y,A,ds,d,b,z,E,C,W,N,L⟩
end
theorem FS{s0:An}{n:Nat}{Q:Exit->AS->Prop}{c τ:AS}{id:Nat}(x:P.follows .mixedOrders=true)(o:List (List (Nat×Nat)))(F:List HY)(C:A9U vd o n=true)(steps:HYSteps P c F 0 vd o F)(I:AS.le (c.aftS vd F) τ)(fin:Q .normal τ):AWp P s0 n (.region id vd.toArray true) Q c:=⟨λa w Z=>by
 refine wp_mono ((A4g (Q:=λe G=>e=.normal/\G=c.aftS vd F) x o F C steps ⟨rfl,rfl⟩).run a w Z) λe E M ⟨G,⟨B,q⟩,A⟩=>?_;subst B;subst q;exact⟨τ,fin,I _ _ _ _ A⟩⟩
section
variable {P:Program} {hp:List Ow} {arg:Operand->AV} {dd:Option Tmp} {ty:TypeId} {ps:String} {af:Array Edge} {gd:Option (Nat×Bool)}
theorem Ml{len n b g E:Nat}{R:AV->Prop}(L:Tab P t (.slice U) n b z)(a:Tab P U d g E u)(F:Nat.blt 0 len=true)(B:Nat.blt 0 g=true)(C:u.cells.size=g)(T:Nat.ble (len*g) 16777216=true)(q:HO u.cells.toList=true)(h:PC hp arg (λr=>∃S,Sx (λi=>some (i*g,g)) (List.replicate (len*g) CC) r=some S/\R (.d (flD U g (FE g len S)))) [] ue):∃r,Quiet P hp ⟨dd,.buildSlice t len ue.toArray,ty,ps,af,gd⟩ arg r/\R r:=by
 obtain⟨r,A,S,K,Y⟩:=Ly h;exact⟨_,TO rfl L a (by simpa[Ybh]using F) Zeb C (YbB T) q A (Lf K),Y⟩
theorem Md{e n b g q T s:Nat}(C:HV hp (arg x)=some (slD T s vm))(L:Tab P t (.slice e) n b z)(a:Tab P e d g q u)(A:g=s)(N:arg y=.d (ex (.int .i64 (vk:Nat))))(o:arg vS=.d (ex (.int .i64 (vk:Nat))))(W:vk<=vm.length):Quiet P hp ⟨dd,.slice t x none (some y) (some vS),ty,ps,af,gd⟩ arg (.d (flD T s (vm.take vk))):=WH rfl C L a A N o W
theorem Jp{t T h s bytes m b:Nat}(C:arg x=.d (flD T s vm))(N:HV hp (arg y)=some (slD h s ud))(L:Tab P t (.slice T) m b u)(i:Tab P T d s bytes z)(q:z.cells.size=s)(R:(vm.length+ud.length)*bytes<=140737488355328)(M:vm.length+ud.length<=4611686018427387904):Quiet P hp ⟨dd,.call { callee:=.builtin .append,args:=#[x,y],argTypes:=#[t,t] },ty,ps,af,gd⟩ arg (.d (slD T s (vm++ud))):=A1a rfl C N L i q R M
end
theorem ME{s0:An}{n:Nat}{e e2:Nat}{L S g:List Oper}(x:P.follows .mixedOrders=true)(m:AddE e L S)(E:Ss e L S=true)(C:AddE e2 S g)(i:Ss e2 S g=true):DrawOk P s0 n b L.toArray g vl (OnlyN vl):=⟨λa w h=>by
 have Q:∀j,(Array.replicate L.toArray.size false).getD j false=false:=λj=>Zak
 have Z:g.toArray.size=L.toArray.size:=by simp[m.length,C.length]
 rw[Z]at h;have G:∀c a w,¬GG s0 n (OnlyN vl) (.panic c) a w:=λc a w ⟨A,h,_⟩=>Zjo
 have I:¬LetsOut (GG s0 n (OnlyN vl)):=λ⟨a,w,A,h,_⟩=>Zjo
 have d:=KE C i G I _ _ _ _ (by simp[m.length]) (λj o _ I=>by rw[Q]at I;cases I) h;have q:=KE m E G I _ _ _ _ ZbV (λj o _ I=>by rw[Q]at I;cases I) d
 exact wp_mono (wp_region_any x q) λex B M ⟨A,h,Z⟩=>by
  obtain⟨rfl,h⟩:=h;exact⟨A,h,Z⟩⟩
theorem A4u(P:List Tm)(i:Nat)(J:i<8):(OC P).testBit i=true↔∃t∈P,0<t.m i:=by
 have key:∀(P:List Tm) (s:Nat),(P.foldl (λs t=>s ||| suppTo t.m 8) s).testBit i=true↔s.testBit i=true\/∃t∈P,0<t.m i:=by
  intro P
  induction P with
  |nil=>intro s;simp
  |cons t P v=>
   intro s;rw[Ydw,v,YeI,Rr t.m 8 i J];simp only[YaZ,Yba,YaM,exists_eq_or_imp,or_assoc]
 rw[OC,key];simp
theorem A4G{s t:Tm}(h:Ih s.m t.m≠0):Ib s t=Ih s.m t.m:=by
 rw[<-MM]at h ⊢;exact QD λe=>h (QN.2 e)
theorem A2M{s t:Tm}(h:Ih s.m t.m=0):Ib s t=ID s.c t.c:=by
 rw[<-MM]at h;exact QE (QN.1 h)
theorem UQ(P Q:List Tm)(M:PSz P 1000000000)(i:PSz Q 1000000000)(h:P.length<=1000000)(x:Q.length<=1000000):Abs prog 128 [BP P,BP Q] (ex (.int .i64 (CW P Q))):=by
 refine Ab func128 λw=>?_;rw[ntmps128];refine Go ?_;refine AF (λv c=>∃k,k<=P.length/\k<=Q.length/\CW P Q=CW (P.drop k) (Q.drop k)/\v=P.length-k/\c=⟨[(0,.d (BP P)),(1,.d (BP Q)),(5,.d (ex (.int .i64 (k:Nat))))],[]⟩) ?le ⟨0,by omega,by omega,rfl,rfl,rfl⟩ ?round
 case le=>exact Ac ZcV Zcf
 case round=>
  rintro m _ ⟨k,B,C,heq,rfl,rfl⟩;by_cases O:k<P.length
  .by_cases A:k<Q.length
   .have Z:=M _ (Dz O)
    have L:=i _ (Dz A);have q:=OO O A;have K:=GA (Bv P k).m (Bv Q k).m;have T:=A3G (Bv P k).c (Bv Q k).c Z L;by_cases I:Ih (Bv P k).m (Bv Q k).m=0
    .have W:Ih (P.getD k default).m (Q.getD k default).m=0:=I
     have e:=A2M I;by_cases u:ID (Bv P k).c (Bv Q k).c=0
     .rw [Yan (e.trans u)]at q
      refine Go ?_;refine Dy 12 ?_;refine ZfU ?_;refine Dy 12 ?_;refine ZfU ?_;refine Ai (P.length-(k+1)) ZbG ⟨k+1,by omega,by omega,by rw[heq,q],rfl,rfl⟩ ?_;exact Ac ZcV Zcf
     .rw [Yai (by rw [e]; exact u)] at q
      refine Go ?_;refine Dy 12 ?_;refine ZfU ?_;refine Dy 12 ?_;refine ZfU ?_;refine Dy 11 ?_;exact Zir
    .have e:=A4G I
     rw[Yai (by rw[e];exact I)]at q;refine Go ?_;refine Dy 12 ?_;refine ZfU ?_;refine Dy 11 ?_;exact Zir
   .have e:CW P Q=1:=by
     exact Zkh
    refine Go ?_;exact AA (Am (ResV.tmp rfl rfl) (Ae Zey))
  .have G:P.drop k=[]:=YaL ZbG
   by_cases A:k<Q.length
   .have e:CW P Q=-1:=by
     rw[heq,G,GQ A,CW]
    refine Go ?_;exact AA (Am (ResV.tmp rfl rfl) (Ae Zey))
   .have e:CW P Q=0:=by
     exact Zki
    refine Go ?_;exact AA (Am (ResV.tmp rfl rfl) (Ae Zey))
def XX(h j b:List Ow)(q F:Bool):List Ow:=bif F then b else bif q then j else h
structure DStp2(P:Program)(frB:List (Nat×AV))(m0 m1 m2:List Ow)(ks:List AV)(es:List (Nat×Nat))(o:Oper)(r:AV):Prop where
 a:Quiet P m0 o (DT ⟨frB,m0⟩ (ks.map HR.av) es) r
 b:Quiet P m1 o (DT ⟨frB,m1⟩ (ks.map HR.av) es) r
 c:Quiet P m2 o (DT ⟨frB,m2⟩ (ks.map HR.av) es) r
theorem DStp2.at{o:Oper}{r:AV}(h:DStp2 P vc H vA uQ R vw o r):∀j F,Quiet P (XX H vA uQ j F) o (DT ⟨vc,XX H vA uQ j F⟩ (R.map HR.av) vw) r
 |_,true=>h.c
 |true,false=>h.b
 |false,false=>h.a
def DTn(P:Program)(s0:An)(n:Nat)(u:List (Nat×AV))(A K:List Ow)(G:List AV)(c:Nat)(q:List (Nat×Nat))(o:Oper)(r:AV):Prop:=∀F:List (Nat×AV),(∀p∈F,(∃i,i≠c/\G[i]? = some p.2)\/p∈u)->∀(s:GS) (X:Nat->Value) (a:Act),StI s0 n ⟨F,A⟩ a s X->(∀y∈o.op.operands,AVr A.length X s (DT ⟨u,A⟩ (G.map HR.av) q y) (a.eval y))->RegG.OpStep P o a.eval s λv j=>∃H,StI s0 n ⟨F,K⟩ a j H/\AVr A.length H j r v
theorem UZ{s0:An}{n:Nat}{id:Nat}{c:Nat}{r:AV}(h:DTurn P s0 n vc H id vt uE R [] c vw va r)(d:EU H id vt uE false=H)(q:EU H id vt uE true=vA):DTn P s0 n vc H vA R c vw va r:=λF hF s X a Z l=>by
 unfold DTurn at h;rw[d,q]at h;exact h F (λp B=>(hF p B).imp (λ⟨i,q,A⟩=>⟨i,q,by simp,A⟩) λh=>h) s X a Z l
def DSteps2(P:Program)(s0:An)(n:Nat)(u:List (Nat×AV))(h j b:List Ow)(G:List AV)(K T:Nat):Nat->List Oper->List (List (Nat×Nat))->List AV->Prop
 |i,o::L,x::S,r::R=>(bif Nat.beq i K then DTn P s0 n u h j G K x o r else bif Nat.beq i T then DTn P s0 n u j b G T x o r else DStp2 P u h j b G x o r)/\DSteps2 P s0 n u h j b G K T (i+1) L S R
 |_,[],[],[]=>True
 |_,_,_,_=>False
section
variable {P:Program} {s0:An} {n:Nat} {frB:List (Nat×AV)} {m0 m1 m2:List Ow} {ks:List AV} {c1 c2:Nat}
theorem DSteps2.at:∀{L:List Oper} {S:List (List (Nat×Nat))} {R:List AV} {j:Nat},DSteps2 P s0 n frB m0 m1 m2 ks c1 c2 j L S R->∀(i:Nat) o x r,L[i]? = some o->S[i]? = some x->R[i]? = some r->(bif Nat.beq (j+i) c1 then DTn P s0 n frB m0 m1 ks c1 x o r else bif Nat.beq (j+i) c2 then DTn P s0 n frB m1 m2 ks c2 x o r else DStp2 P frB m0 m1 m2 ks x o r)
 |[],_,_,_,_,i,o,x,r,m,_,_=>by simp at m
 |_::_,[],_,_,_,i,o,x,r,_,C,_=>by simp at C
 |_::_,_::_,[],_,_,i,o,x,r,_,_,V=>by simp at V
 |t::L,G::S,l::R,j,⟨q,A⟩,0,o,x,r,m,C,V=>by
  simp at m C V;subst m;subst C;subst V;exact q
 |t::L,G::S,l::R,j,⟨q,A⟩,i+1,o,x,r,m,C,V=>by
  have:=DSteps2.at A i o x r ZdR Zei (by simpa using V);exact Zkm
variable {i:Nat} {o:Oper} {L:List Oper} {x:List (Nat×Nat)} {S:List (List (Nat×Nat))} {r:AV} {R:List AV}
theorem DSteps2.q(h:Nat.beq i c1=false)(q:Nat.beq i c2=false)(l:Quiet P m0 o (DT ⟨frB,m0⟩ (ks.map HR.av) x) r)(E:Quiet P m1 o (DT ⟨frB,m1⟩ (ks.map HR.av) x) r)(F:Quiet P m2 o (DT ⟨frB,m2⟩ (ks.map HR.av) x) r)(Z:DSteps2 P s0 n frB m0 m1 m2 ks c1 c2 (i+1) L S R):DSteps2 P s0 n frB m0 m1 m2 ks c1 c2 i (o::L) (x::S) (r::R):=⟨by rw[h,q];exact⟨l,E,F⟩,Z⟩
theorem DSteps2.k(q:Nat.beq i c1=true)(h:DTn P s0 n frB m0 m1 ks c1 x o r)(Z:DSteps2 P s0 n frB m0 m1 m2 ks c1 c2 (i+1) L S R):DSteps2 P s0 n frB m0 m1 m2 ks c1 c2 i (o::L) (x::S) (r::R):=⟨by rw[q];exact h,Z⟩
theorem DSteps2.l(q:Nat.beq i c1=false)(A:Nat.beq i c2=true)(h:DTn P s0 n frB m1 m2 ks c2 x o r)(Z:DSteps2 P s0 n frB m0 m1 m2 ks c1 c2 (i+1) L S R):DSteps2 P s0 n frB m0 m1 m2 ks c1 c2 i (o::L) (x::S) (r::R):=⟨by rw[q,A];exact h,Z⟩
theorem DSteps2.nil:DSteps2 P s0 n frB m0 m1 m2 ks c1 c2 i [] [] []:=trivial
end
theorem A1E{s0:An}{n:Nat}(g T m:Nat)(xc xs:List Nat)(d:List AV)(N:List (List (Nat×Nat)))(z F:List (Nat×AV))(m1 m2:List Ow)(Q:P.follows .mixedOrders=true)(xf:FrIn vc z)(xa:(Nat.blt g m&&Nat.blt T m && !Nat.beq g T)=true)(v:Nat.blt m vd.length=true)(xr:m1.length=H.length)(xm:m2.length=H.length)(xi:((List.range (vd.length-m)).all λt=>(match vd[m+t]? with | some o=>Bz o | none=>[]).all λk=>decide (k<m+t))=true)(xk:((List.range (vd.length-m-1)).all λt=>(match vd[m+t+1]? with | some o=>Bz o | none=>[]).contains (m+t))=true)(xg:(Mx vd [m] xc&&(List.range m).all λj=>xc.contains j)=true)(xj:(Mx vd [T] xs&&xs.contains g)=true)
  (steps:DSteps2 P s0 n z H m1 m2 d g T 0 (vd.take m) N d) (Y:YK (vd.take m) N d z n=true) (hF:FrIn (Qt (vd.take m) d z) F) (fin:AWl P s0 n vd.toArray vl (vd.drop m) ⟨F,m2⟩):AWp P s0 n (.region b vd.toArray true) vl ⟨vc,H⟩:=by
 simp only[Yam,Bool.not_eq_true']at xa xj;obtain⟨⟨xu,xv⟩,xq⟩:=xa;have xw:g≠T:=λe=>by rw[e,YcU]at xq;cases xq
 have xh:∀b1 b2,(XX H m1 m2 b1 b2).length=H.length:=λb1 b2=>by cases b2<;>cases b1<;>first | rfl | exact xr | exact xm
 have u:∀f,HZ f [] 0 d=d:=λf=>A1J λq L=>by cases L
 refine PJ (fun _ => True) m xc (fun f => XX H m1 m2 (f g) (f T)) [] d N z F (GD Q) xf v trivial rfl (fun f => xh _ _) (fun _ => xi) xk xg (fun i o x r M E V => ?_) Y (by rw [u]; exact hF) (fun _ => by
  show AWl P s0 n vd.toArray vl (vd.drop m) ⟨F,XX H m1 m2 (Nat.blt g m) (Nat.blt T m)⟩;rw[xu,xv];exact fin)
 have Z:=steps.at i o x r M E V;rw[YaG]at Z
 have J:i<m:=by
  have:=(Yae.1 M).1;rw[YaO]at this;omega
 have R:vd[i]? = some o:=by
  rwa [YaK,Yan J]at M
 have xo:∀c,i≠c->Nat.beq i c=false:=λc h=>YdH.2 λe=>h (Yao e)
 have xt:∀(mA mB:List Ow),mA.length=H.length->(∀f,Can vd f i o->XX H m1 m2 (f g) (f T)=mA/\XX H m1 m2 (GE f i g) (GE f i T)=mB)->DTn P s0 n z mA mB d i x o r->XTurn P s0 n vd z (λf=>XX H m1 m2 (f g) (f T)) [] d i x o r:=λmA mB hA U Z f G F' xn s X a W l=>by
  obtain⟨I,y⟩:=U f G
  dsimp only at W l ⊢
  rw[I]at W l ⊢;rw[u]at l;rw[y];exact Z F' (λp S=>(xn p S).imp (λ⟨j,A,B,K⟩=>⟨j,(λe=>by rw[e,G.no]at A;cases A),K⟩) λh=>h) s X a W l
 by_cases xe:i=g
 .subst xe
  rw[YcU]at Z;refine(xt H m1 rfl (λf G=>?_) Z).step λ_ _ _=>trivial
  have xd:f T=false:=by
   cases w:f T with
   |false=>rfl
   |true=>
    have:=LI xj.1 G.cl (λk C O R e' xb=>by
     obtain rfl:k=T:=by simpa using C
     exact G.cl _ O R w e' xb) i (by simpa using xj.2)
    rw[G.no]at this;cases this
  rw[LF,Nf xw,G.no,xd];exact⟨rfl,rfl⟩
 by_cases xp:i=T
 .subst xp
  rw[xo g xe,YcU]at Z;refine(xt m1 m2 xr (λf G=>?_) Z).step λ_ _ _=>trivial
  have xl:f g=true:=LI xj.1 G.cl (λk C O xx e' xb=>by
   obtain rfl:k=i:=by simpa using C
   obtain rfl:O=o:=Yag (xx.symm.trans R);exact G.ed e' xb) g (by simpa using xj.2)
  rw[LF,xl,G.no];exact⟨rfl,by cases GE f i g<;>rfl⟩
 rw[xo g xe,xo T xp]at Z;have Z:DStp2 P z H m1 m2 d x o r:=Z
 exact XStep.q (fun _ _ h => h) (fun f => by rw [Nf xe, Nf xp]) fun f _ => by
  rw[u];exact Z.at _ _
def B8(l:List Nat):Prop:=∀z∈l,z<256
theorem B8.nil:B8 []:=λ_ h=>by cases h
theorem B8.app{a b:List Nat}(l:B8 a)(E:B8 b):B8 (a++b):=λz h=>(YbQ.1 h).elim (l z) (E z)
theorem B8.flat(h:∀x,B8 (uj x))(l:List e):B8 (l.flatMap uj):=λz u=>by
 obtain⟨x,-,C⟩:=Yez.1 u;exact h x z C
theorem VN(n:Nat):B8 (BA n):=by
 induction n using Nat.strongRecOn with
 |ind n v=>
  rw[BA];split
  .intro z u
   rw[Yaz.1 u];omega
  .intro z u
   rcases YaM.1 u with rfl | u
   .omega
   .exact v _ ZbG z u
theorem A76(w:Nat):B8 (CA w):=λz u=>by
 simp only[CA,YaM,YeB,or_false]at u;omega
theorem VV(b:Bool)(l:List Nat):B8 (Hp b l):=.app (VN _) (.flat A76 l)
theorem RG(q:RQ):B8 (CG q):=.app (VV _ _) (VV _ _)
theorem OS(h:∀x,B8 (uj x))(f:Nat->e):B8 (Jx uj f):=.flat (λ_=>h _) _
theorem HB(h:∀x,B8 (uj x))(l:List e):B8 (Bt uj l):=.app (VN _) (.flat h l)
theorem A7b(t:RTm):B8 (Ef t):=.app (.app (VV _ _) (VV _ _)) (OS (λ_=>VN _) _)
theorem Nr(p:List RTm):B8 (Cp p):=HB A7b p
theorem JL(p:List (List RTm)):B8 (Bf p):=HB Nr p
theorem Rq(p:List (List (List RTm))):B8 (BJ p):=HB JL p
theorem IH(z:Int):B8 (Bm z):=VN _
theorem Nt(o:List (Nat->Int)):B8 (BZ o):=HB (OS IH) o
theorem A4w(o:List RQ):B8 (GF o):=HB RG o
theorem A8L(a:RQ×RQ):B8 (GO a):=.app (RG _) (RG _)
theorem YS(a:List (Nat->RQ×RQ)):B8 (Fb a):=HB (OS A8L) a
theorem AaT(a:RQ×List RTm):B8 (Kz a):=.app (RG _) (Nr _)
theorem A0E(k:Cor):B8 (FV k):=.app (.app (IH _) (JL _)) (JL _)
theorem A9S(c:Clm):B8 (IN c):=.app (.app (.app (.app (.app (.app (.app (.app (IH _) (Nr _)) (IH _)) (IH _)) (IH _)) (Nt _)) (JL _)) (HB IH _)) (YS _)
theorem A9c(r:Rsl):B8 (Kg r):=.app (.app (OS IH _) (A4w _)) (OS A4w _)
theorem A9P(e:Crt):B8 (KC e):=.app (.app (.app (.app (.app (.app (.app (.app (.app (.app (.app (IH _) (JL _)) (JL _)) (Nt _)) (Rq _)) (Rq _)) (Rq _)) (A9c _)) (HB A8L _)) (HB AaT _)) (HB (OS RG) _)) (YS _)
theorem Pb(f:Fct):B8 (Er f):=.app (.app (A0E _) (A9S _)) (A9P _)
end
