/- Part 20. No condition. -/
import Derived.Test.YtcikkglcoeedlaaGreatDf18
import Derived.Test.YtcikkglcoeedlaaGreatDf19
set_option linter.unusedSimpArgs false
set_option linter.unusedVariables false
set_option maxRecDepth 100000
namespace Go.Proofs.YtcikkglcoeedlaaGreat
open _root_.Go.Proofs.Tryz
variable{vf:AS}{vy:AV->List Ow->Prop}{vj:Act}{vM:Array Bool}{vH:Array Edge}{vs:Array TypeId}{vp:Code}{r:D}{vl:Exit->AS->Prop}{vO:Func}{ve:FuncId}{uD:List (List (Nat×Nat))}{vm ud:List (List D)}{vc:List (Nat×AV)}{vw:List (Nat×Nat)}{R:List AV}{l h vo:List Nat}{vd:List Oper}{vN:List Operand}{H vA:List Ow}{vU:List PanicEntry}{vb uf:List Tm}{ug:List Value}{n b:Nat}{vF:Nat->Nat}{vi ua:Nat->Value}{va:Oper}{x y:Operand}{vz:Operand->AV}{vQ:Option (Nat×Bool)}{vB:Option Tmp}{vt:Ow}{P:Program}{vI:Prop}{vD uS:Rat}{vG:String}{d:TypeDesc}{z u:Value}
section
open Go.RowKit
def ConP(P:Program)(f:FuncId)(args:List AV)(G:List Ow)(Q:AV->List Ow->Prop)(R:List PanicEntry)(N:Prop):Prop:=
 (∀args w,(callFunc f args).run P w=.ok (.enter f args) w)/\∀(s:GS) (X:Nat->Value) (J:List Value),s.Ok->HpOk 0 X s G->Sep s X G->J.length=args.length->(∀(k:Nat) av,args[k]? = some av->AVr G.length X s av (J.getD k undef)) ->
  Calls P f J.toArray s.w λe M=>(∃v,e=.returned v/\∃(j:GS) (q:Nat->Value) (r:AV) (H:List Ow),Q r H/\j.w=M/\AVr H.length q j r v/\Aft s X G [] j q H)\/(e=.panicked R/\N/\∃j:GS,j.w=M/\Aft s X G [] j X (List.replicate G.length .dead))
theorem Wf{n i:Nat}(h:(List.replicate n Ow.dead)[i]? = some vt):vt=.dead:=by
 rw[List.getElem?_replicate]at h;split at h
 .exact (Yag h).symm
 .cases h
theorem Aft.take{s:GS}{hp:List Ow}{s':GS}{ρ':Nat->Value}(h:Aft s vi hp l s' ρ' vA)(I:∀(i:Nat) o,(vA.take hp.length)[i]? = some o->o.below hp.length):Aft s vi hp l s' ρ' (vA.take hp.length):=by
 have n:(vA.take hp.length).length=hp.length:=by rw[YaO];have:=h.len;omega
 have E:∀i o,(vA.take hp.length)[i]? = some o->vA[i]? = some o:=λi o J=>by
  rw[YaK]at J;split at J
  .exact J
  .cases J
 refine⟨h.le,h.ok,λi o J=>?_,λi j o t F J W=>h.sep i j o t F (E i o J) (E j t W),λi o b J=>h.own i o b (E i o J),h.kp,by rw[n];exact Yah _⟩;have q:=h.mem i o (E i o J);rw[n];have B:=I i o J;have K:i<hp.length:=by have:=Cs J;omega
 exact OwR.un (e:=λi=>i) (by
  have:o.ren (λi=>i)=o:=by
   cases o with
   |dead=>rfl
   |var T c=>exact congrArg (Ow.var T) ((YaY λa _=>by cases a<;>simp[AV.ren]).trans (Yey _))
   |row T C r=>rfl
   |obj O=>rfl
   |pin A=>exact congrArg Ow.pin ((YaY λa _=>by obtain⟨v,a⟩:=a;cases a<;>simp[AV.ren]).trans (Yey _))
  rw[this];exact q) B K λ_ _=>rfl
def A8O:AV->Bool
 |.d _=>true
 |_=>false
theorem Con.cut{Q N:AV->List Ow->Prop}(h:Con P ve R H l Q)(k:∀r F,Q r F->A8O r=true/\(∀(i:Nat) o,(F.take H.length)[i]? = some o->o.below H.length)/\N r (F.take H.length)):Con P ve R H l N:=
 ⟨h.1,λs X J q A K Y n=>(h.2 s X J q A K Y n).mono λe M ⟨v,a,j,G,r,F,I,c,V,C⟩=>by
  obtain⟨B,E,L⟩:=k r F I
  cases r with
  |d x=>exact⟨v,a,j,G,.d x,_,L,c,V,C.take E⟩
  |_=>cases B⟩
def FinP(P:Program)(b:Func)(J:List Value)(Q:AV->List Ow->Prop)(R:List PanicEntry)(N:Prop)(e:Exit)(c:AS):Prop:=FinC P b [] J Q e c\/(e=.panic R/\N)
theorem FinP.ret{Q:AV->List Ow->Prop}{r:AV}(h:RetsA P vf vO.results r)(Z:GZ vf.hp ug.length .dead=some H)(i:Q r H)(G:vf.hp[ug.length]? = some (.pin (FA [] 0 ug))):FinP P vO ug Q vU vI .ret vf:=.inl (Bs h Z i G)
def PanQ(R:List PanicEntry)(Q:Exit->AS->Prop):Prop:=∀c,Q (.panic R) c
theorem AN{Q:AV->List Ow->Prop}(h:vI):PanQ vU (FinP P vO ug Q vU vI):=λ_=>.inr ⟨rfl,h⟩
theorem AH{N:AS->Prop}{Q:Exit->AS->Prop}(h:PanQ vU Q):PanQ vU (AThen N Q):=λc=>⟨h c⟩
theorem PanQ.block{id:Nat}{Q:Exit->AS->Prop}(h:PanQ vU Q):PanQ vU (ABlock id Q):=λc=>⟨h c⟩
theorem PanQ.loop{I:Nat->AS->Prop}{m:Nat}{Q:Exit->AS->Prop}(h:PanQ vU Q):PanQ vU (ALoop I m Q):=λc=>⟨h c⟩
theorem Zy(M:P.funcs[ve]? = some vO)(E:vO.body=some vp)(xf:∀R w,(callFunc ve R).run P w=.ok (.enter ve R) w)(F:Nat.ble R.length vO.ntmps=true)
  (h:∀(Q:An) (f:List Value),f.length=H.length->AWp P Q vO.ntmps vp (FinP P vO f vy vU vI) ⟨Je 0 R,H++[.pin (FA [] 0 f)]⟩):ConP P ve R H vy vU vI:=by
 refine⟨xf,λs X f c m xg I N=>calls_of_wp M E ?_⟩;have x:R.length<=vO.ntmps:=by simpa[YdX]using F
 have xb:((List.range H.length).map X).length=H.length:=by simp
 have n:(H++[Ow.pin (FA [] 0 ((List.range H.length).map X))]).length=H.length+1:=by simp
 have xa:∀i o,(H++[Ow.pin (FA [] 0 ((List.range H.length).map X))])[i]? = some o->H[i]? = some o\/o=Ow.pin (FA [] 0 ((List.range H.length).map X)):=λi o J=>ZaR
 have IL:∀k,k<H.length->((List.range H.length).map X).getD k undef=X k:=λk B=>by
  exact Zie
 refine wp_mono ((h ⟨s,IJ s X H,[]⟩ ((List.range H.length).map X) xb).run { tmps:=f.toArray++Array.replicate (vO.ntmps-f.toArray.size) undef,defers:=[] } s.w ⟨s,X,rfl,GS.LeX.refl _ s,c,λt d L=>?_,by simp;omega,rfl,λi o J=>?_,λi j o O z J W b xd xh=>?_,λi o b J xd=>?_⟩) ?_
 .exact ZaS
 .show OwR 0 (H++[Ow.pin _]).length X s i o
  rw[n];rcases xa i o J with q | rfl
  .exact (m i o q).mono (Yed _) (λ_ _=>rfl) (Cs q)
  .exact ZaT
 .exact ZaU
 .rcases xa i o J with q | rfl
  .exact .inl ⟨i,o,q,xd⟩
  .exact xd.elim
 .intro e a w ⟨τ,U,G,l,g,V⟩
  subst g;rcases U with⟨C,⟨r,S,Z,xk,u⟩,xj⟩ | ⟨rfl,hN⟩
  rotate_left
  .refine ⟨V.df, .inr ⟨rfl, hN, G, rfl, ⟨V.le, V.ok, λi o J=>?_, λi j o O z J W b E y=>?_, λi o b J E=>?_, λ_ _ _=>rfl, by rw [YdM]; exact Yah _⟩⟩⟩
   .obtain rfl:=Wf J
    trivial
   .obtain rfl:=Wf J
    exact E.elim
   .obtain rfl:=Wf J
    exact E.elim
  subst xk;rw[xb]at xj u;obtain⟨v,q,A⟩:=Z.run _ l G a.tmps vO rfl V.hp V.fr
  have T:∀i o,(τ.hp.set H.length .dead)[i]? = some o->o=Ow.dead\/τ.hp[i]? = some o:=λi o J=>ZaV
  have U:Aft s X H [] G l (τ.hp.set H.length .dead):=ZaW
  have xe:AVr (τ.hp.set H.length .dead).length l G r v:=by rw[Ycg];exact A
  rcases C with rfl | rfl
  .exact Zkg
  .exact Zkg
def Kw(e:Nat->Nat)(m:Nat)(y:AV)(q:FuncId)(pre Y:List Nat):Prop:=(y=.d (ex (.func (.func q) #[] #[]))/\pre=[]/\Y=[])\/(y=.fn q (Y.map e)/\pre=[]/\Y.all (Nat.blt · m)=true/\Nat.blt q 1000000=true)\/(y=.fn (q+1000000) (pre.map e)/\Y=[]/\pre.all (Nat.blt · m)=true)
theorem A1Y{F G:Type}{R:F->G->Prop}{u:G}{A B:List F}{V W:List G}(I:A.length=V.length)(q:∀(k:Nat) a,A[k]? = some a->R a (V.getD k u))(C:∀(k:Nat) a,B[k]? = some a->R a (W.getD k u)):∀(k:Nat) a,(A++B)[k]? = some a->R a ((V++W).getD k u):=λk a h=>by
 rw[YaQ]at h;rw[Yab,YaQ];split at h
 .rename_i O
  rw[Yan ZbG,<-Yab];exact q k a h
 .rename_i E
  rw[Yai ZbG,I.symm,<-Yab];exact C _ a h
section
variable {P:Program} {s0:An} {n:Nat} {ops:Array Oper} {Q:Exit->AS->Prop} {rest:List Oper} {fr:List (Nat×AV)} {hp:List Ow}
theorem A61{hpS:List Ow}(V:va.op=.call { callee:=.value x,args:=vN.toArray,argTypes:=vs })(sel:List Nat){m:Nat}(O:HT hp=some m)(p:Kw (BM sel m) hpS.length (AS.arg ⟨fr,hp⟩ x) ve l h)
  (xb:∀vN w,(callFunc ve vN).run P w=.ok (.enter ve vN) w) (M:ArgsC hp (BM sel m) hpS.length (AS.arg ⟨fr,hp⟩) vN R) (xc:sel.Nodup) (xa:SelR (BM sel m) hp hpS.length sel hpS) (xf:∀i∈l,∃T cells,hpS[i]? = some (.var T cells)) (xe:∀i∈h,∃T cells,hpS[i]? = some (.var T cells))
  {s:GS} (hst:StI s0 n ⟨fr,hp⟩ vj s vi):∃Z:List Value,Z.length=(l.map (AV.ptr · 0)++R++h.map (AV.ptr · 0)).length/\(execOp vj.eval va).run P s.w=.ok (.enter ve Z.toArray) s.w/\HpOk 0 (λk=>vi (BM sel hp.length k)) s hpS/\Sep s (λk=>vi (BM sel hp.length k)) hpS /\
   ∀(k:Nat) X,(l.map (AV.ptr · 0)++R++h.map (AV.ptr · 0))[k]? = some X->AVr hpS.length (λk=>vi (BM sel hp.length k)) s X (Z.getD k undef):=by
 obtain rfl:=FP O;obtain⟨g,c⟩:=xa.get;obtain⟨xh,xk⟩:=M.get;have xj:∀i,i<hpS.length->(λk=>vi (BM sel hp.length k)) i=vi (BM sel hp.length i):=λ_ _=>rfl
 have U:∀k t,hpS[k]? = some t->hp[BM sel hp.length k]? = some (t.ren (BM sel hp.length)):=λk t F=>by
  rw[Ft (by have:=Cs F;omega)];exact(c k t F).1
 have o:HpOk 0 (λk=>vi (BM sel hp.length k)) s hpS:=λk t F=>(hst.hp _ _ (U k t F)).un (c k t F).2 (Cs F) xj
 have xd:Sep s (λk=>vi (BM sel hp.length k)) hpS:=λi j r H z J W b G y=>by
  refine hst.sep _ _ _ _ (λe=>z ?_) (U i r J) (U j H W) b (Rb.2 G) (Rb.2 y);have B:=Cs J;have E:=Cs W;rw[Ft ZbG,Ft ZbG,Yab,Yac ZbG,Yab,Yac ZbG]at e;exact Ut xc _ _ e
 have xg:∀(k:Nat) X,R[k]? = some X->AVr hpS.length (λk=>vi (BM sel hp.length k)) s X ((vN.map vj.eval).getD k undef):=λk X F=>by
  obtain⟨A,B,E⟩:=xk k X F;have K:=hst.arg A;have Y:(vN.map vj.eval).getD k undef=vj.eval A:=by rw[Yab,Yau,B];rfl
  rw[Y];rcases E with⟨d,u,rfl,N,S⟩ | ⟨N,S⟩
  .exact S s _ (Ex hst.hp K N)
  .rw [N]at K
   exact K.un S xj
 have xi:∀(C:List Nat),(∀i∈C,∃T cells,hpS[i]? = some (.var T cells))->∀(k:Nat) X,(C.map (AV.ptr · 0))[k]? = some X->AVr hpS.length (λk=>vi (BM sel hp.length k)) s X ((C.map λi=>vi (BM sel hp.length i)).getD k undef):=λC I k X F=>by
  rw[Yau]at F;rw[Yab,Yau]
  cases J:C[k]? with
  |none=>rw[J]at F;cases F
  |some i=>
   rw[J]at F;cases F;obtain⟨T,cells,B⟩:=I i (YaB J);obtain⟨b,f,E,_⟩:=o i _ B;exact⟨Cs B,b,E,E⟩
 have a:R.length=vN.length:=xh.symm;refine⟨(l.map λi=>vi (BM sel hp.length i))++vN.map vj.eval++h.map λi=>vi (BM sel hp.length i),by simp[xh],?_,o,xd,A1Y (by simp[xh]) (A1Y ZbV (xi l xf) xg) (xi h xe)⟩;have K:=hst.arg x;rcases p with⟨Y,rfl,rfl⟩ | ⟨Y,rfl,N,S⟩ | ⟨Y,rfl,N⟩
 .rw [Y]at K
  have L:vj.eval x=.func (.func ve) #[] #[]:=K;simp[execOp,V,resolve,L,Deferred.ofValue,invoke,xb]
 .rw [Y]at K
  have L:vj.eval x=.func (.func ve) #[] ((h.map (BM sel hp.length)).map vi).toArray:=by rw[K.2,fnV,S];rfl
  exact Zik
 .rw [Y]at K
  have v:Nat.blt (ve+1000000) 1000000=false:=by
   cases q:Nat.blt (ve+1000000) 1000000 with
   |false=>rfl
   |true=>rw[Ybh]at q;omega
  have L:vj.eval x=.func (.func ve) ((l.map (BM sel hp.length)).map vi).toArray #[]:=by rw[K.2,fnV,v,YbX];rfl
  exact Zik
theorem A7U{hpS:List Ow}(J:va.op=.call { callee:=.value x,args:=vN.toArray,argTypes:=vs })(sel:List Nat){m:Nat}(E:HT hp=some m)(p:Kw (BM sel m) hpS.length (AS.arg ⟨fr,hp⟩ x) ve l h)
  (F:Con P ve (l.map (AV.ptr · 0)++R++h.map (AV.ptr · 0)) hpS vo vy) (z:LostOk sel vo m fr hp) (B:ArgsC hp (BM sel m) hpS.length (AS.arg ⟨fr,hp⟩) vN R) (xa:sel.Nodup) (U:SelR (BM sel m) hp hpS.length sel hpS) (xe:∀i∈l,∃T cells,hpS[i]? = some (.var T cells)) (xd:∀i∈h,∃T cells,hpS[i]? = some (.var T cells)) (A:Wh va.dst n=true)
  (next:∀r H,vy r H->∃O u d,AVRen (BM sel m) r O/\SetR (BM sel m) hp sel H u/\AppR (BM sel m) u (My sel.length H) d/\AWl P s0 n ops Q rest (AS.put ⟨fr,d⟩ va.dst O)) :
  ∀(s:GS) (X:Nat->Value) (a:Act),StI s0 n ⟨fr,hp⟩ a s X->∀K:Act->World->Prop,(∀t N M,AWl P s0 n ops Q rest t->St s0 n t N M->K N M)->va.wp P a s.w K (GG s0 n Q):=by
 intro s X a G K b;obtain⟨L,w,xf,Z,xb,xg⟩:=A61 J sel E p F.1 B xa U xe xd G;obtain rfl:=FP E;have Y:=F.2 s (λk=>X (BM sel hp.length k)) L G.ok Z xb w xg;unfold Oper.wp;rw[xf];refine Calls.mono Y λe M q=>?_;obtain⟨v,rfl,j,S,r,H,C,rfl,I,f⟩:=q;obtain⟨O,u,d,y,W,V,c⟩:=next r H C;replace y:O=r.ren (BM sel hp.length):=y;rw[AppR,NG]at V;subst y;subst V;obtain⟨xc,o,g⟩:=StI.con (sel:=sel) (hpS:=hpS) z.get.1 z.get.2 G xa U f W;exact b _ _ _ c ⟨j,xc,rfl,o.put (GS.Le.refl j) (Jz A) (g r v I)⟩
theorem A7T{hpS Hd:List Ow}(J:va.op=.call { callee:=.value x,args:=vN.toArray,argTypes:=vs })(sel:List Nat){m:Nat}(E:HT hp=some m)(p:Kw (BM sel m) hpS.length (AS.arg ⟨fr,hp⟩ x) ve l h)
  (F:ConP P ve (l.map (AV.ptr · 0)++R++h.map (AV.ptr · 0)) hpS vy vU vI) (xa:SetR (BM sel m) hp sel (List.replicate hpS.length .dead) Hd) (xi:vI->Q (.panic vU) ⟨fr,Hd⟩) (B:ArgsC hp (BM sel m) hpS.length (AS.arg ⟨fr,hp⟩) vN R) (xd:sel.Nodup) (xc:SelR (BM sel m) hp hpS.length sel hpS) (xh:∀i∈l,∃T cells,hpS[i]? = some (.var T cells)) (xg:∀i∈h,∃T cells,hpS[i]? = some (.var T cells)) (A:Wh va.dst n=true)
  (next:∀r H,vy r H->∃O z t,AVRen (BM sel m) r O/\SetR (BM sel m) hp sel H z/\AppR (BM sel m) z (My sel.length H) t/\AWl P s0 n ops Q rest (AS.put ⟨fr,t⟩ va.dst O)) :
  ∀(s:GS) (X:Nat->Value) (a:Act),StI s0 n ⟨fr,hp⟩ a s X->∀K:Act->World->Prop,(∀w N M,AWl P s0 n ops Q rest w->St s0 n w N M->K N M)->va.wp P a s.w K (GG s0 n Q):=by
 intro s X a G K c;obtain⟨L,U,xj,b,xe,xk⟩:=A61 J sel E p F.1 B xd xc xh xg G;obtain rfl:=FP E;obtain⟨V,-⟩:=xc.get;have Y:=F.2 s (λk=>X (BM sel hp.length k)) L G.ok b xe U xk;have xb:LostOk sel [] hp.length fr hp:=.inl rfl;unfold Oper.wp;rw[xj];refine Calls.mono Y λe M q=>?_;rcases q with⟨v,rfl,j,S,r,H,C,rfl,I,f⟩ | ⟨rfl,hN,j,rfl,f⟩
 .obtain ⟨O,z,t,y,W,Z,g⟩:=next r H C
  replace y:O=r.ren (BM sel hp.length):=y;rw[AppR,NG]at Z;subst y;subst Z;obtain⟨xf,o,u⟩:=StI.con (sel:=sel) (hpS:=hpS) xb.get.1 xb.get.2 G xd xc f W;exact c _ _ _ g ⟨j,xf,rfl,o.put (GS.Le.refl j) (Jz A) (u r v I)⟩
 .obtain ⟨xf,o,-⟩:=StI.con (sel:=sel) (hpS:=hpS) xb.get.1 xb.get.2 G xd xc f xa
  have d:(List.replicate hpS.length Ow.dead).drop sel.length=[]:=YaL (by rw[YdM];omega);rw[d,Ycj,YbC]at o;exact⟨_,xi hN,j,xf,rfl,o⟩
theorem AU{f:TypeId}{t:Nat}(G:List Nat)(pre Y:List Nat)(F:Con P ve R H l vy)(J:LostOk G l b fr hp)(E:R=pre.map (AV.ptr · 0)++(R.drop pre.length).take vN.length++Y.map (AV.ptr · 0))(A:HT hp=some b)(p:Kw (BM G b) H.length (AS.arg ⟨fr,hp⟩ x) ve pre Y)
  (q:ArgsC hp (BM G b) H.length (AS.arg ⟨fr,hp⟩) vN ((R.drop pre.length).take vN.length)) (K:G.Nodup) (a:SelR (BM G b) hp H.length G H) (L:CapsOk H pre) (S:CapsOk H Y) (e:Nat.blt t n=true)
  (next:∀r B,vy r B->∃C y I,AVRen (BM G b) r C/\SetR (BM G b) hp G B y/\AppR (BM G b) y (My G.length B) I/\AWl P s0 n ops Q rest ⟨(t,C)::fr,I⟩) :
  AWl P s0 n ops Q (⟨some t,.call { callee:=.value x,args:=vN.toArray,argTypes:=vs },f,vG,vH,none⟩::rest) ⟨fr,hp⟩:=by
 rw[E]at F;exact AWl.step rfl (A7U rfl G A p F J q K a L.get S.get e next)
theorem Bd{f:TypeId}{t:Nat}(E:List Nat)(pre Y:List Nat){m:Nat}(F:ConP P ve R H vy vU vI)(M:SetR (BM E m) hp E (List.replicate H.length .dead) vA)(K:vI->Q (.panic vU) ⟨fr,vA⟩)(C:R=pre.map (AV.ptr · 0)++(R.drop pre.length).take vN.length++Y.map (AV.ptr · 0))(q:HT hp=some m)(p:Kw (BM E m) H.length (AS.arg ⟨fr,hp⟩ x) ve pre Y)
  (l:ArgsC hp (BM E m) H.length (AS.arg ⟨fr,hp⟩) vN ((R.drop pre.length).take vN.length)) (I:E.Nodup) (a:SelR (BM E m) hp H.length E H) (J:CapsOk H pre) (S:CapsOk H Y) (e:Nat.blt t n=true)
  (next:∀r A,vy r A->∃B y G,AVRen (BM E m) r B/\SetR (BM E m) hp E A y/\AppR (BM E m) y (My E.length A) G/\AWl P s0 n ops Q rest ⟨(t,B)::fr,G⟩) :
  AWl P s0 n ops Q (⟨some t,.call { callee:=.value x,args:=vN.toArray,argTypes:=vs },f,vG,vH,none⟩::rest) ⟨fr,hp⟩:=by
 rw[C]at F;exact AWl.step rfl (A7T rfl E q p F M K l I a J.get S.get e next)
end
theorem EP{E:TypeId}(C:vz x=.ptr n 0):Quiet P H ⟨vB,.makeFunc (.func ve) #[x] #[],E,vG,vH,vQ⟩ vz (.fn (ve+1000000) [n]):=by
 refine⟨λbase s X i B z Z r=>?_⟩;have Y:=r x ZcW;rw[C]at Y;obtain⟨q,b,A,f⟩:=Y
 have l:Nat.blt (ve+1000000) 1000000=false:=by
  cases h:Nat.blt (ve+1000000) 1000000 with
  |false=>rfl
  |true=>rw[Ybh]at h;omega
 refine Cd (v:=.func (.func ve) #[i x] #[]) (by simp[execOp,Instr.makeFunc]) ⟨GS.Le.refl s,λj W=>by rw[Yaz.1 W];exact q,?_⟩;rw[fnV,l,YbX,f,Ybc,Ycj,A];rfl
section
variable {P:Program} {f:FuncId} {fn:Func} {c:Code} {args:List AV} {Q:AV->List Ow->Prop} {ch:List PanicEntry} {N:Prop} (hf:P.funcs[f]? = some fn) (hb:fn.body=some c) (hcf:∀args w,(callFunc f args).run P w=.ok (.enter f args) w) (hn:Nat.ble args.length fn.ntmps=true)
include hf hb hcf hn
theorem Bu(h:∀(q:An) (S:Value),AWp P q fn.ntmps c (FinP P fn [S] Q ch N) ⟨Je 0 args,[vt,.pin [(S,.own 0)]]⟩):ConP P f args [vt] Q ch N:=
 Zy hf hb hcf hn λq J r=>by
  match J,r with
  |[S],_=>exact h q S
end
theorem BX{j:Nat}(Z:GZ H j .dead=some vA):SetR vF H [j] (List.replicate 1 Ow.dead) vA:=SetR.cons OwRen.dead Z SetR.nil
section
variable {P:Program} {s0:An} {n:Nat} {ops:Array Oper} {Q:Exit->AS->Prop} {rest:List Oper} {fr:List (Nat×AV)} {hp:List Ow}
theorem Dq{f:TypeId}{T:TypeId}{v:Value}(C:AS.arg ⟨fr,hp⟩ x=.d (ex (.iface T v)))(k:Q (.panic [{ v:=.iface T v,recovered:=false }]) ⟨fr,hp⟩):AWl P s0 n ops Q (⟨none,.panic x,f,vG,vH,none⟩::rest) ⟨fr,hp⟩:=AWl.step rfl λs X a q K h=>by
 have e:a.eval x=.iface T v:=by
  have:=q.arg x;exact Zjc
 have A:(execOp a.eval ⟨none,.panic x,f,vG,vH,none⟩).run P s.w=.halt (.panic (.iface T v)) s.w:=by
  simp[execOp,e,Instr.panic]
 unfold Oper.wp;rw[A];exact⟨⟨fr,hp⟩,k,s,X,rfl,q⟩
end
def Ib(s t:Tm):Int:=if LU s.m t.m=true then ID s.c t.c else Ih s.m t.m
def CW:List Tm->List Tm->Int
 |[],[]=>0
 |[],_::_=>-1
 |_::_,[]=>1
 |s::P,t::Q=>if Ib s t=0 then CW P Q else Ib s t
theorem ZA(s t:Tm)(Z:RSz s.c 1000000000)(L:RSz t.c 1000000000):Abs prog 296 [AQ (QA s),AQ (QA t)] (ex (.int .i64 (Ib s t))):=by
 cases h:LU s.m t.m with
 |true=>
  have e:Ib s t=ID s.c t.c:=Yan h;refine Ab func296 λw=>?_;rw[ntmps296];have H:=No s.c t.c Z L;exact ZiY
 |false=>
  have e:Ib s t=Ih s.m t.m:=Yai (by rw[h];decide);refine Ab func296 λw=>?_;rw[ntmps296];have P:=Sg s.m t.m;exact ZiY
theorem OO(q:n<vb.length)(A:n<uf.length):CW (vb.drop n) (uf.drop n)=if Ib (Bv vb n) (Bv uf n)=0 then CW (vb.drop (n+1)) (uf.drop (n+1))else Ib (Bv vb n) (Bv uf n):=by
 rw[GQ q,GQ A,CW]
theorem Xd(P Q:List Tm)(M:PSz P 1000000000)(i:PSz Q 1000000000)(h:P.length<=1000000)(x:Q.length<=1000000):Abs prog 295 [BP P,BP Q,ex (.func (.func 296) #[] #[])] (ex (.int .i64 (CW P Q))):=by
 refine Ab func295 λw=>?_;rw[ntmps295];refine Go ?_;refine AF (λv c=>∃k,k<=P.length/\k<=Q.length/\CW P Q=CW (P.drop k) (Q.drop k)/\v=P.length-k/\c=⟨[(0,.d (BP P)),(1,.d (BP Q)),(2,.d (ex (.func (.func 296) #[] #[]))),(11,.d (BP P)),(12,.d (ex (.int .i64 (P.length:Nat)))),(13,.d (ex (.int .i64 (k:Nat))))],[]⟩) ?le ⟨0,by omega,by omega,rfl,rfl,rfl⟩ ?round
 case le=>exact Ac Zdx Zcf
 case round=>
  rintro m _ ⟨k,B,A,heq,rfl,rfl⟩;by_cases O:k<P.length
  .by_cases K:k<Q.length
   .have Z:=M _ (Dz O)
    have L:=i _ (Dz K);have q:=OO O K;by_cases u:Ib (Bv P k) (Bv Q k)=0
    .rw [Yan u]at q
     have r:=ZA (Bv P k) (Bv Q k) Z L;refine Go ?_;refine Ai (P.length-(k+1)) ZbG ⟨k+1,by omega,by omega,by rw[heq,q],rfl,rfl⟩ ?_;exact Ac Zdx Zcf
    .rw [Yai u]at q
     have d:=ZA (Bv P k) (Bv Q k) Z L;refine Go ?_;exact AA (Am (ResV.tmp rfl rfl) (Ae (by rw[heq,q])))
   .have e:CW P Q=1:=by
     exact Zkh
    refine Go ?_;exact AA (Am (ResV.tmp rfl rfl) (Ae Zey))
  .have G:P.drop k=[]:=YaL ZbG
   by_cases K:k<Q.length
   .have e:CW P Q=-1:=by
     rw[heq,G,GQ K,CW]
    refine Go ?_;exact AA (Am (ResV.tmp rfl rfl) (Ae Zey))
   .have e:CW P Q=0:=by
     exact Zki
    refine Go ?_;exact AA (Am (ResV.tmp rfl rfl) (Ae Zey))
theorem A6E(P Q:List Tm)(M:PSz P 1000000000)(i:PSz Q 1000000000)(h:P.length<=1000000)(x:Q.length<=1000000):Abs prog 243 [BP P,BP Q] (ex (.int .i64 (CW P Q))):=by
 refine Ab func243 λw=>?_;rw[ntmps243];have O:=Xd P Q M i h x;exact Zfx
theorem A21:ID vD uS<=0↔vD<=uS:=by
 rw[ID,Int.sign_nonpos_iff,Rat.le_iff];omega
theorem A2Y:ID vD uS=0↔vD=uS:=by
 rw[ID,Ydk,Rat.eq_iff_mul_eq_mul];omega
theorem A55(p q:Rat):ID q p=-ID p q:=by
 rw[ID,ID,<-Int.sign_neg];exact Zhe
theorem QE{s t:Tm}(h:Eqv s.m t.m):Ib s t=ID s.c t.c:=Yan (GP.2 h)
theorem QD{s t:Tm}(h:¬Eqv s.m t.m):Ib s t=lx s.m t.m:=by rw[Ib,Yai λV=>h (GP.1 V),MM]
theorem A4F(s t:Tm):Ib t s=-Ib s t:=by
 by_cases h:Eqv s.m t.m
 .rw [QE h,QE h.symm];exact A55 _ _
 .rw [QD h,QD λV=>h V.symm];exact A5C _ _
theorem Ua{s t:Tm}:Ib s t=0↔s.c=t.c/\Eqv s.m t.m:=by
 by_cases h:Eqv s.m t.m
 .rw [QE h,A2Y];exact⟨λe=>⟨e,h⟩,λe=>e.1⟩
 .rw [QD h]
  exact⟨λe=>absurd (QN.1 e) h,λe=>absurd e.2 h⟩
theorem XM:∀P Q:List Tm,CW Q P=-CW P Q
 |[],[]=>by simp[CW]
 |[],_::_=>by simp[CW]
 |_::_,[]=>by simp[CW]
 |s::P,t::Q=>by
  have h:=A4F s t;rw[CW,CW];by_cases d:Ib s t=0
  .rw [Yan d,Yan ZbG,XM P Q]
  .rw [Yai d,Yai ZbG,h]
theorem LH:∀{P Q:List Tm},CW P Q=0↔SameL P Q
 |[],[]=>by simp[CW,SameL]
 |[],_::_=>by simp[CW,SameL]
 |_::_,[]=>by simp[CW,SameL]
 |s::P,t::Q=>by
  have v:=LH (P:=P) (Q:=Q);have h:=Ua (s:=s) (t:=t);rw[CW];by_cases d:Ib s t=0
  .rw [Yan d,v]
   have:=h.1 d;exact⟨λe=>⟨this.1,this.2,e⟩,λe=>e.2.2⟩
  .rw [Yai d]
   exact⟨λe=>absurd e d,λe=>absurd (h.2 ⟨e.1,e.2.1⟩) d⟩
theorem XN(h:CW vb uf=0):vb.length=uf.length:=(LH.1 h).length
theorem A3C(s t:Tm)(Z:RSz s.c 1000000000)(L:RSz t.c 1000000000):Abs prog 135 [AQ (QA s),AQ (QA t)] (ex (.bool (decide (Ib s t=0)))):=by
 cases h:LU s.m t.m with
 |true=>
  have e:Ib s t=ID s.c t.c:=Yan h;by_cases k:ID s.c t.c=0
  .have q:decide (Ib s t=0)=true:=Yak (e.trans k)
   refine Ab func135 λw=>?_;rw[ntmps135];have H:=No s.c t.c Z L;exact Zhc
  .have q:decide (Ib s t=0)=false:=Yad (by rw [e]; exact k)
   refine Ab func135 λw=>?_;rw[ntmps135];have P:=No s.c t.c Z L;exact Zhc
 |false=>
  have A:¬Eqv s.m t.m:=λV=>by rw[GP.2 V]at h;cases h
  have q:decide (Ib s t=0)=false:=Yad λe=>A (Ua.1 e).2;refine Ab func135 λw=>?_;rw[ntmps135];exact Zhc
theorem A1t(P Q:List Tm)(M:PSz P 1000000000)(i:PSz Q 1000000000)(h:P.length<=1000000)(x:Q.length<=1000000):Abs prog 134 [BP P,BP Q,ex (.func (.func 135) #[] #[])] (ex (.bool (decide (CW P Q=0)))):=by
 by_cases n:P.length=Q.length
 .refine Ab func134 λw=>?_
  rw[ntmps134];refine Go ?_;refine AF (λv c=>∃k,k<=P.length/\CW P Q=CW (P.drop k) (Q.drop k)/\v=P.length-k/\c=⟨[(1,.d (BP Q)),(2,.d (ex (.func (.func 135) #[] #[]))),(15,.d (BP P)),(16,.d (ex (.int .i64 (P.length:Nat)))),(17,.d (ex (.int .i64 (k:Nat))))],[]⟩) ?le ⟨0,by omega,rfl,rfl,rfl⟩ ?round
  case le=>exact Zkj
  case round=>
   rintro m _ ⟨k,B,heq,rfl,rfl⟩;by_cases O:k<P.length
   .have A:k<Q.length:=by omega
    have Z:=M _ (Dz O);have L:=i _ (Dz A);have q:=OO O A;have K:=A3C (Bv P k) (Bv Q k) Z L;by_cases u:Ib (Bv P k) (Bv Q k)=0
    .rw [Yan u]at q
     rw[Yak u]at K;refine Go ?_;refine Ai (P.length-(k+1)) ZbG ⟨k+1,by omega,by rw[heq,q],rfl,rfl⟩ ?_;exact Zkj
    .rw [Yai u]at q
     rw[Yad u]at K;have a:decide (CW P Q=0)=false:=Yad (by rw[heq,q];exact u);exact ZiO
   .have a:decide (CW P Q=0)=true:=Yak (by
     rw[heq,(YaL ZbG:P.drop k=[]),(YaL ZbG:Q.drop k=[]),CW])
    refine Go ?_;exact AA (Am (ResV.tmp rfl rfl) (Ae (by rw[a])))
 .have a:decide (CW P Q=0)=false:=Yad λe=>n (XN e)
  refine Ab func134 λw=>?_;rw[ntmps134];exact ZiO
theorem UU(P Q:List Tm)(M:PSz P 1000000000)(i:PSz Q 1000000000)(h:P.length<=1000000)(x:Q.length<=1000000):Abs prog 65 [BP P,BP Q] (ex (.bool (decide (CW P Q=0)))):=by
 refine Ab func65 λw=>?_;rw[ntmps65];have r:=A1t P Q M i h x;exact Zfx
section
variable {P:Program} {hp:List Ow} {arg:Operand->AV} {dd:Option Tmp} {ty:TypeId} {ps:String} {af:Array Edge} {gd:Option (Nat×Bool)}
end
theorem Oy{Q:Exit->Act->World->Prop}{L:Array Oper}(I:Array Bool->Act->World->Prop)
  (C:∀U a w i,U.size=L.size->I U a w->i∈Region.ready .any L U->wpOp P L Q i (λB M=>I (U.setIfInBounds i true) B M) a w)
  (u:∀U a w,U.size=L.size->I U a w->Region.ready .any L U=[]->Q .normal a w) :
  ∀(f:Nat) (U:Array Bool) a w,U.size=L.size->U.count false<=f->I U a w->wpAny P .any L Q f U a w:=by
 have G:∀(U:Array Bool) i,i∈Region.ready .any L U->∃h:i<U.size,U[i]=false:=λU i J=>by
  have q:=(mem_ready.1 J).1
  have O:i<U.size:=by
   rcases YaD i U.size with h | h
   .exact h
   .rw [YaH,Array.getElem?_eq_none h]at q
    simp at q
  refine⟨O,?_⟩;rw[YaH,YaJ O]at q;exact Zjz
 have N:∀(U:Array Bool),Region.ready .any L U≠[]->U.count false≠0:=λU h=>by
  obtain⟨i,J⟩:=List.exists_mem_of_ne_nil _ h;obtain⟨O,r⟩:=G U i J;rw[<-YdB];have A:U.toList[i]'(ZeZ)=false:=by simpa using r
  have K:0<U.toList.count false:=List.count_pos_iff.2 (A▸Ybm _);omega
 intro f
 induction f with
 |zero=>
  intro U a w t p W;have d:Region.ready .any L U=[]:=Ydi λh=>N U h ZbG;exact⟨d,u U a w t W d⟩
 |succ f v=>
  intro U a w t p W;refine⟨λd=>u U a w t W d,λi J=>?_⟩;refine wpOp_mono (λB M E=>v _ B M (by simpa using t) ?_ E) (C U a w i t W J);obtain⟨O,r⟩:=G U i J
  have F:(U.setIfInBounds i true).count false+1=U.count false:=by
   rw[<-YdB,<-YdB,Array.toList_setIfInBounds,List.count_set ZeZ];have A:U.toList[i]'(ZeZ)=false:=by simpa using r
   have K:0<U.toList.count false:=List.count_pos_iff.2 (A▸Ybm _);rw[A];have b:(if((false:Bool)==false)=true then 1 else 0)=1:=rfl;have y:(if((true:Bool)==false)=true then 1 else 0)=0:=rfl;rw[b,y];omega
  omega
theorem A5r{s:GS}(C:s.Ok)(K:Nat->Value){T sz:Nat}(F:T≠335)(d:0<sz):∃(A:GS) (H:Nat->Value),A.w=s.w.alloc (.cells #[] T)/\H 0=.slice (some ⟨s.w.heap.size,0,none⟩) 0 0/\Aft s K [.row T sz []] [0] A H [.row T sz []]:=by
 obtain⟨A,H,c,P⟩:=VF (s0:=⟨s,λ_=>False,[]⟩) (n:=1) (σ:=⟨[],[]⟩) (ρ:=K) (a:={ tmps:=#[undef],defers:=[] }) (s:=s) (T:=T) (sz:=sz) (arr:=#[]) (cap:=0) (dst:=some 0) ⟨GS.LeX.refl _ s,C,(λt I L=>by cases L),rfl,rfl,(λi o J=>by simp at J),(λi j o B G J=>by simp at J),λi o b J=>by simp at J⟩ F d (by simp[maxLen]) ZbV rfl;have r:=P.fr 0 (.own 0) rfl;refine⟨A,H,c,r.2.symm,(GS.LeX.refl _ s).trans (P.le.le (λb h=>h)),P.ok,P.hp,P.sep,λi o b J E=>.inr ((P.own i o b J E).resolve_left λh=>h),λi J q=>absurd J (λh=>q (by simp at h ⊢;exact h)),Yah _⟩
inductive CK
 |q (r:AV)
 |o (k:Nat)
 |t (k:Nat)
def CK.hr:CK->HR
 |.q r=>.av r
 |_=>.av (.d CC)
def CK.isO(k:Nat):CK->Bool
 |.o j=>Nat.beq j k
 |_=>false
def CK.isT(k:Nat):CK->Bool
 |.t j=>Nat.beq j k
 |_=>false
theorem A4e{c:CK}(h:c.isO n=true):c=.o n:=by
 cases c with
 |o j=>rw[Yao h]
 |_=>cases h
theorem A4d{c:CK}(h:c.isT n=true):c=.t n:=by
 cases c with
 |t j=>rw[Yao h]
 |_=>cases h
def atK(G:List CK)(i:Nat)(p:CK->Bool):Bool:=match G[i]? with | some c=>p c | none=>false
def VG:Op->Option Operand
 |.move x=>some x
 |.assign x=>some x
 |_=>none
def VH:Op->Option (FuncId×Operand×Operand)
 |.call { callee:=.value (.func f),args:=#[x,y],.. }=>some (f,x,y)
 |_=>none
def Ab5:Op->Bool
 |.buildSlice _ 0 #[]=>true
 |_=>false
def PR(L:List Oper)(e:List (Nat×Nat)):Operand->Bool
 |.tmp t=>(e.any λp=>p.1==t)||(L.all λq=>q.dst != some t)
 |_=>true
def PN(G:List CK)(e:List (Nat×Nat))(q:Option Nat)(k:Nat)(I:Nat->Nat):Operand->Bool
 |.tmp x=>(Nat.beq k 0&&q==some x)||e.any λp=>p.1==x&&((atK G p.2 (CK.isO k))||(Nat.blt 0 k&&p.2==I (k-1)))
 |_=>false
def A9V(L:List Oper)(q:List (List (Nat×Nat)))(G:List CK)(u:List (Nat×AV))(n:Nat)(B:Option Nat)(K:Nat)(I:Nat->Nat):Bool:=
 Nat.beq L.length q.length&&Nat.beq L.length G.length&&(u.all λp=>L.all λA=>A.dst != some p.1)&&((List.range K).all λk=>atK G (I k) (CK.isT k)) &&
 (List.range L.length).all λi=>match L[i]?,q[i]?,G[i]? with
  |some o,some e,some c=>BO o.op&&o.guard.isNone&&((Bz o).all λk=>decide (k<i))&&(e.all λp=>(Bz o).contains p.2&&(match L[p.2]? with |some A=>A.dst==some p.1 |none=>false)) &&
   (match o.dst with | none=>false | some d=>decide (d<n)&&((List.range L.length).all λj=>j==i||(match L[j]? with | some A=>A.dst != some d | none=>true))) &&
   (match c with
    |.q _=>(match B with |some t=>o.dst != some t |none=>true)&&o.op.operands.all (PR L e)
    |.o k=>Nat.ble k K&&(Nat.beq k 0||(Bz o).contains (I (k-1)))&&(Nat.beq k K||(match L[I k]? with |some A=>(Bz A).contains i |none=>false))&&(match VG o.op with |some x=>PN G e B k I x |none=>false)
    |.t k=>Nat.blt k K&&i==I k&&(Nat.beq k 0||(Bz o).contains (I (k-1)))&&(Ab5 o.op||match VH o.op with |some (_,x,y)=>PN G e B k I x&&PR L e y |none=>false))
  |_,_,_=>false
structure ChkC(L:List Oper)(ks:List CK)(n:Nat)(tb:Option Nat)(K:Nat)(tp:Nat->Nat)(i:Nat)(o:Oper)(e:List (Nat×Nat))(c:CK)(d:Nat):Prop where
 ns:BO o.op=true
 gd:o.guard=none
 lt:∀k∈Bz o,k<i
 env:∀p∈e,p.2∈Bz o/\∃o',L[p.2]? = some o'/\o'.dst=some p.1
 dst:o.dst=some d
 dn:d<n
 du:∀(j:Nat) o',L[j]? = some o'->o'.dst=some d->j=i
 kq:∀r,c=.q r->tb≠some d/\∀y∈o.op.operands,PR L e y=true
 ko:∀k,c=.o k->k<=K/\(k=0\/tp (k-1)∈Bz o)/\(k=K\/∃o',L[tp k]? = some o'/\i∈Bz o')/\∃x,VG o.op=some x/\PN ks e tb k tp x=true
 kt:∀k,c=.t k->k<K/\i=tp k/\(k=0\/tp (k-1)∈Bz o)/\(Ab5 o.op=true\/∃f x y,VH o.op=some (f,x,y)/\PN ks e tb k tp x=true/\PR L e y=true)
theorem A7Y{M:List CK}{u:Option Nat}(h:A9V vd uD M vc n u b vF=true):vd.length=M.length/\(∀p∈vc,∀t∈vd,t.dst≠some p.1)/\(∀k,k<b->M[vF k]? = some (.t k))/\∀(i:Nat) o,vd[i]? = some o->∃e c d,uD[i]? = some e/\M[i]? = some c/\ChkC vd M n u b vF i o e c d:=by
 unfold A9V at h;simp only[Yam]at h;obtain⟨⟨⟨⟨q,A⟩,K⟩,Y⟩,J⟩:=h;refine⟨Yao A,λp G t Q=>by simpa using Yaj.1 (Yaj.1 K p G) t Q,λk B=>?_,λi o m=>?_⟩
 .have:=Yaj.1 Y k (Ybd.2 B)
  unfold atK at this
  cases F:M[vF k]? with
  |none=>rw[F]at this;cases this
  |some c=>rw[F]at this;rw[A4d this]
 .have L:=Yaj.1 J i (Ybd.2 (Yae.1 m).1)
  rw[m]at L
  cases a:uD[i]? with
  |none=>rw[a]at L;cases L
  |some e=>
   cases F:M[i]? with
   |none=>rw[a,F]at L;cases L
   |some c=>
    rw[a,F]at L;simp only[Yam]at L;obtain⟨⟨⟨⟨⟨Z,l⟩,s⟩,w⟩,v⟩,R⟩:=L
    cases I:o.dst with
    |none=>rw[I]at v;cases v
    |some d=>
     rw[I]at v;simp only[Yam,Yba]at v;refine⟨e,c,d,rfl,rfl,Z,by simpa using l,λk B=>by simpa using Yaj.1 s k B,λp G=>?_,I,v.1,λj t Q S=>?_,λr V=>?_,λk B=>?_,λk B=>?_⟩
     .have:=Yaj.1 w p G
      simp only[Yam]at this;refine⟨by simpa using this.1,?_⟩;have A:=this.2
      cases O:vd[p.2]? with
      |none=>rw[O]at A;cases A
      |some t=>rw[O]at A;exact⟨t,rfl,by simpa using A⟩
     .have:=Yaj.1 v.2 j (Ybd.2 (Yae.1 Q).1)
      rw[Q]at this;simpa[S]using this
     .subst V
      simp only[Yam]at R;exact⟨λE=>by subst E;simp[I]at R,λy N=>(Yen.1 R.2) y N⟩
     .subst B
      simp only[Yam,YaZ]at R;obtain⟨⟨⟨X,W⟩,g⟩,T⟩:=R;refine⟨YbB X,W.imp Yao (λh=>by simpa using h),g.imp Yao (λh=>?_),?_⟩
      .cases O:vd[vF k]? with
       |none=>rw[O]at h;cases h
       |some t=>rw[O]at h;exact⟨t,rfl,by simpa using h⟩
      .cases C:VG o.op with
       |none=>rw[C]at T;cases T
       |some x=>rw[C]at T;exact⟨x,rfl,T⟩
     .subst B
      simp only[Yam,YaZ]at R;obtain⟨⟨⟨X,W⟩,g⟩,T⟩:=R;refine⟨by rwa [Ybh]at X,by simpa using W,g.imp Yao (λh=>by simpa using h),T.imp id λT=>?_⟩
      cases C:VH o.op with
      |none=>rw[C]at T;cases T
      |some z=>
       obtain⟨f,x,y⟩:=z;rw[C]at T;simp only[Yam]at T;exact⟨f,x,y,rfl,T.1,T.2⟩
def FU(G:List Ow)(id T sz:Nat)(A:List (List D)):List Ow:=G.set id (.row T sz A)
def A90(P:Program)(u:List (Nat×AV))(G:List Ow)(id T s:Nat)(A:Nat->List (List D))(K:Nat)(E:Option Nat)(I:Nat->Nat)(B:List CK)(q:List (Nat×Nat))(o:Oper):CK->Prop
 |.q r=>(∀j,Quiet P (FU G id T s (A j)) o (DT ⟨u,FU G id T s (A j)⟩ (B.map CK.hr) q) r)\/(0<K/\I (K-1)∈Bz o/\∃x,o.op.operands=#[x]/\PN B q E K I x=true/\Quiet P (FU G id T s (A K)) o (λ_=>.own id) r)
 |.o _=>True
 |.t k=>(∃t m b bytes z Y d,o.op=.buildSlice t 0 #[]/\Tab P t (.slice T) m b Y/\Tab P T d s bytes z/\T≠335/\0<s/\A k=[]/\A (k+1)=[])\/∃f x y C d g,o.op=.call { callee:=.value (.func f),args:=#[x,y],argTypes:=C }/\(∀j,DT ⟨u,FU G id T s (A j)⟩ (B.map CK.hr) q y=.d g)/\D.le g d/\Con P f [.own 0,.d d] [.row T s (A k)] [0] (λr H=>r=.own 0/\H=[.row T s (A (k+1))])
def CSteps(P:Program)(u:List (Nat×AV))(G:List Ow)(id T sz:Nat)(A:Nat->List (List D))(K:Nat)(B:Option Nat)(I:Nat->Nat)(q:List CK):List Oper->List (List (Nat×Nat))->List CK->Prop
 |o::L,x::S,c::R=>A90 P u G id T sz A K B I q x o c/\CSteps P u G id T sz A K B I q L S R
 |[],[],[]=>True
 |_,_,_=>False
theorem CSteps.at{P:Program}{u:List (Nat×AV)}{hp:List Ow}{id T sz:Nat}{rows:Nat->List (List D)}{K:Nat}{E:Option Nat}{I:Nat->Nat}{G:List CK}:∀{L:List Oper} {S:List (List (Nat×Nat))} {R:List CK},CSteps P u hp id T sz rows K E I G L S R->∀(i:Nat) o x c,L[i]? = some o->S[i]? = some x->R[i]? = some c->A90 P u hp id T sz rows K E I G x o c
 |[],[],[],_,i,o,x,c,h,_,_=>by simp at h
 |[],[],_::_,h,_,_,_,_,_,_,_=>h.elim
 |[],_::_,R,h,_,_,_,_,_,_,_=>by cases R<;>exact h.elim
 |_::_,[],R,h,_,_,_,_,_,_,_=>by cases R<;>exact h.elim
 |_::_,_::_,[],h,_,_,_,_,_,_,_=>h.elim
 |t::L,B::S,k::R,⟨q,A⟩,0,o,x,c,m,C,F=>by
  simp at m C F;subst m;subst C;subst F;exact q
 |t::L,B::S,k::R,⟨q,A⟩,i+1,o,x,c,m,C,F=>CSteps.at A i o x c ZdR Zei ZeY
def Mr(K id:Nat):List Oper->List CK->List (Nat×AV)->List (Nat×AV)
 |o::L,.q r::G,e=>match o.dst with |some d=>(d,r)::Mr K id L G e |none=>Mr K id L G e
 |o::L,.o k::G,e=>match o.dst with |some d=>bif Nat.beq k K then(d,.own id)::Mr K id L G e else Mr K id L G e |none=>Mr K id L G e
 |o::L,.t k::G,e=>match o.dst with |some d=>bif Nat.beq (k+1) K then(d,.own id)::Mr K id L G e else Mr K id L G e |none=>Mr K id L G e
 |_,_,e=>e
theorem Yw{K id:Nat}{p:Nat×AV}:∀{L:List Oper} {G:List CK} {B:List (Nat×AV)},p∈Mr K id L G B->p∈B\/∃(i:Nat) (o:Oper) (c:CK),L[i]? = some o/\G[i]? = some c/\o.dst=some p.1/\(c=.q p.2\/(p.2=.own id/\(c=.o K\/∃k,c=.t k/\k+1=K)))
 |[],_,B,h=>.inl (by unfold Mr at h;exact h)
 |o::L,[],B,h=>.inl (by unfold Mr at h;exact h)
 |o::L,c::G,B,h=>by
  have key:p∈Mr K id L G B->p∈B\/∃(i:Nat) (A:Oper) (C:CK),(o::L)[i]? = some A/\(c::G)[i]? = some C/\A.dst=some p.1/\(C=.q p.2\/(p.2=.own id/\(C=.o K\/∃k,C=.t k/\k+1=K))):=λh=>by
   rcases Yw h with h | ⟨i,A,C,h1,h2,h3⟩
   .exact .inl h
   .exact .inr ⟨i+1,A,C,by simpa using h1,by simpa using h2,h3⟩
  cases c with
  |q r=>
   unfold Mr at h;split at h
   .rename_i d e
    rcases YaM.1 h with rfl | h
    .exact .inr ⟨0,o,_,rfl,rfl,e,.inl rfl⟩
    .exact key h
   .exact key h
  |o k=>
   unfold Mr at h;split at h
   .rename_i d e
    cases E:Nat.beq k K with
    |true=>
     rw[E]at h;rcases YaM.1 h with rfl | h
     .exact .inr ⟨0,o,_,rfl,rfl,e,.inr ⟨rfl,.inl (by rw[Yao E])⟩⟩
     .exact key h
    |false=>rw[E]at h;exact key h
   .exact key h
  |t k=>
   unfold Mr at h;split at h
   .rename_i d e
    cases E:Nat.beq (k+1) K with
    |true=>
     rw[E]at h;rcases YaM.1 h with rfl | h
     .exact .inr ⟨0,o,_,rfl,rfl,e,.inr ⟨rfl,.inr ⟨k,rfl,Yao E⟩⟩⟩
     .exact key h
    |false=>rw[E]at h;exact key h
   .exact key h
structure CInv(s0:An)(n:Nat)(hp:List Ow)(id T sz:Nat)(rows:Nat->List (List D))(K:Nat)(tb:Option Nat)(tp:Nat->Nat)(L:List Oper)(ks:List CK)(frB:List (Nat×AV))(listed:Array Bool)(a:Act)(j:Nat)(s:GS)(ρ:Nat->Value):Prop where
 st:StI s0 n ⟨[],FU hp id T sz (rows j)⟩ a s ρ
 jK:j<=K
 hj:∀k,k<K->(listed.getD (tp k) false=true↔k<j)
 closed:∀i o,L[i]? = some o->listed.getD i false=true->∀e∈Bz o,listed.getD e false=true
 hq:∀i o d r,L[i]? = some o->o.dst=some d->ks[i]? = some (.q r)->listed.getD i false=true->AVr hp.length ρ s r (a.tmps.getD d undef)
 hb:∀p∈frB,AVr hp.length ρ s p.2 (a.tmps.getD p.1 undef)
 h0:∀t,tb=some t->j=0->a.tmps.getD t undef=ρ id
 ho:∀i o d c,L[i]? = some o->o.dst=some d->ks[i]? = some c->listed.getD i false=true->(c=.o j\/∃k,c=.t k/\j=k+1)->a.tmps.getD d undef=ρ id
theorem KO{v:Value}(h:n<vj.tmps.size):(vj.put (some n) v).tmps.getD n undef=v:=by
 simp[Act.put,h]
theorem Gv{v:Value}(h:b≠n):(vj.put (some n) v).tmps.getD b undef=vj.tmps.getD b undef:=by
 rw[YaH,YaH];simp[Act.put,YaU (λe=>h e.symm:n≠b)]
theorem StI.bare{s0:An}{s:GS}(h:StI s0 n vf vj s vi):StI s0 n ⟨[],vf.hp⟩ vj s vi:=⟨h.le,h.ok,(λt I L=>by cases L),h.sz,h.df,h.hp,h.sep,h.own⟩
theorem XY(G:List Ow)(id T sz:Nat)(r:List (List D)):(FU G id T sz r).length=G.length:=by simp[FU]
theorem A7C{id T sz:Nat}{r:List (List D)}(h:id<H.length):(FU H id T sz r)[id]? = some (.row T sz r):=by simp[FU,h]
theorem OX:∀{F:List (Nat×AV)} {p:Nat×AV},p∈F->(∀q∈F,q.1=p.1->q=p)->Ch F p.1=some p.2
 |(a,v)::r,p,h,S=>by
  unfold Ch
  cases E:Nat.beq a p.1 with
  |true=>
   have:=S (a,v) Ybp (Yao E);rw[<-this];rfl
  |false=>
   rcases YaM.1 h with rfl | h
   .rw [YcU]at E;cases E
   .exact OX h λq k=>S q (Ybo _ k)
def IC(L:List Oper)(G:List CK)(u:List (Nat×AV))(U:Array Bool):List (Nat×AV):=
 ((List.range L.length).flatMap λi=>match L[i]?,G[i]? with
  |some o,some (CK.q r)=>match o.dst with
   |some d=>if U.getD i false=true then[(d,r)]else[]
   |none=>[]
  |_,_=>[])++u
theorem En{L:List Oper}{G:List CK}{p:Nat×AV}:p∈IC L G vc vM↔(∃i o,L[i]? = some o/\G[i]? = some (.q p.2)/\o.dst=some p.1/\vM.getD i false=true)\/p∈vc:=by
 unfold IC;rw[YbQ,Yez];refine or_congr ⟨λ⟨i,J,h⟩=>?_,λ⟨i,o,A,B,K,Y⟩=>⟨i,Ybd.2 (Yae.1 A).1,?_⟩⟩ YdG
 .cases m:L[i]? with
  |none=>rw[m]at h;simp at h
  |some o=>
   cases F:G[i]? with
   |none=>rw[m,F]at h;simp at h
   |some c=>
    rw[m,F]at h
    cases c with
    |q r=>
     cases e:o.dst with
     |none=>simp[e]at h
     |some d=>
      simp only[e]at h;split at h
      .rename_i I
       have:=Yaz.1 h;subst this;exact⟨i,o,m,F,e,I⟩
      .cases h
    |o k=>simp at h
    |t k=>simp at h
 .rw [A,B]
  simp only[K];rw[Yan Y];exact Yaz.2 rfl
def FrIn(e:List (Nat×AV)):List (Nat×AV)->Prop
 |[]=>True
 |p::r=>Ch e p.1=some p.2/\FrIn e r
theorem FrIn.mem{e:List (Nat×AV)}:∀{F:List (Nat×AV)},FrIn e F->∀p∈F,Ch e p.1=some p.2
 |[],_,p,h=>by cases h
 |q::r,⟨A,B⟩,p,h=>by
  rcases YaM.1 h with rfl | h
  .exact A
  .exact FrIn.mem B p h
theorem ER{s0:An}(id T sz:Nat)(xd:Nat->List (List D))(K:Nat)(tb:Option Nat)(tp:Nat->Nat)(ks:List CK)(es:List (List (Nat×Nat)))(xh F:List (Nat×AV))(hm:P.follows .mixedOrders=true)(xs:H[id]? = some (.row T sz (xd 0)))(yc:FrIn vc xh)(yE:∀t,tb=some t->Ch vc t=some (.own id))
  (steps:CSteps P xh H id T sz xd K tb tp ks vd es ks) (xe:A9V vd es ks xh n tb K tp=true) (xr:((xh.all λp=>p.2.avoid [id])&&ks.all λc=>c.hr.val.avoid [id])=true) (xm:AvoidR [id] [id] 0 H) (hF:FrIn (Mr K id vd ks xh) F) (M:List Ow) (hM:FU H id T sz (xd K)=M) (fin:vl .normal ⟨F,M⟩):AWp P s0 n (.region b vd.toArray true) vl ⟨vc,H⟩:=by
 refine⟨λa w ⟨s,X,hw,xb⟩=>?_⟩;subst hw;subst hM;have yn:=yc.mem;obtain⟨yG,xB,yy,xH⟩:=A7Y xe;simp only[Yam]at xr;have xI:id<H.length:=Cs xs;have ya:∀r,(FU H id T sz r)[id]? = some (.row T sz r):=λr=>A7C xI;have yj:∀r,(FU H id T sz r).length=H.length:=XY H id T sz;have xM:∀r r',(FU H id T sz r).set id (.row T sz r')=FU H id T sz r':=λr r'=>by simp[FU]
 have xx:∀j,(Array.replicate vd.toArray.size false).getD j false=false:=λj=>by
  rcases YaD j vd.length with h | h
  .simp [h]
  .simp [h]
 have yu:FU H id T sz (xd 0)=H:=by
  unfold FU;apply Ycd;intro i;rw[Ycb];split
  .rename_i h;subst h;exact xs.symm
  .rfl
 have yr:StI s0 n ⟨vc,H⟩ a s.dr X:=xb.put (Ka s) (dst:=none) (λd u=>by cases u) (v:=undef) (r:=.d CC) trivial;refine wp_region_any hm (Oy (λxc a' Q=>∃j s' xj,s'.w=Q/\CInv s0 n H id T sz xd K tb tp vd ks xh xc a' j s' xj) ?_ ?_ _ _ a s.w.drew ZbV ?_ ⟨0,s.dr,X,rfl,by rw[yu];exact yr.bare,Yaw _,(λk _=>⟨λh=>absurd (h.symm.trans (xx _)) ZbL,λh=>absurd h (Ybg k)⟩),(λi o _ h=>absurd (h.symm.trans (xx _)) ZbL),(λi o d r _ _ _ h=>absurd (h.symm.trans (xx _)) ZbL),(λp xa=>yr.fr _ _ (yn p xa)),(λt O _=>(yr.fr _ _ (yE t O)).2),λi o d c _ _ _ h=>absurd (h.symm.trans (xx _)) ZbL⟩)
 .rintro xc a' _ i xi ⟨j,s1,xE,rfl,xg⟩ L
  have xi:xc.size=vd.length:=by simpa using xi
  obtain⟨_,o,ho,_⟩:=mem_ready.1 L;have ho:vd[i]? = some o:=by simpa using ho
  obtain⟨xw,xt⟩:=(DD xi ho).1 L;obtain⟨e,c,d,W,I,ck⟩:=xH i o ho;have yg:i<xc.size:=by rw[xi];exact(Yae.1 ho).1
  have xJ:=steps.at i o e c ho W I;have xW:vd.toArray[i]? = some o:=by simpa using ho
  have xV:d<a'.tmps.size:=by rw[xg.st.sz];exact ck.dn
  have xD:∀k,(xc.setIfInBounds i true).getD k false=true↔k=i\/xc.getD k false=true:=λk=>by
   by_cases E:k=i
   .subst E;simp[yg]
   .exact ZaX
  have yo:∀i' o',vd[i']? = some o'->(xc.setIfInBounds i true).getD i' false=true->∀e∈Bz o',(xc.setIfInBounds i true).getD e false=true:=λi' o' xl J e' xC=>by
   rw[xD]at J ⊢;rcases J with rfl | J
   .obtain rfl:o'=o:=Yag (xl.symm.trans ho)
    exact .inr (xt e' xC)
   .exact .inr (xg.closed i' o' xl J e' xC)
  have xk:∀i' o' d',vd[i']? = some o'->o'.dst=some d'->xc.getD i' false=true->d'≠d:=λi' o' d' xl xn J e'=>by
   subst e';have:=ck.du i' o' xl xn;subst this;rw[xw]at J;cases J
  have yx:∀p∈xh,p.1≠d:=λp xa e'=>xB p xa o (YaB ho) (by rw[e'];exact ck.dst)
  have yw:∀(R:Act->World->Prop),o.wp P a' s1.w (λyb xy=>R yb xy) (GG s0 n vl)->wpOp P vd.toArray (GG s0 n vl) i (λyb xy=>R yb xy) a' s1.w:=λR h=>by
   unfold wpOp;rw[xW];show if Region.wanted o (yielded vd.toArray a'.tmps)=true then _ else _
   exact ZiZ
  have ye:∀y,PR vd e y=true->AVr H.length xE s1 (DT ⟨xh,FU H id T sz (xd j)⟩ (ks.map CK.hr) e y) (a'.eval y):=λy S=>by
   cases y with
   |tmp t=>
    show AVr _ xE s1 (match e.find? (λp=>p.1==t)with
     |some p=>match (ks.map CK.hr)[p.2]? with
      |some h=>h.val
      |none=>.d CC
     |none=>(Ch xh t).getD (.d CC)) (a'.tmps.getD t undef)
    cases yt:e.find? (λp=>p.1==t)with
    |some p=>
     have xa:p∈e:=Ybt yt;have xU:p.1=t:=by simpa using YcQ yt
     simp only;rw[Yau]
     cases yi:ks[p.2]? with
     |none=>trivial
     |some c'=>
      cases c' with
      |q r=>
       obtain⟨xZ,o',xl,xn⟩:=ck.env p xa;have:=xg.hq p.2 o' p.1 r xl xn yi (xt _ xZ);rwa [xU]at this
      |o k=>trivial
      |t k=>trivial
    |none=>
     simp only
     cases J:Ch xh t with
     |none=>trivial
     |some av=>exact xg.hb (t,av) (Ff J)
   |const v=>exact Zkk
   |global A=>trivial
   |func f=>exact Zkl
  have yB:∀k x,j=k->PN ks e tb k tp x=true->a'.eval x=xE id:=λk x yp G=>by
   subst yp
   cases x with
   |tmp t=>
    show a'.tmps.getD t undef=xE id;simp only[PN,YaZ,Yam]at G;rcases G with⟨B,C⟩ | h
    .exact xg.h0 t Zei (Yao B)
    .obtain ⟨p,xa,B⟩:=YbI.1 h
     simp only[Yam,YaZ]at B;obtain⟨B,C⟩:=B;have xU:p.1=t:=by simpa using B
     obtain⟨xZ,o',xl,xn⟩:=ck.env p xa;rcases C with C | ⟨C,N⟩
     .unfold atK at C
      cases yi:ks[p.2]? with
      |none=>rw[yi]at C;cases C
      |some c'=>
       rw[yi]at C;have:=xg.ho p.2 o' p.1 c' xl xn yi (xt _ xZ) (.inl (A4e C));rwa [xU]at this
     .have N:p.2=tp (j-1):=by simpa using N
      have C:0<j:=by rwa [Ybh]at C
      have E:j-1<K:=by have:=xg.jK;omega
      have:=xg.ho p.2 o' p.1 _ xl xn (by rw[N];exact yy _ E) (xt _ xZ) (.inr ⟨j-1,rfl,by omega⟩);rwa [xU]at this
   |const v=>cases G
   |global A=>cases G
   |func f=>cases G
  have yJ:∀k,(k=0\/tp (k-1)∈Bz o)->k<=K->k<=j:=λk h E=>by
   rcases h with rfl | h
   .exact Yaw _
   .rcases Yax k with rfl | l
    .exact Yaw _
    .have:=(xg.hj (k-1) ZbG).1 (xt _ h)
     omega
  have keep:∀(v:Value) (s2:GS) (c0:CK),c=c0->GS.Le s1 s2->(∀r,c0=.q r->AVr H.length xE s2 r v)->(∀k,c0=.o k->k=j/\v=xE id)->(∀k,c0≠.t k)->CInv s0 n H id T sz xd K tb tp vd ks xh (xc.setIfInBounds i true) (a'.put o.dst v) j s2 xE:=λv s2 c0 xS xo xA yH yD=>by
   subst xS;have B:=xg.st.put xo (dst:=o.dst) (λd' xn=>by rw[ck.dst]at xn;cases xn;exact ck.dn) (v:=v) (r:=.d CC) trivial;rw[ck.dst]at B ⊢;refine⟨B.bare,xg.jK,λk E=>?_,yo,λi' o' d' r xl xn xL J=>?_,λp xa=>?_,λyM yK h=>?_,λi' o' d' c' xl xn xL J xQ=>?_⟩
   .rw [xD]
    refine⟨λh=>h.elim (λe'=>?_) (xg.hj k E).1,λh=>.inr ((xg.hj k E).2 h)⟩;have:=yy k E;rw[e',I]at this;exact absurd (Yag this) (yD k)
   .rw [xD]at J
    rcases J with rfl | J
    .obtain rfl:o'=o:=Yag (xl.symm.trans ho)
     obtain rfl:d'=d:=Yag (xn.symm.trans ck.dst);rw[KO xV];exact xA r (Yag (I.symm.trans xL))
    .rw [Gv (xk i' o' d' xl xn J)]
     exact(xg.hq i' o' d' r xl xn xL J).chg xo.chg
   .rw [Gv (yx p xa)]
    exact(xg.hb p xa).chg xo.chg
   .by_cases yL:yM=d
    .subst yL
     rw[KO xV]
     cases c with
     |q r=>exact absurd yK (ck.kq r rfl).1
     |o k=>exact(yH k rfl).2
     |t k=>exact absurd rfl (yD k)
    .rw [Gv yL]
     exact xg.h0 yM yK h
   .rw [xD]at J
    rcases J with rfl | J
    .obtain rfl:o'=o:=Yag (xl.symm.trans ho)
     obtain rfl:d'=d:=Yag (xn.symm.trans ck.dst);obtain rfl:c'=c:=Yag (xL.symm.trans I);rw[KO xV];rcases xQ with rfl | ⟨k,rfl,_⟩
     .exact (yH j rfl).2
     .exact absurd rfl (yD k)
    .rw [Gv (xk i' o' d' xl xn J)]
     exact xg.ho i' o' d' c' xl xn xL J xQ
  cases c with
  |q r=>
   have hq:RegG.OpStep P o a'.eval s1 (λv s2=>GS.Le s1 s2/\AVr H.length xE s2 r v):=by
    rcases xJ with xJ | ⟨hK0,hmem,x,hops,hsr,hqt⟩
    .have hq:=(xJ j).run 0 s1 xE a'.eval xg.st.ok (Yaw _) xg.st.hp (λy S=>by rw [yj]; exact ye y ((ck.kq r rfl).2 y S))
     rw[yj]at hq;exact hq
    .have B:=(xg.hj (K-1) ZbG).1 (xt _ hmem)
     have C:=xg.jK;obtain rfl:j=K:=by omega
     have hv:=yB j x rfl hsr
     have hq:=hqt.run 0 s1 xE a'.eval xg.st.ok (Yaw _) xg.st.hp (λy S=>by
      rw[hops]at S;obtain rfl:y=x:=by simpa using S
      rw[yj];exact⟨xI,hv⟩)
     rw[yj]at hq;exact hq
   exact yw _ (RegG.opStep_wp ck.ns (λ_ _=>rfl) hq λv s2 ⟨B,C⟩=>⟨j,s2,xE,rfl,keep v s2 _ rfl B (λr' xO=>by cases xO;exact C) (λk E=>by cases E) λk E=>by cases E⟩)
  |o k=>
   obtain⟨B,C,N,x,G,xN⟩:=ck.ko k rfl
   have yp:j=k:=by
    have Y:=yJ k C B;have h5:=xg.jK;rcases N with rfl | ⟨o',xl,h6⟩
    .omega
    .by_cases yO:k<j
     .have:=xg.closed _ o' xl ((xg.hj k ZbG).2 yO) i h6
      rw[xw]at this;cases this
     .omega
   have hv:=yB k x yp xN
   have xp:(execOp a'.eval o).run P s1.w=.ok (.value (a'.eval x)) s1.w:=by
    cases xf:o.op<;>rw[xf]at G<;>simp[VG]at G
    .subst G;simp[execOp,xf]
    .subst G;simp[execOp,xf]
   refine yw _ ?_;unfold Oper.wp;rw[xp];exact⟨j,s1,xE,rfl,keep _ s1 _ rfl (GS.Le.refl _) (λr V=>by cases V) (λk' xv=>by cases xv;exact⟨yp.symm,hv⟩) λk' xv=>by cases xv⟩
  |t k=>
   obtain⟨yF,yA,xP,G⟩:=ck.kt k rfl
   have yp:j=k:=by
    have Y:=yJ k xP ZbG
    have h5:¬k<j:=λh=>by
     have:=(xg.hj k yF).2 h;rw[<-yA,xw]at this;cases this
    omega
   subst yp;let m:=(FU H id T sz (xd j)).length;let ym:Nat->Value:=λq=>xE (BM [id] m q);have xK:=xg.st.hp id _ (ya (xd j))
   have yP:RegG.OpStep P o a'.eval s1 (λv s'=>∃(xj:Nat->Value) (r:AV) (xa:List Ow),(r=.own 0/\xa=[.row T sz (xd (j+1))])/\AVr xa.length xj s' r v/\Aft s1 ym [.row T sz (xd j)] [0] s' xj xa):=by
    rcases xJ with⟨t,m',A,bytes,z,z',dd,xf,O,hT,xT,l,yI,yh⟩ | ⟨f',x',y',tys,d1,d2,xf,hyd,hled,hcon⟩
    .obtain ⟨s',xj,hw,hv,yz⟩:=A5r (sz:=sz) xg.st.ok ym xT l
     have xp:(execOp a'.eval o).run P s1.w=.ok (.value (.slice (some ⟨s1.w.heap.size,0,none⟩) 0 0)) (s1.w.alloc (.cells #[] T)):=by
      have U:∀arr,(newRow T arr).run P s1.w=.ok ⟨s1.w.heap.size,0,none⟩ (s1.w.alloc (.cells arr T)):=λ_=>rfl;simp[execOp,xf,Instr.buildSlice,run_underlying O.und,hT.run_size,Instr.fill,U];exact ZhC
     unfold RegG.OpStep;rw[xp];exact⟨s',hw,xj,.own 0,_,⟨rfl,by rw[yh]⟩,⟨by simp,hv.symm⟩,by rw[yI];exact yz⟩
    .rcases G with G | ⟨f,x,y,hcall,G,S⟩
     .rw [xf]at G
      cases G
     rw[xf]at hcall
     obtain⟨rfl,rfl,rfl⟩:f'=f/\x'=x/\y'=y:=by
      have:=Yag hcall;simp only[YdT]at this;exact this
     have yl:=yB j x' rfl G;have yv:=ye y' S;rw[hyd j]at yv
     have ys:=hcon.2 s1 ym [xE id,a'.eval y'] xg.st.ok (λq o' hq=>by
      cases q with
      |zero=>
       cases hq;unfold OwR at xK ⊢;exact xK
      |succ q=>cases hq) (λp q o1 o2 yq xY xA=>by
      have:=Cs xY;have:=Cs xA;simp only[Ycu]at *;omega) rfl (λq av hq=>by
      match q,hq with
      |0,hq=>cases hq;exact⟨YcI,rfl⟩
      |1,hq=>cases hq;exact hled s1 _ yv
      |q+2,hq=>simp at hq)
     have xp:(execOp a'.eval o).run P s1.w=.ok (.enter f' #[xE id,a'.eval y']) s1.w:=by
      have Z:a'.eval (.func f')=.func (.func f') #[] #[]:=rfl;simp[execOp,xf,resolve,Z,yl,Deferred.ofValue,invoke,hcon.1]
     unfold RegG.OpStep;rw[xp];exact ys.mono λe Q ⟨v,W,s',xj,r,xa,h5,h6,h7,h8⟩=>⟨v,W,s',h6,xj,r,xa,h5,h7,h8⟩
   refine yw _ (RegG.opStep_wp ck.ns (λ_ _=>rfl) yP ?_)
   .rintro v s' ⟨xj,r,xa,⟨rfl,rfl⟩,h6,h7⟩
    have yC:StI s0 n ⟨IC vd ks xh xc,FU H id T sz (xd j)⟩ a' s1 xE:=⟨xg.st.le,xg.st.ok,λt av O=>by
     rw[show(⟨IC vd ks xh xc,FU H id T sz (xd j)⟩:AS).hp.length=H.length from yj _];rcases En.1 (Ff O)with⟨i',o',g1,g2,g3,g4⟩ | g
     .exact xg.hq i' o' t av g1 g3 g2 g4
     .exact xg.hb _ g,xg.st.sz,xg.st.df,xg.st.hp,xg.st.sep,xg.st.own⟩
    obtain⟨xF,xu,xz⟩:=StI.con (sel:=[id]) (lost:=[0]) (hpS:=[.row T sz (xd j)]) (hp':=[.row T sz (xd (j+1))]) (H1:=(FU H id T sz (xd j)).set id (.row T sz (xd (j+1)))) ⟨λp xa=>by
     rcases En.1 xa with⟨i',o',g1,g2,g3,g4⟩ | g
     .exact Yaj.1 xr.2 _ (YaB g2)
     .exact Yaj.1 xr.1 _ g,λi' o' xR xl=>by
     refine AvoidR.get xm i' o' (by simpa using xR) ?_;have xl:(FU H id T sz (xd j))[i']? = some o':=xl;rwa [FU,YcP (λe=>xR (by rw[e];exact Yaz.2 rfl))]at xl⟩ (λk E=>by rw[Yaz.1 E];exact YcI) yC ZbV ⟨ya (xd j),trivial,trivial⟩ h7 rfl
    simp only[Ycu,Ybf,List.drop_nil,YaP,Ycj,YbC,xM]at xu xz;have hv:v=xF id:=(xz _ v h6).2
    have yd:∀(p:Nat×AV),p∈IC vd ks xh xc->AVr H.length xF s' p.2 (a'.tmps.getD p.1 undef):=λp xa=>by
     have:=xu.fr p.1 p.2 (OX xa λq hq Z=>by
      rcases En.1 xa with⟨i1,o1,g1,g2,g3,g4⟩ | g<;>rcases En.1 hq with⟨i2,o2,k1,k2,k3,k4⟩ | k0
      .rw [Z]at k3
       obtain⟨_,_,d3,_,_,yk⟩:=xH i1 o1 g1;obtain rfl:d3=p.1:=Yag (yk.dst.symm.trans g3);obtain rfl:=yk.du i2 o2 k1 k3;rw[g2]at k2;have:=Yag k2;exact ZiW
      .exact absurd (g3.trans (congrArg some Z.symm)) (xB q k0 o1 (YaB g1))
      .exact absurd (k3.trans (congrArg some Z)) (xB p g o2 (YaB k1))
      .have B:=yn p g
       have C:=yn q k0;rw[Z,B]at C;exact Prod.ext Z (Yag C).symm)
     rwa [show(⟨IC vd ks xh xc,FU H id T sz (xd (j+1))⟩:AS).hp.length=H.length from yj _]at this
    refine⟨j+1,s',xF,rfl,?_⟩;have B:=xu.put (GS.Le.refl s') (dst:=o.dst) (λd' xn=>by rw[ck.dst]at xn;cases xn;exact ck.dn) (v:=v) (r:=.d CC) trivial;rw[ck.dst]at B ⊢;refine⟨B.bare,yF,λk E=>?_,yo,λi' o' d' r xl xn xL J=>?_,λp xa=>?_,λ_ _ h=>absurd h (Nat.succ_ne_zero _),λi' o' d' c' xl xn xL J xQ=>?_⟩
    .rw [xD,xg.hj k E]
     refine⟨λh=>?_,λh=>?_⟩
     .rcases h with h | h
      .have B:=yy k E
       rw[h,I]at B;have C:=Yag B;simp only[CK.t.injEq]at C;omega
      .omega
     .rcases Nat.lt_succ_iff_lt_or_eq.1 h with h | h
      .exact .inr h
      .exact .inl (by rw[h];exact yA.symm)
    .rw [xD]at J
     rcases J with rfl | J
     .rw [I]at xL
      cases xL
     .rw [Gv (xk i' o' d' xl xn J)]
      exact yd (d',r) (En.2 (.inl ⟨i',o',xl,xL,xn,J⟩))
    .rw [Gv (yx p xa)]
     exact yd p (En.2 (.inr xa))
    .rw [xD]at J
     rcases J with rfl | J
     .obtain rfl:o'=o:=Yag (xl.symm.trans ho)
      obtain rfl:d'=d:=Yag (xn.symm.trans ck.dst);rw[KO xV];exact hv
     .obtain ⟨e3,c3,d3,xX,yf,yk⟩:=xH i' o' xl
      obtain rfl:c3=c':=Yag (yf.symm.trans xL)
      have xG:xc.getD (tp j) false≠true:=λh=>by
       rw[<-yA,xw]at h;cases h
      rcases xQ with rfl | ⟨k',rfl,xv⟩
      .obtain ⟨_,q2,_,_⟩:=yk.ko _ rfl
       rcases q2 with q2 | q2
       .cases q2
       .exact absurd (xg.closed i' o' xl J _ q2) xG
      .obtain ⟨_,q2,_⟩:=yk.kt _ rfl
       obtain rfl:k'=j:=by omega
       rw[q2]at J;exact absurd J xG
 .rintro xc a' _ xi ⟨j,s1,xE,rfl,xg⟩ l
  have xi:xc.size=vd.length:=by simpa using xi
  have xq:∀i,i<vd.length->xc.getD i false=true:=by
   intro i
   induction i using Nat.strongRecOn with
   |_ i ih=>
    intro L;have ho:vd[i]? = some vd[i]:=Yac L;obtain⟨e,c,d,W,I,ck⟩:=xH i _ ho
    cases hg:xc.getD i false with
    |true=>rfl
    |false=>
     have:i∈Region.ready .any vd.toArray xc:=(DD xi ho).2 ⟨hg,λk E=>ih k (ck.lt k E) (by have:=ck.lt k E;omega)⟩;rw[l]at this;cases this
  have yN:j=K:=by
   have B:=xg.jK;rcases Yax K with C | C
   .omega
   .have N:=yy (K-1) ZbG
    have Y:=(xg.hj (K-1) ZbG).1 (xq _ (by rw[yG];exact(Yae.1 N).1));omega
  subst yN;refine⟨_,fin,s1,xE,rfl,xg.st.le,xg.st.ok,λt av O=>?_,xg.st.sz,xg.st.df,xg.st.hp,xg.st.sep,xg.st.own⟩;rw[show(⟨F,FU H id T sz (xd j)⟩:AS).hp.length=H.length from yj _];rcases Yw (Ff (hF.mem _ (Ff O)))with h | ⟨i,o,c,B,C,N,Y⟩
  .exact xg.hb _ h
  .have J:=xq i (Yae.1 B).1
   rcases Y with rfl | ⟨Y,h5⟩
   .exact xg.hq i o t av B N C J
   .replace Y:av=.own id:=Y
    subst Y;refine⟨xI,xg.ho i o t c B N C J ?_⟩;rcases h5 with h5 | ⟨k,h5,h6⟩
    .exact .inl h5
    .exact .inr ⟨k,h5,h6.symm⟩
 .rw [Array.count_replicate]
  simp
section
variable {P:Program} {frB:List (Nat×AV)} {hp:List Ow} {id T sz:Nat} {rows:Nat->List (List D)} {K:Nat} {tb:Option Nat} {tp:Nat->Nat} {ks:List CK} {es:List (Nat×Nat)} {o:Oper} {L:List Oper} {S:List (List (Nat×Nat))} {R:List CK}
theorem CSteps.q{r:AV}(h:∀j,Quiet P (FU hp id T sz (rows j)) o (DT ⟨frB,FU hp id T sz (rows j)⟩ (ks.map CK.hr) es) r)(Z:CSteps P frB hp id T sz rows K tb tp ks L S R):CSteps P frB hp id T sz rows K tb tp ks (o::L) (es::S) (.q r::R):=⟨.inl h,Z⟩
theorem CSteps.e{r:AV}(q:Nat.blt 0 K=true)(hm:(Bz o).contains (tp (K-1))=true)(m:o.op.operands=#[x])(C:PN ks es tb K tp x=true)(h:Quiet P (FU hp id T sz (rows K)) o (λ_=>.own id) r)(Z:CSteps P frB hp id T sz rows K tb tp ks L S R):CSteps P frB hp id T sz rows K tb tp ks (o::L) (es::S) (.q r::R):=⟨.inr ⟨by simpa[Ybh]using q,by simpa using hm,x,m,C,h⟩,Z⟩
theorem CSteps.s{k:Nat}(Z:CSteps P frB hp id T sz rows K tb tp ks L S R):CSteps P frB hp id T sz rows K tb tp ks (o::L) (es::S) (.o k::R):=⟨trivial,Z⟩
theorem CSteps.t{k:Nat}{dd:Option Tmp}{ty:TypeId}{ps:String}{af:Array Edge}{gd:Option (Nat×Bool)}{f:FuncId}(F:Con P f [.own 0,.d r] [.row T sz (rows k)] [0] (λq H=>q=.own 0/\H=[.row T sz (rows (k+1))]))(N:∀j,DT ⟨frB,FU hp id T sz (rows j)⟩ (ks.map CK.hr) es y=.d r)(Z:CSteps P frB hp id T sz rows K tb tp ks L S R):CSteps P frB hp id T sz rows K tb tp ks (⟨dd,.call { callee:=.value (.func f),args:=#[x,y],argTypes:=vs },ty,ps,af,gd⟩::L) (es::S) (.t k::R):=⟨.inr ⟨f,x,y,vs,r,r,rfl,N,D.le.refl _,F⟩,Z⟩
theorem CSteps.m{k:Nat}{ty:TypeId}{t m b bytes:Nat}(B:Tab P t (.slice T) m b u)(i:Tab P T d sz bytes z)(E:Nat.beq T 335=false)(C:Nat.blt 0 sz=true)(q:rows k=[])(A:rows (k+1)=[])(Z:CSteps P frB hp id T sz rows K tb tp ks L S R):CSteps P frB hp id T sz rows K tb tp ks (⟨vB,.buildSlice t 0 #[],ty,vG,vH,vQ⟩::L) (es::S) (.t k::R):=⟨.inl ⟨t,m,b,bytes,z,u,d,rfl,B,i,YaI E,by simpa[Ybh]using C,q,A⟩,Z⟩
theorem CSteps.nil:CSteps P frB hp id T sz rows K tb tp ks [] [] []:=trivial
theorem ET{r:AV}(Z:CSteps P frB hp id T sz rows K tb tp ks L S R)(h:∀j,Quiet P (FU hp id T sz (rows j)) o (DT ⟨frB,FU hp id T sz (rows j)⟩ (ks.map CK.hr) es) r:=by intro _;first | exact AE (ah rfl) | exact Bg (ah rfl) | exact Ar (ah rfl) (Aa rfl) rfl (Aa rfl) rfl rfl | exact AD | exact Ao | exact IR rfl (ah rfl) (Aa rfl) (Aa rfl) rfl Zcz Zcz | exact Lw (ah rfl) (ah rfl) (Aa rfl) (Aa rfl) Zcz | exact A6y (ah rfl) (Aa rfl) rfl (Aa rfl) rfl rfl | exact Tb (ah rfl) (Aa rfl) rfl rfl | exact Gi (ah rfl) (Aa rfl) rfl rfl | exact WR (ah rfl) (Aa rfl) rfl (A1j Zcz) | exact WR (ah rfl) (Aa rfl) rfl (A1i Zcz)):CSteps P frB hp id T sz rows K tb tp ks (o::L) (es::S) (.q r::R):=CSteps.q h Z
theorem Ox{k:Nat}{f:TypeId}(F:Con P ve [.own 0,.d r] [.row T sz (rows k)] [0] (λq H=>q=.own 0/\H=[.row T sz (rows (k+1))]))(Z:CSteps P frB hp id T sz rows K tb tp ks L S R)(N:∀j,DT ⟨frB,FU hp id T sz (rows j)⟩ (ks.map CK.hr) es y=.d r:=by intro _;rfl):CSteps P frB hp id T sz rows K tb tp ks (⟨vB,.call { callee:=.value (.func ve),args:=#[x,y],argTypes:=vs },f,vG,vH,vQ⟩::L) (es::S) (.t k::R):=CSteps.t F N Z
end
theorem Mn{s0:An}(T sz:Nat)(i:Nat.beq T 335=false)(q:Nat.blt 0 sz=true)(Z:Gd H (.row T sz [])=some vA)(k:AWp P s0 n vp vl ⟨vc,vA⟩):AWp P s0 n vp vl ⟨vc,H⟩:=by
 rw[Fe Z]at k;refine⟨λa w ⟨s,X,c,A⟩=>?_⟩
 have := A.new (GS.Le.refl s) (dst := none) (v := undef) (u := .slice none 0 0) (r := .d CC) (ow := .row T sz []) (fun d e => by cases e) trivial
  ⟨[],by simp only[Yan];exact⟨by simp,.inl ⟨rfl,rfl⟩⟩,YaI i,by simpa[Ybh]using q,λb E=>by simp[DQ]at E,λk B=>absurd B (Ybg k)⟩ (λb E=>by cases E)
 exact ZjZ
def wipe(O:List Nat):List (Nat×AV)->List (Nat×AV)
 |[]=>[]
 |p::r=>(bif p.2.avoid O then p else(p.1,.d CC))::wipe O r
theorem OA{O:List Nat}{t:Nat}{I:AV}:∀{q:List (Nat×AV)},Ch (wipe O q) t=some I->I=.d CC\/Ch q t=some I
 |[],h=>by cases h
 |(u,x)::r,h=>by
  unfold wipe at h;rw[Da]
  cases E:x.avoid O with
  |true=>
   simp only[E,cond_true]at h;rw[Da]at h;split
   .rename_i e;rw[Yan e]at h;exact .inr h
   .rename_i e;rw[Yai e]at h;exact OA h
  |false=>
   simp only[E,cond_false]at h;rw[Da]at h;split
   .rename_i e;rw[Yan e]at h;exact .inl (Yag h).symm
   .rename_i e;rw[Yai e]at h;exact OA h
theorem Ri{O:List Nat}:∀{e:List (Nat×AV)},(wipe O e).all (λp=>p.2.avoid O)=true
 |[]=>rfl
 |p::r=>by
  unfold wipe;rw[List.all_cons,Ri,Bool.and_true]
  cases E:p.2.avoid O with
  |true=>simp only[cond_true];exact E
  |false=>rfl
theorem StI.wipe{s0:An}{s:GS}(O:List Nat)(h:StI s0 n ⟨vc,H⟩ vj s vi):StI s0 n ⟨Go.Proofs.YtcikkglcoeedlaaGreat.wipe O vc,H⟩ vj s vi:=⟨h.le,h.ok,λt I L=>(OA L).elim (λe=>e▸trivial) (h.fr t I),h.sz,h.df,h.hp,h.sep,h.own⟩
section
variable {P:Program} {s0:An} {n:Nat} {ops:Array Oper} {Q:Exit->AS->Prop} {rest:List Oper} {fr:List (Nat×AV)} {hp:List Ow}
theorem A7V{hpS:List Ow}(I:va.op=.call { callee:=.value x,args:=vN.toArray,argTypes:=vs })(sel:List Nat){m:Nat}(C:HT hp=some m)(p:Kw (BM sel m) hpS.length (AS.arg ⟨fr,hp⟩ x) ve [] [])
  (F:Con P ve R hpS l vy) (V:l.all (Nat.blt · sel.length)=true) (g:AvoidR sel (l.map (BM sel m)) 0 hp) (A:ArgsC hp (BM sel m) hpS.length (AS.arg ⟨fr,hp⟩) vN R) (xb:sel.Nodup) (xa:SelR (BM sel m) hp hpS.length sel hpS) (q:Wh va.dst n=true)
  (next:∀r H,vy r H->∃O z t,AVRen (BM sel m) r O/\SetR (BM sel m) hp sel H z/\AppR (BM sel m) z (My sel.length H) t/\AWl P s0 n ops Q rest (AS.put ⟨wipe (l.map (BM sel m)) fr,t⟩ va.dst O)) :
  ∀(s:GS) (X:Nat->Value) (a:Act),StI s0 n ⟨fr,hp⟩ a s X->∀K:Act->World->Prop,(∀w N M,AWl P s0 n ops Q rest w->St s0 n w N M->K N M)->va.wp P a s.w K (GG s0 n Q):=by
 intro s X a E K c;have xg:R=([]:List Nat).map (AV.ptr · 0)++R++([]:List Nat).map (AV.ptr · 0):=by simp
 rw[xg]at F;obtain⟨L,T,xe,b,xc,xf⟩:=A61 I sel C p F.1 A xb xa (λi J=>by cases J) (λi J=>by cases J) E;obtain rfl:=FP C;have U:LostOk sel l hp.length (wipe (l.map (BM sel hp.length)) fr) hp:=.inr ⟨V,Ri,g⟩;have Y:=F.2 s (λk=>X (BM sel hp.length k)) L E.ok b xc T xf;unfold Oper.wp;rw[xe];refine Calls.mono Y λe M h=>?_;obtain⟨v,rfl,j,S,r,H,B,rfl,G,f⟩:=h;obtain⟨O,z,t,y,W,Z,d⟩:=next r H B;replace y:O=r.ren (BM sel hp.length):=y;rw[AppR,NG]at Z;subst y;subst Z;obtain⟨xd,o,u⟩:=StI.con (sel:=sel) (hpS:=hpS) U.get.1 U.get.2 (E.wipe _) xb xa f W;exact c _ _ _ d ⟨j,xd,rfl,o.put (GS.Le.refl j) (Jz q) (u r v G)⟩
theorem Cy{f:TypeId}{t:Nat}(G:List Nat)(F:Con P ve R H l vy)(E:l.all (Nat.blt · G.length)=true)(O:AvoidR G (l.map (BM G b)) 0 hp)(A:HT hp=some b)(p:Kw (BM G b) H.length (AS.arg ⟨fr,hp⟩ x) ve [] [])
  (q:ArgsC hp (BM G b) H.length (AS.arg ⟨fr,hp⟩) vN R) (J:G.Nodup) (a:SelR (BM G b) hp H.length G H) (e:Nat.blt t n=true)
  (next:∀r B,vy r B->∃C y I,AVRen (BM G b) r C/\SetR (BM G b) hp G B y/\AppR (BM G b) y (My G.length B) I/\AWl P s0 n ops Q rest ⟨(t,C)::wipe (l.map (BM G b)) fr,I⟩) :
  AWl P s0 n ops Q (⟨some t,.call { callee:=.value x,args:=vN.toArray,argTypes:=vs },f,vG,vH,none⟩::rest) ⟨fr,hp⟩:=AWl.step rfl (A7V rfl G A p F E O q J a e next)
end
theorem ConP.con(h:ConP P ve R H vy vU vI)(N:¬vI):Con P ve R H [] vy:=
 ⟨h.1,λs X J q A K Y n=>(h.2 s X J q A K Y n).mono λe M B=>B.elim (λh=>h) λ⟨_,h,_⟩=>absurd h N⟩
def YK(L:List Oper)(q:List (List (Nat×Nat)))(G:List AV)(u:List (Nat×AV))(n:Nat):Bool:=
 Nat.beq L.length q.length&&Nat.beq L.length G.length&&(u.all λp=>L.all λt=>t.dst != some p.1) &&
 (List.range L.length).all λi=>match L[i]?,q[i]? with
  |some o,some e=>BO o.op&&o.guard.isNone&&((Bz o).all λk=>decide (k<i))&&(e.all λp=>(Bz o).contains p.2&&(match L[p.2]? with |some t=>t.dst==some p.1 |none=>false)) &&
   (match o.dst with | none=>false | some d=>decide (d<n)&&((List.range L.length).all λj=>j==i||(match L[j]? with | some t=>t.dst != some d | none=>true)))&&o.op.operands.all (PR L e)
  |_,_=>false
structure ChkD(L:List Oper)(n:Nat)(i:Nat)(o:Oper)(e:List (Nat×Nat))(d:Nat):Prop where
 ns:BO o.op=true
 gd:o.guard=none
 lt:∀k∈Bz o,k<i
 env:∀p∈e,p.2∈Bz o/\∃o',L[p.2]? = some o'/\o'.dst=some p.1
 dst:o.dst=some d
 dn:d<n
 du:∀(j:Nat) o',L[j]? = some o'->o'.dst=some d->j=i
 kq:∀y∈o.op.operands,PR L e y=true
theorem A7X{L:List Oper}(h:YK L uD R vc n=true):L.length=R.length/\(∀p∈vc,∀t∈L,t.dst≠some p.1)/\∀(i:Nat) o,L[i]? = some o->∃e r d,uD[i]? = some e/\R[i]? = some r/\ChkD L n i o e d:=by
 unfold YK at h;simp only[Yam]at h;obtain⟨⟨⟨q,A⟩,K⟩,E⟩:=h;have A:=Yao A;refine⟨A,λp G t M=>by simpa using Yaj.1 (Yaj.1 K p G) t M,λi o m=>?_⟩;have J:=(Yae.1 m).1;have F:=Yaj.1 E i (Ybd.2 J);rw[m]at F
 cases a:uD[i]? with
 |none=>rw[a]at F;cases F
 |some e=>
  rw[a]at F;simp only[Yam]at F;obtain⟨⟨⟨⟨⟨O,Q⟩,S⟩,V⟩,v⟩,W⟩:=F
  cases C:o.dst with
  |none=>rw[C]at v;cases v
  |some d=>
   rw[C]at v;simp only[Yam,Yba]at v;refine⟨e,R[i]'(ZbG),d,rfl,Yac _,O,by simpa using Q,λk B=>by simpa using Yaj.1 S k B,λp G=>?_,C,v.1,λj t M f=>?_,λy N=>(Yen.1 W) y N⟩
   .have:=Yaj.1 V p G
    simp only[Yam]at this;refine⟨by simpa using this.1,?_⟩;have A:=this.2
    cases I:L[p.2]? with
    |none=>rw[I]at A;cases A
    |some t=>rw[I]at A;exact⟨t,rfl,by simpa using A⟩
   .have:=Yaj.1 v.2 j (Ybd.2 (Yae.1 M).1)
    rw[M]at this;simpa[f]using this
def EU(G:List Ow)(id:Nat)(V e:Ow)(b:Bool):List Ow:=G.set id (bif b then e else V)
def A2D(P:Program)(u:List (Nat×AV))(G:List Ow)(id:Nat)(V e:Ow)(A:List AV)(q:List (Nat×Nat))(o:Oper)(r:AV):Prop:=∀b,Quiet P (EU G id V e b) o (DT ⟨u,EU G id V e b⟩ (A.map HR.av) q) r
def DCall(P:Program)(u:List (Nat×AV))(G:List Ow)(id:Nat)(V e:Ow)(A:List AV)(q:List (Nat×Nat))(o:Oper)(r:AV):Prop:=∃f x k d,o.op=.call { callee:=.value (.func f),args:=#[x],argTypes:=k }/\r=.d d/\(∀b,DT ⟨u,EU G id V e b⟩ (A.map HR.av) q x=.ptr id 0)/\Con P f [.ptr 0 0] [V] [] (λl H=>l=.d d/\H=[e])
def DSteps(P:Program)(u:List (Nat×AV))(G:List Ow)(id:Nat)(V e:Ow)(q:List AV)(c:Nat)(C:List (Nat×Nat)->Oper->AV->Prop):Nat->List Oper->List (List (Nat×Nat))->List AV->Prop
 |i,o::L,x::S,r::R=>(bif Nat.beq i c then C x o r else A2D P u G id V e q x o r)/\DSteps P u G id V e q c C (i+1) L S R
 |_,[],[],[]=>True
 |_,_,_,_=>False
theorem DSteps.at{P:Program}{u:List (Nat×AV)}{hp:List Ow}{id:Nat}{V e:Ow}{G:List AV}{c:Nat}{C:List (Nat×Nat)->Oper->AV->Prop}:∀{L:List Oper} {S:List (List (Nat×Nat))} {R:List AV} {j:Nat},DSteps P u hp id V e G c C j L S R->∀(i:Nat) o x r,L[i]? = some o->S[i]? = some x->R[i]? = some r->(bif Nat.beq (j+i) c then C x o r else A2D P u hp id V e G x o r)
 |[],[],[],_,_,i,o,x,c,h,_,_=>by simp at h
 |[],[],_::_,_,h,_,_,_,_,_,_,_=>h.elim
 |[],_::_,R,_,h,_,_,_,_,_,_,_=>by cases R<;>exact h.elim
 |_::_,[],R,_,h,_,_,_,_,_,_,_=>by cases R<;>exact h.elim
 |_::_,_::_,[],_,h,_,_,_,_,_,_,_=>h.elim
 |t::L,E::S,k::R,j,⟨q,A⟩,0,o,x,c,m,B,F=>by
  simp at m B F;subst m;subst B;subst F;exact q
 |t::L,E::S,k::R,j,⟨q,A⟩,i+1,o,x,c,m,B,F=>by
  have:=DSteps.at A i o x c ZdR Zdn ZeY;exact Zkm
def Qt:List Oper->List AV->List (Nat×AV)->List (Nat×AV)
 |o::L,r::G,e=>match o.dst with |some d=>(d,r)::Qt L G e |none=>Qt L G e
 |_,_,e=>e
theorem Yu{p:Nat×AV}:∀{L:List Oper} {G:List AV} {q:List (Nat×AV)},p∈Qt L G q->p∈q\/∃(i:Nat) (o:Oper),L[i]? = some o/\G[i]? = some p.2/\o.dst=some p.1
 |[],_,q,h=>.inl (by unfold Qt at h;exact h)
 |o::L,[],q,h=>.inl (by unfold Qt at h;exact h)
 |o::L,c::G,q,h=>by
  have key:p∈Qt L G q->p∈q\/∃(i:Nat) (t:Oper),(o::L)[i]? = some t/\(c::G)[i]? = some p.2/\t.dst=some p.1:=λh=>by
   rcases Yu h with h | ⟨i,t,h1,h2,h3⟩
   .exact .inl h
   .exact .inr ⟨i+1,t,by simpa using h1,by simpa using h2,h3⟩
  unfold Qt at h;split at h
  .rename_i d e
   rcases YaM.1 h with rfl | h
   .exact .inr ⟨0,o,rfl,rfl,e⟩
   .exact key h
  .exact key h
theorem Jh(G:List Ow)(id:Nat)(V e:Ow)(b:Bool):(EU G id V e b).length=G.length:=by simp[EU]
def DCallP(P:Program)(u:List (Nat×AV))(G:List Ow)(id:Nat)(V:Ow)(A:List AV)(B:AV->List Ow->Prop)(R:List PanicEntry)(N:Prop)(q:List (Nat×Nat))(o:Oper)(_:AV):Prop:=∃f x k,o.op=.call { callee:=.value (.func f),args:=#[x],argTypes:=k }/\(∀b,DT ⟨u,EU G id V V b⟩ (A.map HR.av) q x=.ptr id 0)/\ConP P f [.ptr 0 0] [V] B R N
def Mx(L:List Oper):List Nat->List Nat->Bool
 |_,[]=>true
 |seen,k::r=>(seen.any λj=>match L[j]? with |some o=>(Bz o).contains k |none=>false)&&Mx L (k::seen) r
theorem LI{L:List Oper}{f:Nat->Bool}:∀{G seen:List Nat},Mx L seen G=true->(∀i o,L[i]? = some o->f i=true->∀e∈Bz o,f e=true)->(∀k∈seen,∀o,L[k]? = some o->∀e∈Bz o,f e=true)->∀k∈G,f k=true
 |[],_,_,_,_,k,B=>by cases B
 |k::r,seen,h,F,Z,U,M=>by
  unfold Mx at h;simp only[Yam]at h;obtain⟨j,W,A⟩:=YbI.1 h.1
  have I:f k=true:=by
   cases E:L[j]? with
   |none=>rw[E]at A;cases A
   |some o=>
    rw[E]at A;exact Z j W o E k ZdI
  rcases YaM.1 M with rfl | M
  .exact I
  .exact LI h.2 F (λq C o m=>by
    rcases YaM.1 C with rfl | C
    .exact F q o m I
    .exact Z q C o m) U M
section
variable {P:Program} {frB:List (Nat×AV)} {hp:List Ow} {id:Nat} {o0 o1:Ow} {ks:List AV} {c i:Nat} {C:List (Nat×Nat)->Oper->AV->Prop} {L:List Oper} {x:List (Nat×Nat)} {S:List (List (Nat×Nat))} {r:AV} {R:List AV} {o:Oper}
theorem DSteps.q(q:Nat.beq i c=false)(h:A2D P frB hp id o0 o1 ks x o r)(Z:DSteps P frB hp id o0 o1 ks c C (i+1) L S R):DSteps P frB hp id o0 o1 ks c C i (o::L) (x::S) (r::R):=⟨by rw[q];exact h,Z⟩
theorem DSteps.k(q:Nat.beq i c=true)(h:C x o r)(Z:DSteps P frB hp id o0 o1 ks c C (i+1) L S R):DSteps P frB hp id o0 o1 ks c C i (o::L) (x::S) (r::R):=⟨by rw[q];exact h,Z⟩
theorem DSteps.nil:DSteps P frB hp id o0 o1 ks c C i [] [] []:=trivial
variable {dd:Option Tmp} {ty:TypeId} {ps:String} {af:Array Edge} {gd:Option (Nat×Bool)} {f:FuncId} {y:Operand} {tys:Array TypeId} {es:List (Nat×Nat)}
theorem DCall.mk{d:D}(q:∀b,DT ⟨frB,EU hp id o0 o1 b⟩ (ks.map HR.av) es y=.ptr id 0)(F:Con P f [.ptr 0 0] [o0] [] (λl H=>l=.d d/\H=[o1])):DCall P frB hp id o0 o1 ks es ⟨dd,.call { callee:=.value (.func f),args:=#[y],argTypes:=tys },ty,ps,af,gd⟩ (.d d):=⟨f,y,tys,d,rfl,rfl,q,F⟩
theorem DCallP.mk(q:∀b,DT ⟨frB,EU hp id o0 o0 b⟩ (ks.map HR.av) es y=.ptr id 0)(F:ConP P f [.ptr 0 0] [o0] vy vU vI):DCallP P frB hp id o0 ks vy vU vI es ⟨dd,.call { callee:=.value (.func f),args:=#[y],argTypes:=tys },ty,ps,af,gd⟩ r:=⟨f,y,tys,rfl,q,F⟩
end
def DTurn(P:Program)(s0:An)(n:Nat)(u:List (Nat×AV))(G:List Ow)(id:Nat)(V e:Ow)(A:List AV)(M:List Nat)(c:Nat)(q:List (Nat×Nat))(o:Oper)(r:AV):Prop:=∀F:List (Nat×AV),(∀p∈F,(∃i,i≠c/\i∉M/\A[i]? = some p.2)\/p∈u)->∀(s:GS) (X:Nat->Value) (a:Act),StI s0 n ⟨F,EU G id V e false⟩ a s X->(∀y∈o.op.operands,AVr G.length X s (DT ⟨u,EU G id V e false⟩ (A.map HR.av) q y) (a.eval y))->RegG.OpStep P o a.eval s λv j=>∃H,StI s0 n ⟨F,EU G id V e true⟩ a j H/\AVr G.length H j r v
def ZN(M:List Nat):Nat->List AV->List AV
 |_,[]=>[]
 |i,r::G=>(bif M.any (Nat.beq i)then .d CC else r)::ZN M (i+1) G
def ckK(M:List Nat)(G:List AV):List CK:=G.mapIdx λi r=>if i∈M then .t 0 else .q r
theorem A2r{r:AV}:(ckK l R)[n]? = some (.q r)↔n∉l/\R[n]? = some r:=by
 unfold ckK;rw[List.getElem?_mapIdx]
 cases R[n]? with
 |none=>simp
 |some x=>
  simp only[Ydt,Yde];by_cases h:n∈l
  .simp [h]
  .simp [h]
theorem Xz{F:Type}{l:List F}{x:F}(h:l[n]? = some x):l.set n x=l:=Ycd λj=>by
 rw[Ycb];split
 .rename_i e
  subst e;rw[Yan (Yae.1 h).1,h]
 .rfl
def GE(f:Nat->Bool)(i:Nat):Nat->Bool:=λk=>Nat.beq k i||f k
def HZ(f:Nat->Bool)(M:List (Nat×Nat)):Nat->List AV->List AV
 |_,[]=>[]
 |i,r::G=>(bif M.any (λp=>Nat.beq p.1 i&&f p.2)then .d CC else r)::HZ f M (i+1) G
theorem Nb{f:Nat->Bool}{M:List (Nat×Nat)}:∀{i:Nat} {G:List AV} {j:Nat},(HZ f M i G)[j]? = (G[j]?).map λr=>bif M.any (λp=>Nat.beq p.1 (i+j)&&f p.2)then .d CC else r
 |i,[],j=>by simp[HZ]
 |i,r::G,0=>by simp[HZ]
 |i,r::G,j+1=>by
  simp only[HZ,YcV];rw[Nb,show i+1+j=i+(j+1)by omega]
theorem LE{f:Nat->Bool}(h:∀q∈vw,q.1=n->f q.2=false):(HZ f vw 0 R)[n]? = R[n]?:=by
 rw[Nb,show vw.any (λp=>Nat.beq p.1 (0+n)&&f p.2)=false from List.any_eq_false.2 λq k E=>by
  simp only[Yam]at E;rw[h q k (by rw[Yao E.1,YaG])]at E;cases E.2]
 cases R[n]? <;> rfl
theorem ZM{f:Nat->Bool}{r:AV}(h:(HZ f vw 0 R)[n]? = some r):r=.d CC\/(∀q∈vw,q.1=n->f q.2=false)/\R[n]? = some r:=by
 cases E:vw.any (λp=>Nat.beq p.1 (0+n)&&f p.2)with
 |true=>
  rw[Nb,E]at h
  cases B:R[n]? with
  |none=>rw[B]at h;cases h
  |some x=>rw[B]at h;exact .inl (Yag h).symm
 |false=>
  have k:∀q∈vw,q.1=n->f q.2=false:=λq k e=>by
   have:=List.any_eq_false.1 E q k
   cases A:f q.2 with
   |false=>rfl
   |true=>rw[e,YaG,YcU,A]at this;exact absurd rfl this
  rw[LE k]at h;exact .inr ⟨k,h⟩
structure Can(L:List Oper)(f:Nat->Bool)(i:Nat)(o:Oper):Prop where
 no:f i=false
 ed:∀k∈Bz o,f k=true
 cl:∀j o',L[j]? = some o'->f j=true->∀k∈Bz o',f k=true
theorem Can.at{L:List Oper}{f:Nat->Bool}{i:Nat}{o:Oper}(h:Can L f i o)(k:Nat)(B:(Bz o).contains k=true:=by rfl):f k=true:=h.ed k (Ybu.1 B)
theorem Can.not {f : Nat → Bool} {o t : Oper} (h : Can vd f n o) (j : Nat) (m : vd[j]? = some t) (B : (Bz t).contains n = true := by rfl) : f j = false := by
 cases W:f j with
 |false=>rfl
 |true=>
  have:=h.cl j t m W n (Ybu.1 B);rw[h.no]at this;cases this
def XStep(P:Program)(s0:An)(n:Nat)(Q:Exit->AS->Prop)(L:List Oper)(u:List (Nat×AV))(I:(Nat->Bool)->Prop)(M:(Nat->Bool)->List Ow)(C:List (Nat×Nat))(G:List AV)(i:Nat)(B:List (Nat×Nat))(o:Oper)(r:AV):Prop:=BO o.op=true->∀f,Can L f i o->I f->∀F:List (Nat×AV),(∀p∈F,(∃j,f j=true/\(∀q∈C,q.1=j->GE f i q.2=false)/\G[j]? = some p.2)\/p∈u)->∀(s:GS) (X:Nat->Value) (a:Act),StI s0 n ⟨F,M f⟩ a s X->(∀y∈o.op.operands,AVr (M f).length X s (DT ⟨u,M f⟩ ((HZ f C 0 G).map HR.av) B y) (a.eval y))->∀R:Act->World->Prop,(∀v A H,I (GE f i)->StI s0 n ⟨F,M (GE f i)⟩ a A H->AVr (M f).length H A r v->R (a.put o.dst v) A.w)->o.wp P a s.w R (GG s0 n Q)
def XSteps(P:Program)(s0:An)(n:Nat)(Q:Exit->AS->Prop)(A:List Oper)(u:List (Nat×AV))(I:(Nat->Bool)->Prop)(M:(Nat->Bool)->List Ow)(q:List (Nat×Nat))(G:List AV):Nat->List Oper->List (List (Nat×Nat))->List AV->Prop
 |i,o::L,x::S,r::R=>XStep P s0 n Q A u I M q G i x o r/\XSteps P s0 n Q A u I M q G (i+1) L S R
 |_,[],[],[]=>True
 |_,_,_,_=>False
section
variable {P:Program} {s0:An} {n:Nat} {Q:Exit->AS->Prop} {I:(Nat->Bool)->Prop} {LL:List Oper} {frB:List (Nat×AV)} {M:(Nat->Bool)->List Ow} {lose:List (Nat×Nat)} {ks:List AV}
theorem XSteps.at:∀{L:List Oper} {S:List (List (Nat×Nat))} {R:List AV} {j:Nat},XSteps P s0 n Q LL frB I M lose ks j L S R->∀(i:Nat) o x r,L[i]? = some o->S[i]? = some x->R[i]? = some r->XStep P s0 n Q LL frB I M lose ks (j+i) x o r
 |[],_,_,_,_,i,o,x,r,m,_,_=>by simp at m
 |_::_,[],_,_,_,i,o,x,r,_,C,_=>by simp at C
 |_::_,_::_,[],_,_,i,o,x,r,_,_,V=>by simp at V
 |t::L,G::S,l::R,j,⟨q,A⟩,0,o,x,r,m,C,V=>by
  simp at m C V;subst m;subst C;subst V;exact q
 |t::L,G::S,l::R,j,⟨q,A⟩,i+1,o,x,r,m,C,V=>by
  have:=XSteps.at A i o x r ZdR Zei (by simpa using V);exact Zkm
theorem A3y(h:XSteps P s0 n Q LL frB I M lose ks 0 vd uD R):∀(i:Nat) o x r,vd[i]? = some o->uD[i]? = some x->R[i]? = some r->XStep P s0 n Q LL frB I M lose ks i x o r:=λi o x r q A K=>by
 have:=h.at i o x r q A K;rwa [YaG]at this
variable {i:Nat} {o:Oper} {L:List Oper} {x:List (Nat×Nat)} {S:List (List (Nat×Nat))} {r:AV} {R:List AV}
theorem XSteps.c(h:XStep P s0 n Q LL frB I M lose ks i x o r)(Z:XSteps P s0 n Q LL frB I M lose ks (i+1) L S R):XSteps P s0 n Q LL frB I M lose ks i (o::L) (x::S) (r::R):=⟨h,Z⟩
theorem XSteps.nil:XSteps P s0 n Q LL frB I M lose ks i [] [] []:=trivial
theorem XStep.q(W:∀f,Can LL f i o->I f->I (GE f i))(G:∀f,M (GE f i)=M f)(h:∀f,Can LL f i o->Quiet P (M f) o (DT ⟨frB,M f⟩ ((HZ f lose 0 ks).map HR.av) x) r):XStep P s0 n Q LL frB I M lose ks i x o r:=λJ f B p F _ s X a C l R E=>by
 rw[G]at E;exact RegG.opStep_wp J (λ_ _=>rfl) ((h f B).run 0 s X a.eval C.ok (Yaw _) C.hp l) λv j ⟨q,A⟩=>E v j X (W f B p) (C.put q (dst:=none) (λd e=>by cases e) (v:=v) (r:=.d CC) trivial) A
def XTurn(P:Program)(s0:An)(n:Nat)(LL:List Oper)(frB:List (Nat×AV))(M:(Nat->Bool)->List Ow)(lose:List (Nat×Nat))(ks:List AV)(i:Nat)(x:List (Nat×Nat))(o:Oper)(r:AV):Prop:=∀f,Can LL f i o->∀F:List (Nat×AV),(∀p∈F,(∃j,f j=true/\(∀q∈lose,q.1=j->GE f i q.2=false)/\ks[j]? = some p.2)\/p∈frB)->∀(s:GS) (X:Nat->Value) (a:Act),StI s0 n ⟨F,M f⟩ a s X->(∀y∈o.op.operands,AVr (M f).length X s (DT ⟨frB,M f⟩ ((HZ f lose 0 ks).map HR.av) x y) (a.eval y))->RegG.OpStep P o a.eval s λv A=>∃H,StI s0 n ⟨F,M (GE f i)⟩ a A H/\AVr (M f).length H A r v
theorem XTurn.step(h:XTurn P s0 n LL frB M lose ks i x o r)(W:∀f,Can LL f i o->I f->I (GE f i)):XStep P s0 n Q LL frB I M lose ks i x o r:=λG f B p F hF s X a C l R E=>RegG.opStep_wp G (λ_ _=>rfl) (h f B F hF s X a C l) λv j ⟨H,q,A⟩=>E v j H (W f B p) q A
theorem StI.turn1{id T sz:Nat}{s j:GS}(hst:StI s0 n ⟨vc,H⟩ vj s vi)(a:H[id]? = some (.row T sz vm))(O:∀p∈vc,p.2.avoid [id]=true)(Z:AvoidR [id] [id] 0 H)(G:Aft s (λq=>vi (BM [id] H.length q)) [.row T sz vm] [0] j ua [.row T sz ud])(A:AVr 1 ua j (.own 0) z):∃F,StI s0 n ⟨vc,H.set id (.row T sz ud)⟩ vj j F/\AVr H.length F j (.own id) z:=by
 obtain⟨F,E,f⟩:=StI.con (sel:=[id]) (lost:=[0]) (hpS:=[.row T sz vm]) (hp':=[.row T sz ud]) (H1:=H.set id (.row T sz ud)) ⟨O,λd t w C=>AvoidR.get Z d t (by simpa using w) C⟩ (λk B=>by rw[Yaz.1 B];exact YcI) hst ZbV ⟨a,trivial,trivial⟩ G rfl;simp only[Ycu,Ybf,List.drop_nil,YaP,Ycj,YbC]at E f;have:=f _ z A;rw[Ycg]at this;exact⟨F,E,this⟩
def depO(L:List Oper)(i:Nat):Nat->Nat->Bool
 |0,_=>false
 |n+1,j=>match L[j]? with
  |some t=>(Bz t).any λk=>Nat.beq k i||depO L i n k
  |none=>false
theorem We{f:Nat->Bool}(F:Can LL f i o){g:Nat}:∀(n j:Nat),depO LL g n j=true->f j=true->f g=true
 |0,_,h,_=>by cases h
 |n+1,j,h,W=>by
  unfold depO at h
  cases m:LL[j]? with
  |none=>rw[m]at h;cases h
  |some t=>
   rw[m]at h;obtain⟨k,B,q⟩:=YbI.1 h;have A:=F.cl j t m W k B;simp only[YaZ]at q;rcases q with q | q
   .rwa [Yao q]at A
   .exact We F n k q A
def avX(L:List Oper)(o:Oper)(lose:List (Nat×Nat))(ks:List AV)(frB:List (Nat×AV))(i id:Nat):Bool:=(ks.zipIdx.all λp=>Nat.beq p.2 i||lose.any (λq=>Nat.beq q.1 p.2&&(Nat.beq q.2 i||(Bz o).any λk=>Nat.beq k q.2||depO L q.2 4 k))||depO L i 4 p.2||p.1.avoid [id])&&frB.all λp=>p.2.avoid [id]
theorem A6a{id:Nat}(h:avX LL o lose ks frB i id=true){f:Nat->Bool}(F:Can LL f i o)(hF:∀p∈vc,(∃j,f j=true/\(∀q∈lose,q.1=j->GE f i q.2=false)/\ks[j]? = some p.2)\/p∈frB):∀p∈vc,p.2.avoid [id]=true:=λp G=>by
 unfold avX at h;simp only[Yam]at h;rcases hF p G with⟨j,W,E,C⟩ | hb
 .have A:=Yaj.1 h.1 (p.2, j) (by rw [YbN]; exact C)
  simp only[YaZ]at A;rcases A with((A | A) | A) | A
  .have:=F.no
   rw[<-Yao A,W]at this;cases this
  .obtain ⟨q,J,B⟩:=YbI.1 A
   simp only[Yam]at B;have:=E q J (Yao B.1);unfold GE at this;rcases(YaZ _ _).mp B.2 with K | K
   .rw [K]at this
    cases this
   .obtain ⟨k,C,Y⟩:=YbI.1 K
    have V:=F.ed k C
    have O:f q.2=true:=by
     rcases(YaZ _ _).mp Y with N | N
     .rwa [Yao N]at V
     .exact We F 4 k N V
    rw[O,Bool.or_true]at this;cases this
  .have:=We F 4 j A W
   rw[F.no]at this;cases this
  .exact A
 .exact Yaj.1 h.2 p hb
theorem XTurn.m{id t T sz m b bytes:Nat}(N:o.op=.buildSlice t 0 #[])(E:Tab P t (.slice T) m b u)(O:Tab P T d sz bytes z)(w:Nat.beq T 335=false)(G:Nat.blt 0 sz=true)(V:r=.own id)(W:∀f,Can LL f i o->(M f)[id]? = some (.row T sz [])/\M (GE f i)=M f)(e:avX LL o lose ks frB i id=true)(Z:∀f,AvoidR [id] [id] 0 (M f)):XTurn P s0 n LL frB M lose ks i x o r:=λf C F hF s X a K l=>by
 subst V;obtain⟨A,B⟩:=W f C;rw[B];obtain⟨j,p,c,J,y⟩:=A5r (sz:=sz) K.ok (λq=>X (BM [id] (M f).length q)) (YaI w) (by simpa[Ybh]using G)
 have Y:(execOp a.eval o).run P s.w=.ok (.value (.slice (some ⟨s.w.heap.size,0,none⟩) 0 0)) (s.w.alloc (.cells #[] T)):=by
  have h:∀arr,(newRow T arr).run P s.w=.ok ⟨s.w.heap.size,0,none⟩ (s.w.alloc (.cells arr T)):=λ_=>rfl;simp[execOp,N,Instr.buildSlice,run_underlying E.und,O.run_size,Instr.fill,h];exact ZhC
 unfold RegG.OpStep;rw[Y];obtain⟨v,g,k⟩:=K.turn1 A (A6a e C hF) (Z f) y ⟨YcI,J.symm⟩;rw[Xz A]at g;exact⟨j,c,v,g,k⟩
theorem XTurn.t{id T sz:Nat}{y z:Operand}{d:D}(W:o.op=.call { callee:=.value (.func ve),args:=#[y,z],argTypes:=vs })(xd:Con P ve [.own 0,.d d] [.row T sz vm] [0] (λr H=>r=.own 0/\H=[.row T sz ud]))(V:r=.own id)(m:∀f,Can LL f i o->(M f)[id]? = some (.row T sz vm)/\M (GE f i)=(M f).set id (.row T sz ud))(C:∀f,Can LL f i o->DT ⟨frB,M f⟩ ((HZ f lose 0 ks).map HR.av) x y=.own id/\DT ⟨frB,M f⟩ ((HZ f lose 0 ks).map HR.av) x z=.d d)(U:avX LL o lose ks frB i id=true)(h:∀f,AvoidR [id] [id] 0 (M f)):XTurn P s0 n LL frB M lose ks i x o r:=λf E F hF s X a N l=>by
 subst V;obtain⟨A,B⟩:=m f E;obtain⟨xf,xe⟩:=C f E;rw[B];have xi:=l y Zfj;have xj:=l z Zfj;rw[xf]at xi;rw[xe]at xj;have xb:=N.hp id _ A
 have xh:=xd.2 s (λq=>X (BM [id] (M f).length q)) [X id,a.eval z] N.ok (λq t k=>by
  cases q with
  |zero=>
   cases k;unfold OwR at xb ⊢;exact xb
  |succ q=>cases k) (λp q u o2 xg xc xa=>by
  have:=Cs xc;have:=Cs xa;simp only[Ycu]at *;omega) rfl (λq Y k=>by
  match q,k with
  |0,k=>cases k;exact⟨YcI,rfl⟩
  |1,k=>cases k;exact xj
  |q+2,k=>simp at k)
 have w:(execOp a.eval o).run P s.w=.ok (.enter ve #[X id,a.eval z]) s.w:=by
  have b:a.eval (.func ve)=.func (.func ve) #[] #[]:=rfl;simp[execOp,W,resolve,b,xi.2,Deferred.ofValue,invoke,xd.1]
 unfold RegG.OpStep;rw[w];refine xh.mono λe G ⟨v,J,j,g,r,H,⟨K,xk⟩,O,Z,c⟩=>⟨v,J,j,O,?_⟩;subst K;subst xk;exact N.turn1 A (A6a U E hF) (h f) c Z
end
theorem blt_eq{f:Nat->Bool}(m:Nat)(h:∀k,k<m->f k=true)(q:∀k,m<=k->f k=false):f=(Nat.blt · m):=funext λk=>by
 cases E:Nat.blt k m with
 |true=>exact h k (by rwa [Ybh]at E)
 |false=>
  refine q k (Nat.le_of_not_lt λh=>?_);rw[<-Ybh,E]at h;cases h
structure XInv(s0:An)(n len:Nat)(M:(Nat->Bool)->List Ow)(lose:List (Nat×Nat))(L:List Oper)(ks:List AV)(frB:List (Nat×AV))(f:Nat->Bool)(a:Act)(s:GS)(ρ:Nat->Value):Prop where
 st:StI s0 n ⟨[],M f⟩ a s ρ
 hq:∀i o d r,L[i]? = some o->o.dst=some d->(HZ f lose 0 ks)[i]? = some r->f i=true->AVr len ρ s r (a.tmps.getD d undef)
 hb:∀p∈frB,AVr len ρ s p.2 (a.tmps.getD p.1 undef)
theorem PJ{s0:An}{L:List Oper}{L0:Array Oper}(I:(Nat->Bool)->Prop)(m:Nat)(xC:List Nat)(M:(Nat->Bool)->List Ow)(xl:List (Nat×Nat))(ks:List AV)(U:List (List (Nat×Nat)))(xf F:List (Nat×AV))(hm:DrawOk P s0 n b L0 L vl vl)(xJ:FrIn vc xf)(hL:Nat.blt m L.length=true)(hI:I λ_=>false)(yg:M (λ_=>false)=H)(xV:∀f,(M f).length=H.length)(xQ:I (Nat.blt · m)->((List.range (L.length-m)).all λt=>(match L[m+t]? with | some o=>Bz o | none=>[]).all λk=>decide (k<m+t))=true)(xY:((List.range (L.length-m-1)).all λt=>(match L[m+t+1]? with | some o=>Bz o | none=>[]).contains (m+t))=true)(xL:(Mx L [m] xC&&(List.range m).all λj=>xC.contains j)=true)
  (steps:∀i o x r,(L.take m)[i]? = some o->U[i]? = some x->ks[i]? = some r->XStep P s0 n vl L xf I M xl ks i x o r) (xd:YK (L.take m) U ks xf n=true) (hF:FrIn (Qt (L.take m) (HZ (Nat.blt · m) xl 0 ks) xf) F) (fin:I (Nat.blt · m)->AWl P s0 n L.toArray vl (L.drop m) ⟨F,M (Nat.blt · m)⟩):AWp P s0 n (.region b L0 true) vl ⟨vc,H⟩:=by
 refine⟨λa w ⟨s,X,hw,xb⟩=>?_⟩;subst hw;have xW:=xJ.mem;obtain⟨yt,xt,xA⟩:=A7X xd;have yJ:m<L.length:=by rwa [Ybh]at hL
 have ys:I (Nat.blt · m)->∀k o,m<=k->L[k]? = some o->∀j∈Bz o,j<k:=λS k o E T j W=>by
  have xT:=(Yae.1 T).1;have B:=Yaj.1 (xQ S) (k-m) (Ybd.2 ZbG);rw[show m+(k-m)=k by omega,T]at B;simpa using Yaj.1 B j W
 have yw:∀k o,m<k->L[k]? = some o->k-1∈Bz o:=λk o E T=>by
  have xT:=(Yae.1 T).1;have B:=Yaj.1 xY (k-1-m) (Ybd.2 ZbG);rw[show m+(k-1-m)+1=k by omega,show m+(k-1-m)=k-1 by omega,T]at B;exact Ybu.1 B
 have yI:(L.take m).length=m:=ZgP
 simp only[Yam]at xL
 have yH:∀{i:Nat} {o:Oper},(L.take m)[i]? = some o->L[i]? = some o:=λ{i o} h=>by
  rw[YaK]at h;split at h
  .exact h
  .cases h
 have xr:∀j,(Array.replicate L.toArray.size false).getD j false=false:=λj=>Zak
 have xN:(λk=>(Array.replicate L.toArray.size false).getD k false)=λ_=>false:=funext xr;have ye:StI s0 n ⟨vc,H⟩ a s.dr X:=xb.put (Ka s) (dst:=none) (λd l=>by cases l) (v:=undef) (r:=.d CC) trivial;refine hm.run _ _ (Oy (λxc a' O=>(∃u xh,u.w=O/\(∀k,m<=k->xc.getD k false=false)/\(∀i o,L[i]? = some o->xc.getD i false=true->∀e∈Bz o,xc.getD e false=true)/\I (λk=>xc.getD k false)/\XInv s0 n H.length M xl (L.take m) ks xf (λk=>xc.getD k false) a' u xh)\/(∃t,m<=t/\t<=L.length/\I (Nat.blt · m)/\(∀i,i<t->xc.getD i false=true)/\(∀i,t<=i->xc.getD i false=false)/\wpList P L.toArray (GG s0 n vl) (L.drop t) a' O)) ?_ ?_ _ _ a s.w.drew ZbV ?_ (.inl ⟨s.dr,X,rfl,λk _=>xr k,(λi o _ h=>absurd (h.symm.trans (xr _)) ZbL),by rw[xN];exact hI,by rw[xN,yg];exact ye.bare,(λi o d r _ _ _ h=>absurd (h.symm.trans (xr _)) ZbL),(λp xa=>ye.fr _ _ (xW p xa))⟩))
 .intro xc a' w1 i xg hI K
  rcases hI with⟨s1,xy,rfl,xU,yb,xZ,xe⟩ | ⟨t,htm,htl,hIm,hall,hnone,hrest⟩
  rotate_left
  .have xg:xc.size=L.length:=by simpa using xg
   obtain⟨_,o,T,_⟩:=mem_ready.1 K;have T:L[i]? = some o:=by simpa using T
   have xO:=(Yae.1 T).1;obtain⟨xq,xo⟩:=(DD xg T).1 K
   have xx:t<=i:=by
    rcases YaD i t with h | h
    .rw [hall i h]at xq;cases xq
    .exact h
   have yD:i=t:=by
    rcases Nat.lt_or_eq_of_le xx with h | h
    .have B:=xo _ (yw i o ZbG T)
     rw[hnone (i-1) ZbG]at B;cases B
    .exact h.symm
   subst yD
   have yz:L.drop i=o::L.drop (i+1):=by
    rw[Ycn xO];congr 1;have:=Yac xO;rw[T]at this;exact(Yag this).symm
   rw[yz]at hrest
   have yn:wpOp P L.toArray (GG s0 n vl) i (λxI xs=>wpList P L.toArray (GG s0 n vl) (L.drop (i+1)) xI xs) a' w1:=by
    unfold wpOp;rw[show L.toArray[i]? = some o by simpa using T];exact hrest
   refine wpOp_mono (λxI xs h=>.inr ⟨i+1,by omega,by omega,hIm,λk E=>?_,λk E=>?_,h⟩) yn
   .by_cases e:k=i
    .subst e;simp[show k<xc.size by omega]
    .rw [getD_set_ne false (λe'=>e e'.symm)]
     exact hall k ZbG
   .rw [getD_set_ne false ZbG]
    exact hnone k ZbG
  have xg:xc.size=L.length:=by simpa using xg
  obtain⟨_,o,T,_⟩:=mem_ready.1 K;have T:L[i]? = some o:=by simpa using T
  obtain⟨xq,xo⟩:=(DD xg T).1 K
  have yp:∀(i:Nat),i<L.length->∀k,(xc.setIfInBounds i true).getD k false=true↔k=i\/xc.getD k false=true:=λi K k=>by
   by_cases E:k=i
   .subst E;simp[show k<xc.size by omega]
   .exact ZaX
  have yy:∀i' o',L[i']? = some o'->(xc.setIfInBounds i true).getD i' false=true->∀e∈Bz o',(xc.setIfInBounds i true).getD e false=true:=λi' o' xk J e' xv=>by
   have xO:=(Yae.1 T).1;rw[yp i xO]at J ⊢;rcases J with rfl | J
   .obtain rfl:o'=o:=Yag (xk.symm.trans T)
    exact .inr (xo e' xv)
   .exact .inr (yb i' o' xk J e' xv)
  have yK:i<=m:=by
   rcases YaD m i with h | h
   .have B:=xo _ (yw i o h T)
    rw[xU (i-1) ZbG]at B;cases B
   .exact h
  by_cases yr:i=m
  .subst yr
   have xX:=LI (L:=L) (f:=λk=>xc.getD k false) xL.1 yb (λk E o' xk e Y=>by
    obtain rfl:k=i:=by simpa using E
    obtain rfl:o'=o:=Yag (xk.symm.trans T);exact xo e Y)
   have ya:∀k,k<i->xc.getD k false=true:=λk E=>xX k (by simpa using Yaj.1 xL.2 k (Ybd.2 E));have xb:=xe.st;have yi:(λk=>xc.getD k false)=(Nat.blt · i):=blt_eq i ya xU;rw[yi]at xb xZ;have yv:=xe.hq;rw[yi]at yv
   have yF:St s0 n ⟨F,M (Nat.blt · i)⟩ a' s1.w:=⟨s1,xy,rfl,xb.le,xb.ok,λt av N=>by
    rw[show(⟨F,M (Nat.blt · i)⟩:AS).hp.length=H.length from xV _];rcases Yu (Ff (hF.mem _ (Ff N)))with h | ⟨i',o',B,C,h3⟩
    .exact xe.hb _ h
    .exact yv i' o' t av B h3 C (ya i' (by have:=(Yae.1 B).1;omega)),xb.sz,xb.df,xb.hp,xb.sep,xb.own⟩
   have xO:=(Yae.1 T).1
   have yA:L.drop i=o::L.drop (i+1):=by
    rw[Ycn xO];congr 1;have:=Yac xO;rw[T]at this;exact(Yag this).symm
   have xn:=(fin xZ).run a' s1.w yF;rw[yA]at xn
   have yn:wpOp P L.toArray (GG s0 n vl) i (λxI xs=>wpList P L.toArray (GG s0 n vl) (L.drop (i+1)) xI xs) a' s1.w:=by
    unfold wpOp;rw[show L.toArray[i]? = some o by simpa using T];exact xn
   refine wpOp_mono (λxI xs h=>.inr ⟨i+1,by omega,by omega,xZ,λk E=>?_,λk E=>?_,h⟩) yn
   .rw [yp i ZbG]
    rcases YaD k i with h | h
    .exact .inr (ya k h)
    .exact .inl ZbG
   .rw [getD_set_ne false ZbG]
    exact xU k ZbG
  have yC:i<m:=by omega
  have yd:(L.take m)[i]? = some o:=by rw[YaK,Yan yC];exact T
  obtain⟨e,r,d,Y,V,ck⟩:=xA i o yd;have xO:i<xc.size:=by rw[xg];exact(Yae.1 T).1
  have xB:=steps i o e r yd Y V;have xG:L.toArray[i]? = some o:=by simpa using T
  have xF:d<a'.tmps.size:=by rw[xe.st.sz];exact ck.dn
  have xw:∀k,(xc.setIfInBounds i true).getD k false=true↔k=i\/xc.getD k false=true:=λk=>by
   by_cases E:k=i
   .subst E;simp[xO]
   .exact ZaX
  have xi:∀i' o' d',(L.take m)[i']? = some o'->o'.dst=some d'->xc.getD i' false=true->d'≠d:=λi' o' d' xk xm J e'=>by
   subst e';have:=ck.du i' o' xk xm;subst this;rw[xq]at J;cases J
  have yk:∀p∈xf,p.1≠d:=λp xa e'=>xt p xa o (YaB yd) (by rw[e'];exact ck.dst)
  have yj:∀(R:Act->World->Prop),o.wp P a' s1.w (λxI xs=>R xI xs) (GG s0 n vl)->wpOp P L.toArray (GG s0 n vl) i (λxI xs=>R xI xs) a' s1.w:=λR h=>by
   unfold wpOp;rw[xG];show if Region.wanted o (yielded L.toArray a'.tmps)=true then _ else _
   exact ZiZ
  have xM:∀y,PR (L.take m) e y=true->AVr H.length xy s1 (DT ⟨xf,M (λk=>xc.getD k false)⟩ ((HZ (λk=>xc.getD k false) xl 0 ks).map HR.av) e y) (a'.eval y):=λy Q=>by
   cases y with
   |tmp t=>
    show AVr _ xy s1 (match e.find? (λp=>p.1==t)with
     |some p=>match ((HZ (λk=>xc.getD k false) xl 0 ks).map HR.av)[p.2]? with
      |some h=>h.val
      |none=>.d CC
     |none=>(Ch xf t).getD (.d CC)) (a'.tmps.getD t undef)
    cases yh:e.find? (λp=>p.1==t)with
    |some p=>
     have xa:p∈e:=Ybt yh;have xE:p.1=t:=by simpa using YcQ yh
     simp only;rw[Yau]
     cases xP:(HZ (λk=>xc.getD k false) xl 0 ks)[p.2]? with
     |none=>trivial
     |some r'=>
      obtain⟨xH,o',xk,xm⟩:=ck.env p xa;have:=xe.hq p.2 o' p.1 r' xk xm xP (xo _ xH);rwa [xE]at this
    |none=>
     simp only
     cases J:Ch xf t with
     |none=>trivial
     |some av=>exact xe.hb (t,av) (Ff J)
   |const v=>exact Zkk
   |global A=>trivial
   |func f=>exact Zkl
  have yG:(λk=>xc.getD k false) i=false:=xq
  have yi:(λk=>(xc.setIfInBounds i true).getD k false)=GE (λk=>xc.getD k false) i:=funext λk=>by
   unfold GE
   cases G:Nat.beq k i with
   |true=>rw[Yao G];exact(xw i).2 (.inl rfl)
   |false=>exact getD_set_ne false (λe=>YaI G e.symm)
  generalize yB:(λk=>xc.getD k false)=f at *;have xS:∀k,xc.getD k false=f k:=λk=>by rw[<-yB]
  have yx:Can L f i o:=⟨yG,λk E=>by rw[<-xS];exact xo k E,λj o' xk W k E=>by rw[<-xS]at W ⊢;exact yb j o' xk W k E⟩
  have ym:∀k,GE f i k=false->f k=false:=λk E=>by
   cases G:f k with
   |false=>rfl
   |true=>unfold GE at E;rw[G,Bool.or_true]at E;cases E
  generalize yE:(xl.filter λq=>GE f i q.2).map (·.1)=yf
  have yl:∀j,j∉yf↔∀q∈xl,q.1=j->GE f i q.2=false:=λj=>by
   rw[<-yE];refine⟨λh q z e=>?_,λh hm=>?_⟩
   .cases G:GE f i q.2 with
    |false=>rfl
    |true=>exact absurd (YaA.2 ⟨q,YdY.2 ⟨z,G⟩,e⟩) h
   .obtain ⟨q,z,e⟩:=YaA.1 hm
    obtain⟨z,G⟩:=YdY.1 z;rw[h q z e]at G;cases G
  have yu:∀p∈IC (L.take m) (ckK yf ks) xf xc,((∃j,f j=true/\(∀q∈xl,q.1=j->GE f i q.2=false)/\ks[j]? = some p.2)\/p∈xf)/\AVr H.length xy s1 p.2 (a'.tmps.getD p.1 undef):=λp xa=>by
   rcases En.1 xa with⟨i',o',g1,g2,g3,g4⟩ | g
   .obtain ⟨g5,g6⟩:=A2r.1 g2
    have g7:=(yl i').1 g5;rw[xS]at g4;exact⟨.inl ⟨i',g4,g7,g6⟩,xe.hq i' o' p.1 p.2 g1 g3 (by rw[LE λq z e=>ym _ (g7 q z e)];exact g6) g4⟩
   .exact ⟨.inr g,xe.hb _ g⟩
  have yo:StI s0 n ⟨IC (L.take m) (ckK yf ks) xf xc,M f⟩ a' s1 xy:=⟨xe.st.le,xe.st.ok,λt av N=>by
   rw[show(⟨IC (L.take m) (ckK yf ks) xf xc,M f⟩:AS).hp.length=H.length from xV _];exact(yu (t,av) (Ff N)).2,xe.st.sz,xe.st.df,xe.st.hp,xe.st.sep,xe.st.own⟩
  refine yj _ (xB ck.ns f yx xZ _ (λp xa=>(yu p xa).1) s1 xy a' yo (λy Q=>by rw[xV];exact xM y (ck.kq y Q)) _ λv u xz xu xp h6=>?_);rw[xV]at h6
  have xK:∀(p:Nat×AV),p∈IC (L.take m) (ckK yf ks) xf xc->AVr H.length xz u p.2 (a'.tmps.getD p.1 undef):=λp xa=>by
   have:=xp.fr p.1 p.2 (OX xa λq z Z=>by
    rcases En.1 xa with⟨i1,o1,g1,g2,g3,g4⟩ | g<;>rcases En.1 z with⟨i2,o2,k1,k2,k3,k4⟩ | k0
    .rw [Z]at k3
     obtain⟨_,_,d3,_,_,xR⟩:=xA i1 o1 g1;obtain rfl:d3=p.1:=Yag (xR.dst.symm.trans g3);obtain rfl:=xR.du i2 o2 k1 k3;rw[g2]at k2;have:=Yag k2;exact ZiW
    .exact absurd (g3.trans (congrArg some Z.symm)) (xt q k0 o1 (YaB g1))
    .exact absurd (k3.trans (congrArg some Z)) (xt p g o2 (YaB k1))
    .have B:=xW p g
     have C:=xW q k0;rw[Z,B]at C;exact Prod.ext Z (Yag C).symm)
   rwa [show(⟨IC (L.take m) (ckK yf ks) xf xc,M (GE f i)⟩:AS).hp.length=H.length from xV _]at this
  refine .inl ⟨u,xz,rfl,λk E=>by rw[getD_set_ne false ZbG];exact xU k E,yy,by rw[yi];exact xu,?_⟩;rw[yi];have B:=xp.put (GS.Le.refl u) (dst:=o.dst) (λd' xm=>by rw[ck.dst]at xm;cases xm;exact ck.dn) (v:=v) (r:=.d CC) trivial;rw[ck.dst]at B ⊢;refine⟨B.bare,λi' o' d' r' xk xm xD J=>?_,λp xa=>?_⟩
  .by_cases yq:i'=i
   .subst yq
    obtain rfl:o'=o:=Yag (xk.symm.trans yd);obtain rfl:d'=d:=Yag (xm.symm.trans ck.dst);rw[KO xF];rw[Nb,V]at xD;have xD:=Yag xD;rw[<-xD]
    cases xl.any (λp=>Nat.beq p.1 (0+i')&&GE f i' p.2)with
    |true=>trivial
    |false=>exact h6
   .have yc:f i'=true:=by
     unfold GE at J
     cases G:Nat.beq i' i with
     |true=>exact absurd (Yao G) yq
     |false=>rw[G]at J;exact J
    have xj:xc.getD i' false=true:=by rw[xS];exact yc
    rw[Gv (xi i' o' d' xk xm xj)];rcases ZM xD with e' | ⟨g1,g2⟩
    .rw [e'];trivial
    .exact xK (d',r') (En.2 (.inl ⟨i',o',xk,A2r.2 ⟨(yl i').2 g1,g2⟩,xm,xj⟩))
  .rw [Gv (yk p xa)]
   exact xK p (En.2 (.inr xa))
 .intro xc a' w1 xg hI c
  have xg:xc.size=L.length:=by simpa using xg
  have ya:∀i,i<m->xc.getD i false=true:=by
   intro i
   induction i using Nat.strongRecOn with
   |_ i ih=>
    intro K;have T:L[i]? = some (L[i]'(ZbG)):=Yac ZbG;have yd:(L.take m)[i]? = some (L[i]'(ZbG)):=by rw[YaK,Yan K];exact T
    obtain⟨e,r,d,Y,V,ck⟩:=xA i _ yd
    cases hg:xc.getD i false with
    |true=>rfl
    |false=>
     have:i∈Region.ready .any L.toArray xc:=(DD xg T).2 ⟨hg,λk E=>ih k (ck.lt k E) (by have:=ck.lt k E;omega)⟩;rw[c]at this;cases this
  rcases hI with⟨s1,xy,rfl,xU,_,xZ,_⟩ | ⟨t,htm,htl,hIm,hall,hnone,hrest⟩
  .have T:L[m]? = some (L[m]'(ZbG)):=Yac ZbG
   have:m∈Region.ready .any L.toArray xc:=(DD xg T).2 ⟨xU m (Yah _),λk E=>ya k (ys (by rw[show(Nat.blt · m)=(λk=>xc.getD k false)from(blt_eq m ya xU).symm];exact xZ) m _ (Yah _) T k E)⟩;rw[c]at this;cases this
  .rcases Nat.lt_or_eq_of_le htl with h | h
   .have T:L[t]? = some (L[t]'h):=Yac h
    have:t∈Region.ready .any L.toArray xc:=(DD xg T).2 ⟨hnone t (Yah _),λk E=>hall k (ys hIm t _ htm T k E)⟩;rw[c]at this;cases this
   .rw [h,List.drop_length]at hrest
    exact hrest
 .rw [Array.count_replicate]
  simp
end
