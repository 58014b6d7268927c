/- Part 20. No condition. -/
import Derived.Test.YtcikkglcoeedlaaGreatBk18
import Derived.Test.YtcikkglcoeedlaaGreatBk19
set_option linter.unusedSimpArgs false
set_option linter.unusedVariables false
set_option maxRecDepth 100000
namespace Go.Proofs.YtcikkglcoeedlaaGreat
open _root_.Go.Proofs.Tryz
variable{ve:AS}{vy:AV->List Ow->Prop}{vl:Act}{vN:Array Bool}{vK:Array Edge}{vY:Array Oper}{vt:Array TypeId}{vp:Code}{r:D}{vk:Exit->AS->Prop}{vP:Func}{vd:FuncId}{uM:List (List (Nat×Nat))}{vc:List (Nat×AV)}{vv:List (Nat×Nat)}{i:List AV}{l f vo:List Nat}{vf:List Oper}{vO:List Operand}{H vz:List Ow}{vT:List PanicEntry}{vb uh:List Tm}{ue:List Value}{n b T:Nat}{vE:Nat->Nat}{vi:Nat->Value}{va:Oper}{x y:Operand}{vC:Operand->AV}{vV:Option (Nat×Bool)}{vF:Option Tmp}{vs uE:Ow}{P:Program}{vG xe:Prop}{vA uT:Rat}{vJ:String}{e uz:Type}{z u:Value}
section
open Go.RowKit
def ConP(P:Program)(f:FuncId)(args:List AV)(G:List Ow)(Q:AV->List Ow->Prop)(T:List PanicEntry)(N:Prop):Prop:=
 (∀args w,(callFunc f args).run P w=.ok (.enter f args) w)/\∀(s:GS) (W:Nat->Value) (K:List Value),s.Ok->HpOk 0 W s G->Sep s W G->K.length=args.length->(∀(k:Nat) av,args[k]? = some av->AVr G.length W s av (K.getD k undef)) ->
  Calls P f K.toArray s.w λe A=>(∃v,e=.returned v/\∃(j:GS) (B:Nat->Value) (r:AV) (z:List Ow),Q r z/\j.w=A/\AVr z.length B j r v/\Aft s W G [] j B z)\/(e=.panicked T/\N/\∃j:GS,j.w=A/\Aft s W G [] j W (List.replicate G.length .dead))
theorem VN{n i:Nat}(h:(List.replicate n Ow.dead)[i]? = some vs):vs=.dead:=by
 rw[List.getElem?_replicate]at h;split at h
 .exact (Yag h).symm
 .cases h
theorem Aft.take{s:GS}{hp:List Ow}{s':GS}{ρ':Nat->Value}(h:Aft s vi hp l s' ρ' vz)(J:∀(i:Nat) o,(vz.take hp.length)[i]? = some o->o.below hp.length):Aft s vi hp l s' ρ' (vz.take hp.length):=by
 have q:(vz.take hp.length).length=hp.length:=by rw[YaO];have:=h.len;omega
 have P:∀i o,(vz.take hp.length)[i]? = some o->vz[i]? = some o:=λi o K=>by
  rw[YaJ]at K;split at K
  .exact K
  .cases K
 refine⟨h.le,h.ok,λi o K=>?_,λi j o w F K E=>h.sep i j o w F (P i o K) (P j w E),λi o b K=>h.own i o b (P i o K),h.kp,by rw[q];exact Yah _⟩;have A:=h.mem i o (P i o K);rw[q];have C:=J i o K;have L:i<hp.length:=by have:=Cy K;omega
 exact OwR.un (e:=λi=>i) (by
  have:o.ren (λi=>i)=o:=by
   cases o with
   |dead=>rfl
   |var T c=>exact congrArg (Ow.var T) ((YaX λa _=>by cases a<;>simp[AV.ren]).trans (Yew _))
   |row T k r=>rfl
   |obj O=>rfl
   |pin B=>exact congrArg Ow.pin ((YaX λa _=>by obtain⟨v,a⟩:=a;cases a<;>simp[AV.ren]).trans (Yew _))
  rw[this];exact A) C L λ_ _=>rfl
def A8J:AV->Bool
 |.d _=>true
 |_=>false
theorem Con.cut{Q O:AV->List Ow->Prop}(h:Con P vd i H l Q)(G:∀r z,Q r z->A8J r=true/\(∀(A:Nat) o,(z.take H.length)[A]? = some o->o.below H.length)/\O r (z.take H.length)):Con P vd i H l O:=
 ⟨h.1,λs W K B C L S n=>(h.2 s W K B C L S n).mono λe N ⟨v,b,j,J,r,z,M,I,X,p⟩=>by
  obtain⟨E,F,y⟩:=G r z M
  cases r with
  |d x=>exact⟨v,b,j,J,.d x,_,y,I,X,p.take F⟩
  |_=>cases E⟩
def FinP(P:Program)(Z:Func)(K:List Value)(Q:AV->List Ow->Prop)(T:List PanicEntry)(N:Prop)(e:Exit)(d:AS):Prop:=FinC P Z [] K Q e d\/(e=.panic T/\N)
theorem FinP.ret{Q:AV->List Ow->Prop}{r:AV}(h:RetsA P ve vP.results r)(Y:GZ ve.hp ue.length .dead=some H)(A:Q r H)(G:ve.hp[ue.length]? = some (.pin (FD [] 0 ue))):FinP P vP ue Q vT vG .ret ve:=.inl (Bt h Y A G)
def PanQ(T:List PanicEntry)(Q:Exit->AS->Prop):Prop:=∀d,Q (.panic T) d
theorem AM{Q:AV->List Ow->Prop}(h:vG):PanQ vT (FinP P vP ue Q vT vG):=λ_=>.inr ⟨rfl,h⟩
theorem AF{N:AS->Prop}{Q:Exit->AS->Prop}(h:PanQ vT Q):PanQ vT (AThen N Q):=λd=>⟨h d⟩
theorem PanQ.block{id:Nat}{Q:Exit->AS->Prop}(h:PanQ vT Q):PanQ vT (ABlock id Q):=λd=>⟨h d⟩
theorem PanQ.loop{I:Nat->AS->Prop}{m:Nat}{Q:Exit->AS->Prop}(h:PanQ vT Q):PanQ vT (ALoop I m Q):=λd=>⟨h d⟩
theorem Zo(Q:P.funcs[vd]? = some vP)(F:vP.body=some vp)(xf:∀i w,(callFunc vd i).run P w=.ok (.enter vd i) w)(f:Nat.ble i.length vP.ntmps=true)
  (h:∀(R:An) (d:List Value),d.length=H.length->AWp P R vP.ntmps vp (FinP P vP d vy vT vG) ⟨IZ 0 i,H++[.pin (FD [] 0 d)]⟩):ConP P vd i H vy vT vG:=by
 refine⟨xf,λs W d Z m xg J O=>calls_of_wp Q F ?_⟩;have u:i.length<=vP.ntmps:=by simpa[YdW]using f
 have xb:((List.range H.length).map W).length=H.length:=by simp
 have q:(H++[Ow.pin (FD [] 0 ((List.range H.length).map W))]).length=H.length+1:=by simp
 have xa:∀A o,(H++[Ow.pin (FD [] 0 ((List.range H.length).map W))])[A]? = some o->H[A]? = some o\/o=Ow.pin (FD [] 0 ((List.range H.length).map W)):=λA o K=>ZaN
 have IR:∀k,k<H.length->((List.range H.length).map W).getD k undef=W k:=λk E=>by
  exact ZhT
 refine wp_mono ((h ⟨s,IF s W H,[]⟩ ((List.range H.length).map W) xb).run { tmps:=d.toArray++Array.replicate (vP.ntmps-d.toArray.size) undef,defers:=[] } s.w ⟨s,W,rfl,GS.LeX.refl _ s,Z,λt c M=>?_,by simp;omega,rfl,λA o K=>?_,λA j o V y K G b xd xh=>?_,λA o b K xd=>?_⟩) ?_
 .exact ZaO
 .show OwR 0 (H++[Ow.pin _]).length W s A o
  rw[q];rcases xa A o K with B | rfl
  .exact (m A o B).mono (Yec _) (λ_ _=>rfl) (Cy B)
  .exact ZaP
 .exact ZaQ
 .rcases xa A o K with B | rfl
  .exact .inl ⟨A,o,B,xd⟩
  .exact xd.elim
 .intro e a w ⟨τ,U,N,l,g,T⟩
  subst g;rcases U with⟨I,⟨r,z,Y,xk,n⟩,xj⟩ | ⟨rfl,hN⟩
  rotate_left
  .refine ⟨T.df, .inr ⟨rfl, hN, N, rfl, ⟨T.le, T.ok, λA o K=>?_, λA j o V y K G b F x=>?_, λA o b K F=>?_, λ_ _ _=>rfl, by rw [YdK]; exact Yah _⟩⟩⟩
   .obtain rfl:=VN K
    trivial
   .obtain rfl:=VN K
    exact F.elim
   .obtain rfl:=VN K
    exact F.elim
  subst xk;rw[xb]at xj n;obtain⟨v,B,C⟩:=Y.run _ l N a.tmps vP rfl T.hp T.fr
  have X:∀A o,(τ.hp.set H.length .dead)[A]? = some o->o=Ow.dead\/τ.hp[A]? = some o:=λA o K=>ZaR
  have U:Aft s W H [] N l (τ.hp.set H.length .dead):=ZaS
  have xe:AVr (τ.hp.set H.length .dead).length l N r v:=by rw[Yct];exact C
  rcases I with rfl | rfl
  .exact ZjW
  .exact ZjW
def Ky(e:Nat->Nat)(m:Nat)(y:AV)(X:FuncId)(pre Y:List Nat):Prop:=(y=.d (ex (.func (.func X) #[] #[]))/\pre=[]/\Y=[])\/(y=.fn X (Y.map e)/\pre=[]/\Y.all (Nat.blt · m)=true/\Nat.blt X 1000000=true)\/(y=.fn (X+1000000) (pre.map e)/\Y=[]/\pre.all (Nat.blt · m)=true)
theorem A1L{R:e->uz->Prop}{u:uz}{A B:List e}{V W:List uz}(J:A.length=V.length)(C:∀(k:Nat) a,A[k]? = some a->R a (V.getD k u))(E:∀(k:Nat) a,B[k]? = some a->R a (W.getD k u)):∀(k:Nat) a,(A++B)[k]? = some a->R a ((V++W).getD k u):=λk a h=>by
 rw[YaQ]at h;rw[Yab,YaQ];split at h
 .rename_i Q
  rw[Yan ZbD,<-Yab];exact C k a h
 .rename_i F
  rw[Yai ZbD,J.symm,<-Yab];exact E _ a h
section
variable {P:Program} {s0:An} {n:Nat} {ops:Array Oper} {Q:Exit->AS->Prop} {rest:List Oper} {fr:List (Nat×AV)} {hp:List Ow}
theorem A5M{hpS:List Ow}(W:va.op=.call { callee:=.value x,args:=vO.toArray,argTypes:=vt })(sel:List Nat){m:Nat}(O:HU hp=some m)(t:Ky (BO sel m) hpS.length (AS.arg ⟨fr,hp⟩ x) vd l f)
  (xb:∀vO w,(callFunc vd vO).run P w=.ok (.enter vd vO) w) (p:ArgsC hp (BO sel m) hpS.length (AS.arg ⟨fr,hp⟩) vO i) (xc:sel.Nodup) (xa:SelR (BO sel m) hp hpS.length sel hpS) (xf:∀A∈l,∃T cells,hpS[A]? = some (.var T cells)) (xe:∀A∈f,∃T cells,hpS[A]? = some (.var T cells))
  {s:GS} (hst:StI s0 n ⟨fr,hp⟩ vl s vi):∃Y:List Value,Y.length=(l.map (AV.ptr · 0)++i++f.map (AV.ptr · 0)).length/\(execOp vl.eval va).run P s.w=.ok (.enter vd Y.toArray) s.w/\HpOk 0 (λk=>vi (BO sel hp.length k)) s hpS/\Sep s (λk=>vi (BO sel hp.length k)) hpS /\
   ∀(k:Nat) X,(l.map (AV.ptr · 0)++i++f.map (AV.ptr · 0))[k]? = some X->AVr hpS.length (λk=>vi (BO sel hp.length k)) s X (Y.getD k undef):=by
 obtain rfl:=FR O;obtain⟨g,c⟩:=xa.get;obtain⟨xh,xk⟩:=p.get;have xj:∀A,A<hpS.length->(λk=>vi (BO sel hp.length k)) A=vi (BO sel hp.length A):=λ_ _=>rfl
 have H:∀k R,hpS[k]? = some R->hp[BO sel hp.length k]? = some (R.ren (BO sel hp.length)):=λk R G=>by
  rw[Ft (by have:=Cy G;omega)];exact(c k R G).1
 have o:HpOk 0 (λk=>vi (BO sel hp.length k)) s hpS:=λk R G=>(hst.hp _ _ (H k R G)).un (c k R G).2 (Cy G) xj
 have xd:Sep s (λk=>vi (BO sel hp.length k)) hpS:=λA j r U z K a b I y=>by
  refine hst.sep _ _ _ _ (λe=>z ?_) (H A r K) (H j U a) b (QK.2 I) (QK.2 y);have C:=Cy K;have F:=Cy a;rw[Ft ZbD,Ft ZbD,Yab,Yac ZbD,Yab,Yac ZbD]at e;exact Ub xc _ _ e
 have xg:∀(k:Nat) X,i[k]? = some X->AVr hpS.length (λk=>vi (BO sel hp.length k)) s X ((vO.map vl.eval).getD k undef):=λk X G=>by
  obtain⟨B,C,F⟩:=xk k X G;have L:=hst.arg B;have S:(vO.map vl.eval).getD k undef=vl.eval B:=by rw[Yab,Yax,C];rfl
  rw[S];rcases F with⟨d,u,rfl,N,V⟩ | ⟨N,V⟩
  .exact V s _ (Ew hst.hp L N)
  .rw [N]at L
   exact L.un V xj
 have xi:∀(E:List Nat),(∀A∈E,∃T cells,hpS[A]? = some (.var T cells))->∀(k:Nat) X,(E.map (AV.ptr · 0))[k]? = some X->AVr hpS.length (λk=>vi (BO sel hp.length k)) s X ((E.map λA=>vi (BO sel hp.length A)).getD k undef):=λE J k X G=>by
  rw[Yax]at G;rw[Yab,Yax]
  cases K:E[k]? with
  |none=>rw[K]at G;cases G
  |some A=>
   rw[K]at G;cases G;obtain⟨T,cells,C⟩:=J A (YaE K);obtain⟨b,M,F,_⟩:=o A _ C;exact⟨Cy C,b,F,F⟩
 have q:i.length=vO.length:=xh.symm;refine⟨(l.map λA=>vi (BO sel hp.length A))++vO.map vl.eval++f.map λA=>vi (BO sel hp.length A),by simp[xh],?_,o,xd,A1L (by simp[xh]) (A1L ZbS (xi l xf) xg) (xi f xe)⟩;have L:=hst.arg x;rcases t with⟨S,rfl,rfl⟩ | ⟨S,rfl,N,V⟩ | ⟨S,rfl,N⟩
 .rw [S]at L
  have Z:vl.eval x=.func (.func vd) #[] #[]:=L;simp[execOp,W,resolve,Z,Deferred.ofValue,invoke,xb]
 .rw [S]at L
  have Z:vl.eval x=.func (.func vd) #[] ((f.map (BO sel hp.length)).map vi).toArray:=by rw[L.2,fnV,V];rfl
  exact ZhZ
 .rw [S]at L
  have v:Nat.blt (vd+1000000) 1000000=false:=ZaT
  have Z:vl.eval x=.func (.func vd) ((l.map (BO sel hp.length)).map vi).toArray #[]:=by rw[L.2,fnV,v,YbV];rfl
  exact ZhZ
theorem A7M{hpS:List Ow}(J:va.op=.call { callee:=.value x,args:=vO.toArray,argTypes:=vt })(sel:List Nat){m:Nat}(E:HU hp=some m)(t:Ky (BO sel m) hpS.length (AS.arg ⟨fr,hp⟩ x) vd l f)
  (I:Con P vd (l.map (AV.ptr · 0)++i++f.map (AV.ptr · 0)) hpS vo vy) (H:LostOk sel vo m fr hp) (p:ArgsC hp (BO sel m) hpS.length (AS.arg ⟨fr,hp⟩) vO i) (xa:sel.Nodup) (U:SelR (BO sel m) hp hpS.length sel hpS) (xe:∀A∈l,∃T cells,hpS[A]? = some (.var T cells)) (xd:∀A∈f,∃T cells,hpS[A]? = some (.var T cells)) (B:VO va.dst n=true)
  (next:∀r z,vy r z->∃M u b,AVRen (BO sel m) r M/\SetR (BO sel m) hp sel z u/\AppR (BO sel m) u (Mu sel.length z) b/\AWl P s0 n ops Q rest (AS.put ⟨fr,b⟩ va.dst M)) :
  ∀(s:GS) (W:Nat->Value) (a:Act),StI s0 n ⟨fr,hp⟩ a s W->∀K:Act->World->Prop,(∀c X N,AWl P s0 n ops Q rest c->St s0 n c X N->K X N)->va.wp P a s.w K (GG s0 n Q):=by
 intro s W a F K Y;obtain⟨L,w,xf,d,xb,xg⟩:=A5M J sel E t I.1 p xa U xe xd F;obtain rfl:=FR E;have S:=I.2 s (λk=>W (BO sel hp.length k)) L F.ok d xb w xg;unfold Oper.wp;rw[xf];refine Calls.mono S λe N h=>?_;obtain⟨v,rfl,j,O,r,z,C,rfl,G,g⟩:=h;obtain⟨M,u,b,y,R,V,Z⟩:=next r z C;replace y:M=r.ren (BO sel hp.length):=y;rw[AppR,NA]at V;subst y;subst V;obtain⟨xc,o,q⟩:=StI.con (sel:=sel) (hpS:=hpS) H.get.1 H.get.2 F xa U g R;exact Y _ _ _ Z ⟨j,xc,rfl,o.put (GS.Le.refl j) (Jw B) (q r v G)⟩
theorem A7L{hpS Hd:List Ow}(J:va.op=.call { callee:=.value x,args:=vO.toArray,argTypes:=vt })(sel:List Nat){m:Nat}(E:HU hp=some m)(t:Ky (BO sel m) hpS.length (AS.arg ⟨fr,hp⟩ x) vd l f)
  (I:ConP P vd (l.map (AV.ptr · 0)++i++f.map (AV.ptr · 0)) hpS vy vT vG) (xa:SetR (BO sel m) hp sel (List.replicate hpS.length .dead) Hd) (xi:vG->Q (.panic vT) ⟨fr,Hd⟩) (p:ArgsC hp (BO sel m) hpS.length (AS.arg ⟨fr,hp⟩) vO i) (xd:sel.Nodup) (xc:SelR (BO sel m) hp hpS.length sel hpS) (xh:∀A∈l,∃T cells,hpS[A]? = some (.var T cells)) (xg:∀A∈f,∃T cells,hpS[A]? = some (.var T cells)) (B:VO va.dst n=true)
  (next:∀r z,vy r z->∃M H q,AVRen (BO sel m) r M/\SetR (BO sel m) hp sel z H/\AppR (BO sel m) H (Mu sel.length z) q/\AWl P s0 n ops Q rest (AS.put ⟨fr,q⟩ va.dst M)) :
  ∀(s:GS) (W:Nat->Value) (a:Act),StI s0 n ⟨fr,hp⟩ a s W->∀K:Act->World->Prop,(∀u X N,AWl P s0 n ops Q rest u->St s0 n u X N->K X N)->va.wp P a s.w K (GG s0 n Q):=by
 intro s W a F K Z;obtain⟨L,U,xj,d,xe,xk⟩:=A5M J sel E t I.1 p xd xc xh xg F;obtain rfl:=FR E;obtain⟨R,-⟩:=xc.get;have S:=I.2 s (λk=>W (BO sel hp.length k)) L F.ok d xe U xk;have xb:LostOk sel [] hp.length fr hp:=.inl rfl;unfold Oper.wp;rw[xj];refine Calls.mono S λe N h=>?_;rcases h with⟨v,rfl,j,O,r,z,C,rfl,G,g⟩ | ⟨rfl,hN,j,rfl,g⟩
 .obtain ⟨M,H,q,y,V,Y,c⟩:=next r z C
  replace y:M=r.ren (BO sel hp.length):=y;rw[AppR,NA]at Y;subst y;subst Y;obtain⟨xf,o,w⟩:=StI.con (sel:=sel) (hpS:=hpS) xb.get.1 xb.get.2 F xd xc g V;exact Z _ _ _ c ⟨j,xf,rfl,o.put (GS.Le.refl j) (Jw B) (w r v G)⟩
 .obtain ⟨xf,o,-⟩:=StI.con (sel:=sel) (hpS:=hpS) xb.get.1 xb.get.2 F xd xc g xa
  have b:(List.replicate hpS.length Ow.dead).drop sel.length=[]:=YaL (by rw[YdK];omega);rw[b,Ycs,YbD]at o;exact⟨_,xi hN,j,xf,rfl,o⟩
theorem AU{Z:TypeId}{t:Nat}(U:List Nat)(pre Y:List Nat)(I:Con P vd i H l vy)(G:LostOk U l b fr hp)(w:i=pre.map (AV.ptr · 0)++(i.drop pre.length).take vO.length++Y.map (AV.ptr · 0))(B:HU hp=some b)(A:Ky (BO U b) H.length (AS.arg ⟨fr,hp⟩ x) vd pre Y)
  (p:ArgsC hp (BO U b) H.length (AS.arg ⟨fr,hp⟩) vO ((i.drop pre.length).take vO.length)) (f:U.Nodup) (J:SelR (BO U b) hp H.length U H) (O:CapsOk H pre) (K:CapsOk H Y) (e:Nat.blt t n=true)
  (next:∀r z,vy r z->∃C E F,AVRen (BO U b) r C/\SetR (BO U b) hp U z E/\AppR (BO U b) E (Mu U.length z) F/\AWl P s0 n ops Q rest ⟨(t,C)::fr,F⟩) :
  AWl P s0 n ops Q (⟨some t,.call { callee:=.value x,args:=vO.toArray,argTypes:=vt },Z,vJ,vK,none⟩::rest) ⟨fr,hp⟩:=by
 rw[w]at I;exact AWl.step rfl (A7M rfl U B A I G p f J O.get K.get e next)
theorem Bc{Z:TypeId}{t:Nat}(U:List Nat)(pre Y:List Nat){m:Nat}(I:ConP P vd i H vy vT vG)(G:SetR (BO U m) hp U (List.replicate H.length .dead) vz)(T:vG->Q (.panic vT) ⟨fr,vz⟩)(w:i=pre.map (AV.ptr · 0)++(i.drop pre.length).take vO.length++Y.map (AV.ptr · 0))(B:HU hp=some m)(A:Ky (BO U m) H.length (AS.arg ⟨fr,hp⟩ x) vd pre Y)
  (p:ArgsC hp (BO U m) H.length (AS.arg ⟨fr,hp⟩) vO ((i.drop pre.length).take vO.length)) (f:U.Nodup) (J:SelR (BO U m) hp H.length U H) (O:CapsOk H pre) (K:CapsOk H Y) (e:Nat.blt t n=true)
  (next:∀r z,vy r z->∃C E F,AVRen (BO U m) r C/\SetR (BO U m) hp U z E/\AppR (BO U m) E (Mu U.length z) F/\AWl P s0 n ops Q rest ⟨(t,C)::fr,F⟩) :
  AWl P s0 n ops Q (⟨some t,.call { callee:=.value x,args:=vO.toArray,argTypes:=vt },Z,vJ,vK,none⟩::rest) ⟨fr,hp⟩:=by
 rw[w]at I;exact AWl.step rfl (A7L rfl U B A I G T p f J O.get K.get e next)
end
theorem ER{Z:TypeId}(E:vC x=.ptr n 0):Quiet P H ⟨vF,.makeFunc (.func vd) #[x] #[],Z,vJ,vK,vV⟩ vC (.fn (vd+1000000) [n]):=by
 refine⟨λbase s W i F y d r=>?_⟩;have S:=r x ZcQ;rw[E]at S;obtain⟨A,b,B,g⟩:=S
 have m:Nat.blt (vd+1000000) 1000000=false:=ZaT
 refine Cc (v:=.func (.func vd) #[i x] #[]) (by simp[execOp,Instr.makeFunc]) ⟨GS.Le.refl s,λj a=>by rw[YaC.1 a];exact A,?_⟩;rw[fnV,m,YbV,g,Ybf,Ycs,B];rfl
section
variable {P:Program} {f:FuncId} {fn:Func} {c:Code} {args:List AV} {Q:AV->List Ow->Prop} {ch:List PanicEntry} {N:Prop} (hf:P.funcs[f]? = some fn) (hb:fn.body=some c) (hcf:∀args w,(callFunc f args).run P w=.ok (.enter f args) w) (hn:Nat.ble args.length fn.ntmps=true)
include hf hb hcf hn
theorem Bu(h:∀(v:An) (O:Value),AWp P v fn.ntmps c (FinP P fn [O] Q ch N) ⟨IZ 0 args,[vs,.pin [(O,.own 0)]]⟩):ConP P f args [vs] Q ch N:=
 Zo hf hb hcf hn λv K r=>by
  match K,r with
  |[O],_=>exact h v O
end
theorem BX{j:Nat}(Y:GZ H j .dead=some vz):SetR vE H [j] (List.replicate 1 Ow.dead) vz:=SetR.cons OwRen.dead Y SetR.nil
section
variable {P:Program} {s0:An} {n:Nat} {ops:Array Oper} {Q:Exit->AS->Prop} {rest:List Oper} {fr:List (Nat×AV)} {hp:List Ow}
theorem Dr{Z:TypeId}{T:TypeId}{v:Value}(E:AS.arg ⟨fr,hp⟩ x=.d (ex (.iface T v)))(l:Q (.panic [{ v:=.iface T v,recovered:=false }]) ⟨fr,hp⟩):AWl P s0 n ops Q (⟨none,.panic x,Z,vJ,vK,none⟩::rest) ⟨fr,hp⟩:=AWl.step rfl λs W a A K f=>by
 have e:a.eval x=.iface T v:=by
  have:=A.arg x;exact ZiR
 have p:(execOp a.eval ⟨none,.panic x,Z,vJ,vK,none⟩).run P s.w=.halt (.panic (.iface T v)) s.w:=by
  simp[execOp,e,Instr.panic]
 unfold Oper.wp;rw[p];exact⟨⟨fr,hp⟩,l,s,W,rfl,A⟩
end
def Ia(s t:Tm):Int:=if Om s.m t.m=true then IC s.c t.c else Ih s.m t.m
def CW:List Tm->List Tm->Int
 |[],[]=>0
 |[],_::_=>-1
 |_::_,[]=>1
 |s::P,t::Q=>if Ia s t=0 then CW P Q else Ia s t
theorem Zq(s t:Tm)(Y:RSz s.c 1000000000)(M:RSz t.c 1000000000):Abs prog 296 [AP (Qk s),AP (Qk t)] (ex (.int .i64 (Ia s t))):=by
 cases h:Om s.m t.m with
 |true=>
  have e:Ia s t=IC s.c t.c:=Yan h;refine Ab func296 λv=>?_;rw[ntmps296];have w:=Nn s.c t.c Y M;exact ZiN
 |false=>
  have e:Ia s t=Ih s.m t.m:=Yai (by rw[h];decide);refine Ab func296 λv=>?_;rw[ntmps296];have o:=RM s.m t.m;exact ZiN
theorem OH(A:n<vb.length)(B:n<uh.length):CW (vb.drop n) (uh.drop n)=if Ia (BA vb n) (BA uh n)=0 then CW (vb.drop (n+1)) (uh.drop (n+1))else Ia (BA vb n) (BA uh n):=by
 rw[GP A,GP B,CW]
theorem WN(P Q:List Tm)(E:PSz P 1000000000)(h:PSz Q 1000000000)(f:P.length<=1000000)(x:Q.length<=1000000):Abs prog 295 [BS P,BS Q,ex (.func (.func 296) #[] #[])] (ex (.int .i64 (CW P Q))):=by
 refine Ab func295 λv=>?_;rw[ntmps295];refine Go ?_;refine AC (λu d=>∃k,k<=P.length/\k<=Q.length/\CW P Q=CW (P.drop k) (Q.drop k)/\u=P.length-k/\d=⟨[(0,.d (BS P)),(1,.d (BS Q)),(2,.d (ex (.func (.func 296) #[] #[]))),(11,.d (BS P)),(12,.d (ex (.int .i64 (P.length:Nat)))),(13,.d (ex (.int .i64 (k:Nat))))],[]⟩) ?le ⟨0,by omega,by omega,rfl,rfl,rfl⟩ ?round
 case le=>exact Ac Zdv Zcc
 case round=>
  rintro m _ ⟨k,C,F,heq,rfl,rfl⟩;by_cases A:k<P.length
  .by_cases H:k<Q.length
   .have Y:=E _ (Dw A)
    have M:=h _ (Dw H);have B:=OH A H;by_cases o:Ia (BA P k) (BA Q k)=0
    .rw [Yan o]at B
     have i:=Zq (BA P k) (BA Q k) Y M;refine Go ?_;refine Ah (P.length-(k+1)) ZbD ⟨k+1,by omega,by omega,by rw[heq,B],rfl,rfl⟩ ?_;exact Ac Zdv Zcc
    .rw [Yai o]at B
     have R:=Zq (BA P k) (BA Q k) Y M;refine Go ?_;exact AA (Am (ResV.tmp rfl rfl) (Ae (by rw[heq,B])))
   .have e:CW P Q=1:=by
     exact ZjX
    refine Go ?_;exact AA (Am (ResV.tmp rfl rfl) (Ae ZeT))
  .exact ZaU
theorem A6o(P Q:List Tm)(M:PSz P 1000000000)(h:PSz Q 1000000000)(f:P.length<=1000000)(x:Q.length<=1000000):Abs prog 243 [BS P,BS Q] (ex (.int .i64 (CW P Q))):=by
 refine Ab func243 λv=>?_;rw[ntmps243];have N:=WN P Q M h f x;exact Zfu
theorem A1O:IC vA uT<=0↔vA<=uT:=by
 rw[IC,Int.sign_nonpos_iff,Rat.le_iff];omega
theorem A2J:IC vA uT=0↔vA=uT:=by
 rw[IC,Ydj,Rat.eq_iff_mul_eq_mul];omega
theorem A4T(p q:Rat):IC q p=-IC p q:=by
 rw[IC,IC,<-Int.sign_neg];exact Zhc
theorem Qm{s t:Tm}(h:Eqv s.m t.m):Ia s t=IC s.c t.c:=Yan (IH.2 h)
theorem Ql{s t:Tm}(h:¬Eqv s.m t.m):Ia s t=lx s.m t.m:=by rw[Ia,Yai λb=>h (IH.1 b),MJ]
theorem A4t(s t:Tm):Ia t s=-Ia s t:=by
 by_cases h:Eqv s.m t.m
 .rw [Qm h,Qm h.symm];exact A4T _ _
 .rw [Ql h,Ql λb=>h b.symm];exact A5o _ _
theorem TE{s t:Tm}:Ia s t=0↔s.c=t.c/\Eqv s.m t.m:=by
 by_cases h:Eqv s.m t.m
 .rw [Qm h,A2J];exact⟨λe=>⟨e,h⟩,λe=>e.1⟩
 .rw [Ql h]
  exact⟨λe=>absurd (Qv.1 e) h,λe=>absurd e.2 h⟩
theorem Xv:∀P Q:List Tm,CW Q P=-CW P Q
 |[],[]=>by simp[CW]
 |[],_::_=>by simp[CW]
 |_::_,[]=>by simp[CW]
 |s::P,t::Q=>by
  have h:=A4t s t;rw[CW,CW];by_cases c:Ia s t=0
  .rw [Yan c,Yan ZbD,Xv P Q]
  .rw [Yai c,Yai ZbD,h]
theorem LG:∀{P Q:List Tm},CW P Q=0↔SameL P Q
 |[],[]=>by simp[CW,SameL]
 |[],_::_=>by simp[CW,SameL]
 |_::_,[]=>by simp[CW,SameL]
 |s::P,t::Q=>by
  have u:=LG (P:=P) (Q:=Q);have h:=TE (s:=s) (t:=t);rw[CW];by_cases c:Ia s t=0
  .rw [Yan c,u]
   have:=h.1 c;exact⟨λe=>⟨this.1,this.2,e⟩,λe=>e.2.2⟩
  .rw [Yai c]
   exact⟨λe=>absurd e c,λe=>absurd (h.2 ⟨e.1,e.2.1⟩) c⟩
theorem Xw(h:CW vb uh=0):vb.length=uh.length:=(LG.1 h).length
theorem A3n(s t:Tm)(Y:RSz s.c 1000000000)(M:RSz t.c 1000000000):Abs prog 135 [AP (Qk s),AP (Qk t)] (ex (.bool (decide (Ia s t=0)))):=by
 cases h:Om s.m t.m with
 |true=>
  have e:Ia s t=IC s.c t.c:=Yan h;by_cases l:IC s.c t.c=0
  .have A:decide (Ia s t=0)=true:=Yak (e.trans l)
   refine Ab func135 λv=>?_;rw[ntmps135];have w:=Nn s.c t.c Y M;exact ZgZ
  .have A:decide (Ia s t=0)=false:=Yad (by rw [e]; exact l)
   refine Ab func135 λv=>?_;rw[ntmps135];have o:=Nn s.c t.c Y M;exact ZgZ
 |false=>
  have f:¬Eqv s.m t.m:=λb=>by rw[IH.2 b]at h;cases h
  have A:decide (Ia s t=0)=false:=Yad λe=>f (TE.1 e).2;refine Ab func135 λv=>?_;rw[ntmps135];exact ZgZ
theorem A1g(P Q:List Tm)(E:PSz P 1000000000)(h:PSz Q 1000000000)(f:P.length<=1000000)(x:Q.length<=1000000):Abs prog 134 [BS P,BS Q,ex (.func (.func 135) #[] #[])] (ex (.bool (decide (CW P Q=0)))):=by
 by_cases q:P.length=Q.length
 .refine Ab func134 λv=>?_
  rw[ntmps134];refine Go ?_;refine AC (λu d=>∃k,k<=P.length/\CW P Q=CW (P.drop k) (Q.drop k)/\u=P.length-k/\d=⟨[(1,.d (BS Q)),(2,.d (ex (.func (.func 135) #[] #[]))),(15,.d (BS P)),(16,.d (ex (.int .i64 (P.length:Nat)))),(17,.d (ex (.int .i64 (k:Nat))))],[]⟩) ?le ⟨0,by omega,rfl,rfl,rfl⟩ ?round
  case le=>exact ZjY
  case round=>
   rintro m _ ⟨k,C,heq,rfl,rfl⟩;by_cases A:k<P.length
   .have H:k<Q.length:=by omega
    have Y:=E _ (Dw A);have M:=h _ (Dw H);have B:=OH A H;have L:=A3n (BA P k) (BA Q k) Y M;by_cases o:Ia (BA P k) (BA Q k)=0
    .rw [Yan o]at B
     rw[Yak o]at L;refine Go ?_;refine Ah (P.length-(k+1)) ZbD ⟨k+1,by omega,by rw[heq,B],rfl,rfl⟩ ?_;exact ZjY
    .rw [Yai o]at B
     rw[Yad o]at L;have b:decide (CW P Q=0)=false:=Yad (by rw[heq,B];exact o);exact ZiD
   .have b:decide (CW P Q=0)=true:=Yak (by
     rw[heq,(YaL ZbD:P.drop k=[]),(YaL ZbD:Q.drop k=[]),CW])
    refine Go ?_;exact AA (Am (ResV.tmp rfl rfl) (Ae (by rw[b])))
 .have b:decide (CW P Q=0)=false:=Yad λe=>q (Xw e)
  refine Ab func134 λv=>?_;rw[ntmps134];exact ZiD
theorem UC(P Q:List Tm)(M:PSz P 1000000000)(h:PSz Q 1000000000)(f:P.length<=1000000)(x:Q.length<=1000000):Abs prog 65 [BS P,BS Q] (ex (.bool (decide (CW P Q=0)))):=by
 refine Ab func65 λv=>?_;rw[ntmps65];have i:=A1g P Q M h f x;exact Zfu
section
variable {P:Program} {hp:List Ow} {arg:Operand->AV} {dd:Option Tmp} {ty:TypeId} {ps:String} {af:Array Edge} {gd:Option (Nat×Bool)}
end
theorem Oo{Q:Exit->Act->World->Prop}{L:Array Oper}(I:Array Bool->Act->World->Prop)
  (l:∀U a w i,U.size=L.size->I U a w->i∈Region.ready .any L U->wpOp P L Q i (λX N=>I (U.setIfInBounds i true) X N) a w)
  (M:∀U a w,U.size=L.size->I U a w->Region.ready .any L U=[]->Q .normal a w) :
  ∀(f:Nat) (U:Array Bool) a w,U.size=L.size->U.count false<=f->I U a w->wpAny P .any L Q f U a w:=by
 have O:∀(U:Array Bool) i,i∈Region.ready .any L U->∃h:i<U.size,U[i]=false:=λU i K=>by
  have A:=(mem_ready.1 K).1
  have F:i<U.size:=by
   rcases YaG i U.size with h | h
   .exact h
   .rw [Yay,Array.getElem?_eq_none h]at A
    simp at A
  refine⟨F,?_⟩;rw[Yay,YaN F]at A;simpa using A
 have p:∀(U:Array Bool),Region.ready .any L U≠[]->U.count false≠0:=λU h=>by
  obtain⟨i,K⟩:=List.exists_mem_of_ne_nil _ h;obtain⟨F,r⟩:=O U i K;rw[<-YdA];have B:U.toList[i]'(by simpa using F)=false:=by simpa using r
  have E:0<U.toList.count false:=List.count_pos_iff.2 (B▸Ybt _);omega
 intro f
 induction f with
 |zero=>
  intro U a w J t G;have c:Region.ready .any L U=[]:=Ydh λh=>p U h ZbD;exact⟨c,M U a w J G c⟩
 |succ f u=>
  intro U a w J t G;refine⟨λc=>M U a w J G c,λi K=>?_⟩;refine wpOp_mono (λX N V=>u _ X N ZcZ ?_ V) (l U a w i J G K);obtain⟨F,r⟩:=O U i K
  have C:(U.setIfInBounds i true).count false+1=U.count false:=by
   rw[<-YdA,<-YdA,Array.toList_setIfInBounds,List.count_set (by simpa using F)];have B:U.toList[i]'(by simpa using F)=false:=by simpa using r
   have E:0<U.toList.count false:=List.count_pos_iff.2 (B▸Ybt _);rw[B];have Z:(if((false:Bool)==false)=true then 1 else 0)=1:=rfl;have s:(if((true:Bool)==false)=true then 1 else 0)=0:=rfl;rw[Z,s];omega
  omega
theorem A9x{s:GS}(C:s.Ok)(E:Nat->Value){T sz:Nat}(k:T≠335)(c:0<sz):∃(A:GS) (z:Nat->Value),A.w=s.w.alloc (.cells #[] T)/\z 0=.slice (some ⟨s.w.heap.size,0,none⟩) 0 0/\Aft s E [.row T sz []] [0] A z [.row T sz []]:=by
 obtain⟨A,z,d,B⟩:=Vr (s0:=⟨s,λ_=>False,[]⟩) (n:=1) (σ:=⟨[],[]⟩) (ρ:=E) (a:={ tmps:=#[undef],defers:=[] }) (s:=s) (T:=T) (sz:=sz) (arr:=#[]) (cap:=0) (dst:=some 0) ⟨GS.LeX.refl _ s,C,(λt I M=>by cases M),rfl,rfl,(λi o K=>by simp at K),(λi j o w q K=>by simp at K),λi o b K=>by simp at K⟩ k c (by simp[maxLen]) ZbS rfl;have r:=B.fr 0 (.own 0) rfl;refine⟨A,z,d,r.2.symm,(GS.LeX.refl _ s).trans (B.le.le (λb h=>h)),B.ok,B.hp,B.sep,λi o b K F=>.inr ((B.own i o b K F).resolve_left λh=>h),λi K f=>absurd K (λh=>f (by simp at h ⊢;exact h)),Yah _⟩
inductive CK
 |q (r:AV)
 |o (k:Nat)
 |t (k:Nat)
def CK.hr:CK->HR
 |.q r=>.av r
 |_=>.av (.d CD)
def CK.isO(k:Nat):CK->Bool
 |.o j=>Nat.beq j k
 |_=>false
def CK.isT(k:Nat):CK->Bool
 |.t j=>Nat.beq j k
 |_=>false
theorem A3Z{c:CK}(h:c.isO n=true):c=.o n:=by
 cases c with
 |o j=>rw[Yao h]
 |_=>cases h
theorem A3Y{c:CK}(h:c.isT n=true):c=.t n:=by
 cases c with
 |t j=>rw[Yao h]
 |_=>cases h
def atK(J:List CK)(i:Nat)(p:CK->Bool):Bool:=match J[i]? with | some c=>p c | none=>false
def Vs:Op->Option Operand
 |.move x=>some x
 |.assign x=>some x
 |_=>none
def Vt:Op->Option (FuncId×Operand×Operand)
 |.call { callee:=.value (.func f),args:=#[x,y],.. }=>some (f,x,y)
 |_=>none
def Abg:Op->Bool
 |.buildSlice _ 0 #[]=>true
 |_=>false
def PE(L:List Oper)(e:List (Nat×Nat)):Operand->Bool
 |.tmp t=>(e.any λp=>p.1==t)||(L.all λw=>w.dst != some t)
 |_=>true
def Rg(J:List CK)(e:List (Nat×Nat))(B:Option Nat)(k:Nat)(A:Nat->Nat):Operand->Bool
 |.tmp x=>(Nat.beq k 0&&B==some x)||e.any λp=>p.1==x&&((atK J p.2 (CK.isO k))||(Nat.blt 0 k&&p.2==A (k-1)))
 |_=>false
def Aa7(L:List Oper)(m:List (List (Nat×Nat)))(J:List CK)(v:List (Nat×AV))(n:Nat)(B:Option Nat)(K:Nat)(A:Nat->Nat):Bool:=
 Nat.beq L.length m.length&&Nat.beq L.length J.length&&(v.all λp=>L.all λw=>w.dst != some p.1)&&((List.range K).all λk=>atK J (A k) (CK.isT k)) &&
 (List.range L.length).all λi=>match L[i]?,m[i]?,J[i]? with
  |some o,some e,some c=>BN o.op&&o.guard.isNone&&((Bz o).all λk=>decide (k<i))&&(e.all λp=>(Bz o).contains p.2&&(match L[p.2]? with |some w=>w.dst==some p.1 |none=>false)) &&
   (match o.dst with | none=>false | some d=>decide (d<n)&&((List.range L.length).all λj=>j==i||(match L[j]? with | some w=>w.dst != some d | none=>true))) &&
   (match c with
    |.q _=>(match B with |some t=>o.dst != some t |none=>true)&&o.op.operands.all (PE L e)
    |.o k=>Nat.ble k K&&(Nat.beq k 0||(Bz o).contains (A (k-1)))&&(Nat.beq k K||(match L[A k]? with |some w=>(Bz w).contains i |none=>false))&&(match Vs o.op with |some x=>Rg J e B k A x |none=>false)
    |.t k=>Nat.blt k K&&i==A k&&(Nat.beq k 0||(Bz o).contains (A (k-1)))&&(Abg o.op||match Vt o.op with |some (_,x,y)=>Rg J e B k A x&&PE L e y |none=>false))
  |_,_,_=>false
structure ChkC(L:List Oper)(ks:List CK)(n:Nat)(tb:Option Nat)(K:Nat)(tp:Nat->Nat)(i:Nat)(o:Oper)(e:List (Nat×Nat))(c:CK)(d:Nat):Prop where
 ns:BN o.op=true
 gd:o.guard=none
 lt:∀k∈Bz o,k<i
 env:∀p∈e,p.2∈Bz o/\∃o',L[p.2]? = some o'/\o'.dst=some p.1
 dst:o.dst=some d
 dn:d<n
 du:∀(j:Nat) o',L[j]? = some o'->o'.dst=some d->j=i
 kq:∀r,c=.q r->tb≠some d/\∀y∈o.op.operands,PE L e y=true
 ko:∀k,c=.o k->k<=K/\(k=0\/tp (k-1)∈Bz o)/\(k=K\/∃o',L[tp k]? = some o'/\i∈Bz o')/\∃x,Vs o.op=some x/\Rg ks e tb k tp x=true
 kt:∀k,c=.t k->k<K/\i=tp k/\(k=0\/tp (k-1)∈Bz o)/\(Abg o.op=true\/∃f x y,Vt o.op=some (f,x,y)/\Rg ks e tb k tp x=true/\PE L e y=true)
theorem A7Q{N:List CK}{l:Option Nat}(h:Aa7 vf uM N vc n l b vE=true):vf.length=N.length/\(∀p∈vc,∀w∈vf,w.dst≠some p.1)/\(∀k,k<b->N[vE k]? = some (.t k))/\∀(i:Nat) o,vf[i]? = some o->∃e c d,uM[i]? = some e/\N[i]? = some c/\ChkC vf N n l b vE i o e c d:=by
 unfold Aa7 at h;simp only[Yam]at h;obtain⟨⟨⟨⟨A,B⟩,L⟩,S⟩,K⟩:=h;refine⟨Yao B,λp G w R=>by simpa using Yaj.1 (Yaj.1 L p G) w R,λk C=>?_,λi o q=>?_⟩
 .have:=Yaj.1 S k (YaZ.2 C)
  unfold atK at this
  cases I:N[vE k]? with
  |none=>rw[I]at this;cases this
  |some c=>rw[I]at this;rw[A3Y this]
 .have M:=Yaj.1 K i (YaZ.2 (Yae.1 q).1)
  rw[q]at M
  cases F:uM[i]? with
  |none=>rw[F]at M;cases M
  |some e=>
   cases I:N[i]? with
   |none=>rw[F,I]at M;cases M
   |some c=>
    rw[F,I]at M;simp only[Yam]at M;obtain⟨⟨⟨⟨⟨U,P⟩,g⟩,s⟩,m⟩,v⟩:=M
    cases J:o.dst with
    |none=>rw[J]at m;cases m
    |some d=>
     rw[J]at m;simp only[Yam,Ybb]at m;refine⟨e,c,d,rfl,rfl,U,by simpa using P,λk C=>by simpa using Yaj.1 g k C,λp G=>?_,J,m.1,λj w R V=>?_,λr X=>?_,λk C=>?_,λk C=>?_⟩
     .have:=Yaj.1 s p G
      simp only[Yam]at this;refine⟨by simpa using this.1,?_⟩;have B:=this.2
      cases Q:vf[p.2]? with
      |none=>rw[Q]at B;cases B
      |some w=>rw[Q]at B;exact⟨w,rfl,by simpa using B⟩
     .have:=Yaj.1 m.2 j (YaZ.2 (Yae.1 R).1)
      rw[R]at this;simpa[V]using this
     .subst X
      simp only[Yam]at v;exact⟨λZ=>by subst Z;simp[J]at v,λy O=>(Yem.1 v.2) y O⟩
     .subst C
      simp only[Yam,Ybg]at v;obtain⟨⟨⟨Y,W⟩,a⟩,T⟩:=v;refine⟨YbA Y,W.imp Yao (λh=>by simpa using h),a.imp Yao (λh=>?_),?_⟩
      .cases Q:vf[vE k]? with
       |none=>rw[Q]at h;cases h
       |some w=>rw[Q]at h;exact⟨w,rfl,by simpa using h⟩
      .cases E:Vs o.op with
       |none=>rw[E]at T;cases T
       |some x=>rw[E]at T;exact⟨x,rfl,T⟩
     .subst C
      simp only[Yam,Ybg]at v;obtain⟨⟨⟨Y,W⟩,a⟩,T⟩:=v;refine⟨by rwa [Ybm]at Y,by simpa using W,a.imp Yao (λh=>by simpa using h),T.imp id λT=>?_⟩
      cases E:Vt o.op with
      |none=>rw[E]at T;cases T
      |some z=>
       obtain⟨f,x,y⟩:=z;rw[E]at T;simp only[Yam]at T;exact⟨f,x,y,rfl,T.1,T.2⟩
def Gj(G:List Ow)(id T sz:Nat)(C:List (List D)):List Ow:=G.set id (.row T sz C)
def A8W(P:Program)(v:List (Nat×AV))(G:List Ow)(id T A:Nat)(E:Nat->List (List D))(K:Nat)(L:Option Nat)(I:Nat->Nat)(J:List CK)(B:List (Nat×Nat))(o:Oper):CK->Prop
 |.q r=>(∀j,Quiet P (Gj G id T A (E j)) o (DZ ⟨v,Gj G id T A (E j)⟩ (J.map CK.hr) B) r)\/(0<K/\I (K-1)∈Bz o/\∃x,o.op.operands=#[x]/\Rg J B L K I x=true/\Quiet P (Gj G id T A (E K)) o (λ_=>.own id) r)
 |.o _=>True
 |.t k=>(∃t m b bytes z Z d,o.op=.buildSlice t 0 #[]/\Tab P t (.slice T) m b Z/\Tab P T d A bytes z/\T≠335/\0<A/\E k=[]/\E (k+1)=[])\/∃f x y F d e,o.op=.call { callee:=.value (.func f),args:=#[x,y],argTypes:=F }/\(∀j,DZ ⟨v,Gj G id T A (E j)⟩ (J.map CK.hr) B y=.d e)/\D.le e d/\Con P f [.own 0,.d d] [.row T A (E k)] [0] (λr C=>r=.own 0/\C=[.row T A (E (k+1))])
def CSteps(P:Program)(v:List (Nat×AV))(G:List Ow)(id T sz:Nat)(C:Nat->List (List D))(K:Nat)(B:Option Nat)(A:Nat->Nat)(J:List CK):List Oper->List (List (Nat×Nat))->List CK->Prop
 |o::L,x::S,c::R=>A8W P v G id T sz C K B A J x o c/\CSteps P v G id T sz C K B A J L S R
 |[],[],[]=>True
 |_,_,_=>False
theorem CSteps.at{P:Program}{v:List (Nat×AV)}{hp:List Ow}{id T sz:Nat}{rows:Nat->List (List D)}{K:Nat}{F:Option Nat}{C:Nat->Nat}{J:List CK}:∀{L:List Oper} {S:List (List (Nat×Nat))} {R:List CK},CSteps P v hp id T sz rows K F C J L S R->∀(i:Nat) o x c,L[i]? = some o->S[i]? = some x->R[i]? = some c->A8W P v hp id T sz rows K F C J x o c
 |[],[],[],_,i,o,x,c,h,_,_=>by simp at h
 |[],[],_::_,h,_,_,_,_,_,_,_=>h.elim
 |[],_::_,R,h,_,_,_,_,_,_,_=>by cases R<;>exact h.elim
 |_::_,[],R,h,_,_,_,_,_,_,_=>by cases R<;>exact h.elim
 |_::_,_::_,[],h,_,_,_,_,_,_,_=>h.elim
 |w::L,N::S,l::R,⟨A,B⟩,0,o,x,c,q,E,I=>by
  simp at q E I;subst q;subst E;subst I;exact A
 |w::L,N::S,l::R,⟨A,B⟩,i+1,o,x,c,q,E,I=>CSteps.at B i o x c Zee Zed ZeY
def Mn(K id:Nat):List Oper->List CK->List (Nat×AV)->List (Nat×AV)
 |o::L,.q r::J,f=>match o.dst with |some d=>(d,r)::Mn K id L J f |none=>Mn K id L J f
 |o::L,.o k::J,f=>match o.dst with |some d=>bif Nat.beq k K then(d,.own id)::Mn K id L J f else Mn K id L J f |none=>Mn K id L J f
 |o::L,.t k::J,f=>match o.dst with |some d=>bif Nat.beq (k+1) K then(d,.own id)::Mn K id L J f else Mn K id L J f |none=>Mn K id L J f
 |_,_,f=>f
theorem Ya{K id:Nat}{p:Nat×AV}:∀{L:List Oper} {J:List CK} {f:List (Nat×AV)},p∈Mn K id L J f->p∈f\/∃(i:Nat) (o:Oper) (c:CK),L[i]? = some o/\J[i]? = some c/\o.dst=some p.1/\(c=.q p.2\/(p.2=.own id/\(c=.o K\/∃k,c=.t k/\k+1=K)))
 |[],_,f,h=>.inl (by unfold Mn at h;exact h)
 |o::L,[],f,h=>.inl (by unfold Mn at h;exact h)
 |o::L,c::J,f,h=>by
  have key:p∈Mn K id L J f->p∈f\/∃(i:Nat) (w:Oper) (l:CK),(o::L)[i]? = some w/\(c::J)[i]? = some l/\w.dst=some p.1/\(l=.q p.2\/(p.2=.own id/\(l=.o K\/∃k,l=.t k/\k+1=K))):=λh=>by
   rcases Ya h with h | ⟨i,w,l,h1,h2,h3⟩
   .exact .inl h
   .exact .inr ⟨i+1,w,l,by simpa using h1,by simpa using h2,h3⟩
  cases c with
  |q r=>
   unfold Mn at h;split at h
   .rename_i d e
    rcases YaK.1 h with rfl | h
    .exact .inr ⟨0,o,_,rfl,rfl,e,.inl rfl⟩
    .exact key h
   .exact key h
  |o k=>
   unfold Mn at h;split at h
   .rename_i d e
    cases F:Nat.beq k K with
    |true=>
     rw[F]at h;rcases YaK.1 h with rfl | h
     .exact .inr ⟨0,o,_,rfl,rfl,e,.inr ⟨rfl,.inl (by rw[Yao F])⟩⟩
     .exact key h
    |false=>rw[F]at h;exact key h
   .exact key h
  |t k=>
   unfold Mn at h;split at h
   .rename_i d e
    cases F:Nat.beq (k+1) K with
    |true=>
     rw[F]at h;rcases YaK.1 h with rfl | h
     .exact .inr ⟨0,o,_,rfl,rfl,e,.inr ⟨rfl,.inr ⟨k,rfl,Yao F⟩⟩⟩
     .exact key h
    |false=>rw[F]at h;exact key h
   .exact key h
structure CInv(s0:An)(n:Nat)(hp:List Ow)(id T sz:Nat)(rows:Nat->List (List D))(K:Nat)(tb:Option Nat)(tp:Nat->Nat)(L:List Oper)(ks:List CK)(frB:List (Nat×AV))(listed:Array Bool)(a:Act)(j:Nat)(s:GS)(ρ:Nat->Value):Prop where
 st:StI s0 n ⟨[],Gj hp id T sz (rows j)⟩ a s ρ
 jK:j<=K
 hj:∀k,k<K->(listed.getD (tp k) false=true↔k<j)
 closed:∀i o,L[i]? = some o->listed.getD i false=true->∀e∈Bz o,listed.getD e false=true
 hq:∀i o d r,L[i]? = some o->o.dst=some d->ks[i]? = some (.q r)->listed.getD i false=true->AVr hp.length ρ s r (a.tmps.getD d undef)
 hb:∀p∈frB,AVr hp.length ρ s p.2 (a.tmps.getD p.1 undef)
 h0:∀t,tb=some t->j=0->a.tmps.getD t undef=ρ id
 ho:∀i o d c,L[i]? = some o->o.dst=some d->ks[i]? = some c->listed.getD i false=true->(c=.o j\/∃k,c=.t k/\j=k+1)->a.tmps.getD d undef=ρ id
theorem KM{v:Value}(h:n<vl.tmps.size):(vl.put (some n) v).tmps.getD n undef=v:=by
 simp[Act.put,h]
theorem Gy{v:Value}(h:b≠n):(vl.put (some n) v).tmps.getD b undef=vl.tmps.getD b undef:=by
 rw[Yay,Yay];simp[Act.put,YaP (λe=>h e.symm:n≠b)]
theorem StI.bare{s0:An}{s:GS}(h:StI s0 n ve vl s vi):StI s0 n ⟨[],ve.hp⟩ vl s vi:=⟨h.le,h.ok,(λt I M=>by cases M),h.sz,h.df,h.hp,h.sep,h.own⟩
theorem XL(G:List Ow)(id T sz:Nat)(r:List (List D)):(Gj G id T sz r).length=G.length:=by simp[Gj]
theorem A7r{id T sz:Nat}{r:List (List D)}(h:id<H.length):(Gj H id T sz r)[id]? = some (.row T sz r):=by simp[Gj,h]
theorem OQ:∀{F:List (Nat×AV)} {p:Nat×AV},p∈F->(∀q∈F,q.1=p.1->q=p)->Ch F p.1=some p.2
 |(a,v)::r,p,h,S=>by
  unfold Ch
  cases A:Nat.beq a p.1 with
  |true=>
   have:=S (a,v) Ybn (Yao A);rw[<-this];rfl
  |false=>
   rcases YaK.1 h with rfl | h
   .rw [YcQ]at A;cases A
   .exact OQ h λq l=>S q (Ybc _ l)
def IA(L:List Oper)(J:List CK)(v:List (Nat×AV))(U:Array Bool):List (Nat×AV):=
 ((List.range L.length).flatMap λi=>match L[i]?,J[i]? with
  |some o,some (CK.q r)=>match o.dst with
   |some d=>if U.getD i false=true then[(d,r)]else[]
   |none=>[]
  |_,_=>[])++v
theorem Ek{L:List Oper}{F:List CK}{p:Nat×AV}:p∈IA L F vc vN↔(∃i o,L[i]? = some o/\F[i]? = some (.q p.2)/\o.dst=some p.1/\vN.getD i false=true)\/p∈vc:=by
 unfold IA;rw[YbP,Yey];refine or_congr ⟨λ⟨i,K,h⟩=>?_,λ⟨i,o,A,B,C,S⟩=>⟨i,YaZ.2 (Yae.1 A).1,?_⟩⟩ YdO
 .cases E:L[i]? with
  |none=>rw[E]at h;simp at h
  |some o=>
   cases I:F[i]? with
   |none=>rw[E,I]at h;simp at h
   |some c=>
    rw[E,I]at h
    cases c with
    |q r=>
     cases e:o.dst with
     |none=>simp[e]at h
     |some d=>
      simp only[e]at h;split at h
      .rename_i J
       have:=YaC.1 h;subst this;exact⟨i,o,E,I,e,J⟩
      .cases h
    |o k=>simp at h
    |t k=>simp at h
 .rw [A,B]
  simp only[C];rw[Yan S];exact YaC.2 rfl
def FrIn(f:List (Nat×AV)):List (Nat×AV)->Prop
 |[]=>True
 |p::r=>Ch f p.1=some p.2/\FrIn f r
theorem FrIn.mem{f:List (Nat×AV)}:∀{F:List (Nat×AV)},FrIn f F->∀p∈F,Ch f p.1=some p.2
 |[],_,p,h=>by cases h
 |q::r,⟨A,B⟩,p,h=>by
  rcases YaK.1 h with rfl | h
  .exact A
  .exact FrIn.mem B p h
theorem Fi{s0:An}(id T sz:Nat)(xd:Nat->List (List D))(K:Nat)(tb:Option Nat)(tp:Nat->Nat)(ks:List CK)(es:List (List (Nat×Nat)))(xi F:List (Nat×AV))(hm:P.follows .mixedOrders=true)(xr:H[id]? = some (.row T sz (xd 0)))(yb:FrIn vc xi)(yC:∀t,tb=some t->Ch vc t=some (.own id))
  (steps:CSteps P xi H id T sz xd K tb tp ks vf es ks) (xe:Aa7 vf es ks xi n tb K tp=true) (xs:((xi.all λp=>p.2.avoid [id])&&ks.all λc=>c.hr.val.avoid [id])=true) (xn:AvoidR [id] [id] 0 H) (hF:FrIn (Mn K id vf ks xi) F) (M:List Ow) (hM:Gj H id T sz (xd K)=M) (fin:vk .normal ⟨F,M⟩):AWp P s0 n (.region b vf.toArray true) vk ⟨vc,H⟩:=by
 refine⟨λa w ⟨s,W,hw,xb⟩=>?_⟩;subst hw;subst hM;have yn:=yb.mem;obtain⟨yE,xz,yw,xF⟩:=A7Q xe;simp only[Yam]at xs;have xG:id<H.length:=Cy xr;have xZ:∀r,(Gj H id T sz r)[id]? = some (.row T sz r):=λr=>A7r xG;have yj:∀r,(Gj H id T sz r).length=H.length:=XL H id T sz;have xK:∀r r',(Gj H id T sz r).set id (.row T sz r')=Gj H id T sz r':=λr r'=>by simp[Gj]
 have xw:∀j,(Array.replicate vf.toArray.size false).getD j false=false:=λj=>by
  rcases YaG j vf.length with h | h
  .simp [h]
  .simp [h]
 have ys:Gj H id T sz (xd 0)=H:=by
  unfold Gj;apply Ycb;intro i;rw[YbZ];split
  .rename_i h;subst h;exact xr.symm
  .rfl
 have yq:StI s0 n ⟨vc,H⟩ a s.dr W:=xb.put (JZ s) (dst:=none) (λd u=>by cases u) (v:=undef) (r:=.d CD) trivial;refine wp_region_any hm (Oo (λxc a' Q=>∃j s' xj,s'.w=Q/\CInv s0 n H id T sz xd K tb tp vf ks xi xc a' j s' xj) ?_ ?_ _ _ a s.w.drew ZbS ?_ ⟨0,s.dr,W,rfl,by rw[ys];exact yq.bare,Yaw _,(λk _=>⟨λh=>absurd (h.symm.trans (xw _)) ZbH,λh=>absurd h (Ybh k)⟩),(λi o _ h=>absurd (h.symm.trans (xw _)) ZbH),(λi o d r _ _ _ h=>absurd (h.symm.trans (xw _)) ZbH),(λp xa=>yq.fr _ _ (yn p xa)),(λt O _=>(yq.fr _ _ (yC t O)).2),λi o d c _ _ _ h=>absurd (h.symm.trans (xw _)) ZbH⟩)
 .rintro xc a' _ i xh ⟨j,s1,xI,rfl,xg⟩ L
  have xh:xc.size=vf.length:=by simpa using xh
  obtain⟨_,o,ho,_⟩:=mem_ready.1 L;have ho:vf[i]? = some o:=by simpa using ho
  obtain⟨xv,xt⟩:=(DC xh ho).1 L;obtain⟨e,c,d,Y,I,ck⟩:=xF i o ho;have yg:i<xc.size:=by rw[xh];exact(Yae.1 ho).1
  have xH:=steps.at i o e c ho Y I;have xV:vf.toArray[i]? = some o:=by simpa using ho
  have xW:d<a'.tmps.size:=by rw[xg.st.sz];exact ck.dn
  have xD:∀k,(xc.setIfInBounds i true).getD k false=true↔k=i\/xc.getD k false=true:=λk=>by
   by_cases E:k=i
   .subst E;simp[yg]
   .exact ZaV
  have yo:∀i' o',vf[i']? = some o'->(xc.setIfInBounds i true).getD i' false=true->∀e∈Bz o',(xc.setIfInBounds i true).getD e false=true:=λi' o' xl J e' xC=>by
   rw[xD]at J ⊢;rcases J with rfl | J
   .obtain rfl:o'=o:=Yag (xl.symm.trans ho)
    exact .inr (xt e' xC)
   .exact .inr (xg.closed i' o' xl J e' xC)
  have xk:∀i' o' d',vf[i']? = some o'->o'.dst=some d'->xc.getD i' false=true->d'≠d:=λi' o' d' xl xm J e'=>by
   subst e';have:=ck.du i' o' xl xm;subst this;rw[xv]at J;cases J
  have yv:∀p∈xi,p.1≠d:=λp xa e'=>xz p xa o (YaE ho) (by rw[e'];exact ck.dst)
  have yu:∀(R:Act->World->Prop),o.wp P a' s1.w (λya xx=>R ya xx) (GG s0 n vk)->wpOp P vf.toArray (GG s0 n vk) i (λya xx=>R ya xx) a' s1.w:=λR h=>by
   unfold wpOp;rw[xV];show if Region.wanted o (yielded vf.toArray a'.tmps)=true then _ else _
   exact ZiO
  have yd:∀y,PE vf e y=true->AVr H.length xI s1 (DZ ⟨xi,Gj H id T sz (xd j)⟩ (ks.map CK.hr) e y) (a'.eval y):=λy S=>by
   cases y with
   |tmp t=>
    show AVr _ xI s1 (match e.find? (λp=>p.1==t)with
     |some p=>match (ks.map CK.hr)[p.2]? with
      |some h=>h.val
      |none=>.d CD
     |none=>(Ch xi t).getD (.d CD)) (a'.tmps.getD t undef)
    cases yr:e.find? (λp=>p.1==t)with
    |some p=>
     have xa:p∈e:=Ybl yr;have xU:p.1=t:=by simpa using YcE yr
     simp only;rw[Yax]
     cases yi:ks[p.2]? with
     |none=>trivial
     |some c'=>
      cases c' with
      |q r=>
       obtain⟨xY,o',xl,xm⟩:=ck.env p xa;have:=xg.hq p.2 o' p.1 r xl xm yi (xt _ xY);rwa [xU]at this
      |o k=>trivial
      |t k=>trivial
    |none=>
     simp only
     cases J:Ch xi t with
     |none=>trivial
     |some av=>exact xg.hb (t,av) (Fe J)
   |const v=>exact ZjZ
   |global A=>trivial
   |func f=>exact Zka
  have yz:∀k x,j=k->Rg ks e tb k tp x=true->a'.eval x=xI id:=λk x yp G=>by
   subst yp
   cases x with
   |tmp t=>
    show a'.tmps.getD t undef=xI id;simp only[Rg,Ybg,Yam]at G;rcases G with⟨B,C⟩ | h
    .exact xg.h0 t ZcY (Yao B)
    .obtain ⟨p,xa,B⟩:=Yci.1 h
     simp only[Yam,Ybg]at B;obtain⟨B,C⟩:=B;have xU:p.1=t:=Zjl
     obtain⟨xY,o',xl,xm⟩:=ck.env p xa;rcases C with C | ⟨C,N⟩
     .unfold atK at C
      cases yi:ks[p.2]? with
      |none=>rw[yi]at C;cases C
      |some c'=>
       rw[yi]at C;have:=xg.ho p.2 o' p.1 c' xl xm yi (xt _ xY) (.inl (A3Z C));rwa [xU]at this
     .have N:p.2=tp (j-1):=by simpa using N
      have C:0<j:=by rwa [Ybm]at C
      have E:j-1<K:=by have:=xg.jK;omega
      have:=xg.ho p.2 o' p.1 _ xl xm (by rw[N];exact yw _ E) (xt _ xY) (.inr ⟨j-1,rfl,by omega⟩);rwa [xU]at this
   |const v=>cases G
   |global A=>cases G
   |func f=>cases G
  have yH:∀k,(k=0\/tp (k-1)∈Bz o)->k<=K->k<=j:=λk h E=>by
   rcases h with rfl | h
   .exact Yaw _
   .rcases Yaz k with rfl | l
    .exact Yaw _
    .have:=(xg.hj (k-1) ZbD).1 (xt _ h)
     omega
  have keep:∀(v:Value) (s2:GS) (c0:CK),c=c0->GS.Le s1 s2->(∀r,c0=.q r->AVr H.length xI s2 r v)->(∀k,c0=.o k->k=j/\v=xI id)->(∀k,c0≠.t k)->CInv s0 n H id T sz xd K tb tp vf ks xi (xc.setIfInBounds i true) (a'.put o.dst v) j s2 xI:=λv s2 c0 xR xo xA yF yB=>by
   subst xR;have B:=xg.st.put xo (dst:=o.dst) (λd' xm=>by rw[ck.dst]at xm;cases xm;exact ck.dn) (v:=v) (r:=.d CD) trivial;rw[ck.dst]at B ⊢;refine⟨B.bare,xg.jK,λk E=>?_,yo,λi' o' d' r xl xm xJ J=>?_,λp xa=>?_,λyL yI h=>?_,λi' o' d' c' xl xm xJ J xQ=>?_⟩
   .rw [xD]
    refine⟨λh=>h.elim (λe'=>?_) (xg.hj k E).1,λh=>.inr ((xg.hj k E).2 h)⟩;have:=yw k E;rw[e',I]at this;exact absurd (Yag this) (yB k)
   .rw [xD]at J
    rcases J with rfl | J
    .obtain rfl:o'=o:=Yag (xl.symm.trans ho)
     obtain rfl:d'=d:=Yag (xm.symm.trans ck.dst);rw[KM xW];exact xA r (Yag (I.symm.trans xJ))
    .rw [Gy (xk i' o' d' xl xm J)]
     exact(xg.hq i' o' d' r xl xm xJ J).chg xo.chg
   .rw [Gy (yv p xa)]
    exact(xg.hb p xa).chg xo.chg
   .by_cases yJ:yL=d
    .subst yJ
     rw[KM xW]
     cases c with
     |q r=>exact absurd yI (ck.kq r rfl).1
     |o k=>exact(yF k rfl).2
     |t k=>exact absurd rfl (yB k)
    .rw [Gy yJ]
     exact xg.h0 yL yI h
   .rw [xD]at J
    rcases J with rfl | J
    .obtain rfl:o'=o:=Yag (xl.symm.trans ho)
     obtain rfl:d'=d:=Yag (xm.symm.trans ck.dst);obtain rfl:c'=c:=Yag (xJ.symm.trans I);rw[KM xW];rcases xQ with rfl | ⟨k,rfl,_⟩
     .exact (yF j rfl).2
     .exact absurd rfl (yB k)
    .rw [Gy (xk i' o' d' xl xm J)]
     exact xg.ho i' o' d' c' xl xm xJ J xQ
  cases c with
  |q r=>
   have hq:RegG.OpStep P o a'.eval s1 (λv s2=>GS.Le s1 s2/\AVr H.length xI s2 r v):=by
    rcases xH with xH | ⟨hK0,hmem,x,hops,hsr,hqt⟩
    .have hq:=(xH j).run 0 s1 xI a'.eval xg.st.ok (Yaw _) xg.st.hp (λy S=>by rw [yj]; exact yd y ((ck.kq r rfl).2 y S))
     rw[yj]at hq;exact hq
    .have B:=(xg.hj (K-1) ZbD).1 (xt _ hmem)
     have C:=xg.jK;obtain rfl:j=K:=by omega
     have hv:=yz j x rfl hsr
     have hq:=hqt.run 0 s1 xI a'.eval xg.st.ok (Yaw _) xg.st.hp (λy S=>by
      rw[hops]at S;obtain rfl:y=x:=by simpa using S
      rw[yj];exact⟨xG,hv⟩)
     rw[yj]at hq;exact hq
   exact yu _ (RegG.opStep_wp ck.ns (λ_ _=>rfl) hq λv s2 ⟨B,C⟩=>⟨j,s2,xI,rfl,keep v s2 _ rfl B (λr' xN=>by cases xN;exact C) (λk E=>by cases E) λk E=>by cases E⟩)
  |o k=>
   obtain⟨B,C,N,x,G,xL⟩:=ck.ko k rfl
   have yp:j=k:=by
    have V:=yH k C B;have h5:=xg.jK;rcases N with rfl | ⟨o',xl,h6⟩
    .omega
    .by_cases yO:k<j
     .have:=xg.closed _ o' xl ((xg.hj k ZbD).2 yO) i h6
      rw[xv]at this;cases this
     .omega
   have hv:=yz k x yp xL
   have xp:(execOp a'.eval o).run P s1.w=.ok (.value (a'.eval x)) s1.w:=by
    cases xf:o.op<;>rw[xf]at G<;>simp[Vs]at G
    .subst G;simp[execOp,xf]
    .subst G;simp[execOp,xf]
   refine yu _ ?_;unfold Oper.wp;rw[xp];exact⟨j,s1,xI,rfl,keep _ s1 _ rfl (GS.Le.refl _) (λr X=>by cases X) (λk' xy=>by cases xy;exact⟨yp.symm,hv⟩) λk' xy=>by cases xy⟩
  |t k=>
   obtain⟨yD,yy,xO,G⟩:=ck.kt k rfl
   have yp:j=k:=by
    have V:=yH k xO ZbD
    have h5:¬k<j:=λh=>by
     have:=(xg.hj k yD).2 h;rw[<-yy,xv]at this;cases this
    omega
   subst yp;let m:=(Gj H id T sz (xd j)).length;let ym:Nat->Value:=λq=>xI (BO [id] m q);have xM:=xg.st.hp id _ (xZ (xd j))
   have yP:RegG.OpStep P o a'.eval s1 (λv s'=>∃(xj:Nat->Value) (r:AV) (xa:List Ow),(r=.own 0/\xa=[.row T sz (xd (j+1))])/\AVr xa.length xj s' r v/\Aft s1 ym [.row T sz (xd j)] [0] s' xj xa):=by
    rcases xH with⟨t,m',A,bytes,z,z',dd,xf,O,hT,xT,l,yG,yh⟩ | ⟨f',x',y',tys,d1,d2,xf,hyd,hled,hcon⟩
    .obtain ⟨s',xj,hw,hv,yM⟩:=A9x (sz:=sz) xg.st.ok ym xT l
     have xp:(execOp a'.eval o).run P s1.w=.ok (.value (.slice (some ⟨s1.w.heap.size,0,none⟩) 0 0)) (s1.w.alloc (.cells #[] T)):=by
      have U:∀arr,(newRow T arr).run P s1.w=.ok ⟨s1.w.heap.size,0,none⟩ (s1.w.alloc (.cells arr T)):=λ_=>rfl;simp[execOp,xf,Instr.buildSlice,run_underlying O.und,hT.run_size,Instr.fill,U];exact Zjd
     unfold RegG.OpStep;rw[xp];exact⟨s',hw,xj,.own 0,_,⟨rfl,by rw[yh]⟩,⟨by simp,hv.symm⟩,by rw[yG];exact yM⟩
    .rcases G with G | ⟨f,x,y,hcall,G,S⟩
     .rw [xf]at G
      cases G
     rw[xf]at hcall
     obtain⟨rfl,rfl,rfl⟩:f'=f/\x'=x/\y'=y:=by
      have:=Yag hcall;simp only[Prod.mk.injEq]at this;exact this
     have yl:=yz j x' rfl G;have yK:=yd y' S;rw[hyd j]at yK
     have yx:=hcon.2 s1 ym [xI id,a'.eval y'] xg.st.ok (λq o' hq=>by
      cases q with
      |zero=>
       cases hq;unfold OwR at xM ⊢;exact xM
      |succ q=>cases hq) (λp q o1 o2 yt yf xA=>by
      have:=Cy yf;have:=Cy xA;simp only[Yda]at *;omega) rfl (λq av hq=>by
      match q,hq with
      |0,hq=>cases hq;exact⟨YdB,rfl⟩
      |1,hq=>cases hq;exact hled s1 _ yK
      |q+2,hq=>simp at hq)
     have xp:(execOp a'.eval o).run P s1.w=.ok (.enter f' #[xI id,a'.eval y']) s1.w:=by
      have Z:a'.eval (.func f')=.func (.func f') #[] #[]:=rfl;simp[execOp,xf,resolve,Z,yl,Deferred.ofValue,invoke,hcon.1]
     unfold RegG.OpStep;rw[xp];exact yx.mono λe Q ⟨v,Y,s',xj,r,xa,h5,h6,h7,h8⟩=>⟨v,Y,s',h6,xj,r,xa,h5,h7,h8⟩
   refine yu _ (RegG.opStep_wp ck.ns (λ_ _=>rfl) yP ?_)
   .rintro v s' ⟨xj,r,xa,⟨rfl,rfl⟩,h6,h7⟩
    have yA:StI s0 n ⟨IA vf ks xi xc,Gj H id T sz (xd j)⟩ a' s1 xI:=⟨xg.st.le,xg.st.ok,λt av O=>by
     rw[show(⟨IA vf ks xi xc,Gj H id T sz (xd j)⟩:AS).hp.length=H.length from yj _];rcases Ek.1 (Fe O)with⟨i',o',g1,g2,g3,g4⟩ | g
     .exact xg.hq i' o' t av g1 g3 g2 g4
     .exact xg.hb _ g,xg.st.sz,xg.st.df,xg.st.hp,xg.st.sep,xg.st.own⟩
    obtain⟨xP,xu,xB⟩:=StI.con (sel:=[id]) (lost:=[0]) (hpS:=[.row T sz (xd j)]) (hp':=[.row T sz (xd (j+1))]) (H1:=(Gj H id T sz (xd j)).set id (.row T sz (xd (j+1)))) ⟨λp xa=>by
     rcases Ek.1 xa with⟨i',o',g1,g2,g3,g4⟩ | g
     .exact Yaj.1 xs.2 _ (YaE g2)
     .exact Yaj.1 xs.1 _ g,λi' o' xS xl=>by
     refine AvoidR.get xn i' o' (by simpa using xS) ?_;have xl:(Gj H id T sz (xd j))[i']? = some o':=xl;rwa [Gj,YcM (λe=>xS (by rw[e];exact YaC.2 rfl))]at xl⟩ (λk E=>by rw[YaC.1 E];exact YdB) yA ZbS ⟨xZ (xd j),trivial,trivial⟩ h7 rfl
    simp only[Yda,Ybp,List.drop_nil,YaU,Ycs,YbD,xK]at xu xB;have hv:v=xP id:=(xB _ v h6).2
    have yc:∀(p:Nat×AV),p∈IA vf ks xi xc->AVr H.length xP s' p.2 (a'.tmps.getD p.1 undef):=λp xa=>by
     have:=xu.fr p.1 p.2 (OQ xa λq hq Z=>by
      rcases Ek.1 xa with⟨i1,o1,g1,g2,g3,g4⟩ | g<;>rcases Ek.1 hq with⟨i2,o2,k1,k2,k3,k4⟩ | k0
      .rw [Z]at k3
       obtain⟨_,_,d3,_,_,yk⟩:=xF i1 o1 g1;obtain rfl:d3=p.1:=Yag (yk.dst.symm.trans g3);obtain rfl:=yk.du i2 o2 k1 k3;rw[g2]at k2;have:=Yag k2;exact ZiL
      .exact absurd (g3.trans (congrArg some Z.symm)) (xz q k0 o1 (YaE g1))
      .exact absurd (k3.trans (congrArg some Z)) (xz p g o2 (YaE k1))
      .have B:=yn p g
       have C:=yn q k0;rw[Z,B]at C;exact Prod.ext Z (Yag C).symm)
     rwa [show(⟨IA vf ks xi xc,Gj H id T sz (xd (j+1))⟩:AS).hp.length=H.length from yj _]at this
    refine⟨j+1,s',xP,rfl,?_⟩;have B:=xu.put (GS.Le.refl s') (dst:=o.dst) (λd' xm=>by rw[ck.dst]at xm;cases xm;exact ck.dn) (v:=v) (r:=.d CD) trivial;rw[ck.dst]at B ⊢;refine⟨B.bare,yD,λk E=>?_,yo,λi' o' d' r xl xm xJ J=>?_,λp xa=>?_,λ_ _ h=>absurd h (Nat.succ_ne_zero _),λi' o' d' c' xl xm xJ J xQ=>?_⟩
    .rw [xD,xg.hj k E]
     refine⟨λh=>?_,λh=>?_⟩
     .rcases h with h | h
      .have B:=yw k E
       rw[h,I]at B;have C:=Yag B;simp only[CK.t.injEq]at C;omega
      .omega
     .rcases Nat.lt_succ_iff_lt_or_eq.1 h with h | h
      .exact .inr h
      .exact .inl (by rw[h];exact yy.symm)
    .rw [xD]at J
     rcases J with rfl | J
     .rw [I]at xJ
      cases xJ
     .rw [Gy (xk i' o' d' xl xm J)]
      exact yc (d',r) (Ek.2 (.inl ⟨i',o',xl,xJ,xm,J⟩))
    .rw [Gy (yv p xa)]
     exact yc p (Ek.2 (.inr xa))
    .rw [xD]at J
     rcases J with rfl | J
     .obtain rfl:o'=o:=Yag (xl.symm.trans ho)
      obtain rfl:d'=d:=Yag (xm.symm.trans ck.dst);rw[KM xW];exact hv
     .obtain ⟨e3,c3,d3,xX,ye,yk⟩:=xF i' o' xl
      obtain rfl:c3=c':=Yag (ye.symm.trans xJ)
      have xE:xc.getD (tp j) false≠true:=λh=>by
       rw[<-yy,xv]at h;cases h
      rcases xQ with rfl | ⟨k',rfl,xy⟩
      .obtain ⟨_,q2,_,_⟩:=yk.ko _ rfl
       rcases q2 with q2 | q2
       .cases q2
       .exact absurd (xg.closed i' o' xl J _ q2) xE
      .obtain ⟨_,q2,_⟩:=yk.kt _ rfl
       obtain rfl:k'=j:=by omega
       rw[q2]at J;exact absurd J xE
 .rintro xc a' _ xh ⟨j,s1,xI,rfl,xg⟩ l
  have xh:xc.size=vf.length:=by simpa using xh
  have xq:∀i,i<vf.length->xc.getD i false=true:=by
   intro i
   induction i using Nat.strongRecOn with
   |_ i ih=>
    intro L;have ho:vf[i]? = some vf[i]:=Yac L;obtain⟨e,c,d,Y,I,ck⟩:=xF i _ ho
    cases hg:xc.getD i false with
    |true=>rfl
    |false=>
     have:i∈Region.ready .any vf.toArray xc:=(DC xh ho).2 ⟨hg,λk E=>ih k (ck.lt k E) (by have:=ck.lt k E;omega)⟩;rw[l]at this;cases this
  have yN:j=K:=by
   have B:=xg.jK;rcases Yaz K with C | C
   .omega
   .have N:=yw (K-1) ZbD
    have V:=(xg.hj (K-1) ZbD).1 (xq _ (by rw[yE];exact(Yae.1 N).1));omega
  subst yN;refine⟨_,fin,s1,xI,rfl,xg.st.le,xg.st.ok,λt av O=>?_,xg.st.sz,xg.st.df,xg.st.hp,xg.st.sep,xg.st.own⟩;rw[show(⟨F,Gj H id T sz (xd j)⟩:AS).hp.length=H.length from yj _];rcases Ya (Fe (hF.mem _ (Fe O)))with h | ⟨i,o,c,B,C,N,V⟩
  .exact xg.hb _ h
  .have J:=xq i (Yae.1 B).1
   rcases V with rfl | ⟨V,h5⟩
   .exact xg.hq i o t av B N C J
   .replace V:av=.own id:=V
    subst V;refine⟨xG,xg.ho i o t c B N C J ?_⟩;rcases h5 with h5 | ⟨k,h5,h6⟩
    .exact .inl h5
    .exact .inr ⟨k,h5,h6.symm⟩
 .rw [Array.count_replicate]
  simp
section
variable {P:Program} {frB:List (Nat×AV)} {hp:List Ow} {id T sz:Nat} {rows:Nat->List (List D)} {K:Nat} {tb:Option Nat} {tp:Nat->Nat} {ks:List CK} {es:List (Nat×Nat)} {o:Oper} {L:List Oper} {S:List (List (Nat×Nat))} {R:List CK}
theorem CSteps.q{r:AV}(h:∀j,Quiet P (Gj hp id T sz (rows j)) o (DZ ⟨frB,Gj hp id T sz (rows j)⟩ (ks.map CK.hr) es) r)(Y:CSteps P frB hp id T sz rows K tb tp ks L S R):CSteps P frB hp id T sz rows K tb tp ks (o::L) (es::S) (.q r::R):=⟨.inl h,Y⟩
theorem CSteps.s{k:Nat}(Y:CSteps P frB hp id T sz rows K tb tp ks L S R):CSteps P frB hp id T sz rows K tb tp ks (o::L) (es::S) (.o k::R):=⟨trivial,Y⟩
theorem CSteps.t{k:Nat}{dd:Option Tmp}{ty:TypeId}{ps:String}{af:Array Edge}{gd:Option (Nat×Bool)}{f:FuncId}(I:Con P f [.own 0,.d r] [.row T sz (rows k)] [0] (λA z=>A=.own 0/\z=[.row T sz (rows (k+1))]))(O:∀j,DZ ⟨frB,Gj hp id T sz (rows j)⟩ (ks.map CK.hr) es y=.d r)(Y:CSteps P frB hp id T sz rows K tb tp ks L S R):CSteps P frB hp id T sz rows K tb tp ks (⟨dd,.call { callee:=.value (.func f),args:=#[x,y],argTypes:=vt },ty,ps,af,gd⟩::L) (es::S) (.t k::R):=⟨.inr ⟨f,x,y,vt,r,r,rfl,O,D.le.refl _,I⟩,Y⟩
theorem CSteps.m{k:Nat}{ty:TypeId}{t m b bytes:Nat}{d:TypeDesc}(M:Tab P t (.slice T) m b u)(C:Tab P T d sz bytes z)(y:Nat.beq T 335=false)(c:Nat.blt 0 sz=true)(A:rows k=[])(B:rows (k+1)=[])(Y:CSteps P frB hp id T sz rows K tb tp ks L S R):CSteps P frB hp id T sz rows K tb tp ks (⟨vF,.buildSlice t 0 #[],ty,vJ,vK,vV⟩::L) (es::S) (.t k::R):=⟨.inl ⟨t,m,b,bytes,z,u,d,rfl,M,C,YaI y,by simpa[Ybm]using c,A,B⟩,Y⟩
theorem CSteps.nil:CSteps P frB hp id T sz rows K tb tp ks [] [] []:=trivial
theorem EU{r:AV}(Y:CSteps P frB hp id T sz rows K tb tp ks L S R)(h:∀j,Quiet P (Gj hp id T sz (rows j)) o (DZ ⟨frB,Gj hp id T sz (rows j)⟩ (ks.map CK.hr) es) r:=by intro _;first | exact AG (ah rfl) | exact Bm (ah rfl) | exact Az (ah rfl) (Aa rfl) rfl (Aa rfl) rfl rfl | exact AH | exact Ar | exact IM rfl (ah rfl) (Aa rfl) (Aa rfl) rfl ZcD ZcD | exact Lu (ah rfl) (ah rfl) (Aa rfl) (Aa rfl) ZcD | exact A6h (ah rfl) (Aa rfl) rfl (Aa rfl) rfl rfl | exact SI (ah rfl) (Aa rfl) rfl rfl | exact Gm (ah rfl) (Aa rfl) rfl rfl | exact WD (ah rfl) (Aa rfl) rfl (A17 ZcD) | exact WD (ah rfl) (Aa rfl) rfl (A16 ZcD)):CSteps P frB hp id T sz rows K tb tp ks (o::L) (es::S) (.q r::R):=CSteps.q h Y
theorem On{k:Nat}{Z:TypeId}(I:Con P vd [.own 0,.d r] [.row T sz (rows k)] [0] (λA z=>A=.own 0/\z=[.row T sz (rows (k+1))]))(Y:CSteps P frB hp id T sz rows K tb tp ks L S R)(O:∀j,DZ ⟨frB,Gj hp id T sz (rows j)⟩ (ks.map CK.hr) es y=.d r:=by intro _;rfl):CSteps P frB hp id T sz rows K tb tp ks (⟨vF,.call { callee:=.value (.func vd),args:=#[x,y],argTypes:=vt },Z,vJ,vK,vV⟩::L) (es::S) (.t k::R):=CSteps.t I O Y
end
theorem A41{s0:An}(T A:Nat)(G:Nat.beq T 335=false)(c:Nat.blt 0 A=true)(Y:Gf H (.row T A [])=some vz)(k:AWp P s0 n vp vk ⟨vc,vz⟩):AWp P s0 n vp vk ⟨vc,H⟩:=by
 rw[Fd Y]at k;refine⟨λa w ⟨s,W,E,B⟩=>?_⟩
 have := B.new (GS.Le.refl s) (dst := none) (v := undef) (u := .slice none 0 0) (r := .d CD) (ow := .row T A []) (fun d e => by cases e) trivial
  ⟨[],by simp only[Yan];exact⟨by simp,.inl ⟨rfl,rfl⟩⟩,YaI G,by simpa[Ybm]using c,λb F=>by simp[DP]at F,λk C=>absurd C (Ybh k)⟩ (λb F=>by cases F)
 exact k.run a w ⟨s,_,E,this⟩
def wipe(G:List Nat):List (Nat×AV)->List (Nat×AV)
 |[]=>[]
 |p::r=>(bif p.2.avoid G then p else(p.1,.d CD))::wipe G r
theorem Ot{G:List Nat}{t:Nat}{I:AV}:∀{f:List (Nat×AV)},Ch (wipe G f) t=some I->I=.d CD\/Ch f t=some I
 |[],h=>by cases h
 |(u,x)::r,h=>by
  unfold wipe at h;rw[CY]
  cases F:x.avoid G with
  |true=>
   simp only[F,cond_true]at h;rw[CY]at h;split
   .rename_i e;rw[Yan e]at h;exact .inr h
   .rename_i e;rw[Yai e]at h;exact Ot h
  |false=>
   simp only[F,cond_false]at h;rw[CY]at h;split
   .rename_i e;rw[Yan e]at h;exact .inl (Yag h).symm
   .rename_i e;rw[Yai e]at h;exact Ot h
theorem QQ{G:List Nat}:∀{f:List (Nat×AV)},(wipe G f).all (λp=>p.2.avoid G)=true
 |[]=>rfl
 |p::r=>by
  unfold wipe;rw[List.all_cons,QQ,Bool.and_true]
  cases F:p.2.avoid G with
  |true=>simp only[cond_true];exact F
  |false=>rfl
theorem StI.wipe{s0:An}{s:GS}(G:List Nat)(h:StI s0 n ⟨vc,H⟩ vl s vi):StI s0 n ⟨Go.Proofs.YtcikkglcoeedlaaGreat.wipe G vc,H⟩ vl s vi:=⟨h.le,h.ok,λt I M=>(Ot M).elim (λe=>e▸trivial) (h.fr t I),h.sz,h.df,h.hp,h.sep,h.own⟩
section
variable {P:Program} {s0:An} {n:Nat} {ops:Array Oper} {Q:Exit->AS->Prop} {rest:List Oper} {fr:List (Nat×AV)} {hp:List Ow}
theorem A7N{hpS:List Ow}(J:va.op=.call { callee:=.value x,args:=vO.toArray,argTypes:=vt })(sel:List Nat){m:Nat}(F:HU hp=some m)(t:Ky (BO sel m) hpS.length (AS.arg ⟨fr,hp⟩ x) vd [] [])
  (I:Con P vd i hpS l vy) (R:l.all (Nat.blt · sel.length)=true) (b:AvoidR sel (l.map (BO sel m)) 0 hp) (p:ArgsC hp (BO sel m) hpS.length (AS.arg ⟨fr,hp⟩) vO i) (xb:sel.Nodup) (xa:SelR (BO sel m) hp hpS.length sel hpS) (C:VO va.dst n=true)
  (next:∀r z,vy r z->∃M w c,AVRen (BO sel m) r M/\SetR (BO sel m) hp sel z w/\AppR (BO sel m) w (Mu sel.length z) c/\AWl P s0 n ops Q rest (AS.put ⟨wipe (l.map (BO sel m)) fr,c⟩ va.dst M)) :
  ∀(s:GS) (W:Nat->Value) (a:Act),StI s0 n ⟨fr,hp⟩ a s W->∀K:Act->World->Prop,(∀q X N,AWl P s0 n ops Q rest q->St s0 n q X N->K X N)->va.wp P a s.w K (GG s0 n Q):=by
 intro s W a T K f;have xg:i=([]:List Nat).map (AV.ptr · 0)++i++([]:List Nat).map (AV.ptr · 0):=by simp
 rw[xg]at I;obtain⟨L,H,xe,d,xc,xf⟩:=A5M J sel F t I.1 p xb xa (λA B=>by cases B) (λA B=>by cases B) T;obtain rfl:=FR F;have U:LostOk sel l hp.length (wipe (l.map (BO sel hp.length)) fr) hp:=.inr ⟨R,QQ,b⟩;have S:=I.2 s (λk=>W (BO sel hp.length k)) L T.ok d xc H xf;unfold Oper.wp;rw[xe];refine Calls.mono S λe N h=>?_;obtain⟨v,rfl,j,O,r,z,E,rfl,G,g⟩:=h;obtain⟨M,w,c,y,V,Y,Z⟩:=next r z E;replace y:M=r.ren (BO sel hp.length):=y;rw[AppR,NA]at Y;subst y;subst Y;obtain⟨xd,o,u⟩:=StI.con (sel:=sel) (hpS:=hpS) U.get.1 U.get.2 (T.wipe _) xb xa g V;exact f _ _ _ Z ⟨j,xd,rfl,o.put (GS.Le.refl j) (Jw C) (u r v G)⟩
theorem Cv{Z:TypeId}{t:Nat}(U:List Nat)(I:Con P vd i H l vy)(G:l.all (Nat.blt · U.length)=true)(E:AvoidR U (l.map (BO U b)) 0 hp)(B:HU hp=some b)(A:Ky (BO U b) H.length (AS.arg ⟨fr,hp⟩ x) vd [] [])
  (p:ArgsC hp (BO U b) H.length (AS.arg ⟨fr,hp⟩) vO i) (f:U.Nodup) (K:SelR (BO U b) hp H.length U H) (e:Nat.blt t n=true)
  (next:∀r z,vy r z->∃C J F,AVRen (BO U b) r C/\SetR (BO U b) hp U z J/\AppR (BO U b) J (Mu U.length z) F/\AWl P s0 n ops Q rest ⟨(t,C)::wipe (l.map (BO U b)) fr,F⟩) :
  AWl P s0 n ops Q (⟨some t,.call { callee:=.value x,args:=vO.toArray,argTypes:=vt },Z,vJ,vK,none⟩::rest) ⟨fr,hp⟩:=AWl.step rfl (A7N rfl U B A I G E p f K e next)
end
theorem ConP.con(h:ConP P vd i H vy vT vG)(R:¬vG):Con P vd i H [] vy:=
 ⟨h.1,λs W K A B L S n=>(h.2 s W K A B L S n).mono λe N C=>C.elim (λh=>h) λ⟨_,h,_⟩=>absurd h R⟩
def YB(L:List Oper)(m:List (List (Nat×Nat)))(J:List AV)(v:List (Nat×AV))(n:Nat):Bool:=
 Nat.beq L.length m.length&&Nat.beq L.length J.length&&(v.all λp=>L.all λw=>w.dst != some p.1) &&
 (List.range L.length).all λi=>match L[i]?,m[i]? with
  |some o,some e=>BN o.op&&o.guard.isNone&&((Bz o).all λk=>decide (k<i))&&(e.all λp=>(Bz o).contains p.2&&(match L[p.2]? with |some w=>w.dst==some p.1 |none=>false)) &&
   (match o.dst with | none=>false | some d=>decide (d<n)&&((List.range L.length).all λj=>j==i||(match L[j]? with | some w=>w.dst != some d | none=>true)))&&o.op.operands.all (PE L e)
  |_,_=>false
structure ChkD(L:List Oper)(n:Nat)(i:Nat)(o:Oper)(e:List (Nat×Nat))(d:Nat):Prop where
 ns:BN o.op=true
 gd:o.guard=none
 lt:∀k∈Bz o,k<i
 env:∀p∈e,p.2∈Bz o/\∃o',L[p.2]? = some o'/\o'.dst=some p.1
 dst:o.dst=some d
 dn:d<n
 du:∀(j:Nat) o',L[j]? = some o'->o'.dst=some d->j=i
 kq:∀y∈o.op.operands,PE L e y=true
theorem A7P{L:List Oper}(h:YB L uM i vc n=true):L.length=i.length/\(∀p∈vc,∀w∈L,w.dst≠some p.1)/\∀(A:Nat) o,L[A]? = some o->∃e r d,uM[A]? = some e/\i[A]? = some r/\ChkD L n A o e d:=by
 unfold YB at h;simp only[Yam]at h;obtain⟨⟨⟨B,C⟩,F⟩,J⟩:=h;have C:=Yao C;refine⟨C,λp G w Q=>by simpa using Yaj.1 (Yaj.1 F p G) w Q,λA o q=>?_⟩;have K:=(Yae.1 q).1;have M:=Yaj.1 J A (YaZ.2 K);rw[q]at M
 cases b:uM[A]? with
 |none=>rw[b]at M;cases M
 |some e=>
  rw[b]at M;simp only[Yam]at M;obtain⟨⟨⟨⟨⟨U,P⟩,S⟩,V⟩,m⟩,v⟩:=M
  cases I:o.dst with
  |none=>rw[I]at m;cases m
  |some d=>
   rw[I]at m;simp only[Yam,Ybb]at m;refine⟨e,i[A]'(ZbD),d,rfl,Yac _,U,by simpa using P,λk E=>by simpa using Yaj.1 S k E,λp G=>?_,I,m.1,λj w Q R=>?_,λy O=>(Yem.1 v) y O⟩
   .have:=Yaj.1 V p G
    simp only[Yam]at this;refine⟨by simpa using this.1,?_⟩;have C:=this.2
    cases N:L[p.2]? with
    |none=>rw[N]at C;cases C
    |some w=>rw[N]at C;exact⟨w,rfl,by simpa using C⟩
   .have:=Yaj.1 m.2 j (YaZ.2 (Yae.1 Q).1)
    rw[Q]at this;simpa[R]using this
def EV(G:List Ow)(id:Nat)(V c:Ow)(b:Bool):List Ow:=G.set id (bif b then c else V)
def A2o(P:Program)(v:List (Nat×AV))(G:List Ow)(id:Nat)(V c:Ow)(J:List AV)(m:List (Nat×Nat))(o:Oper)(r:AV):Prop:=∀b,Quiet P (EV G id V c b) o (DZ ⟨v,EV G id V c b⟩ (J.map HR.av) m) r
def DCall(P:Program)(v:List (Nat×AV))(G:List Ow)(id:Nat)(V c:Ow)(J:List AV)(m:List (Nat×Nat))(o:Oper)(r:AV):Prop:=∃f x A d,o.op=.call { callee:=.value (.func f),args:=#[x],argTypes:=A }/\r=.d d/\(∀b,DZ ⟨v,EV G id V c b⟩ (J.map HR.av) m x=.ptr id 0)/\Con P f [.ptr 0 0] [V] [] (λn z=>n=.d d/\z=[c])
def DSteps(P:Program)(v:List (Nat×AV))(G:List Ow)(id:Nat)(V A:Ow)(J:List AV)(c:Nat)(C:List (Nat×Nat)->Oper->AV->Prop):Nat->List Oper->List (List (Nat×Nat))->List AV->Prop
 |i,o::L,x::S,r::R=>(bif Nat.beq i c then C x o r else A2o P v G id V A J x o r)/\DSteps P v G id V A J c C (i+1) L S R
 |_,[],[],[]=>True
 |_,_,_,_=>False
theorem DSteps.at{P:Program}{v:List (Nat×AV)}{hp:List Ow}{id:Nat}{V F:Ow}{J:List AV}{c:Nat}{C:List (Nat×Nat)->Oper->AV->Prop}:∀{L:List Oper} {S:List (List (Nat×Nat))} {R:List AV} {j:Nat},DSteps P v hp id V F J c C j L S R->∀(i:Nat) o x r,L[i]? = some o->S[i]? = some x->R[i]? = some r->(bif Nat.beq (j+i) c then C x o r else A2o P v hp id V F J x o r)
 |[],[],[],_,_,i,o,x,c,h,_,_=>by simp at h
 |[],[],_::_,_,h,_,_,_,_,_,_,_=>h.elim
 |[],_::_,R,_,h,_,_,_,_,_,_,_=>by cases R<;>exact h.elim
 |_::_,[],R,_,h,_,_,_,_,_,_,_=>by cases R<;>exact h.elim
 |_::_,_::_,[],_,h,_,_,_,_,_,_,_=>h.elim
 |w::L,N::S,l::R,j,⟨A,B⟩,0,o,x,c,q,E,I=>by
  simp at q E I;subst q;subst E;subst I;exact A
 |w::L,N::S,l::R,j,⟨A,B⟩,i+1,o,x,c,q,E,I=>by
  have:=DSteps.at B i o x c Zee Zed ZeY;rwa [show j+1+i=j+(i+1)by omega]at this
def Qe:List Oper->List AV->List (Nat×AV)->List (Nat×AV)
 |o::L,r::J,f=>match o.dst with |some d=>(d,r)::Qe L J f |none=>Qe L J f
 |_,_,f=>f
theorem XZ{p:Nat×AV}:∀{L:List Oper} {J:List AV} {f:List (Nat×AV)},p∈Qe L J f->p∈f\/∃(i:Nat) (o:Oper),L[i]? = some o/\J[i]? = some p.2/\o.dst=some p.1
 |[],_,f,h=>.inl (by unfold Qe at h;exact h)
 |o::L,[],f,h=>.inl (by unfold Qe at h;exact h)
 |o::L,c::J,f,h=>by
  have key:p∈Qe L J f->p∈f\/∃(i:Nat) (w:Oper),(o::L)[i]? = some w/\(c::J)[i]? = some p.2/\w.dst=some p.1:=λh=>by
   rcases XZ h with h | ⟨i,w,h1,h2,h3⟩
   .exact .inl h
   .exact .inr ⟨i+1,w,by simpa using h1,by simpa using h2,h3⟩
  unfold Qe at h;split at h
  .rename_i d e
   rcases YaK.1 h with rfl | h
   .exact .inr ⟨0,o,rfl,rfl,e⟩
   .exact key h
  .exact key h
theorem Jc(G:List Ow)(id:Nat)(V c:Ow)(b:Bool):(EV G id V c b).length=G.length:=by simp[EV]
def DCallP(P:Program)(v:List (Nat×AV))(G:List Ow)(id:Nat)(V:Ow)(J:List AV)(y:AV->List Ow->Prop)(T:List PanicEntry)(N:Prop)(m:List (Nat×Nat))(o:Oper)(_:AV):Prop:=∃f x A,o.op=.call { callee:=.value (.func f),args:=#[x],argTypes:=A }/\(∀b,DZ ⟨v,EV G id V V b⟩ (J.map HR.av) m x=.ptr id 0)/\ConP P f [.ptr 0 0] [V] y T N
def Mt(L:List Oper):List Nat->List Nat->Bool
 |_,[]=>true
 |seen,k::r=>(seen.any λj=>match L[j]? with |some o=>(Bz o).contains k |none=>false)&&Mt L (k::seen) r
theorem LH{L:List Oper}{f:Nat->Bool}:∀{H seen:List Nat},Mt L seen H=true->(∀i o,L[i]? = some o->f i=true->∀e∈Bz o,f e=true)->(∀k∈seen,∀o,L[k]? = some o->∀e∈Bz o,f e=true)->∀k∈H,f k=true
 |[],_,_,_,_,k,C=>by cases C
 |k::r,seen,h,I,Y,W,S=>by
  unfold Mt at h;simp only[Yam]at h;obtain⟨j,a,A⟩:=Yci.1 h.1
  have E:f k=true:=by
   cases p:L[j]? with
   |none=>rw[p]at A;cases A
   |some o=>
    rw[p]at A;exact Y j a o p k Zdn
  rcases YaK.1 S with rfl | S
  .exact E
  .exact LH h.2 I (λq l o B=>by
    rcases YaK.1 l with rfl | l
    .exact I q o B E
    .exact Y q l o B) W S
section
variable {P:Program} {frB:List (Nat×AV)} {hp:List Ow} {id:Nat} {o0 o1:Ow} {ks:List AV} {c i:Nat} {C:List (Nat×Nat)->Oper->AV->Prop} {L:List Oper} {x:List (Nat×Nat)} {S:List (List (Nat×Nat))} {r:AV} {R:List AV} {o:Oper}
theorem DSteps.q(f:Nat.beq i c=false)(h:A2o P frB hp id o0 o1 ks x o r)(Y:DSteps P frB hp id o0 o1 ks c C (i+1) L S R):DSteps P frB hp id o0 o1 ks c C i (o::L) (x::S) (r::R):=⟨by rw[f];exact h,Y⟩
theorem DSteps.k(f:Nat.beq i c=true)(h:C x o r)(Y:DSteps P frB hp id o0 o1 ks c C (i+1) L S R):DSteps P frB hp id o0 o1 ks c C i (o::L) (x::S) (r::R):=⟨by rw[f];exact h,Y⟩
theorem DSteps.nil:DSteps P frB hp id o0 o1 ks c C i [] [] []:=trivial
variable {dd:Option Tmp} {ty:TypeId} {ps:String} {af:Array Edge} {gd:Option (Nat×Bool)} {f:FuncId} {y:Operand} {tys:Array TypeId} {es:List (Nat×Nat)}
theorem DCall.mk{d:D}(E:∀b,DZ ⟨frB,EV hp id o0 o1 b⟩ (ks.map HR.av) es y=.ptr id 0)(I:Con P f [.ptr 0 0] [o0] [] (λn z=>n=.d d/\z=[o1])):DCall P frB hp id o0 o1 ks es ⟨dd,.call { callee:=.value (.func f),args:=#[y],argTypes:=tys },ty,ps,af,gd⟩ (.d d):=⟨f,y,tys,d,rfl,rfl,E,I⟩
theorem DCallP.mk(E:∀b,DZ ⟨frB,EV hp id o0 o0 b⟩ (ks.map HR.av) es y=.ptr id 0)(I:ConP P f [.ptr 0 0] [o0] vy vT vG):DCallP P frB hp id o0 ks vy vT vG es ⟨dd,.call { callee:=.value (.func f),args:=#[y],argTypes:=tys },ty,ps,af,gd⟩ r:=⟨f,y,tys,rfl,E,I⟩
end
def DTurn(P:Program)(s0:An)(n:Nat)(A:List (Nat×AV))(G:List Ow)(id:Nat)(V B:Ow)(J:List AV)(R:List Nat)(c:Nat)(m:List (Nat×Nat))(o:Oper)(r:AV):Prop:=∀F:List (Nat×AV),(∀p∈F,(∃i,i≠c/\i∉R/\J[i]? = some p.2)\/p∈A)->∀(s:GS) (W:Nat->Value) (a:Act),StI s0 n ⟨F,EV G id V B false⟩ a s W->(∀y∈o.op.operands,AVr G.length W s (DZ ⟨A,EV G id V B false⟩ (J.map HR.av) m y) (a.eval y))->RegG.OpStep P o a.eval s λv j=>∃z,StI s0 n ⟨F,EV G id V B true⟩ a j z/\AVr G.length z j r v
def ZD(R:List Nat):Nat->List AV->List AV
 |_,[]=>[]
 |i,r::J=>(bif R.any (Nat.beq i)then .d CD else r)::ZD R (i+1) J
def ckK(R:List Nat)(J:List AV):List CK:=J.mapIdx λi r=>if i∈R then .t 0 else .q r
theorem A2c{r:AV}:(ckK l i)[n]? = some (.q r)↔n∉l/\i[n]? = some r:=by
 unfold ckK;rw[List.getElem?_mapIdx]
 cases i[n]? with
 |none=>simp
 |some x=>
  simp only[Yds,Ydc];by_cases h:n∈l
  .simp [h]
  .simp [h]
theorem A4F{l:List e}{x:e}(h:l[n]? = some x):l.set n x=l:=Ycb λj=>by
 rw[YbZ];split
 .rename_i A
  subst A;rw[Yan (Yae.1 h).1,h]
 .rfl
def HC(f:Nat->Bool)(i:Nat):Nat->Bool:=λk=>Nat.beq k i||f k
def IQ(f:Nat->Bool)(R:List (Nat×Nat)):Nat->List AV->List AV
 |_,[]=>[]
 |i,r::J=>(bif R.any (λp=>Nat.beq p.1 i&&f p.2)then .d CD else r)::IQ f R (i+1) J
theorem Na{f:Nat->Bool}{R:List (Nat×Nat)}:∀{i:Nat} {J:List AV} {j:Nat},(IQ f R i J)[j]? = (J[j]?).map λr=>bif R.any (λp=>Nat.beq p.1 (i+j)&&f p.2)then .d CD else r
 |i,[],j=>by simp[IQ]
 |i,r::J,0=>by simp[IQ]
 |i,r::J,j+1=>by
  simp only[IQ,YcR];rw[Na,show i+1+j=i+(j+1)by omega]
theorem LC{f:Nat->Bool}(h:∀q∈vv,q.1=n->f q.2=false):(IQ f vv 0 i)[n]? = i[n]?:=by
 rw[Na,show vv.any (λp=>Nat.beq p.1 (0+n)&&f p.2)=false from List.any_eq_false.2 λq l F=>by
  simp only[Yam]at F;rw[h q l (by rw[Yao F.1,YaH])]at F;cases F.2]
 cases i[n]? <;> rfl
theorem ZC{f:Nat->Bool}{r:AV}(h:(IQ f vv 0 i)[n]? = some r):r=.d CD\/(∀q∈vv,q.1=n->f q.2=false)/\i[n]? = some r:=by
 cases F:vv.any (λp=>Nat.beq p.1 (0+n)&&f p.2)with
 |true=>
  rw[Na,F]at h
  cases C:i[n]? with
  |none=>rw[C]at h;cases h
  |some x=>rw[C]at h;exact .inl (Yag h).symm
 |false=>
  have l:∀q∈vv,q.1=n->f q.2=false:=λq l e=>by
   have:=List.any_eq_false.1 F q l
   cases t:f q.2 with
   |false=>rfl
   |true=>rw[e,YaH,YcQ,t]at this;exact absurd rfl this
  rw[LC l]at h;exact .inr ⟨l,h⟩
structure Can(L:List Oper)(f:Nat->Bool)(i:Nat)(o:Oper):Prop where
 no:f i=false
 ed:∀k∈Bz o,f k=true
 cl:∀j o',L[j]? = some o'->f j=true->∀k∈Bz o',f k=true
def XStep(P:Program)(s0:An)(n:Nat)(Q:Exit->AS->Prop)(L:List Oper)(B:List (Nat×AV))(I:(Nat->Bool)->Prop)(M:(Nat->Bool)->List Ow)(C:List (Nat×Nat))(J:List AV)(i:Nat)(m:List (Nat×Nat))(o:Oper)(r:AV):Prop:=BN o.op=true->∀f,Can L f i o->I f->∀F:List (Nat×AV),(∀p∈F,(∃j,f j=true/\(∀q∈C,q.1=j->HC f i q.2=false)/\J[j]? = some p.2)\/p∈B)->∀(s:GS) (W:Nat->Value) (a:Act),StI s0 n ⟨F,M f⟩ a s W->(∀y∈o.op.operands,AVr (M f).length W s (DZ ⟨B,M f⟩ ((IQ f C 0 J).map HR.av) m y) (a.eval y))->∀R:Act->World->Prop,(∀v A z,I (HC f i)->StI s0 n ⟨F,M (HC f i)⟩ a A z->AVr (M f).length z A r v->R (a.put o.dst v) A.w)->o.wp P a s.w R (GG s0 n Q)
section
variable {P:Program} {s0:An} {n:Nat} {Q:Exit->AS->Prop} {I:(Nat->Bool)->Prop} {LL:List Oper} {frB:List (Nat×AV)} {M:(Nat->Bool)->List Ow} {lose:List (Nat×Nat)} {ks:List AV}
variable {i:Nat} {o:Oper} {L:List Oper} {x:List (Nat×Nat)} {S:List (List (Nat×Nat))} {r:AV} {R:List AV}
theorem XStep.q(G:∀f,Can LL f i o->I f->I (HC f i))(k:∀f,M (HC f i)=M f)(h:∀f,Can LL f i o->Quiet P (M f) o (DZ ⟨frB,M f⟩ ((IQ f lose 0 ks).map HR.av) x) r):XStep P s0 n Q LL frB I M lose ks i x o r:=λJ f C t F _ s W a T p R E=>by
 rw[k]at E;exact RegG.opStep_wp J (λ_ _=>rfl) ((h f C).run 0 s W a.eval T.ok (Yaw _) T.hp p) λv j ⟨A,B⟩=>E v j W (G f C t) (T.put A (dst:=none) (λd e=>by cases e) (v:=v) (r:=.d CD) trivial) B
def XTurn(P:Program)(s0:An)(n:Nat)(LL:List Oper)(frB:List (Nat×AV))(M:(Nat->Bool)->List Ow)(lose:List (Nat×Nat))(ks:List AV)(i:Nat)(x:List (Nat×Nat))(o:Oper)(r:AV):Prop:=∀f,Can LL f i o->∀F:List (Nat×AV),(∀p∈F,(∃j,f j=true/\(∀q∈lose,q.1=j->HC f i q.2=false)/\ks[j]? = some p.2)\/p∈frB)->∀(s:GS) (W:Nat->Value) (a:Act),StI s0 n ⟨F,M f⟩ a s W->(∀y∈o.op.operands,AVr (M f).length W s (DZ ⟨frB,M f⟩ ((IQ f lose 0 ks).map HR.av) x y) (a.eval y))->RegG.OpStep P o a.eval s λv A=>∃z,StI s0 n ⟨F,M (HC f i)⟩ a A z/\AVr (M f).length z A r v
theorem XTurn.step(h:XTurn P s0 n LL frB M lose ks i x o r)(G:∀f,Can LL f i o->I f->I (HC f i)):XStep P s0 n Q LL frB I M lose ks i x o r:=λJ f C t F hF s W a T p R E=>RegG.opStep_wp J (λ_ _=>rfl) (h f C F hF s W a T p) λv j ⟨z,A,B⟩=>E v j z (G f C t) A B
end
theorem blt_eq{f:Nat->Bool}(m:Nat)(h:∀k,k<m->f k=true)(A:∀k,m<=k->f k=false):f=(Nat.blt · m):=funext λk=>by
 cases F:Nat.blt k m with
 |true=>exact h k (by rwa [Ybm]at F)
 |false=>
  refine A k (Nat.le_of_not_lt λh=>?_);rw[<-Ybm,F]at h;cases h
structure XInv(s0:An)(n len:Nat)(M:(Nat->Bool)->List Ow)(lose:List (Nat×Nat))(L:List Oper)(ks:List AV)(frB:List (Nat×AV))(f:Nat->Bool)(a:Act)(s:GS)(ρ:Nat->Value):Prop where
 st:StI s0 n ⟨[],M f⟩ a s ρ
 hq:∀i o d r,L[i]? = some o->o.dst=some d->(IQ f lose 0 ks)[i]? = some r->f i=true->AVr len ρ s r (a.tmps.getD d undef)
 hb:∀p∈frB,AVr len ρ s p.2 (a.tmps.getD p.1 undef)
theorem UI{s0:An}{L:List Oper}(I:(Nat->Bool)->Prop)(m:Nat)(xB:List Nat)(M:(Nat->Bool)->List Ow)(xl:List (Nat×Nat))(ks:List AV)(z:List (List (Nat×Nat)))(xg F:List (Nat×AV))(hm:DrawOk P s0 n b vY L vk vk)(xJ:FrIn vc xg)(hL:Nat.blt m L.length=true)(hI:I λ_=>false)(yg:M (λ_=>false)=H)(xV:∀f,(M f).length=H.length)(xQ:I (Nat.blt · m)->((List.range (L.length-m)).all λt=>(match L[m+t]? with | some o=>Bz o | none=>[]).all λk=>decide (k<m+t))=true)(xY:((List.range (L.length-m-1)).all λt=>(match L[m+t+1]? with | some o=>Bz o | none=>[]).contains (m+t))=true)(xL:(Mt L [m] xB&&(List.range m).all λj=>xB.contains j)=true)
  (steps:∀i o x r,(L.take m)[i]? = some o->z[i]? = some x->ks[i]? = some r->XStep P s0 n vk L xg I M xl ks i x o r) (xd:YB (L.take m) z ks xg n=true) (hF:FrIn (Qe (L.take m) (IQ (Nat.blt · m) xl 0 ks) xg) F) (fin:I (Nat.blt · m)->AWl P s0 n L.toArray vk (L.drop m) ⟨F,M (Nat.blt · m)⟩):AWp P s0 n (.region b vY true) vk ⟨vc,H⟩:=by
 refine⟨λa w ⟨s,W,hw,xb⟩=>?_⟩;subst hw;have xW:=xJ.mem;obtain⟨yt,xt,xy⟩:=A7P xd;have yJ:m<L.length:=by rwa [Ybm]at hL
 have ys:I (Nat.blt · m)->∀k o,m<=k->L[k]? = some o->∀j∈Bz o,j<k:=λV k o E U j S=>by
  have xT:=(Yae.1 U).1;have B:=Yaj.1 (xQ V) (k-m) (YaZ.2 ZbD);rw[show m+(k-m)=k by omega,U]at B;simpa using Yaj.1 B j S
 have yw:∀k o,m<k->L[k]? = some o->k-1∈Bz o:=λk o E U=>by
  have xT:=(Yae.1 U).1;have B:=Yaj.1 xY (k-1-m) (YaZ.2 ZbD);rw[show m+(k-1-m)+1=k by omega,show m+(k-1-m)=k-1 by omega,U]at B;exact YbG.1 B
 have yI:(L.take m).length=m:=ZgN
 simp only[Yam]at xL
 have yH:∀{i:Nat} {o:Oper},(L.take m)[i]? = some o->L[i]? = some o:=λ{i o} h=>by
  rw[YaJ]at h;split at h
  .exact h
  .cases h
 have xr:∀j,(Array.replicate L.toArray.size false).getD j false=false:=λj=>Zai
 have xN:(λk=>(Array.replicate L.toArray.size false).getD k false)=λ_=>false:=funext xr;have ye:StI s0 n ⟨vc,H⟩ a s.dr W:=xb.put (JZ s) (dst:=none) (λd l=>by cases l) (v:=undef) (r:=.d CD) trivial;refine hm.run _ _ (Oo (λxc a' O=>(∃u xh,u.w=O/\(∀k,m<=k->xc.getD k false=false)/\(∀i o,L[i]? = some o->xc.getD i false=true->∀e∈Bz o,xc.getD e false=true)/\I (λk=>xc.getD k false)/\XInv s0 n H.length M xl (L.take m) ks xg (λk=>xc.getD k false) a' u xh)\/(∃t,m<=t/\t<=L.length/\I (Nat.blt · m)/\(∀i,i<t->xc.getD i false=true)/\(∀i,t<=i->xc.getD i false=false)/\wpList P L.toArray (GG s0 n vk) (L.drop t) a' O)) ?_ ?_ _ _ a s.w.drew ZbS ?_ (.inl ⟨s.dr,W,rfl,λk _=>xr k,(λi o _ h=>absurd (h.symm.trans (xr _)) ZbH),by rw[xN];exact hI,by rw[xN,yg];exact ye.bare,(λi o d r _ _ _ h=>absurd (h.symm.trans (xr _)) ZbH),(λp xa=>ye.fr _ _ (xW p xa))⟩))
 .intro xc a' w1 i xf hI K
  rcases hI with⟨s1,xA,rfl,xU,yb,xZ,xe⟩ | ⟨t,htm,htl,hIm,hall,hnone,hrest⟩
  rotate_left
  .have xf:xc.size=L.length:=by simpa using xf
   obtain⟨_,o,U,_⟩:=mem_ready.1 K;have U:L[i]? = some o:=by simpa using U
   have xO:=(Yae.1 U).1;obtain⟨xq,xo⟩:=(DC xf U).1 K
   have xx:t<=i:=by
    rcases YaG i t with h | h
    .rw [hall i h]at xq;cases xq
    .exact h
   have yD:i=t:=by
    rcases Nat.lt_or_eq_of_le xx with h | h
    .have B:=xo _ (yw i o ZbD U)
     rw[hnone (i-1) ZbD]at B;cases B
    .exact h.symm
   subst yD
   have yz:L.drop i=o::L.drop (i+1):=by
    rw[Ycn xO];congr 1;have:=Yac xO;rw[U]at this;exact(Yag this).symm
   rw[yz]at hrest
   have yn:wpOp P L.toArray (GG s0 n vk) i (λxI xs=>wpList P L.toArray (GG s0 n vk) (L.drop (i+1)) xI xs) a' w1:=by
    unfold wpOp;rw[show L.toArray[i]? = some o by simpa using U];exact hrest
   refine wpOp_mono (λxI xs h=>.inr ⟨i+1,by omega,by omega,hIm,λk E=>?_,λk E=>?_,h⟩) yn
   .by_cases e:k=i
    .subst e;simp[show k<xc.size by omega]
    .rw [getD_set_ne false (λe'=>e e'.symm)]
     exact hall k ZbD
   .rw [getD_set_ne false ZbD]
    exact hnone k ZbD
  have xf:xc.size=L.length:=by simpa using xf
  obtain⟨_,o,U,_⟩:=mem_ready.1 K;have U:L[i]? = some o:=by simpa using U
  obtain⟨xq,xo⟩:=(DC xf U).1 K
  have yp:∀(i:Nat),i<L.length->∀k,(xc.setIfInBounds i true).getD k false=true↔k=i\/xc.getD k false=true:=λi K k=>by
   by_cases E:k=i
   .subst E;simp[show k<xc.size by omega]
   .exact ZaV
  have yy:∀i' o',L[i']? = some o'->(xc.setIfInBounds i true).getD i' false=true->∀e∈Bz o',(xc.setIfInBounds i true).getD e false=true:=λi' o' xk J e' xv=>by
   have xO:=(Yae.1 U).1;rw[yp i xO]at J ⊢;rcases J with rfl | J
   .obtain rfl:o'=o:=Yag (xk.symm.trans U)
    exact .inr (xo e' xv)
   .exact .inr (yb i' o' xk J e' xv)
  have yK:i<=m:=by
   rcases YaG m i with h | h
   .have B:=xo _ (yw i o h U)
    rw[xU (i-1) ZbD]at B;cases B
   .exact h
  by_cases yr:i=m
  .subst yr
   have xX:=LH (L:=L) (f:=λk=>xc.getD k false) xL.1 yb (λk E o' xk e Y=>by
    obtain rfl:k=i:=by simpa using E
    obtain rfl:o'=o:=Yag (xk.symm.trans U);exact xo e Y)
   have ya:∀k,k<i->xc.getD k false=true:=λk E=>xX k (by simpa using Yaj.1 xL.2 k (YaZ.2 E));have xb:=xe.st;have yi:(λk=>xc.getD k false)=(Nat.blt · i):=blt_eq i ya xU;rw[yi]at xb xZ;have yv:=xe.hq;rw[yi]at yv
   have yF:St s0 n ⟨F,M (Nat.blt · i)⟩ a' s1.w:=⟨s1,xA,rfl,xb.le,xb.ok,λt av N=>by
    rw[show(⟨F,M (Nat.blt · i)⟩:AS).hp.length=H.length from xV _];rcases XZ (Fe (hF.mem _ (Fe N)))with h | ⟨i',o',B,C,h3⟩
    .exact xe.hb _ h
    .exact yv i' o' t av B h3 C (ya i' (by have:=(Yae.1 B).1;omega)),xb.sz,xb.df,xb.hp,xb.sep,xb.own⟩
   have xO:=(Yae.1 U).1
   have yA:L.drop i=o::L.drop (i+1):=by
    rw[Ycn xO];congr 1;have:=Yac xO;rw[U]at this;exact(Yag this).symm
   have xn:=(fin xZ).run a' s1.w yF;rw[yA]at xn
   have yn:wpOp P L.toArray (GG s0 n vk) i (λxI xs=>wpList P L.toArray (GG s0 n vk) (L.drop (i+1)) xI xs) a' s1.w:=by
    unfold wpOp;rw[show L.toArray[i]? = some o by simpa using U];exact xn
   refine wpOp_mono (λxI xs h=>.inr ⟨i+1,by omega,by omega,xZ,λk E=>?_,λk E=>?_,h⟩) yn
   .rw [yp i ZbD]
    rcases YaG k i with h | h
    .exact .inr (ya k h)
    .exact .inl ZbD
   .rw [getD_set_ne false ZbD]
    exact xU k ZbD
  have yC:i<m:=by omega
  have yd:(L.take m)[i]? = some o:=by rw[YaJ,Yan yC];exact U
  obtain⟨e,r,d,Y,X,ck⟩:=xy i o yd;have xO:i<xc.size:=by rw[xf];exact(Yae.1 U).1
  have xz:=steps i o e r yd Y X;have xF:L.toArray[i]? = some o:=by simpa using U
  have xG:d<a'.tmps.size:=by rw[xe.st.sz];exact ck.dn
  have xw:∀k,(xc.setIfInBounds i true).getD k false=true↔k=i\/xc.getD k false=true:=λk=>by
   by_cases E:k=i
   .subst E;simp[xO]
   .exact ZaV
  have xi:∀i' o' d',(L.take m)[i']? = some o'->o'.dst=some d'->xc.getD i' false=true->d'≠d:=λi' o' d' xk xm J e'=>by
   subst e';have:=ck.du i' o' xk xm;subst this;rw[xq]at J;cases J
  have yk:∀p∈xg,p.1≠d:=λp xa e'=>xt p xa o (YaE yd) (by rw[e'];exact ck.dst)
  have yj:∀(R:Act->World->Prop),o.wp P a' s1.w (λxI xs=>R xI xs) (GG s0 n vk)->wpOp P L.toArray (GG s0 n vk) i (λxI xs=>R xI xs) a' s1.w:=λR h=>by
   unfold wpOp;rw[xF];show if Region.wanted o (yielded L.toArray a'.tmps)=true then _ else _
   exact ZiO
  have xM:∀y,PE (L.take m) e y=true->AVr H.length xA s1 (DZ ⟨xg,M (λk=>xc.getD k false)⟩ ((IQ (λk=>xc.getD k false) xl 0 ks).map HR.av) e y) (a'.eval y):=λy Q=>by
   cases y with
   |tmp t=>
    show AVr _ xA s1 (match e.find? (λp=>p.1==t)with
     |some p=>match ((IQ (λk=>xc.getD k false) xl 0 ks).map HR.av)[p.2]? with
      |some h=>h.val
      |none=>.d CD
     |none=>(Ch xg t).getD (.d CD)) (a'.tmps.getD t undef)
    cases yh:e.find? (λp=>p.1==t)with
    |some p=>
     have xa:p∈e:=Ybl yh;have xE:p.1=t:=by simpa using YcE yh
     simp only;rw[Yax]
     cases xP:(IQ (λk=>xc.getD k false) xl 0 ks)[p.2]? with
     |none=>trivial
     |some r'=>
      obtain⟨xH,o',xk,xm⟩:=ck.env p xa;have:=xe.hq p.2 o' p.1 r' xk xm xP (xo _ xH);rwa [xE]at this
    |none=>
     simp only
     cases J:Ch xg t with
     |none=>trivial
     |some av=>exact xe.hb (t,av) (Fe J)
   |const v=>exact ZjZ
   |global A=>trivial
   |func f=>exact Zka
  have yG:(λk=>xc.getD k false) i=false:=xq
  have yi:(λk=>(xc.setIfInBounds i true).getD k false)=HC (λk=>xc.getD k false) i:=funext λk=>by
   unfold HC
   cases G:Nat.beq k i with
   |true=>rw[Yao G];exact(xw i).2 (.inl rfl)
   |false=>exact getD_set_ne false (λe=>YaI G e.symm)
  generalize yB:(λk=>xc.getD k false)=f at *;have xS:∀k,xc.getD k false=f k:=λk=>by rw[<-yB]
  have yx:Can L f i o:=⟨yG,λk E=>by rw[<-xS];exact xo k E,λj o' xk S k E=>by rw[<-xS]at S ⊢;exact yb j o' xk S k E⟩
  have ym:∀k,HC f i k=false->f k=false:=λk E=>by
   cases G:f k with
   |false=>rfl
   |true=>unfold HC at E;rw[G,Bool.or_true]at E;cases E
  generalize yE:(xl.filter λq=>HC f i q.2).map (·.1)=yf
  have yl:∀j,j∉yf↔∀q∈xl,q.1=j->HC f i q.2=false:=λj=>by
   rw[<-yE];refine⟨λh q T e=>?_,λh hm=>?_⟩
   .cases G:HC f i q.2 with
    |false=>rfl
    |true=>exact absurd (YaA.2 ⟨q,YdX.2 ⟨T,G⟩,e⟩) h
   .obtain ⟨q,T,e⟩:=YaA.1 hm
    obtain⟨T,G⟩:=YdX.1 T;rw[h q T e]at G;cases G
  have yu:∀p∈IA (L.take m) (ckK yf ks) xg xc,((∃j,f j=true/\(∀q∈xl,q.1=j->HC f i q.2=false)/\ks[j]? = some p.2)\/p∈xg)/\AVr H.length xA s1 p.2 (a'.tmps.getD p.1 undef):=λp xa=>by
   rcases Ek.1 xa with⟨i',o',g1,g2,g3,g4⟩ | g
   .obtain ⟨g5,g6⟩:=A2c.1 g2
    have g7:=(yl i').1 g5;rw[xS]at g4;exact⟨.inl ⟨i',g4,g7,g6⟩,xe.hq i' o' p.1 p.2 g1 g3 (by rw[LC λq T e=>ym _ (g7 q T e)];exact g6) g4⟩
   .exact ⟨.inr g,xe.hb _ g⟩
  have yo:StI s0 n ⟨IA (L.take m) (ckK yf ks) xg xc,M f⟩ a' s1 xA:=⟨xe.st.le,xe.st.ok,λt av N=>by
   rw[show(⟨IA (L.take m) (ckK yf ks) xg xc,M f⟩:AS).hp.length=H.length from xV _];exact(yu (t,av) (Fe N)).2,xe.st.sz,xe.st.df,xe.st.hp,xe.st.sep,xe.st.own⟩
  refine yj _ (xz ck.ns f yx xZ _ (λp xa=>(yu p xa).1) s1 xA a' yo (λy Q=>by rw[xV];exact xM y (ck.kq y Q)) _ λv u xD xu xp h6=>?_);rw[xV]at h6
  have xK:∀(p:Nat×AV),p∈IA (L.take m) (ckK yf ks) xg xc->AVr H.length xD u p.2 (a'.tmps.getD p.1 undef):=λp xa=>by
   have:=xp.fr p.1 p.2 (OQ xa λq T Z=>by
    rcases Ek.1 xa with⟨i1,o1,g1,g2,g3,g4⟩ | g<;>rcases Ek.1 T with⟨i2,o2,k1,k2,k3,k4⟩ | k0
    .rw [Z]at k3
     obtain⟨_,_,d3,_,_,xR⟩:=xy i1 o1 g1;obtain rfl:d3=p.1:=Yag (xR.dst.symm.trans g3);obtain rfl:=xR.du i2 o2 k1 k3;rw[g2]at k2;have:=Yag k2;exact ZiL
    .exact absurd (g3.trans (congrArg some Z.symm)) (xt q k0 o1 (YaE g1))
    .exact absurd (k3.trans (congrArg some Z)) (xt p g o2 (YaE k1))
    .have B:=xW p g
     have C:=xW q k0;rw[Z,B]at C;exact Prod.ext Z (Yag C).symm)
   rwa [show(⟨IA (L.take m) (ckK yf ks) xg xc,M (HC f i)⟩:AS).hp.length=H.length from xV _]at this
  refine .inl ⟨u,xD,rfl,λk E=>by rw[getD_set_ne false ZbD];exact xU k E,yy,by rw[yi];exact xu,?_⟩;rw[yi];have B:=xp.put (GS.Le.refl u) (dst:=o.dst) (λd' xm=>by rw[ck.dst]at xm;cases xm;exact ck.dn) (v:=v) (r:=.d CD) trivial;rw[ck.dst]at B ⊢;refine⟨B.bare,λi' o' d' r' xk xm xC J=>?_,λp xa=>?_⟩
  .by_cases yq:i'=i
   .subst yq
    obtain rfl:o'=o:=Yag (xk.symm.trans yd);obtain rfl:d'=d:=Yag (xm.symm.trans ck.dst);rw[KM xG];rw[Na,X]at xC;have xC:=Yag xC;rw[<-xC]
    cases xl.any (λp=>Nat.beq p.1 (0+i')&&HC f i' p.2)with
    |true=>trivial
    |false=>exact h6
   .have yc:f i'=true:=by
     unfold HC at J
     cases G:Nat.beq i' i with
     |true=>exact absurd (Yao G) yq
     |false=>rw[G]at J;exact J
    have xj:xc.getD i' false=true:=by rw[xS];exact yc
    rw[Gy (xi i' o' d' xk xm xj)];rcases ZC xC with e' | ⟨g1,g2⟩
    .rw [e'];trivial
    .exact xK (d',r') (Ek.2 (.inl ⟨i',o',xk,A2c.2 ⟨(yl i').2 g1,g2⟩,xm,xj⟩))
  .rw [Gy (yk p xa)]
   exact xK p (Ek.2 (.inr xa))
 .intro xc a' w1 xf hI c
  have xf:xc.size=L.length:=by simpa using xf
  have ya:∀i,i<m->xc.getD i false=true:=by
   intro i
   induction i using Nat.strongRecOn with
   |_ i ih=>
    intro K;have U:L[i]? = some (L[i]'(ZbD)):=Yac ZbD;have yd:(L.take m)[i]? = some (L[i]'(ZbD)):=by rw[YaJ,Yan K];exact U
    obtain⟨e,r,d,Y,X,ck⟩:=xy i _ yd
    cases hg:xc.getD i false with
    |true=>rfl
    |false=>
     have:i∈Region.ready .any L.toArray xc:=(DC xf U).2 ⟨hg,λk E=>ih k (ck.lt k E) (by have:=ck.lt k E;omega)⟩;rw[c]at this;cases this
  rcases hI with⟨s1,xA,rfl,xU,_,xZ,_⟩ | ⟨t,htm,htl,hIm,hall,hnone,hrest⟩
  .have U:L[m]? = some (L[m]'(ZbD)):=Yac ZbD
   have:m∈Region.ready .any L.toArray xc:=(DC xf U).2 ⟨xU m (Yah _),λk E=>ya k (ys (by rw[show(Nat.blt · m)=(λk=>xc.getD k false)from(blt_eq m ya xU).symm];exact xZ) m _ (Yah _) U k E)⟩;rw[c]at this;cases this
  .rcases Nat.lt_or_eq_of_le htl with h | h
   .have U:L[t]? = some (L[t]'h):=Yac h
    have:t∈Region.ready .any L.toArray xc:=(DC xf U).2 ⟨hnone t (Yah _),λk E=>hall k (ys hIm t _ htm U k E)⟩;rw[c]at this;cases this
   .rw [h,List.drop_length]at hrest
    exact hrest
 .rw [Array.count_replicate]
  simp
theorem DSteps.imp{P:Program}{v:List (Nat×AV)}{G:List Ow}{id:Nat}{V E:Ow}{J:List AV}{c:Nat}{C I:List (Nat×Nat)->Oper->AV->Prop}(h:∀x o r,C x o r->I x o r):∀{L:List Oper} {S:List (List (Nat×Nat))} {R:List AV} {j:Nat},DSteps P v G id V E J c C j L S R->DSteps P v G id V E J c I j L S R
 |[],[],[],_,_=>trivial
 |[],[],_::_,_,h=>h.elim
 |[],_::_,R,_,h=>by cases R<;>exact h.elim
 |_::_,[],R,_,h=>by cases R<;>exact h.elim
 |_::_,_::_,[],_,h=>h.elim
 |w::L,N::S,l::R,j,⟨A,B⟩=>⟨by
  cases F:Nat.beq j c with
  |true=>rw[F]at A;exact h _ _ _ A
  |false=>rw[F]at A;exact A,DSteps.imp h B⟩
def DTW(P:Program)(s0:An)(n:Nat)(Q:Exit->AS->Prop)(E:Prop)(A:List (Nat×AV))(G:List Ow)(id:Nat)(V C:Ow)(J:List AV)(B:List Nat)(c:Nat)(m:List (Nat×Nat))(o:Oper)(r:AV):Prop:=BN o.op=true->∀F:List (Nat×AV),(∀p∈F,(∃i,i≠c/\i∉B/\J[i]? = some p.2)\/p∈A)->∀(s:GS) (W:Nat->Value) (a:Act),StI s0 n ⟨F,EV G id V C false⟩ a s W->(∀y∈o.op.operands,AVr G.length W s (DZ ⟨A,EV G id V C false⟩ (J.map HR.av) m y) (a.eval y))->∀R:Act->World->Prop,(∀v j z,E->StI s0 n ⟨F,EV G id V C true⟩ a j z->AVr G.length z j r v->R (a.put o.dst v) j.w)->o.wp P a s.w R (GG s0 n Q)
theorem Tx{c:Nat}{f:Nat->Bool}(t:f c=true){R:List Nat}:∀{i:Nat} {J:List AV},IQ f (R.map λj=>(j,c)) i J=ZD R i J
 |_,[]=>rfl
 |i,r::J=>by
  have e:(R.map λj=>(j,c)).any (λp=>Nat.beq p.1 i&&f p.2)=R.any (Nat.beq i):=by
   rw[List.any_map,YcP,Yci,Yci];simp only[Function.comp,t,Bool.and_true];exact⟨λ⟨x,A,B⟩=>⟨x,A,by rw[Yao B];exact YcQ i⟩,λ⟨x,A,B⟩=>⟨x,A,by rw[Yao B];exact YcQ x⟩⟩
  unfold IQ ZD;rw[e,Tx t]
theorem A1x{f:Nat->Bool}(h:∀q∈vv,f q.2=false):IQ f vv 0 i=i:=Ycb λj=>LC λq l _=>h q l
theorem A5X{f:Nat->Bool}{x:List (Nat×Nat)}(h:∀p∈x,∀q∈vv,q.1≠p.2):DZ ve ((IQ f vv 0 i).map HR.av) x=DZ ve (i.map HR.av) x:=funext λy=>by
 cases y with
 |tmp t=>
  show(match x.find? (λp=>p.1==t)with
   |some p=>match ((IQ f vv 0 i).map HR.av)[p.2]? with
    |some h=>h.val
    |none=>.d CD
   |none=>(Ch ve.fr t).getD (.d CD))=(match x.find? (λp=>p.1==t)with
   |some p=>match (i.map HR.av)[p.2]? with
    |some h=>h.val
    |none=>.d CD
   |none=>(Ch ve.fr t).getD (.d CD))
  cases E:x.find? (λp=>p.1==t)with
  |none=>rfl
  |some p=>
   dsimp only
   rw[Yax,Yax,LC λq l e=>absurd e (h p (Ybl E) q l)]
 |_=>rfl
theorem LD(f:Nat->Bool)(i:Nat):HC f i i=true:=by
 unfold HC;rw[YcQ];rfl
theorem Nd{f:Nat->Bool}(h:n≠b):HC f n b=f b:=by
 unfold HC
 cases F:Nat.beq b n with
 |true=>exact absurd (Yao F).symm h
 |false=>rfl
theorem MX{E:Prop}{s0:An}(id:Nat)(o0 o1:Ow)(c m:Nat)(xe xb:List Nat)(g:List AV)(K:List (List (Nat×Nat)))(U F:List (Nat×AV))(S:DrawOk P s0 n b vY vf vk vk)(xd:H[id]? = some o0)(xi:FrIn vc U)(xc:Nat.blt c m=true)(y:Nat.blt m vf.length=true)(xl:E->((List.range (vf.length-m)).all λt=>(match vf[m+t]? with | some o=>Bz o | none=>[]).all λk=>decide (k<m+t))=true)(xm:((List.range (vf.length-m-1)).all λt=>(match vf[m+t+1]? with | some o=>Bz o | none=>[]).contains (m+t))=true)(xj:(Mt vf [m] xe&&(List.range m).all λj=>xe.contains j)=true)
  (steps:DSteps P U H id o0 o1 g c (DTW P s0 n vk E U H id o0 o1 g xb c) 0 (vf.take m) K g) (d:YB (vf.take m) K g U n=true) (xg:(K.zipIdx.all λp=>Nat.beq p.2 c||p.1.all λq=>!xb.contains q.2)=true) (hF:FrIn (Qe (vf.take m) (ZD xb 0 g) U) F) (M:List Ow) (hM:EV H id o0 o1 true=M) (fin:E->AWl P s0 n vf.toArray vk (vf.drop m) ⟨F,M⟩):AWp P s0 n (.region b vY true) vk ⟨vc,H⟩:=by
 subst hM;have xk:Nat.blt c m=true:=xc
 refine UI (fun f => f c = true → E) m xe (fun f => EV H id o0 o1 (f c)) (xb.map fun j => (j, c)) g K U F S xi y (fun h => by cases h) (A4F xd) (fun f => Jc H id o0 o1 _) (fun h => xl (h xk)) xm xj (fun i o x r Q C X => ?_) d (by rw [Tx (f := fun k => Nat.blt k m) xk]; exact hF) (fun h => by
  have:=fin (h xk);rw[<-xk]at this;exact this)
 have Y:=steps.at i o x r Q C X;rw[YaH]at Y;by_cases xh:i=c
 .subst xh
  rw[YcQ]at Y;intro xf f I w F' xn s W a T N R Z;have Y:DTW P s0 n vk E U H id o0 o1 g xb i x o r:=Y
  have u:IQ f (xb.map λj=>(j,i)) 0 g=g:=A1x λq l=>by
   obtain⟨j,_,rfl⟩:=YaA.1 l;exact I.no
  dsimp only at T N Z
  rw[I.no]at T;rw[u,I.no,Jc]at N;rw[LD,I.no,Jc]at Z
  exact Y xf F' (fun p z => (xn p z).imp (fun ⟨j, A, B, L⟩ => ⟨j, (fun e => by rw [e, I.no] at A; cases A), (fun S => by
   have:=B (j,i) (YaA.2 ⟨j,S,rfl⟩) rfl;rw[LD]at this;cases this),L⟩) λh=>h) s W a T N R λv J xa V A B=>Z v J xa (λ_=>V) A B
 .rw [show Nat.beq i c=false from Yet.2 λh=>xh (Yao h)]at Y
  have Y:A2o P U H id o0 o1 g x o r:=Y;refine XStep.q (λf _ h=>by rwa [Nd xh]) (λf=>by rw[Nd xh]) λf _=>?_;rw[A5X λp z q l=>?_]
  .exact Y (f c)
  .obtain ⟨j,G,rfl⟩:=YaA.1 l
   intro e;have O:=Yaj.1 xg (x,i) (by rw[Ycd];exact C);simp only[Ybg]at O;rcases O with O | O
   .exact xh (Yao O)
   .have:=Yaj.1 O p z
    replace e:j=p.2:=e;rw[e]at G;simp[G]at this
theorem FJ{s0:An}(id:Nat)(V O:Ow)(c m:Nat)(Z R:List Nat)(K:List AV)(E:List (List (Nat×Nat)))(N F:List (Nat×AV))(x:P.follows .mixedOrders=true)(X:H[id]? = some V)(d:FrIn vc N)(S:Nat.blt c m=true)(L:Nat.blt m vf.length=true)(f:((List.range (vf.length-m)).all λt=>(match vf[m+t]? with | some o=>Bz o | none=>[]).all λk=>decide (k<m+t))=true)(g:((List.range (vf.length-m-1)).all λt=>(match vf[m+t+1]? with | some o=>Bz o | none=>[]).contains (m+t))=true)(e:(Mt vf [m] Z&&(List.range m).all λj=>Z.contains j)=true)
  (steps:DSteps P N H id V O K c (DTurn P s0 n N H id V O K R c) 0 (vf.take m) E K) (J:YB (vf.take m) E K N n=true) (l:(E.zipIdx.all λp=>Nat.beq p.2 c||p.1.all λq=>!R.contains q.2)=true) (hF:FrIn (Qe (vf.take m) (ZD R 0 K) N) F) (M:List Ow) (Q:EV H id V O true=M) (fin:AWl P s0 n vf.toArray vk (vf.drop m) ⟨F,M⟩):AWp P s0 n (.region b vf.toArray true) vk ⟨vc,H⟩:=MX (E:=True) id V O c m Z R K E N F (HM x) X d S L (λ_=>f) g e (steps.imp λ_ _ _ h T F hF s W a Y G _ I=>RegG.opStep_wp T (λ_ _=>rfl) (h F hF s W a Y G) λv C ⟨z,A,B⟩=>I v C z trivial A B) J l hF M Q λ_=>fin
theorem WR:∀(i:Nat) (J:List AV),ZD [] i J=J
 |_,[]=>rfl
 |i,r::J=>by
  unfold ZD;rw[WR];rfl
theorem Con.toP{ch:List PanicEntry}(h:Con P vd i H [] vy):ConP P vd i H vy ch False:=⟨h.1,λs W K A B L S n=>Calls.mono (h.2 s W K A B L S n) λ_ _ ⟨v,e,r⟩=>.inl ⟨v,e,r⟩⟩
theorem Zp{s0:An}{E:Prop}{r:AV}{ch:List PanicEntry}(c:H[b]? = some vs)(xh:(∀e,vs.ren e=vs)/\(∀e,uE.ren e=uE)/\vs.below 1)(L:va.op=.call { callee:=.value (.func vd),args:=#[x],argTypes:=vt })(xq:∀A,DZ ⟨vc,EV H b vs uE A⟩ (i.map HR.av) vv x=.ptr b 0)(xo:ConP P vd [.ptr 0 0] [vs] vy ch xe)(xs:∀O z,vy O z->E/\O=r/\z=[uE]/\∃d,r=.d d)(xn:xe->∀G,vk (.panic ch) G):DTW P s0 n vk E vc H b vs uE i [] T vv va r:=λt F hF U s X xg xj R K=>by
 have f:b<H.length:=Cy c;have xl:∀A,(EV H b vs uE A).length=H.length:=Jc H b vs uE;have xi:(EV H b vs uE false)[b]? = some vs:=by simp[EV,f]
 have B:=xj x (by rw[L];simp[Op.operands,Call.operands]);rw[xq false]at B;obtain⟨_,bb,xa,xb⟩:=B;let mm:=(EV H b vs uE false).length;let xm:Nat->Value:=λq=>s (BO [b] mm q);have xc:OwR 0 (EV H b vs uE false).length s U b vs:=xg.hp b vs xi
 have xr:=xo.2 U xm [X.eval x] xg.ok (λq w l=>by
  cases q with
  |zero=>
   cases l;exact OwR.un (e:=BO [b] mm) (by rw[xh.1];exact xc) xh.2.2 YdB λ_ _=>rfl
  |succ q=>cases l) (λp q uE m xp xk a=>by
  have:=Cy xk;have:=Cy a;simp only[Yda]at *;omega) rfl (λq M l=>by
  match q,l with
  |0,l=>cases l;exact⟨YdB,bb,xa,xb⟩
  |q+1,l=>simp at l)
 have W:(execOp X.eval va).run P U.w=.ok (.enter vd #[X.eval x]) U.w:=by
  have Z:X.eval (.func vd)=.func (.func vd) #[] #[]:=rfl;simp[execOp,L,resolve,Z,Deferred.ofValue,invoke,xo.1]
 unfold Oper.wp;rw[W];refine Calls.mono xr λe N h=>?_;rcases h with⟨v,rfl,j,Q,O,z,I,J,g,y⟩ | ⟨rfl,hN,j,rfl,g⟩
 .obtain ⟨V,rfl,rfl,d,rfl⟩:=xs _ _ I
  subst J;obtain⟨xd,o,-⟩:=StI.con (sel:=[b]) (lost:=[]) (hpS:=[vs]) (hp':=[uE]) (H1:=(EV H b vs uE false).set b uE) ⟨λp z=>AV.avoid_nil _,λY w xf S=>Ow.avoid_nil _⟩ (λk C=>by cases C) xg ZbS ⟨by rw[xh.1];exact xi,xh.2.2,trivial⟩ y (by show(EV H b vs uE false).set b (uE.ren _)=_;rw[xh.2.1]);have u:(EV H b vs uE false).set b uE=EV H b vs uE true:=by simp[EV]
  simp only[Yda,Ybp,List.drop_nil,YaU,Ycs,YbD,u]at o;exact K v j xd V o g
 .obtain ⟨xd, o, -⟩:=StI.con (sel:=[b]) (lost:=[]) (hpS:=[vs]) (hp':=[.dead]) (H1:=(EV H b vs uE false).set b .dead) ⟨λp z=>AV.avoid_nil _, λY w xf S=>Ow.avoid_nil _⟩ (λk C=>by cases C) xg ZbS ⟨by rw [xh.1]; exact xi, xh.2.2, trivial⟩ g rfl
  exact⟨_,xn hN _,j,xd,rfl,o⟩
theorem MZ{s0:An}(id:Nat)(V I:Ow)(c m:Nat)(Q:List Nat)(J:List AV)(A:List (List (Nat×Nat)))(v F:List (Nat×AV))(B:P.follows .mixedOrders=true)(N:H[id]? = some V)(R:(∀e,V.ren e=V)/\(∀e,I.ren e=I)/\V.below 1)(S:FrIn vc v)(L:Nat.blt c m=true)(p:Nat.beq vf.length (m+1)=true)(W:((match vf[m]? with | some o=>Bz o | none=>[]).all λk=>decide (k<m))=true)(T:(Mt vf [m] Q&&(List.range m).all λj=>Q.contains j)=true)
  (steps:DSteps P v H id V I J c (DCall P v H id V I J) 0 (vf.take m) A J) (C:YB (vf.take m) A J v n=true) (hF:FrIn (Qe (vf.take m) J v) F) (M:List Ow) (K:EV H id V I true=M) (fin:AWl P s0 n vf.toArray vk (vf.drop m) ⟨F,M⟩):AWp P s0 n (.region b vf.toArray true) vk ⟨vc,H⟩:=MX (E:=True) id V I c m Q [] J A v F (HM B) N S L ZeS (λ_=>by rw[Yao p,show m+1-m=1 by omega];simpa using W) Zey T (steps.imp λ_ _ _ ⟨f,x,O,d,G,X,Z,Y⟩=>Zp (ch:=[]) N R G Z Y.toP (λE z h=>⟨trivial,h.1.trans X.symm,h.2,d,X⟩) λh=>h.elim) C ZbS (by rw[WR];exact hF) M K λ_=>fin
theorem MY{s0:An}(id:Nat)(V:Ow)(c m:Nat)(L:List Nat)(J:List AV)(A:List (List (Nat×Nat)))(v:List (Nat×AV))(B:P.follows .mixedOrders=true)(I:H[id]? = some V)(X:(∀e,V.ren e=V)/\V.below 1)(M:FrIn vc v)(E:Nat.blt c m=true)(p:Nat.beq vf.length (m+1)=true)(T:(Mt vf [m] L&&(List.range m).all λj=>L.contains j)=true)
  (steps:DSteps P v H id V V J c (DCallP P v H id V J vy vT vG) 0 (vf.take m) A J) (F:YB (vf.take m) A J v n=true) (R:∀r z,¬vy r z) (N:vG->∀d,vk (.panic vT) d):AWp P s0 n (.region b vf.toArray true) vk ⟨vc,H⟩:=MX (E:=False) id V V c m L [] J A v [] (HM B) I M E ZeS (λh=>h.elim) Zey T (steps.imp λ_ _ _ ⟨f,x,K,G,Q,O⟩=>Zp I ⟨X.1,X.1,X.2⟩ G Q O (λC z h=>absurd h (R _ _)) N) F ZbS trivial _ rfl λh=>h.elim
end
