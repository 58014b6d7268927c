/- Part 5 of the proof of claimAnswers_holds. No condition. -/
import Derived.Test.YtcikkglcoeedlaaGreatCa4
set_option linter.unusedSimpArgs false
set_option linter.unusedVariables false
set_option maxRecDepth 100000
namespace Go.Proofs.YtcikkglcoeedlaaGreat
variable{vl uf:List (List D)}{vX:List (Nat×Operand)}{c:List D}{n b T m a k g vk:Nat}{x y vN:Operand}{d:TypeDesc}{t U:TypeId}{z v:Value}
section
open Go.RowKit
def flD(T:TypeId)(k:Nat)(y:List (List D)):D:=⟨λs v=>(slD T k y).rel s v/\∃A,v=.slice A y.length y.length,λh I=>⟨(slD T k y).st h.1 I,h.2⟩⟩
section
variable {P:Program} {hp:List Ow} {o:Oper} {arg:Operand->AV}
theorem Tz(S:o.op=.slice t x none (some y) (some vN))(G:GG hp (arg x)=some (slD k g vl))(J:Tab P t (.slice n) b T z)(X:Tab P n d m a v)(V:m=g)(O:arg y=.d (ex (.int .i64 (vk:Nat))))(q:arg vN=.d (ex (.int .i64 (vk:Nat))))(e:vk<=vl.length):Quiet P hp o arg (.d (flD k g (vl.take vk))):=by
 refine⟨λbase s W N H l Z h=>?_⟩;obtain⟨A,c,K,C,E,L⟩:=DN Z (h x ZdP) G;subst V
 have i:N y=.int .i64 (vk:Nat):=by
  have:=h y ZdP;rw[O]at this;exact this
 have u:N vN=.int .i64 (vk:Nat):=by
  have:=h vN ZdP;rw[q]at this;exact this
 have r:(vk:Int)<=c:=by omega
 have I:(Instr.sliceBounds true vl.length c none (some (.int .i64 (vk:Nat))) (some (.int .i64 (vk:Nat)))).run P s.w=.ok (0,vk,vk) s.w:=by
  simp[Instr.sliceBounds,Instr.sliceBound,asIntOf,r]
 have f:(execOp N o).run P s.w=.ok (.value (.slice (if vk=0 then A else A.map (·.add (0*m))) (vk-0) (vk-0))) s.w:=by
  simp only[execOp,S,i,u,K,Option.map_none,Option.map_some,Instr.sliceAt,Sem.run_bind,run_underlying J.und,Result.andThen_ok,Instr.slice,I,X.run_size,Sem.run_pure]
 have Y:(vl.take vk).length=vk:=Zhz
 have j:∀M p,A=some ⟨M,p,none⟩->(if vk=0 then A else A.map (·.add (0*m)))=some ⟨M,p,none⟩:=λM p n=>by
  rw[n];split<;>simp[Addr.add_lit]
 refine BO f ⟨GS.Le.refl s,⟨_,vk-0,by rw[Y];rfl,by rw[Y];exact Nat.le_refl _,by omega,λhp=>?_⟩,⟨_,by rw[Y];rfl⟩⟩;rw[Y]at hp;obtain⟨M,p,R,Q⟩:=L ZbK;refine⟨M,p,j M p R,λB F=>?_⟩;rw[Y]at F;rw[MD F];exact Q B ZbK
theorem XC(t:o.op=.call { callee:=.builtin .append,args:=#[x,y],argTypes:=#[n,n] })(I:arg x=.d (flD b m vl))(Q:GG hp (arg y)=some (slD T m uf))(K:Tab P n (.slice b) k g v)(hT:Tab P b d m a z)(xr:z.cells.size=m)(xj:(vl.length+uf.length)*a<=140737488355328)(xp:vl.length+uf.length<=4611686018427387904):Quiet P hp o arg (.d (slD b m (vl++uf))):=by
 refine⟨λbase s W f H xh xd h=>?_⟩;have xn:=h x ZeQ;rw[I]at xn;obtain⟨⟨A,c,X,E,F,M⟩,⟨A',xB⟩⟩:=xn;obtain⟨B,c',l,h7,h8,h9⟩:=DN xd (h y ZeQ) Q;rw[X]at xB;simp only[Value.slice.injEq]at xB;obtain⟨_,_,rfl⟩:=xB;obtain⟨i,N,r,xt,xu⟩:=hT.info
 have xy:∀U O,(Builtin.append_ #[n,n] o.type #[f x,f y]).run P s.w=.ok U O->(execOp f o).run P s.w=.ok (.value U) O:=λU O V=>by
  simp only[execOp,t,resolve,invoke,builtin,Sem.run_bind,Sem.run_pure,Result.andThen_ok,List.map_toArray,List.map_cons,List.map_nil,V]
 rcases Nat.eq_zero_or_pos uf.length with Z | Z
 .obtain rfl:uf=[]:=List.eq_nil_of_length_eq_zero Z
  have V:(Builtin.append_ #[n,n] o.type #[f x,f y]).run P s.w=.ok (f x) s.w:=by
   rw[l,X]
   cases B with
   |none=>exact run_append_nothing s.w _ _ _ _ i K.und N _ _ _ (Nat.le_refl _) _ (Src.ofNil s.w K.und c')
   |some ad=>exact run_append_nothing s.w _ _ _ _ i K.und N _ _ _ (Nat.le_refl _) _ (Src.ofSlice s.w K.und _ _ _ [] ZbV ZbV ZbV)
  refine BO (xy _ _ V) ⟨GS.Le.refl s,?_⟩;rw[List.append_nil];exact⟨A,_,X,E,F,M⟩
 .obtain ⟨Y,p,rfl,xc⟩:=h9 Z
  obtain⟨xg,n1,n2,n3,n4⟩:=Ou xc;have xw:∀j u,xg[j]? = some u->s.w.cell? ((⟨Y,p,none⟩:Addr).add j)=some u:=λj u e=>by rw[Addr.add_lit];exact n2 j u e
  have xb:xg.length=uf.length*i.size:=by rw[n1,xt]
  subst xu
  obtain⟨xs,x1,x4,x5⟩:∃xs:List Value,xs.length=vl.length*m/\(∀C j,C<vl.length->j<m->∃u,xs[C*m+j]? = some u/\u.oneCell'=true/\(Dd (vl.getD C []) j).rel s u)/\∃cap,vl.length+uf.length<=cap/\cap<=maxLen/\(Builtin.append_ #[n,n] o.type #[f x,f y]).run P s.w=.ok (.slice (some ⟨s.w.heap.size,0,none⟩) (vl.length+uf.length) cap) (s.w.drew.alloc (.cells (xs.toArray++xg.toArray++Builtin.zeroCells z.cells (cap-(vl.length+uf.length))) b)):=by
   have xz:vl.length+uf.length<=maxLen:=by simp only[maxLen];omega
   have grow:∀(ad:Addr) (xs:List Value),xs.length=vl.length*i.size->(∀j u,xs[j]? = some u->s.w.cell? (ad.add j)=some u)->A=some ad->(Builtin.append_ #[n,n] o.type #[f x,f y]).run P s.w=.ok (.slice (some ⟨s.w.heap.size,0,none⟩) (vl.length+uf.length) (grownCap s.w (vl.length+uf.length) vl.length b)) (s.w.drew.alloc (.cells (xs.toArray++xg.toArray++Builtin.zeroCells z.cells (grownCap s.w (vl.length+uf.length) vl.length b-(vl.length+uf.length))) b)):=λad xs xx xi hA=>by
    rw[X,l,hA];exact run_append_grow (P:=P) s.w n o.type b i z K.und N r ad vl.length vl.length xs xx xi ⟨Y,p,none⟩ uf.length c' xg xb xw ZbK ZbK (growslice_fits ZbK xj)
   rcases Nat.eq_zero_or_pos vl.length with k0 | k0
   .refine ⟨[], by rw [k0, Nat.zero_mul]; rfl, λC j G=>by omega, ?_⟩
    cases A with
    |none=>
     refine⟨grownCap s.w (vl.length+uf.length) 0 b,grownCap_ge _ _ _ _,grownCap_le_maxLen _ _ _ _ xz,?_⟩;have V:=run_append_nil (P:=P) s.w n o.type b i z K.und N r ⟨Y,p,none⟩ uf.length c' xg xb xw Z ZbK (by have J:=xj;rw[k0,Nat.zero_add]at J;omega);rw[X,l,k0];simpa using V
    |some ad=>exact⟨_,grownCap_ge _ _ _ _,grownCap_le_maxLen _ _ _ _ xz,grow ad [] (by rw[k0,Nat.zero_mul];rfl) (λj u e=>by cases e) rfl⟩
   .obtain ⟨g1,p1,rfl,xf⟩:=M k0
    obtain⟨xs,m1,m2,m3,m4⟩:=Ou xf;exact⟨xs,m1,m4,_,grownCap_ge _ _ _ _,grownCap_le_maxLen _ _ _ _ xz,grow _ xs (by rw[m1,xt]) (λj u e=>by rw[Addr.add_lit];exact m2 j u e) rfl⟩
  obtain⟨cap,xm,xl,V⟩:=x5;obtain⟨arr,xq⟩:∃arr,arr=xs.toArray++xg.toArray++Builtin.zeroCells z.cells (cap-(vl.length+uf.length)):=⟨_,rfl⟩;rw[<-xq]at V;have S:Ext s.w (s.w.drew.alloc (.cells arr b)):=(Ext.refl _).drew.alloc _;have xe:=EM (s:=s) S;have xa:(s.w.drew.alloc (.cells arr b)).heap.size=s.w.heap.size+1:=Array.size_push ..;have L:(vl++uf).length=vl.length+uf.length:=List.length_append;refine HN (xy _ _ V) (s.grown (s.w.drew.alloc (.cells arr b))) rfl ⟨xe,_,cap,by rw[L],by rw[L];exact xm,by simpa[maxLen]using xl,λ_=>⟨s.w.heap.size,0,rfl,λC G=>?_⟩⟩;rw[L]at G
  have xv:((vl++uf).getD C []).length=m/\∀j,j<m->∃u,arr[C*m+j]? = some u/\u.oneCell'=true/\(Dd ((vl++uf).getD C []) j).rel s u:=by
   have xo:∀q u,(xs++xg)[q]? = some u->arr[q]? = some u:=λq u w=>by
    have R:=(List.getElem?_eq_some_iff.1 w).1;rw[xq,Array.getElem?_append_left ZeH];simpa using w
   rw[Js];split
   .rename_i R
    have xA:(vl.getD C []).length=m:=by
     obtain⟨g1,p1,_,xf⟩:=M ZbK;exact(xf C R).1
    refine⟨xA,λj e=>?_⟩;obtain⟨u,a1,a2,a3⟩:=x4 C j R e;refine⟨u,xo _ _ ?_,a2,a3⟩;rw[List.getElem?_append_left (List.getElem?_eq_some_iff.1 a1).1];exact a1
   .rename_i xk
    refine⟨(xc (C-vl.length) ZbK).1,λj e=>?_⟩;obtain⟨u,a1,a2,a3⟩:=n4 (C-vl.length) j ZbK e;refine⟨u,xo _ _ ?_,a2,a3⟩;have e3:C*m=vl.length*m+(C-vl.length)*m:=Zhw
    rw[List.getElem?_append_right ZbK,x1,<-a1];exact Zgm
  refine⟨xv.1,arr,(0,0),heap_alloc_new s.w.drew _,λj e=>?_⟩;rw[xv.1]at e;obtain⟨u,a1,a2,a3⟩:=xv.2 j e;exact⟨.inr ⟨Nat.le_refl _,by rw[xa];omega⟩,u,by rw[Nat.zero_add];exact a1,a2,(Dd _ j).st a3 xe.chg⟩
theorem Rj{r:List (Nat×List D)}(Y:o.op=.buildSlice t n vX.toArray)(J:Tab P t (.slice U) b T z)(X:Tab P U d m a v)(Z:0<n)(M:0<m)(R:v.cells.size=m)(xj:n*m<=16777216)(A:GP v.cells.toList=true)(E:PartsA hp arg vX r)(O:FQ (λi=>some (i*m,m)) (List.replicate (n*m) Cs) r=some c):Quiet P hp o arg (.d (flD U m (EK m n c))):=by
 refine⟨λbase s W I H xd x h=>?_⟩;have B:=PartsA.rel (ev:=I) x E λp xl=>h p.2 (by rw[Y];simp only[Op.operands,List.mem_toArray];exact List.mem_map_of_mem xl)
 have xf:HE s ((Array.range (n*m)).map (λj=>v.cells[j%v.cells.size]!)) (List.replicate (n*m) Cs):=by
  refine⟨by simp,λk C=>?_⟩;simp at C;have Q:k%v.cells.size<v.cells.size:=Nat.mod_lt _ ZbK
  refine ⟨v.cells[k % v.cells.size]!, by simp [C], List.all_eq_true.1 A _ (by
   have U:v.cells[k%v.cells.size]! = v.cells[k%v.cells.size]'Q:=by simp[Q]
   rw[U];simp),?_⟩
  have:Dd (List.replicate (n*m) Cs) k=Cs:=by simp[Dd,C]
  rw[this];trivial
 obtain⟨xc,L,V⟩:=JI B xf O
 have xm:n*m≠0:=by
  have:=Nat.mul_pos Z M;omega
 have f:(vX.toArray.map λp:Nat×Operand=>(p.1,I p.2)).toList=vX.map λp=>(p.1,I p.2):=by simp
 have xa:(execOp I o).run P s.w=.ok (.value (.slice (some ⟨s.w.heap.size,0,none⟩) n n)) (s.w.alloc (.cells xc U)):=by
  have xo:∀arr,(newRow U arr).run P s.w=.ok ⟨s.w.heap.size,0,none⟩ (s.w.alloc (.cells arr U)):=λ_=>rfl;have xn:¬(n*m>2^24):=by omega
  simp only[execOp,Y,Instr.buildSlice,Sem.run_bind,run_underlying J.und,Result.andThen_ok,X.run_size,if_neg xn,if_neg xm,X.run_zero,Sem.run_pure,f,L,xo]
 have S:Ext s.w (s.w.alloc (.cells xc U)):=(Ext.refl _).alloc _;have y:=EM S
 have K:c.length=n*m:=by
  have w:∀(l:List (Nat×List D)) (xg xi:List D),FQ (λi=>some (i*m,m)) xg l=some xi->xi.length=xg.length:=by
   intro l
   induction l with
   |nil=>intro xg xi h;cases h;rfl
   |cons p l q=>
    intro xg xi h;obtain⟨i,N⟩:=p;unfold FQ at h;simp only at h
    cases F:(Nat.beq N.length m&&Nat.ble (i*m+m) xg.length)with
    |false=>exact ZhZ
    |true=>
     rw[F]at h;simp only[Bool.and_eq_true,Nat.ble_eq]at F;have G:N.length=m:=Nat.eq_of_beq_eq_true F.1;rw[q _ _ h,Hj ZbK]
  rw[w _ _ _ O];simp
 refine HN xa (s.grown (s.w.alloc (.cells xc U))) rfl ⟨y,⟨_,n,by rw[Bg],by rw[Bg];exact Nat.le_refl _,by have:=Nat.le_mul_of_pos_right n M;omega,λ_=>⟨s.w.heap.size,0,rfl,λk C=>?_⟩⟩,⟨_,by rw[Bg]⟩⟩;rw[Bg]at C
 have xk:k*m+m<=n*m:=by
  have:(k+1)*m<=n*m:=Nat.mul_le_mul_right m C;exact Zgn
 rw[Ll _ _ _ _ C];refine⟨by simp;omega,xc,(0,0),heap_alloc_new s.w _,λj e=>?_⟩;have xh:j<m:=by simp at e;omega
 refine⟨.inr ⟨Nat.le_refl _,by show _<(s.w.alloc _).heap.size;simp⟩,?_⟩;rw[JO xh,Hx,Nat.zero_add];obtain⟨u,g,xb,xe⟩:=V.2 (k*m+j) ZbK;exact⟨u,g,xb,(Dd c _).st xe y.chg⟩
end
end
end Go.Proofs.YtcikkglcoeedlaaGreat
