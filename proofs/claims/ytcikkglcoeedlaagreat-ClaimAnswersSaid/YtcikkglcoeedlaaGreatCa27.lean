/- Part 27 of the proof of claimAnswers_holds. No condition. -/
import Derived.Test.YtcikkglcoeedlaaGreatCa20
import Derived.Test.YtcikkglcoeedlaaGreatCa23
import Derived.Test.YtcikkglcoeedlaaGreatCa26
set_option linter.unusedSimpArgs false
set_option linter.unusedVariables false
set_option maxRecDepth 100000
namespace Go.Proofs.YtcikkglcoeedlaaGreat
variable{vv uW:AV->List Ow->Prop}{vH:Array Edge}{vb:FuncId}{i j:Int}{vl:List (List D)}{u:List AV}{l f vo:List Nat}{H:List Ow}{e:Type}{vu:List e}{n b T m a k g:Nat}{x y:Operand}{vz:Operand->AV}{vT:Option (Nat×Bool)}{vC:Option Tmp}{P:Program}{vQ:Rd e}{vG:String}{uB:Type}{d:TypeDesc}{t U:TypeId}{z v:Value}{vP:e}
section
open Go.RowKit
theorem Tx{o:Oper}{κ:IntKind}{lo M:Option Operand}(Y:o.op=.slice t x lo M none)(G:GG H (vz x)=some (slD k g vl))(J:Tab P t (.slice n) b T z)(X:Tab P n d m a v)(f:m=g)(xc:(∃y,lo=some y/\vz y=.d (ex (.int κ i)))\/(lo=none/\i=0))(xh:(∃y,M=some y/\vz y=.d (ex (.int κ j)))\/(M=none/\j=vl.length))(Q:0<=i)(xa:i<=j)(e:j<=vl.length):Quiet P H o vz (.d (slD k g ((vl.take j.toNat).drop i.toNat))):=by
 refine⟨λbase s W R V xb u h=>?_⟩;obtain⟨A,c,K,C,E,L⟩:=DN u (h x Zeu) G;subst f;obtain⟨i,rfl⟩:=Int.eq_ofNat_of_zero_le Q;obtain⟨j,rfl⟩:=Int.eq_ofNat_of_zero_le (Int.le_trans Q xa);have xi:i<=j:=by omega
 have xf:j<=vl.length:=by omega
 have xl:∃xe,lo.map R=xe/\((xe=some (.int κ i))\/(xe=none/\i=0)):=by
  rcases xc with⟨y,rfl,O⟩ | ⟨rfl,hi0⟩
  .exact ZaY
  .exact Zis
 have xk:∃xd,M.map R=xd/\((xd=some (.int κ j))\/(xd=none/\j=vl.length)):=by
  rcases xh with⟨y,rfl,O⟩ | ⟨rfl,hi0⟩
  .exact ZaY
  .exact Zis
 obtain⟨xe,q,Z⟩:=xl;obtain⟨xd,w,r⟩:=xk;have xj:(j:Int)<=c:=by omega
 have xg:(i:Int)<=j:=by omega
 have I:(Instr.sliceBounds true vl.length c xe xd none).run P s.w=.ok (i,j,c) s.w:=by
  rcases Z with rfl | ⟨rfl,rfl⟩<;>rcases r with rfl | ⟨rfl,rfl⟩<;>simp[Instr.sliceBounds,Instr.sliceBound,asIntOf,xj,xg,xi,xf,C]
  all_goals first | omega | simp[xi,xf,C] | skip
 have U:(execOp R o).run P s.w=.ok (.value (.slice (if c=i then A else A.map (·.add (i*m))) (j-i) (c-i))) s.w:=by
  simp only[execOp,Y,q,w,K,Option.map_none,Instr.sliceAt,Sem.run_bind,run_underlying J.und,Result.andThen_ok,Instr.slice,I,X.run_size,Sem.run_pure]
 have l:((vl.take (j:Int).toNat).drop (i:Int).toNat).length=j-i:=Zhz
 refine BO U ⟨GS.Le.refl s,(if c=i then A else A.map (·.add (i*m))),c-i,by rw[l],by rw[l];omega,by omega,λH=>?_⟩;rw[l]at H;obtain⟨N,p,rfl,S⟩:=L ZbK;refine⟨N,p+i*m,?_,λB F=>?_⟩
 .rw [if_neg ZbK]
  simp[Addr.add_lit]
 .rw [l]at F
  rw[show(j:Int).toNat=j from rfl,show(i:Int).toNat=i from rfl];rw[RD,MD ZbK];have:=S (i+B) ZbK;exact Zia
theorem Sl{hp:List Ow}{arg:Operand->AV}{dd:Option Tmp}{ty:TypeId}{ps:String}{af:Array Edge}{gd:Option (Nat×Bool)}{lo hi:Option Operand}{rows:List (List D)}{κ:IntKind}(E:GG hp (arg x)=some (slD k g rows))(J:Tab P U (.slice n) b T z)(X:Tab P n d m a v)(B:m=g)(M:(∃y,lo=some y/\arg y=.d (ex (.int κ i)))\/(lo=none/\i=0))(h:(∃y,hi=some y/\arg y=.d (ex (.int κ j)))\/(hi=none/\j=rows.length))(A:0<=i)(C:i<=j)(e:j<=rows.length):Quiet P hp ⟨dd,.slice U x lo hi none,ty,ps,af,gd⟩ arg (.d (slD k g ((rows.take j.toNat).drop i.toNat))):=Tx (o:=⟨dd,.slice U x lo hi none,ty,ps,af,gd⟩) rfl E J X B M h A C e
theorem DU{v:Value}{k:IntKind}{z:Value}(E:vz x=.d (ex v))(F:Tab P U (.int k) n b z):Quiet P H ⟨vC,.makeInterface U x,t,vG,vH,vT⟩ vz (.d (ex (.iface U v))):=by
 refine⟨λbase s W B C l Z h=>?_⟩;have A:=h x ZcE;rw[E]at A;have c:B x=v:=A;refine BO (v:=.iface U v) ?_ ⟨GS.Le.refl s,rfl⟩;simp[execOp,c,Instr.makeInterface,run_underlying F.und]
theorem A2g(b:List Nat)(n:Nat):(CE b).take n=CE (b.take n):=by simp[CE,List.map_take]
theorem A2i(b:List Nat)(n:Nat):(CE b).drop n=CE (b.drop n):=by simp[CE,List.map_drop]
theorem CW{e n b T:Nat}(E:vz x=.d (FR T l))(J:Tab P U (.slice e) n b z):Quiet P H ⟨vC,.call { callee:=.builtin .len,args:=#[x],argTypes:=#[U] },t,vG,vH,vT⟩ vz (.d (ex (.int .i64 (l.length:Nat)))):=Bi (f:=λz:Nat=>[ex (.int .u8 (z:Nat))]) (by rw[E];rfl) J
theorem A2C{hp:List Ow}{arg:Operand->AV}{dd:Option Tmp}{ty:TypeId}{ps:String}{af:Array Edge}{gd:Option (Nat×Bool)}{κ:IntKind}(E:arg x=.d (FR k l))(O:arg y=.d (ex (.int κ (g:Nat))))(J:Tab P U (.slice n) b T z)(X:Tab P n d m a v)(A:m=1)(C:g<=l.length):Quiet P hp ⟨dd,.slice U x none (some y) none,ty,ps,af,gd⟩ arg (.d (FR k (l.take g))):=by
 have h:=Sl (P:=P) (hp:=hp) (arg:=arg) (dd:=dd) (ty:=ty) (ps:=ps) (af:=af) (gd:=gd) (lo:=none) (hi:=some y) (rows:=CE l) (κ:=κ) (i:=0) (j:=(g:Nat)) (by rw[E];rfl) J X A (.inr ⟨rfl,rfl⟩) (.inl ⟨y,rfl,O⟩) ZbK ZbK (by rw[CG];omega);rw[show((g:Nat):Int).toNat=g from rfl,A2g]at h;exact h
theorem A2H{hp:List Ow}{arg:Operand->AV}{dd:Option Tmp}{ty:TypeId}{ps:String}{af:Array Edge}{gd:Option (Nat×Bool)}{κ:IntKind}(E:arg x=.d (FR k l))(O:arg y=.d (ex (.int κ (g:Nat))))(J:Tab P U (.slice n) b T z)(X:Tab P n d m a v)(A:m=1)(C:g<=l.length):Quiet P hp ⟨dd,.slice U x (some y) none none,ty,ps,af,gd⟩ arg (.d (FR k (l.drop g))):=by
 have h:=Sl (P:=P) (hp:=hp) (arg:=arg) (dd:=dd) (ty:=ty) (ps:=ps) (af:=af) (gd:=gd) (lo:=some y) (hi:=none) (rows:=CE l) (κ:=κ) (i:=(g:Nat)) (j:=((CE l).length:Nat)) (by rw[E];rfl) J X A (.inl ⟨y,rfl,O⟩) (.inr ⟨rfl,rfl⟩) ZbK (by rw[CG];omega) ZbK;rw[show((g:Nat):Int).toNat=g from rfl,show(((CE l).length:Nat):Int).toNat=(CE l).length from rfl,List.take_length,A2i]at h;exact h
theorem ConP.cut{Q M:AV->List Ow->Prop}{q:List PanicEntry}{N:Prop}(h:ConP P vb u H Q q N)(w:∀r G,Q r G->A4L r=true/\(∀(i:Nat) o,(G.take H.length)[i]? = some o->o.below H.length)/\M r (G.take H.length)):ConP P vb u H M q N:=
 ⟨h.1,λs W I A B L V m=>(h.2 s W I A B L V m).mono λe C l=>l.imp (λ⟨v,X,j,y,r,G,K,J,b,E⟩=>by
  obtain⟨Z,F,c⟩:=w r G K
  cases r with
  |d x=>exact⟨v,X,j,y,.d x,_,c,J,b,E.take F⟩
  |_=>cases Z) λh=>h⟩
abbrev rH(T:TypeId)(l:List Nat):List Ow:=[.var 92 [.d (FR T l)]]
abbrev rCh:List PanicEntry:=[{ v:=.iface 49 (.int .i64 3),recovered:=false }]
structure Byt(l:List Nat):Prop where
 lt:∀z∈l,z<256
 len:l.length<=1000000000
theorem Byt.drop(h:Byt l)(k:Nat):Byt (l.drop k):=⟨λz B=>h.lt z (List.mem_of_mem_drop B),by rw[List.length_drop];have:=h.len;omega⟩
theorem Pk(h:H.take 1=rH t l):∀(i:Nat) o,(H.take 1)[i]? = some o->o.below 1:=λi o M=>by
 rw[h]at M
 match i,M with
 |0,M=>cases M;intro U R;rw[List.mem_singleton.1 R];rfl
def Rdr{F:Type}(f:FuncId)(d:F->D)(p:Rd F):Prop:=∀(T:TypeId) l,Byt l->ConP Tryz.prog f [.ptr 0 0] (rH T l) (λr u=>∃x P,p l=some (x,P)/\Byt P/\r=.d (d x)/\u=rH T P) rCh (p l=none)
theorem Rdr.intro{f:FuncId}{d:e->D}{p:Rd e}(h:∀(T:TypeId) l,Byt l->ConP Tryz.prog f [.ptr 0 0] (rH T l) (λr u=>∃x P,p l=some (x,P)/\Byt P/\r=.d (d x)/\u.take 1=rH T P) rCh (p l=none)):Rdr f d p:=λT l K=>(h T l K).cut λr u ⟨x,P,A,B,L,V⟩=>by
 subst L;exact⟨rfl,Pk V,x,P,A,B,rfl,V⟩
theorem YM(T:TypeId)(l:List Nat)(K:Byt l)(n:Nat)(i:n<1000):ConP Tryz.prog 305 [.ptr 0 0,.d (ex (.int .u64 (n:Nat)))] (rH T l) (λr u=>n<=l.length/\r=.d (FR T (l.take n))/\u=rH T (l.drop n)) rCh (l.length<n):=by
 refine ConP.cut (Q:=λr u=>n<=l.length/\r=.d (FR T (l.take n))/\u.take 1=rH T (l.drop n)) ?_ λr u ⟨A,B,L⟩=>by
  subst B;exact⟨rfl,Pk L,A,rfl,L⟩
 have E:=K.len;have F:=CG l;refine Bh Tryz.func305 rfl (Ag Tryz.func305 ZbM ZbM) rfl λC G=>?_;rw[Tryz.ntmps305];refine Y1<|Wa<|Y0<|Ao<|Y1<|Wm<|Wm ?_;refine Wq (BN (ao rfl)) ?_;refine Wq AF ?_;refine Wq BT ?_;refine Wq (CW (ao rfl) (Aa rfl)) ?_;refine Wq (AC (r:=((l.length:Nat):Int)) (ao rfl) (Aa rfl) (Aa rfl) (Ec ZbK)) ?_;refine Wq Ch ?_;apply Y0
 by_cases h:l.length<n
 .refine Zgl ?_
  refine CR (ao rfl) ?_;exact(by repeat (first | exact AB (h) | apply As | apply PanQ.block | apply PanQ.loop):PanQ _ _) _
 .refine Go ?_;refine Wq (BN (ao rfl)) ?_;refine Go ?_;refine Wq (A2C (ao rfl) (ao rfl) (Aa rfl) (Aa rfl) rfl ZbK) ?_;refine Go ?_;refine Wq (BN (ao rfl)) ?_;refine Go ?_;refine Wq (A2H (ao rfl) (ao rfl) (Aa rfl) (Aa rfl) rfl ZbK) ?_;refine Wq (BN (ao rfl)) ?_;refine Wq AF ?_;refine FI (ao rfl) (ao rfl) rfl (Aa rfl) Ev rfl rfl ?_;refine Go ?_
  refine FinP.ret (RetsA.one rfl) rfl ?_ rfl;exact⟨by omega,rfl,rfl⟩
def Wb(f:FuncId)(x:D)(e:List Nat):Prop:=∀b,b.length+e.length<=1000000000000->Con Tryz.prog f [.own 0,.d x] [.row 5 1 (CE b)] [0] (λr u=>r=.own 0/\u=[.row 5 1 (CE (b++e))])
theorem Con.cutB(h:Con P vb u H l vv)(w:∀r E,vv r E->r.below H.length=true/\(∀(i:Nat) o,(E.take H.length)[i]? = some o->o.below H.length)/\uW r (E.take H.length)):Con P vb u H l uW:=
 ⟨h.1,λs W G A B L V m=>(h.2 s W G A B L V m).mono λe N ⟨v,X,j,y,r,E,O,I,b,C⟩=>by
  obtain⟨Z,F,c⟩:=w r E O;have K:(E.take H.length).length=H.length:=by rw[List.length_take];have:=C.len;omega
  refine⟨v,X,j,y,r,_,c,I,?_,C.take F⟩;rw[K]
  cases r with
  |d x=>exact b
  |ptr i off=>exact Zjb
  |own i=>exact Zjb
  |fn vb J=>exact⟨λi M=>by have:=List.all_eq_true.1 Z i M;simpa[Nat.blt_eq]using this,b.2⟩⟩
theorem Wb.intro{f:FuncId}{x:D}{e:List Nat}(h:∀b,b.length+e.length<=1000000000000->Con Tryz.prog f [.own 0,.d x] [.row 5 1 (CE b)] [0] (λr u=>r=.own 0/\u.take 1=[.row 5 1 (CE (b++e))])):Wb f x e:=λb F=>(h b F).cutB λr u ⟨A,B⟩=>by
 subst A;refine⟨rfl,λi o M=>?_,rfl,B⟩;have B:u.take 1=[.row 5 1 (CE (b++e))]:=B;change (u.take 1)[i]? = some o at M;rw[B]at M
 match i,M with
 |0,M=>cases M;trivial
theorem CP{W:Func}{c:Code}{E:Ow}(p:P.funcs[vb]? = some W)(F:W.body=some c)(B:∀u w,(callFunc vb u).run P w=.ok (.enter vb u) w)(i:Nat.ble u.length W.ntmps=true)
  (h:∀(A:An) (z:Value),AWp P A W.ntmps c (FinC P W [0] [z] vv) ⟨HM 0 u,[E,.pin []]⟩):Con P vb u [E] [0] vv:=
 QM p F B i λA G q=>by
  match G,q with
  |[z],_=>exact h A z
section
variable {P:Program} {hp:List Ow} {arg:Operand->AV} {dd:Option Tmp} {ty:TypeId} {ps:String} {af:Array Edge} {gd:Option (Nat×Bool)} {T U:TypeId} {x y:Operand} {k:IntKind} {a b r:Int}
theorem Kw(E:arg x=.d (ex (.int k a)))(O:arg y=.d (ex (.int k b)))(F:b≠0)(A:a.tmod b=r):Quiet P hp ⟨dd,.binOp .rem T x y U,ty,ps,af,gd⟩ arg (.d (ex (.int k r))):=
 Cz rfl E O λw=>by simp[eqGuard,binOp,Op.intDiv,F,A]
theorem Bt{l:Array Field}{f n b Y B id off r:Nat}{C:Field}(E:arg x=.ptr id off)(j:Tab P t (.struct l) n b z)(p:l[f]? = some C)(X:Tab P C.type d Y B v)(i:Nat.beq Y 0=false)(A:off+C.offset=r):Quiet P hp ⟨dd,.fieldAddr t x f,ty,ps,af,gd⟩ arg (.ptr id r):=A▸GX E j p X i
end
theorem FD(n:Nat)(i:n<18446744073709551616):Wb 118 (ex (.int .u64 (n:Nat))) (Bo n):=Wb.intro λb F=>by
 refine CP Tryz.func118 rfl (Ag Tryz.func118 ZbM ZbM) rfl λA=>?_;rw[Tryz.ntmps118];intro z;refine Go ?_;refine Az (λP d=>∃r Y,P=Y/\Y<18446744073709551616/\r++Bo Y=b++Bo n/\d=⟨[(0,.own 0),(1,.d (ex (.int .u64 (Y:Nat))))],[.row 5 1 (CE r),.pin []]⟩) ?le ⟨b,n,rfl,i,rfl,rfl⟩ ?round
 case le=>exact Ad Zer (by exact Yr<|HpLe.cons (Aj rfl)<|HpLe.nil)
 case round=>
  rintro Y _ ⟨r,_,rfl,C,X,rfl⟩;have B:(r++Bo Y).length=(b++Bo n).length:=by rw[X]
  rw[List.length_append,List.length_append]at B;have V:=Hp Y;by_cases h:128<=Y
  .have c:Bo Y=(Y%128+128)::Bo (Y/128):=by rw [Bo, if_neg ZbK]
   have v:Bo Y=[Y%128+128]++Bo (Y/128):=c;rw[c,List.length_cons]at B;have K:=CG r;have E:=Hp (Y/128);refine Ao<|Y1<|Wm ?_;refine Wq Bj ?_;refine Y0<|Ct<|Ys<|AWp.block<|Y1<|Wm<|Wm ?_;refine Wq (Kw (r:=((Y%128:Nat):Int)) (ao rfl) (ao rfl) ZbN ZcV) ?_;refine Wq (AC (r:=((Y%128:Nat):Int)) (ao rfl) (Aa rfl) (Aa rfl) Zcv) ?_;refine Wq (DG (r:=((Y%128+128:Nat):Int)) (ao rfl) (ao rfl) Zcv) ?_;(refine CU rfl rfl ?_;(refine Dj (Aa rfl) (Aa rfl) rfl rfl rfl rfl rfl ?_;(repeat ((first | refine⟨_,AA (ao rfl),?_⟩ | refine⟨_,Po rfl,?_⟩);refine⟨_,rfl,?_⟩));refine⟨_,rfl,?_⟩));(refine DV (r2:=[[ex (.int .u8 ((Y%128+128:Nat):Int))]]) (ao rfl) rfl rfl (Aa rfl) (Aa rfl) rfl rfl Zdj Zdj rfl ZbO rfl ?_);refine Wa<|Y0<|AWp.region<|Wm ?_;refine Wq (HZ (r:=((Y/128:Nat):Int)) (ao rfl) (ao rfl) ZbN ZcS) ?_;refine Wa<|AWl.nil<|Bv ?_
   refine Am (Y/128) ZbK ⟨r++[Y%128+128],Y/128,rfl,by omega,by rw[List.append_assoc,<-v];exact X,rfl⟩ ?_;exact Ad Zer (by(refine HpLe.cons (OwLe.row (by rw[Hy];rfl)) ?_);exact HpLe.cons (Aj rfl)<|HpLe.nil)
  .have c:Bo Y=[Y]:=by rw [Bo, if_pos ZbK]
   rw[c,List.length_cons]at B;rw[c]at X;have K:=CG r;refine Ao<|Y1<|Wm ?_;refine Wq Bl ?_;refine Y0<|Cf<|BZ<|Bz<|BP<|BE<|Yn<|Y1<|Wm<|Wm ?_;refine Wq (AC (r:=((Y:Nat):Int)) (ao rfl) (Aa rfl) (Aa rfl) Zcv) ?_;(refine CU rfl rfl ?_;(refine Dj (Aa rfl) (Aa rfl) rfl rfl rfl rfl rfl ?_;(repeat ((first | refine⟨_,AA (ao rfl),?_⟩ | refine⟨_,Po rfl,?_⟩);refine⟨_,rfl,?_⟩));refine⟨_,rfl,?_⟩));(refine DV (r2:=[[ex (.int .u8 ((Y:Nat):Int))]]) (ao rfl) rfl rfl (Aa rfl) (Aa rfl) rfl rfl Zdj Zdj rfl ZbO rfl ?_);refine Wa<|Y0<|Ci ?_
   first | refine Be (RetsA.one rfl) rfl ?_ rfl | refine AE (RetsA.one rfl) rfl ?_ rfl
   exact⟨rfl,by rw[<-X,Hy];rfl⟩
theorem ES(z:Int)(E:IW z):Wb 52 (ex (.int .i64 z)) (Bc z):=Wb.intro λb F=>by
 obtain⟨A,B⟩:=E;by_cases h:0<=z
 .have e:Bc z=Bo (2*z.toNat):=by rw [Bc, UC, if_neg ZbK]
  rw[e]at F ⊢;have I:=FD (2*z.toNat) ZbK b F;refine CP Tryz.func52 rfl (Ag Tryz.func52 ZbM ZbM) rfl λC=>?_;rw[Tryz.ntmps52];intro G;refine Y1<|Wa<|Y0<|Ao<|Y1<|Wm ?_;refine Wq Bl ?_;refine Y0<|Cf<|Ys<|Y1<|Wm<|Wm ?_;refine Wq (AC (r:=((z.toNat:Nat):Int)) (ao rfl) (Aa rfl) (Aa rfl) ZcQ) ?_;refine Wq (IY (r:=((2*z.toNat:Nat):Int)) (ao rfl) (ao rfl) ZcQ) ?_
  exact ZaZ
 .have e:Bc z=Bo (2*(-(z+1)).toNat+1):=by rw [Bc, UC, if_pos ZbK]
  rw[e]at F ⊢;have I:=FD (2*(-(z+1)).toNat+1) ZbK b F;refine CP Tryz.func52 rfl (Ag Tryz.func52 ZbM ZbM) rfl λC=>?_;rw[Tryz.ntmps52];intro G;refine Y1<|Wa<|Y0<|Ao<|Y1<|Wm ?_;refine Wq Bj ?_;refine Y0<|Ct<|Y1<|Wm<|Wm ?_;refine Wq Tw ?_;refine Wq Xs ?_;refine Wq (AC (r:=(((-(z+1)).toNat:Nat):Int)) (ao rfl) (Aa rfl) (Aa rfl) ZcQ) ?_;refine Wq (IY (r:=((2*(-(z+1)).toNat:Nat):Int)) (ao rfl) (ao rfl) ZcQ) ?_;refine Wq (DG (r:=((2*(-(z+1)).toNat+1:Nat):Int)) (ao rfl) (ao rfl) ZcQ) ?_
  exact ZaZ
theorem A58(i:n<2^T)(t:n+b*2^T<18446744073709551616):IntKind.u64.wrap ((BitVec.ofInt IntKind.u64.bits ((n:Nat):Int) ||| BitVec.ofInt IntKind.u64.bits ((b*2^T:Nat):Int)).toNat)=((n+b*2^T:Nat):Int):=by
 have c:(BitVec.ofInt IntKind.u64.bits ((n:Nat):Int))=BitVec.ofNat 64 n:=rfl;have v:(BitVec.ofInt IntKind.u64.bits ((b*2^T:Nat):Int))=BitVec.ofNat 64 (b*2^T):=rfl;rw[c,v];show IntKind.u64.wrap (((BitVec.ofNat 64 n ||| BitVec.ofNat 64 (b*2^T)).toNat:Nat):Int)=_;rw[BitVec.toNat_or,BitVec.toNat_ofNat,BitVec.toNat_ofNat,Nat.mod_eq_of_lt ZbK,Nat.mod_eq_of_lt ZbK];have h:=Nat.shiftLeft_add_eq_or_of_lt i b;rw[Nat.shiftLeft_eq]at h;rw[Nat.or_comm,<-h,Ec ZbK];omega
theorem A1f(h:n*2^b<18446744073709551616):IntKind.u64.wrap ((n:Nat)*2^b:Int)=((n*2^b:Nat):Int):=by
 have e:((n:Nat):Int)*2^b=((n*2^b:Nat):Int):=by push_cast;rfl
 rw[e,Ec ZbK]
theorem A3l:IntKind.u64.wrap ((n:Nat)*2^b:Int)=((n*2^b%18446744073709551616:Nat):Int):=by
 have e:((n:Nat):Int)*2^b=((n*2^b:Nat):Int):=by push_cast;rfl
 rw[e,IntKind.wrap_u64];omega
theorem A1F(k s n:Nat):NZ k s n []=none:=by cases k<;>rfl
theorem Db:Rdr 260 (λn:Nat=>ex (.int .u64 (n:Nat))) NY:=Rdr.intro λT l K=>by
 refine Bh Tryz.func260 rfl (Ag Tryz.func260 ZbM ZbM) rfl λJ r=>?_;rw[Tryz.ntmps260];refine Go ?_;refine Az (λP d=>∃i n N,i<=10/\P=10-i/\n<2^(7*i)/\Byt N/\NZ (10-i) (2^(7*i)) n N=NY l/\d=⟨[(0,.ptr 0 0),(3,.d (ex (.int .u64 (n:Nat)))),(4,.d (ex (.int .i64 ((7*i:Nat):Int))))],[.var 92 [.d (FR T N)],.pin [(r,.own 0)]]⟩) ?le ⟨0,0,l,by omega,rfl,by decide,K,rfl,rfl⟩ ?round
 case le=>exact Ad Zcm Zem
 case round=>
  rintro P _ ⟨i,n,N,M,rfl,F,W,X,rfl⟩;by_cases Z:i<10
  .obtain ⟨k, C⟩:∃k, 10-i=k+1:=⟨9-i, by omega⟩
   rw[C]at X;have S:=YM T N W 1 ZbN;refine Go ?_;refine AH [0] [] [] (S) (BK rfl) (λL=>(by repeat (first | exact AB (by rw[<-X,List.length_eq_zero_iff.1 (show N.length=0 by omega),A1F]) | apply As | apply PanQ.block | apply PanQ.loop):PanQ _ _) _) rfl rfl ZbH ZbG ZbN ZbE ZbJ trivial rfl ?_;rintro _ _ ⟨A,rfl,rfl⟩;refine Kr ?_
   obtain⟨c,g,rfl⟩:∃c g,N=c::g:=by
    cases N with
    |nil=>simp at A
    |cons c g=>exact⟨c,g,rfl⟩
   have I:=W.lt c List.mem_cons_self;have Q:Byt g:=W.drop 1;rw[NZ]at X
   dsimp only at X
   obtain⟨m,t⟩:∃m,m=c%128:=⟨_,rfl⟩;rw[<-t]at X;have G:0<2^(7*i):=Nat.pow_pos ZbN;refine Wq A0z ?_;refine Wq AO ?_;refine Wq (AC (r:=((c:Nat):Int)) (ao rfl) (Aa rfl) (Aa rfl) (Ec ZbK)) ?_;refine Wa<|Y0<|Y1<|Wm ?_;refine Wq (Kw (r:=((m:Nat):Int)) (ao rfl) (ao rfl) ZbN ZcV) ?_;refine Wa<|Y0<|Ao<|Y1<|Wm<|Wm ?_
   by_cases o:18446744073709551616<=m*2^(7*i)
   .rw [if_pos o]at X
    obtain⟨x,E⟩:∃x,x=m*2^(7*i)%18446744073709551616:=⟨_,rfl⟩;obtain⟨y,O⟩:∃y,y=x/2^(7*i):=⟨_,rfl⟩
    have z:y≠m:=λe=>by
     have B:y*2^(7*i)<=x:=by rw[O];exact Nat.div_mul_le_self _ _
     rw[e]at B;omega
    refine Wq (Kv (n:=7*i) (r:=((x:Nat):Int)) (ao rfl) (ao rfl) (Nat.min_eq_left ZdK) (by rw[A3l,E])) ?_;refine Wm ?_;refine Wq (DO (n:=7*i) (r:=((y:Nat):Int)) (ao rfl) (ao rfl) (Nat.min_eq_left ZdK) (by rw[Eg rfl,O])) ?_;refine Zgl ?_;exact Zgd
   .rw [if_neg o]at X
    obtain⟨x,E⟩:∃x,x=m*2^(7*i):=⟨_,rfl⟩;have O:x/2^(7*i)=m:=by rw[E,Nat.mul_div_cancel _ G]
    have a:m<128:=by omega
    have f:2^(7*(i+1))=2^(7*i)*128:=by rw[Nat.mul_add,Nat.pow_add]
    have R:x+2^(7*i)<=2^(7*(i+1)):=by
     rw[f,E];have:(m+1)*2^(7*i)<=128*2^(7*i):=Nat.mul_le_mul ZbK (Nat.le_refl _);rw[Nat.add_mul,Nat.one_mul]at this;omega
    have b:n+x<18446744073709551616:=by
     rcases Nat.lt_or_ge i 9 with V | V
     .have:2^(7*(i+1))<=2^63:=Nat.pow_le_pow_right ZbN ZbK
      omega
     .obtain rfl:i=9:=by omega
      omega
    rw[<-E]at X;refine Wq (Kv (n:=7*i) (r:=((x:Nat):Int)) (ao rfl) (ao rfl) (Nat.min_eq_left ZdK) (by rw[E];exact A1f ZbK)) ?_;refine Wm ?_;refine Wq (DO (n:=7*i) (r:=((m:Nat):Int)) (ao rfl) (ao rfl) (Nat.min_eq_left ZdK) (by rw[Eg rfl,O])) ?_;refine Go ?_;refine Wq (Kv (n:=7*i) (r:=((x:Nat):Int)) (ao rfl) (ao rfl) (Nat.min_eq_left ZdK) (by rw[E];exact A1f ZbK)) ?_;refine Wq (TF (r:=((n+x:Nat):Int)) (ao rfl) (ao rfl) (by rw[E];exact A58 F ZbK)) ?_;refine Go ?_;by_cases Y:c<128
    .rw [if_pos Y]at X
     refine Go ?_;refine FinP.ret (RetsA.one rfl) rfl ?_ rfl;exact⟨_,_,X.symm,Q,rfl,rfl⟩
    .rw [if_neg Y]at X
     refine Go ?_;refine Am (10-(i+1)) ZbK ⟨i+1,n+x,g,by omega,rfl,by omega,Q,by rw[<-X,f,show 10-(i+1)=k by omega],rfl⟩ ?_;exact Ad Zcm Zem
  .obtain rfl:i=10:=by omega
   refine Zgl ?_;exact Zgd
def G0:Lg:=⟨NY,λn=>decide (n<=65535)⟩
theorem UE:∀(k j n:Nat) (l:List Nat) (x:Nat) (P:List Nat),j+7*k=70->n<2^j->NZ k (2^j) n l=some (x,P)->x<18446744073709551616
 |0,_,_,_,_,_,_,_,h=>by cases h
 |k+1,j,n,[],_,_,_,_,h=>by cases h
 |k+1,j,n,c::l,x,P,e,i,h=>by
  rw[NZ]at h
  dsimp only at h
  split at h
  .cases h
  .rename_i o
   have G:2^(64-j)*2^j=18446744073709551616:=by rw[<-Nat.pow_add,show 64-j+j=64 by omega]
   have A:c%128<2^(64-j):=by
    rcases Nat.lt_or_ge (c%128) (2^(64-j))with h | h
    .exact h
    .have:=Nat.mul_le_mul_right (2^j) h
     omega
   have B:(c%128+1)*2^j<=2^(64-j)*2^j:=Nat.mul_le_mul_right _ A;rw[Nat.add_mul,Nat.one_mul,G]at B;split at h
   .cases h
    omega
   .rw [show 2^j*128=2^(j+7) by rw [Nat.pow_add]] at h
    refine UE k (j+7) _ l x P ZbK ?_ h;have L:(c%128+1)*2^j<=128*2^j:=Nat.mul_le_mul_right _ ZbK;rw[Nat.add_mul,Nat.one_mul]at L;rw[Nat.pow_add];omega
theorem ET(h:NY l=some (n,f)):n<18446744073709551616:=UE 10 0 0 l n f rfl ZbN h
theorem Rd.none{p:Rd e}{f:e->Rd uB}(h:p l=.none):p.bind f l=.none:=by rw[Rd.bind,h]
theorem Rd.some{p:Rd e}{f:e->Rd uB}{l l':List Nat}{a:e}(h:p l=.some (a,l')):p.bind f l=f a l':=by rw[Rd.bind,h]
theorem Fr:Rdr 183 (λz:Int=>ex (.int .i64 z)) (HH G0):=Rdr.intro λT l K=>by
 have I:=Db T l K;refine Bh Tryz.func183 rfl (Ag Tryz.func183 ZbM ZbM) rfl λC r=>?_;rw[Tryz.ntmps183];refine Zfb ?_;rintro _ _ ⟨n,P,A,B,rfl,rfl⟩;refine Kr ?_;have i:=ET A;have R:HH G0 l=some (if n%2=0 then((n/2:Nat):Int)else -((n/2:Nat):Int)-1,P):=Rd.some A;by_cases h:n%2=0
 .rw [if_pos h]at R
  refine Wa<|Y0<|Ao<|Y1<|Wm ?_;refine Wq (Kw (r:=((n%2:Nat):Int)) (ao rfl) (ao rfl) ZbN ZcV) ?_;refine Wq Bj ?_;refine Y0<|Ct<|Y1<|Wm ?_;refine Wq (HZ (r:=((n/2:Nat):Int)) (ao rfl) (ao rfl) ZbN ZcS) ?_;refine Wq (AC (r:=((n/2:Nat):Int)) (ao rfl) (Aa rfl) (Aa rfl) Zeq) ?_;refine Wa<|Y0<|Ci<|Gi ?_
  exact Zho
 .rw [if_neg h]at R
  refine Wa<|Y0<|Ao<|Y1<|Wm ?_;refine Wq (Kw (r:=((n%2:Nat):Int)) (ao rfl) (ao rfl) ZbN ZcV) ?_;refine Wq Bl ?_;refine Y0<|Cf<|Ys<|Y1<|Wm ?_;refine Wq (HZ (r:=((n/2:Nat):Int)) (ao rfl) (ao rfl) ZbN ZcS) ?_;refine Wq (AC (r:=((n/2:Nat):Int)) (ao rfl) (Aa rfl) (Aa rfl) Zeq) ?_;refine Wq Xs ?_;refine Wq A5R ?_;refine Wa<|Y0<|Ci ?_
  exact Zho
def Rdl{F:Type}(f o:FuncId)(d:List F->D)(p:Rd F):Prop:=∀(T:TypeId) l,Byt l->ConP Tryz.prog f [.ptr 0 0,.fn (o+1000000) [0]] (rH T l) (λr u=>∃x P,Fu G0 p l=some (x,P)/\Byt P/\r=.d (d x)/\u=rH T P) rCh (Fu G0 p l=none)
theorem Rdl.intro{f o:FuncId}{d:List e->D}{p:Rd e}(h:∀(T:TypeId) l,Byt l->ConP Tryz.prog f [.ptr 0 0,.fn (o+1000000) [0]] (rH T l) (λr u=>∃x P,Fu G0 p l=some (x,P)/\Byt P/\r=.d (d x)/\u.take 1=rH T P) rCh (Fu G0 p l=none)):Rdl f o d p:=λT l K=>(h T l K).cut λr u ⟨x,P,A,B,L,V⟩=>by
 subst L;exact⟨rfl,Pk V,x,P,A,B,rfl,V⟩
theorem Gl{p:Rd e}(h:NY l=none):Fu G0 p l=none:=Rd.none h
theorem Gk{p:Rd e}(h:NY l=some (n,f)):Fu G0 p l=if n<=f.length then BU p n f else none:=by
 have h:G0.nat l=some (n,f):=h;unfold Fu;rw[Rd.some h];unfold JF Rd.bind;by_cases i:n<=f.length
 .simp [i]
 .simp [i]
theorem Dn{p:Rd e}(C:b<n)(h:BU p n l=(BU p (n-b) f).map λy=>(vu++y.1,y.2))(E:p f=some (vP,vo)):BU p n l=(BU p (n-(b+1)) vo).map λy=>((vu++[vP])++y.1,y.2):=by
 rw[h,show n-b=(n-(b+1))+1 by omega,BU,Rd.some E];unfold Rd.bind
 cases BU p (n-(b+1)) vo with
 |none=>rfl
 |some y=>simp[BY]
theorem Do{p:Rd e}(C:b<n)(h:BU p n l=(BU p (n-b) f).map λy=>(vu++y.1,y.2))(E:p f=none):BU p n l=none:=by
 rw[h,show n-b=(n-(b+1))+1 by omega,BU,Rd.none E];rfl
theorem A6D(S:Rdr 183 (λx:Int=>ex (.int .i64 x)) (HH G0)):Rdl 187 183 (λL:List (Int)=>slD 3 1 (L.map (λz:Int=>[ex (.int .i64 z)]))) (HH G0):=Rdl.intro λT l K=>by
 have I:=Db T l K;refine Bh Tryz.func187 rfl (Ag Tryz.func187 ZbM ZbM) rfl λE r=>?_;rw[Tryz.ntmps187];refine ZeY ?_;rintro _ _ ⟨n,o,A,U,rfl,rfl⟩;refine Kr ?_;have i:=ET A;have G:=U.len;have R:=Gk (p:=(HH G0)) A;by_cases F:n<=o.length
 .rw [if_pos F]at R
  refine Wa<|Y0<|Ao<|Y1<|Wm<|Wm ?_;refine Wq (BN (ao rfl)) ?_;refine Wq AF ?_;refine Wq BT ?_;refine Wq (CW (ao rfl) (Aa rfl)) ?_;refine Wq (AC (r:=((o.length:Nat):Int)) (ao rfl) (Aa rfl) (Aa rfl) (Ec ZbK)) ?_;refine Wq Bl ?_;refine Y0<|Cf<|Ys<|Y1<|Wa<|Y0<|Ao<|Y1<|Wm<|Wm<|Y0<|AWp.block ?_
  refine DR 6 3 1 rfl ZbN ZbN rfl rfl ?_;refine Az (λP d=>∃k Z g,k<=n/\P=n-k/\Z.length=k/\Byt g/\(BU (HH G0) n o=(BU (HH G0) (n-k) g).map λy=>(Z++y.1,y.2))/\d=⟨[(0,.ptr 0 0),(1,.fn (183+1000000) [0]),(6,.own 2),(18,.d (ex (.int .u64 (n:Nat)))),(19,.d (ex (.int .u64 (k:Nat))))],[.var 92 [.d (FR T g)],.pin [(r,.own 0)],.row 3 1 (Z.map (λz:Int=>[ex (.int .i64 z)]))]⟩) ?le ⟨0,[],o,Nat.zero_le _,rfl,rfl,U,by cases BU (HH G0) n o<;>rfl,rfl⟩ ?round
  case le=>exact Zjc
  case round=>
   rintro P _ ⟨k,Z,g,C,rfl,N,J,b,rfl⟩;by_cases Q:k<n
   .have I:=S T g J
    refine ZeZ ?_;rintro _ _ ⟨x,M,B,m,rfl,rfl⟩;refine Kr ?_
    (refine CU rfl rfl ?_;(refine Dj (Aa rfl) (Aa rfl) rfl rfl rfl rfl rfl ?_;(repeat ((first | refine⟨_,AA (ao rfl),?_⟩ | refine⟨_,Po rfl,?_⟩);refine⟨_,rfl,?_⟩));refine⟨_,rfl,?_⟩));(refine DV (r2:=[(λz:Int=>[ex (.int .i64 z)]) x]) (ao rfl) rfl rfl (Aa rfl) (Aa rfl) rfl rfl Zhz Zhz rfl ZbO rfl ?_);exact Zga
   .exact Zba
 .exact Zbb
theorem A6C(S:Rdr 270 (λx:RQ=>AJ (Ih x)) (FM G0)):Rdl 306 270 (λL:List (RQ)=>slD 111 4 (L.map Ih)) (FM G0):=Rdl.intro λT l K=>by
 have I:=Db T l K;refine Bh Tryz.func306 rfl (Ag Tryz.func306 ZbM ZbM) rfl λE r=>?_;rw[Tryz.ntmps306];refine ZeY ?_;rintro _ _ ⟨n,o,A,U,rfl,rfl⟩;refine Kr ?_;have i:=ET A;have G:=U.len;have R:=Gk (p:=(FM G0)) A;by_cases F:n<=o.length
 .rw [if_pos F]at R
  refine Wa<|Y0<|Ao<|Y1<|Wm<|Wm ?_;refine Wq (BN (ao rfl)) ?_;refine Wq AF ?_;refine Wq BT ?_;refine Wq (CW (ao rfl) (Aa rfl)) ?_;refine Wq (AC (r:=((o.length:Nat):Int)) (ao rfl) (Aa rfl) (Aa rfl) (Ec ZbK)) ?_;refine Wq Bl ?_;refine Y0<|Cf<|Ys<|Y1<|Wa<|Y0<|Ao<|Y1<|Wm<|Wm<|Y0<|AWp.block ?_
  refine DR 6 111 4 rfl ZbN ZbN rfl rfl ?_;refine Az (λP d=>∃k Z g,k<=n/\P=n-k/\Z.length=k/\Byt g/\(BU (FM G0) n o=(BU (FM G0) (n-k) g).map λy=>(Z++y.1,y.2))/\d=⟨[(0,.ptr 0 0),(1,.fn (270+1000000) [0]),(6,.own 2),(18,.d (ex (.int .u64 (n:Nat)))),(19,.d (ex (.int .u64 (k:Nat))))],[.var 92 [.d (FR T g)],.pin [(r,.own 0)],.row 111 4 (Z.map Ih)]⟩) ?le ⟨0,[],o,Nat.zero_le _,rfl,rfl,U,by cases BU (FM G0) n o<;>rfl,rfl⟩ ?round
  case le=>exact Zjc
  case round=>
   rintro P _ ⟨k,Z,g,C,rfl,N,J,b,rfl⟩;by_cases Q:k<n
   .have I:=S T g J
    refine ZeZ ?_;rintro _ _ ⟨x,M,B,m,rfl,rfl⟩;refine Zfq ?_;(refine DV (r2:=[Ih x]) (ao rfl) rfl rfl (Aa rfl) (Aa rfl) rfl rfl Zhz Zhz rfl ZbO rfl ?_);exact Zga
   .exact Zba
 .exact Zbb
theorem A54(S:Rdr 263 (λx:RTm=>AJ (rtC x)) (Im G0)):Rdl 262 263 (λL:List (RTm)=>slD 114 12 (L.map rtC)) (Im G0):=Rdl.intro λT l K=>by
 have I:=Db T l K;refine Bh Tryz.func262 rfl (Ag Tryz.func262 ZbM ZbM) rfl λE r=>?_;rw[Tryz.ntmps262];refine ZeY ?_;rintro _ _ ⟨n,o,A,U,rfl,rfl⟩;refine Kr ?_;have i:=ET A;have G:=U.len;have R:=Gk (p:=(Im G0)) A;by_cases F:n<=o.length
 .rw [if_pos F]at R
  refine Wa<|Y0<|Ao<|Y1<|Wm<|Wm ?_;refine Wq (BN (ao rfl)) ?_;refine Wq AF ?_;refine Wq BT ?_;refine Wq (CW (ao rfl) (Aa rfl)) ?_;refine Wq (AC (r:=((o.length:Nat):Int)) (ao rfl) (Aa rfl) (Aa rfl) (Ec ZbK)) ?_;refine Wq Bl ?_;refine Y0<|Cf<|Ys<|Y1<|Wa<|Y0<|Ao<|Y1<|Wm<|Wm<|Y0<|AWp.block ?_
  refine DR 6 114 12 rfl ZbN ZbN rfl rfl ?_;refine Az (λP d=>∃k Z g,k<=n/\P=n-k/\Z.length=k/\Byt g/\(BU (Im G0) n o=(BU (Im G0) (n-k) g).map λy=>(Z++y.1,y.2))/\d=⟨[(0,.ptr 0 0),(1,.fn (263+1000000) [0]),(6,.own 2),(18,.d (ex (.int .u64 (n:Nat)))),(19,.d (ex (.int .u64 (k:Nat))))],[.var 92 [.d (FR T g)],.pin [(r,.own 0)],.row 114 12 (Z.map rtC)]⟩) ?le ⟨0,[],o,Nat.zero_le _,rfl,rfl,U,by cases BU (Im G0) n o<;>rfl,rfl⟩ ?round
  case le=>exact Zjc
  case round=>
   rintro P _ ⟨k,Z,g,C,rfl,N,J,b,rfl⟩;by_cases Q:k<n
   .have I:=S T g J
    refine ZeZ ?_;rintro _ _ ⟨x,M,B,m,rfl,rfl⟩;refine Zfq ?_;(refine DV (r2:=[rtC x]) (ao rfl) rfl rfl (Aa rfl) (Aa rfl) rfl rfl Zhz Zhz rfl ZbO rfl ?_);exact Zga
   .exact Zba
 .exact Zbb
theorem A55(S:Rdr 185 (λx:List RTm=>Jh x) (GJ G0)):Rdl 261 185 (λL:List (List RTm)=>slD 28 1 (L.map (λp=>[Jh p]))) (GJ G0):=Rdl.intro λT l K=>by
 have I:=Db T l K;refine Bh Tryz.func261 rfl (Ag Tryz.func261 ZbM ZbM) rfl λE r=>?_;rw[Tryz.ntmps261];refine ZeY ?_;rintro _ _ ⟨n,o,A,U,rfl,rfl⟩;refine Kr ?_;have i:=ET A;have G:=U.len;have R:=Gk (p:=(GJ G0)) A;by_cases F:n<=o.length
 .rw [if_pos F]at R
  refine Wa<|Y0<|Ao<|Y1<|Wm<|Wm ?_;refine Wq (BN (ao rfl)) ?_;refine Wq AF ?_;refine Wq BT ?_;refine Wq (CW (ao rfl) (Aa rfl)) ?_;refine Wq (AC (r:=((o.length:Nat):Int)) (ao rfl) (Aa rfl) (Aa rfl) (Ec ZbK)) ?_;refine Wq Bl ?_;refine Y0<|Cf<|Ys<|Y1<|Wa<|Y0<|Ao<|Y1<|Wm<|Wm<|Y0<|AWp.block ?_
  refine DR 6 28 1 rfl ZbN ZbN rfl rfl ?_;refine Az (λP d=>∃k Z g,k<=n/\P=n-k/\Z.length=k/\Byt g/\(BU (GJ G0) n o=(BU (GJ G0) (n-k) g).map λy=>(Z++y.1,y.2))/\d=⟨[(0,.ptr 0 0),(1,.fn (185+1000000) [0]),(6,.own 2),(18,.d (ex (.int .u64 (n:Nat)))),(19,.d (ex (.int .u64 (k:Nat))))],[.var 92 [.d (FR T g)],.pin [(r,.own 0)],.row 28 1 (Z.map (λp=>[Jh p]))]⟩) ?le ⟨0,[],o,Nat.zero_le _,rfl,rfl,U,by cases BU (GJ G0) n o<;>rfl,rfl⟩ ?round
  case le=>exact Zjc
  case round=>
   rintro P _ ⟨k,Z,g,C,rfl,N,J,b,rfl⟩;by_cases Q:k<n
   .have I:=S T g J
    refine ZeZ ?_;rintro _ _ ⟨x,M,B,m,rfl,rfl⟩;refine Kr ?_
    (refine CU rfl rfl ?_;(refine Dj (Aa rfl) (Aa rfl) rfl rfl rfl rfl rfl ?_;(repeat ((first | refine⟨_,AA (ao rfl),?_⟩ | refine⟨_,Po rfl,?_⟩);refine⟨_,rfl,?_⟩));refine⟨_,rfl,?_⟩));(refine DV (r2:=[(λp=>[Jh p]) x]) (ao rfl) rfl rfl (Aa rfl) (Aa rfl) rfl rfl Zhz Zhz rfl ZbO rfl ?_);exact Zga
   .exact Zba
 .exact Zbb
theorem A3q(S:Rdr 184 (λx:List (List RTm)=>Ip x) (Ei G0)):Rdl 268 184 (λL:List (List (List RTm))=>slD 24 1 (L.map (λp=>[Ip p]))) (Ei G0):=Rdl.intro λT l K=>by
 have I:=Db T l K;refine Bh Tryz.func268 rfl (Ag Tryz.func268 ZbM ZbM) rfl λE r=>?_;rw[Tryz.ntmps268];refine ZeY ?_;rintro _ _ ⟨n,o,A,U,rfl,rfl⟩;refine Kr ?_;have i:=ET A;have G:=U.len;have R:=Gk (p:=(Ei G0)) A;by_cases F:n<=o.length
 .rw [if_pos F]at R
  refine Wa<|Y0<|Ao<|Y1<|Wm<|Wm ?_;refine Wq (BN (ao rfl)) ?_;refine Wq AF ?_;refine Wq BT ?_;refine Wq (CW (ao rfl) (Aa rfl)) ?_;refine Wq (AC (r:=((o.length:Nat):Int)) (ao rfl) (Aa rfl) (Aa rfl) (Ec ZbK)) ?_;refine Wq Bl ?_;refine Y0<|Cf<|Ys<|Y1<|Wa<|Y0<|Ao<|Y1<|Wm<|Wm<|Y0<|AWp.block ?_
  refine DR 6 24 1 rfl ZbN ZbN rfl rfl ?_;refine Az (λP d=>∃k Z g,k<=n/\P=n-k/\Z.length=k/\Byt g/\(BU (Ei G0) n o=(BU (Ei G0) (n-k) g).map λy=>(Z++y.1,y.2))/\d=⟨[(0,.ptr 0 0),(1,.fn (184+1000000) [0]),(6,.own 2),(18,.d (ex (.int .u64 (n:Nat)))),(19,.d (ex (.int .u64 (k:Nat))))],[.var 92 [.d (FR T g)],.pin [(r,.own 0)],.row 24 1 (Z.map (λp=>[Ip p]))]⟩) ?le ⟨0,[],o,Nat.zero_le _,rfl,rfl,U,by cases BU (Ei G0) n o<;>rfl,rfl⟩ ?round
  case le=>exact Zjc
  case round=>
   rintro P _ ⟨k,Z,g,C,rfl,N,J,b,rfl⟩;by_cases Q:k<n
   .have I:=S T g J
    refine ZeZ ?_;rintro _ _ ⟨x,M,B,m,rfl,rfl⟩;refine Kr ?_
    (refine CU rfl rfl ?_;(refine Dj (Aa rfl) (Aa rfl) rfl rfl rfl rfl rfl ?_;(repeat ((first | refine⟨_,AA (ao rfl),?_⟩ | refine⟨_,Po rfl,?_⟩);refine⟨_,rfl,?_⟩));refine⟨_,rfl,?_⟩));(refine DV (r2:=[(λp=>[Ip p]) x]) (ao rfl) rfl rfl (Aa rfl) (Aa rfl) rfl rfl Zhz Zhz rfl ZbO rfl ?_);exact Zga
   .exact Zba
 .exact Zbb
theorem A6B(S:Rdr 265 (λx:Nat->Int=>AJ (Co x)) (QX G0)):Rdl 264 265 (λL:List (Nat->Int)=>slD 36 8 (L.map Co)) (QX G0):=Rdl.intro λT l K=>by
 have I:=Db T l K;refine Bh Tryz.func264 rfl (Ag Tryz.func264 ZbM ZbM) rfl λE r=>?_;rw[Tryz.ntmps264];refine ZeY ?_;rintro _ _ ⟨n,o,A,U,rfl,rfl⟩;refine Kr ?_;have i:=ET A;have G:=U.len;have R:=Gk (p:=(QX G0)) A;by_cases F:n<=o.length
 .rw [if_pos F]at R
  refine Wa<|Y0<|Ao<|Y1<|Wm<|Wm ?_;refine Wq (BN (ao rfl)) ?_;refine Wq AF ?_;refine Wq BT ?_;refine Wq (CW (ao rfl) (Aa rfl)) ?_;refine Wq (AC (r:=((o.length:Nat):Int)) (ao rfl) (Aa rfl) (Aa rfl) (Ec ZbK)) ?_;refine Wq Bl ?_;refine Y0<|Cf<|Ys<|Y1<|Wa<|Y0<|Ao<|Y1<|Wm<|Wm<|Y0<|AWp.block ?_
  refine DR 6 36 8 rfl ZbN ZbN rfl rfl ?_;refine Az (λP d=>∃k Z g,k<=n/\P=n-k/\Z.length=k/\Byt g/\(BU (QX G0) n o=(BU (QX G0) (n-k) g).map λy=>(Z++y.1,y.2))/\d=⟨[(0,.ptr 0 0),(1,.fn (265+1000000) [0]),(6,.own 2),(18,.d (ex (.int .u64 (n:Nat)))),(19,.d (ex (.int .u64 (k:Nat))))],[.var 92 [.d (FR T g)],.pin [(r,.own 0)],.row 36 8 (Z.map Co)]⟩) ?le ⟨0,[],o,Nat.zero_le _,rfl,rfl,U,by cases BU (QX G0) n o<;>rfl,rfl⟩ ?round
  case le=>exact Zjc
  case round=>
   rintro P _ ⟨k,Z,g,C,rfl,N,J,b,rfl⟩;by_cases Q:k<n
   .have I:=S T g J
    refine ZeZ ?_;rintro _ _ ⟨x,M,B,m,rfl,rfl⟩;refine Zfq ?_;(refine DV (r2:=[Co x]) (ao rfl) rfl rfl (Aa rfl) (Aa rfl) rfl rfl Zhz Zhz rfl ZbO rfl ?_);exact Zga
   .exact Zba
 .exact Zbb
theorem A7l(S:Rdr 192 (λx:RQ×RQ=>AJ (Lw x)) (Tb G0)):Rdl 191 192 (λL:List (RQ×RQ)=>slD 129 8 (L.map Lw)) (Tb G0):=Rdl.intro λT l K=>by
 have I:=Db T l K;refine Bh Tryz.func191 rfl (Ag Tryz.func191 ZbM ZbM) rfl λE r=>?_;rw[Tryz.ntmps191];refine ZeY ?_;rintro _ _ ⟨n,o,A,U,rfl,rfl⟩;refine Kr ?_;have i:=ET A;have G:=U.len;have R:=Gk (p:=(Tb G0)) A;by_cases F:n<=o.length
 .rw [if_pos F]at R
  refine Wa<|Y0<|Ao<|Y1<|Wm<|Wm ?_;refine Wq (BN (ao rfl)) ?_;refine Wq AF ?_;refine Wq BT ?_;refine Wq (CW (ao rfl) (Aa rfl)) ?_;refine Wq (AC (r:=((o.length:Nat):Int)) (ao rfl) (Aa rfl) (Aa rfl) (Ec ZbK)) ?_;refine Wq Bl ?_;refine Y0<|Cf<|Ys<|Y1<|Wa<|Y0<|Ao<|Y1<|Wm<|Wm<|Y0<|AWp.block ?_
  refine DR 6 129 8 rfl ZbN ZbN rfl rfl ?_;refine Az (λP d=>∃k Z g,k<=n/\P=n-k/\Z.length=k/\Byt g/\(BU (Tb G0) n o=(BU (Tb G0) (n-k) g).map λy=>(Z++y.1,y.2))/\d=⟨[(0,.ptr 0 0),(1,.fn (192+1000000) [0]),(6,.own 2),(18,.d (ex (.int .u64 (n:Nat)))),(19,.d (ex (.int .u64 (k:Nat))))],[.var 92 [.d (FR T g)],.pin [(r,.own 0)],.row 129 8 (Z.map Lw)]⟩) ?le ⟨0,[],o,Nat.zero_le _,rfl,rfl,U,by cases BU (Tb G0) n o<;>rfl,rfl⟩ ?round
  case le=>exact Zjc
  case round=>
   rintro P _ ⟨k,Z,g,C,rfl,N,J,b,rfl⟩;by_cases Q:k<n
   .have I:=S T g J
    refine ZeZ ?_;rintro _ _ ⟨x,M,B,m,rfl,rfl⟩;refine Zfq ?_;(refine DV (r2:=[Lw x]) (ao rfl) rfl rfl (Aa rfl) (Aa rfl) rfl rfl Zhz Zhz rfl ZbO rfl ?_);exact Zga
   .exact Zba
 .exact Zbb
theorem A7j(S:Rdr 194 (λx:RQ×List RTm=>AJ (KV x)) (ZB G0)):Rdl 193 194 (λL:List (RQ×List RTm)=>slD 184 5 (L.map KV)) (ZB G0):=Rdl.intro λT l K=>by
 have I:=Db T l K;refine Bh Tryz.func193 rfl (Ag Tryz.func193 ZbM ZbM) rfl λE r=>?_;rw[Tryz.ntmps193];refine ZeY ?_;rintro _ _ ⟨n,o,A,U,rfl,rfl⟩;refine Kr ?_;have i:=ET A;have G:=U.len;have R:=Gk (p:=(ZB G0)) A;by_cases F:n<=o.length
 .rw [if_pos F]at R
  refine Wa<|Y0<|Ao<|Y1<|Wm<|Wm ?_;refine Wq (BN (ao rfl)) ?_;refine Wq AF ?_;refine Wq BT ?_;refine Wq (CW (ao rfl) (Aa rfl)) ?_;refine Wq (AC (r:=((o.length:Nat):Int)) (ao rfl) (Aa rfl) (Aa rfl) (Ec ZbK)) ?_;refine Wq Bl ?_;refine Y0<|Cf<|Ys<|Y1<|Wa<|Y0<|Ao<|Y1<|Wm<|Wm<|Y0<|AWp.block ?_
  refine DR 6 184 5 rfl ZbN ZbN rfl rfl ?_;refine Az (λP d=>∃k Z g,k<=n/\P=n-k/\Z.length=k/\Byt g/\(BU (ZB G0) n o=(BU (ZB G0) (n-k) g).map λy=>(Z++y.1,y.2))/\d=⟨[(0,.ptr 0 0),(1,.fn (194+1000000) [0]),(6,.own 2),(18,.d (ex (.int .u64 (n:Nat)))),(19,.d (ex (.int .u64 (k:Nat))))],[.var 92 [.d (FR T g)],.pin [(r,.own 0)],.row 184 5 (Z.map KV)]⟩) ?le ⟨0,[],o,Nat.zero_le _,rfl,rfl,U,by cases BU (ZB G0) n o<;>rfl,rfl⟩ ?round
  case le=>exact Zjc
  case round=>
   rintro P _ ⟨k,Z,g,C,rfl,N,J,b,rfl⟩;by_cases Q:k<n
   .have I:=S T g J
    refine ZeZ ?_;rintro _ _ ⟨x,M,B,m,rfl,rfl⟩;refine Zfq ?_;(refine DV (r2:=[KV x]) (ao rfl) rfl rfl (Aa rfl) (Aa rfl) rfl rfl Zhz Zhz rfl ZbO rfl ?_);exact Zga
   .exact Zba
 .exact Zbb
theorem A7k(S:Rdr 196 (λx:Nat->RQ=>AJ (Pq x)) (ptP G0)):Rdl 195 196 (λL:List (Nat->RQ)=>slD 187 32 (L.map Pq)) (ptP G0):=Rdl.intro λT l K=>by
 have I:=Db T l K;refine Bh Tryz.func195 rfl (Ag Tryz.func195 ZbM ZbM) rfl λE r=>?_;rw[Tryz.ntmps195];refine ZeY ?_;rintro _ _ ⟨n,o,A,U,rfl,rfl⟩;refine Kr ?_;have i:=ET A;have G:=U.len;have R:=Gk (p:=(ptP G0)) A;by_cases F:n<=o.length
 .rw [if_pos F]at R
  refine Wa<|Y0<|Ao<|Y1<|Wm<|Wm ?_;refine Wq (BN (ao rfl)) ?_;refine Wq AF ?_;refine Wq BT ?_;refine Wq (CW (ao rfl) (Aa rfl)) ?_;refine Wq (AC (r:=((o.length:Nat):Int)) (ao rfl) (Aa rfl) (Aa rfl) (Ec ZbK)) ?_;refine Wq Bl ?_;refine Y0<|Cf<|Ys<|Y1<|Wa<|Y0<|Ao<|Y1<|Wm<|Wm<|Y0<|AWp.block ?_
  refine DR 6 187 32 rfl ZbN ZbN rfl rfl ?_;refine Az (λP d=>∃k Z g,k<=n/\P=n-k/\Z.length=k/\Byt g/\(BU (ptP G0) n o=(BU (ptP G0) (n-k) g).map λy=>(Z++y.1,y.2))/\d=⟨[(0,.ptr 0 0),(1,.fn (196+1000000) [0]),(6,.own 2),(18,.d (ex (.int .u64 (n:Nat)))),(19,.d (ex (.int .u64 (k:Nat))))],[.var 92 [.d (FR T g)],.pin [(r,.own 0)],.row 187 32 (Z.map Pq)]⟩) ?le ⟨0,[],o,Nat.zero_le _,rfl,rfl,U,by cases BU (ptP G0) n o<;>rfl,rfl⟩ ?round
  case le=>exact Zjc
  case round=>
   rintro P _ ⟨k,Z,g,C,rfl,N,J,b,rfl⟩;by_cases Q:k<n
   .have I:=S T g J
    refine ZeZ ?_;rintro _ _ ⟨x,M,B,m,rfl,rfl⟩;refine Zfq ?_;(refine DV (r2:=[Pq x]) (ao rfl) rfl rfl (Aa rfl) (Aa rfl) rfl rfl Zhz Zhz rfl ZbO rfl ?_);exact Zga
   .exact Zba
 .exact Zbb
theorem A6E(S:Rdr 267 (λx:Nat->RQ×RQ=>AJ (DH x)) (To G0)):Rdl 266 267 (λL:List (Nat->RQ×RQ)=>slD 131 64 (L.map DH)) (To G0):=Rdl.intro λT l K=>by
 have I:=Db T l K;refine Bh Tryz.func266 rfl (Ag Tryz.func266 ZbM ZbM) rfl λE r=>?_;rw[Tryz.ntmps266];refine ZeY ?_;rintro _ _ ⟨n,o,A,U,rfl,rfl⟩;refine Kr ?_;have i:=ET A;have G:=U.len;have R:=Gk (p:=(To G0)) A;by_cases F:n<=o.length
 .rw [if_pos F]at R
  refine Wa<|Y0<|Ao<|Y1<|Wm<|Wm ?_;refine Wq (BN (ao rfl)) ?_;refine Wq AF ?_;refine Wq BT ?_;refine Wq (CW (ao rfl) (Aa rfl)) ?_;refine Wq (AC (r:=((o.length:Nat):Int)) (ao rfl) (Aa rfl) (Aa rfl) (Ec ZbK)) ?_;refine Wq Bl ?_;refine Y0<|Cf<|Ys<|Y1<|Wa<|Y0<|Ao<|Y1<|Wm<|Wm<|Y0<|AWp.block ?_
  refine DR 6 131 64 rfl ZbN ZbN rfl rfl ?_;refine Az (λP d=>∃k Z g,k<=n/\P=n-k/\Z.length=k/\Byt g/\(BU (To G0) n o=(BU (To G0) (n-k) g).map λy=>(Z++y.1,y.2))/\d=⟨[(0,.ptr 0 0),(1,.fn (267+1000000) [0]),(6,.own 2),(18,.d (ex (.int .u64 (n:Nat)))),(19,.d (ex (.int .u64 (k:Nat))))],[.var 92 [.d (FR T g)],.pin [(r,.own 0)],.row 131 64 (Z.map DH)]⟩) ?le ⟨0,[],o,Nat.zero_le _,rfl,rfl,U,by cases BU (To G0) n o<;>rfl,rfl⟩ ?round
  case le=>exact Zjc
  case round=>
   rintro P _ ⟨k,Z,g,C,rfl,N,J,b,rfl⟩;by_cases Q:k<n
   .have I:=S T g J
    refine ZeZ ?_;rintro _ _ ⟨x,M,B,m,rfl,rfl⟩;refine Zfq ?_;(refine DV (r2:=[DH x]) (ao rfl) rfl rfl (Aa rfl) (Aa rfl) rfl rfl Zhz Zhz rfl ZbO rfl ?_);exact Zga
   .exact Zba
 .exact Zbb
def Suf{F:Type}(p:Rd F):Prop:=∀l x P,p l=some (x,P)->∃k,P=l.drop k
theorem Suf.byt(h:Suf vQ)(G:vQ l=some (vP,f))(K:Byt l):Byt f:=by
 obtain⟨k,rfl⟩:=h l vP f G;exact K.drop k
theorem IA:Suf (BY vP):=λl x P h=>by cases h;exact⟨0,rfl⟩
theorem Suf.bind{p:Rd e}{f:e->Rd uB}(h:Suf p)(A:∀a,Suf (f a)):Suf (p.bind f):=λl x P E=>by
 unfold Rd.bind at E
 cases G:p l with
 |none=>rw[G]at E;cases E
 |some y=>
  obtain⟨a,o⟩:=y;rw[G]at E;obtain⟨k,rfl⟩:=h l a o G;obtain⟨j,rfl⟩:=A a _ x P E;exact⟨k+j,by rw[List.drop_drop]⟩
theorem Suf.guard{c:List Nat->Bool}:Suf (JF c):=λl x P h=>by
 unfold JF at h;split at h
 .cases h;exact⟨0,rfl⟩
 .cases h
theorem Suf.rep{F:Type}{p:Rd F}(h:Suf p):∀n,Suf (BU p n)
 |0=>IA
 |n+1=>h.bind λ_=>(Suf.rep h n).bind λ_=>IA
theorem UD:∀(k s n:Nat),Suf (NZ k s n)
 |0,_,_,_,_,_,h=>by cases h
 |k+1,s,n,[],_,_,h=>by cases h
 |k+1,s,n,c::l,x,P,h=>by
  rw[NZ]at h
  dsimp only at h
  split at h
  .cases h
  .split at h
   .cases h;exact⟨1,rfl⟩
   .obtain ⟨j,rfl⟩:=UD k _ _ l x P h
    exact⟨j+1,by simp⟩
theorem SV:Suf NY:=UD 10 1 0
theorem A0Z:Suf Jm:=λl x P h=>by
 unfold Jm at h;split at h
 .cases h;exact⟨4,rfl⟩
 .cases h
theorem UL(h:Suf vQ):Suf (Fu G0 vQ):=Suf.bind SV λ_=>Suf.guard.bind λ_=>h.rep _
theorem Tc:Suf (PN G0):=Suf.bind SV λ_=>Suf.guard.bind λ_=>(A0Z.rep _).bind λ_=>IA
theorem YD:Suf (FM G0):=Tc.bind λ_=>Tc.bind λ_=>IA
theorem Rdr.con{d:e->D}(h:Rdr vb d vQ)(K:Byt l)(G:vQ l=some (vP,f)):Con Tryz.prog vb [.ptr 0 0] (rH t l) [] (λr u=>r=.d (d vP)/\u=rH t f):=
 ((h t l K).con (by rw [G]; exact fun h => by cases h)).mono fun r u ⟨E, g, A, _, L, V⟩ => by
  rw[G]at A;cases A;exact⟨L,V⟩
theorem AG{o:Oper}{r:AV}(h:∃b,Quiet P H o vz b/\b=r):Quiet P H o vz r:=by
 obtain⟨b,A,rfl⟩:=h;exact A
theorem UO(S:Rdr 270 (λx:RQ=>AJ (Ih x)) (FM G0)):Rdr 192 (λx:RQ×RQ=>AJ (Lw x)) (Tb G0):=Rdr.intro λT l K=>by
 have I:=S T l K;refine Bh Tryz.func192 rfl (Ag Tryz.func192 ZbM ZbM) rfl λC r=>?_;rw[Tryz.ntmps192];refine Zfb ?_;rintro _ _ ⟨a,o,A,E,rfl,rfl⟩;refine Zfp ?_
 cases B:FM G0 o with
 |none=>
  refine Lt 0 (.var 92 [.d (FR T o)]) 2 4 [3,2,1,0] [.d (AJ (Ih a)),.ptr 0 0,.d (AJ (Ih default)),.d (AJ (Lw (a,default)))] [[],[],[(7,1)],[(6,0),(8,2)]] [(3,.ptr 3 0),(0,.ptr 0 0)] ZbM rfl ⟨λ_=>rfl,(λU R=>by rw[List.mem_singleton.1 R];rfl)⟩ ⟨rfl,rfl,trivial⟩ rfl rfl ZbM (by refine DSteps.q rfl ZbI ?_;refine DSteps.q rfl ZbI ?_;refine DSteps.k rfl (DCallP.mk (λ_=>rfl) (S T o E)) ?_;refine DSteps.q rfl ZbI ?_;exact DSteps.nil) ZbM ZdE (λX=>(by repeat (first | exact AB (by unfold Tb;rw[Rd.some A];exact Rd.none X) | apply As | apply PanQ.block | apply PanQ.loop):PanQ _ _))
 |some y=>
  obtain⟨c,g⟩:=y;refine Lu 0 (.var 92 [.d (FR T o)]) (.var 92 [.d (FR T g)]) 2 4 [3,2,1,0] [.d (AJ (Ih a)),.ptr 0 0,.d (AJ (Ih c)),.d (AJ (Lw (a,c)))] [[],[],[(7,1)],[(6,0),(8,2)]] [(3,.ptr 3 0),(0,.ptr 0 0),(2,.ptr 2 0)] [(9,.d (AJ (Lw (a,c)))),(2,.ptr 2 0)] ZbM rfl ⟨λ_=>rfl,λ_=>rfl,(λU R=>by rw[List.mem_singleton.1 R];rfl)⟩ ⟨rfl,rfl,rfl,trivial⟩ rfl rfl ZbM ZbM (by refine DSteps.q rfl ZbI ?_;refine DSteps.q rfl ZbI ?_;refine DSteps.k rfl (DCall.mk (λ_=>rfl) (S.con E B)) ?_;refine DSteps.q rfl ZbI ?_;exact DSteps.nil) ZbM ⟨rfl,rfl,trivial⟩ [.var 92 [.d (FR T g)],.pin [(r,.own 0)],.var 129 ([ex (.bool false),ex (.slice none 0 0),ex (.bool false),ex (.slice none 0 0),ex (.bool false),ex (.slice none 0 0),ex (.bool false),ex (.slice none 0 0)].map .d),.var 111 ((Ih a).map .d)] rfl ?_;refine Zfa ?_;exact⟨(a,c),g,by unfold Tb;rw[Rd.some A,Rd.some B];rfl,YD.byt B E,rfl,rfl⟩
def inC(x:Bool×List Nat):List D:=[ex (.bool x.1),wD x.2]
theorem Um(F:Rdr 307 (λx:Bool×List Nat=>AJ (inC x)) (PN G0)):Rdr 270 (λx:RQ=>AJ (Ih x)) (FM G0):=Rdr.intro λT l K=>by
 have I:=F T l K;refine Bh Tryz.func270 rfl (Ag Tryz.func270 ZbM ZbM) rfl λC r=>?_;rw[Tryz.ntmps270];refine Zfb ?_;rintro _ _ ⟨a,o,A,E,rfl,rfl⟩;refine Zfp ?_
 cases B:(PN G0) o with
 |none=>
  refine Lt 0 (.var 92 [.d (FR T o)]) 2 4 [3,2,1,0] [.d (AJ (inC a)),.ptr 0 0,.d (AJ (inC (false,[]))),.d (AJ (Ih ⟨a.1,a.2,false,[]⟩))] [[],[],[(7,1)],[(6,0),(8,2)]] [(3,.ptr 3 0),(0,.ptr 0 0)] ZbM rfl ⟨λ_=>rfl,(λU R=>by rw[List.mem_singleton.1 R];rfl)⟩ ⟨rfl,rfl,trivial⟩ rfl rfl ZbM (by refine DSteps.q rfl ZbI ?_;refine DSteps.q rfl ZbI ?_;refine DSteps.k rfl (DCallP.mk (λ_=>rfl) (F T o E)) ?_;refine DSteps.q rfl ZbI ?_;exact DSteps.nil) ZbM ZdE (λX=>(by repeat (first | exact AB (by unfold FM;rw[Rd.some A];exact Rd.none X) | apply As | apply PanQ.block | apply PanQ.loop):PanQ _ _))
 |some y=>
  obtain⟨c,g⟩:=y;refine Lu 0 (.var 92 [.d (FR T o)]) (.var 92 [.d (FR T g)]) 2 4 [3,2,1,0] [.d (AJ (inC a)),.ptr 0 0,.d (AJ (inC c)),.d (AJ (Ih ⟨a.1,a.2,c.1,c.2⟩))] [[],[],[(7,1)],[(6,0),(8,2)]] [(3,.ptr 3 0),(0,.ptr 0 0),(2,.ptr 2 0)] [(9,.d (AJ (Ih ⟨a.1,a.2,c.1,c.2⟩))),(2,.ptr 2 0)] ZbM rfl ⟨λ_=>rfl,λ_=>rfl,(λU R=>by rw[List.mem_singleton.1 R];rfl)⟩ ⟨rfl,rfl,rfl,trivial⟩ rfl rfl ZbM ZbM (by refine DSteps.q rfl ZbI ?_;refine DSteps.q rfl ZbI ?_;refine DSteps.k rfl (DCall.mk (λ_=>rfl) (F.con E B)) ?_;refine DSteps.q rfl ZbI ?_;exact DSteps.nil) ZbM ⟨rfl,rfl,trivial⟩ [.var 92 [.d (FR T g)],.pin [(r,.own 0)],.var 111 ([ex (.bool false),ex (.slice none 0 0),ex (.bool false),ex (.slice none 0 0)].map .d),.var 109 ((inC a).map .d)] rfl ?_;refine Zfa ?_;exact⟨_,g,by unfold FM;rw[Rd.some A,Rd.some B];rfl,Tc.byt B E,rfl,rfl⟩
theorem Ur:Suf (GJ G0):=UL (YD.bind λ_=>Suf.bind (Suf.bind (Suf.rep (Suf.bind SV λn l x P h=>by(split at h<;>cases h);exact⟨0,rfl⟩) 8) λ_=>IA) λ_=>IA)
theorem Zz(F:Rdr 270 (λx:RQ=>AJ (Ih x)) (FM G0))(G:Rdr 185 (λx:List RTm=>Jh x) (GJ G0)):Rdr 194 (λx:RQ×List RTm=>AJ (KV x)) (ZB G0):=Rdr.intro λT l K=>by
 have I:=F T l K;refine Bh Tryz.func194 rfl (Ag Tryz.func194 ZbM ZbM) rfl λC r=>?_;rw[Tryz.ntmps194];refine Zfb ?_;rintro _ _ ⟨a,o,A,E,rfl,rfl⟩;refine Zfp ?_
 cases B:(GJ G0) o with
 |none=>
  refine Lt 0 (.var 92 [.d (FR T o)]) 2 4 [3,2,1,0] [.d (AJ (Ih a)),.ptr 0 0,.d (Jh ([]:List RTm)),.d (AJ (KV (a,([]:List RTm))))] [[],[],[(7,1)],[(6,0),(8,2)]] [(3,.ptr 3 0),(0,.ptr 0 0)] ZbM rfl ⟨λ_=>rfl,(λU R=>by rw[List.mem_singleton.1 R];rfl)⟩ ⟨rfl,rfl,trivial⟩ rfl rfl ZbM (by refine DSteps.q rfl ZbI ?_;refine DSteps.q rfl ZbI ?_;refine DSteps.k rfl (DCallP.mk (λ_=>rfl) (G T o E)) ?_;refine DSteps.q rfl ZbI ?_;exact DSteps.nil) ZbM ZdE (λX=>(by repeat (first | exact AB (by unfold ZB;rw[Rd.some A];exact Rd.none X) | apply As | apply PanQ.block | apply PanQ.loop):PanQ _ _))
 |some y=>
  obtain⟨c,g⟩:=y;refine Lu 0 (.var 92 [.d (FR T o)]) (.var 92 [.d (FR T g)]) 2 4 [3,2,1,0] [.d (AJ (Ih a)),.ptr 0 0,.d (Jh c),.d (AJ (KV (a,c)))] [[],[],[(7,1)],[(6,0),(8,2)]] [(3,.ptr 3 0),(0,.ptr 0 0),(2,.ptr 2 0)] [(9,.d (AJ (KV (a,c)))),(2,.ptr 2 0)] ZbM rfl ⟨λ_=>rfl,λ_=>rfl,(λU R=>by rw[List.mem_singleton.1 R];rfl)⟩ ⟨rfl,rfl,rfl,trivial⟩ rfl rfl ZbM ZbM (by refine DSteps.q rfl ZbI ?_;refine DSteps.q rfl ZbI ?_;refine DSteps.k rfl (DCall.mk (λ_=>rfl) (G.con E B)) ?_;refine DSteps.q rfl ZbI ?_;exact DSteps.nil) ZbM ⟨rfl,rfl,trivial⟩ [.var 92 [.d (FR T g)],.pin [(r,.own 0)],.var 184 ([ex (.bool false),ex (.slice none 0 0),ex (.bool false),ex (.slice none 0 0),ex (.slice none 0 0)].map .d),.var 111 ((Ih a).map .d)] rfl ?_;refine Zfa ?_;exact⟨_,g,by unfold ZB;rw[Rd.some A,Rd.some B];rfl,Ur.byt B E,rfl,rfl⟩
theorem QV(S:Rdr 270 (λx:RQ=>AJ (Ih x)) (FM G0)):Rdr 269 (λL:List (RQ)=>KG L) (Sy G0):=Rdr.intro λT l K=>by
 have I:=A6C S T l K;refine Bh Tryz.func269 rfl (Ag Tryz.func269 ZbM ZbM) rfl λB r=>?_;rw[Tryz.ntmps269];exact Zhf
theorem A3v(S:Rdr 263 (λx:RTm=>AJ (rtC x)) (Im G0)):Rdr 185 (λL:List (RTm)=>Jh L) (GJ G0):=Rdr.intro λT l K=>by
 have I:=A54 S T l K;refine Bh Tryz.func185 rfl (Ag Tryz.func185 ZbM ZbM) rfl λB r=>?_;rw[Tryz.ntmps185];exact Zhf
theorem A1r(S:Rdr 185 (λx:List RTm=>Jh x) (GJ G0)):Rdr 184 (λL:List (List RTm)=>Ip L) (Ei G0):=Rdr.intro λT l K=>by
 have I:=A55 S T l K;refine Bh Tryz.func184 rfl (Ag Tryz.func184 ZbM ZbM) rfl λB r=>?_;rw[Tryz.ntmps184];exact Zhf
theorem Zv(S:Rdr 184 (λx:List (List RTm)=>Ip x) (Ei G0)):Rdr 189 (λL:List (List (List RTm))=>Wc L) (MB G0):=Rdr.intro λT l K=>by
 have I:=A3q S T l K;refine Bh Tryz.func189 rfl (Ag Tryz.func189 ZbM ZbM) rfl λB r=>?_;rw[Tryz.ntmps189];exact Zhf
theorem A1x(S:Rdr 265 (λx:Nat->Int=>AJ (Co x)) (QX G0)):Rdr 186 (λL:List (Nat->Int)=>DW L) (MJ G0):=Rdr.intro λT l K=>by
 have I:=A6B S T l K;refine Bh Tryz.func186 rfl (Ag Tryz.func186 ZbM ZbM) rfl λB r=>?_;rw[Tryz.ntmps186];exact Zhf
theorem A2j(S:Rdr 267 (λx:Nat->RQ×RQ=>AJ (DH x)) (To G0)):Rdr 188 (λL:List (Nat->RQ×RQ)=>Gy L) (MW G0):=Rdr.intro λT l K=>by
 have I:=A6E S T l K;refine Bh Tryz.func188 rfl (Ag Tryz.func188 ZbM ZbM) rfl λB r=>?_;rw[Tryz.ntmps188];exact Zhf
end
end Go.Proofs.YtcikkglcoeedlaaGreat
