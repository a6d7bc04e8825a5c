import Derived.Test.YtghjbimijeinfaaGreatDoorV06
set_option maxHeartbeats 4000000
set_option maxRecDepth 100000
set_option linter.all false
namespace Go.Proofs.YtghjbimijeinfaaGreatDoor
open IntKind
open Go.RowKit Go.Shelf
section
variable {r:Option Nat} {P:Program} {N:Nat} {D:List Deferred} {F:HL} {w0:World} {R:HL} {s:Cfg} {Q:Exit -> Act -> World -> Prop}
def GT(P:Program)(n0 N:Nat)(R:HL)(s:Cfg):Option (Option Tmp × Nat × Array Value × List Prop):=match s.c with
 | .ops ops i=>AJ P n0 N ops.toList i s.L (ap s.A s.Ts) R []
 | _=>none
def GU(N j:Nat)(s:Cfg)(x:Option (Option Tmp × Nat × Array Value × List Prop)):Option (Nat × Array Value × List Prop × HL):=match x with
 | some (dst,l,args,Ob)=>match s.Ts[j]?,([j]++oth [j] s.Ts.length).isPerm (List.range s.Ts.length) && (dV N dst undef s.L).isSome with
  | some T,true=>some (l,args,Ob,T)
  | _,_=>none
 | none=>none
theorem RN.yield(j:Nat){l:Nat}{args:Array Value}{T:HL}{Rv:Bool -> HL -> Prop}(hc:YL P l args T (ap s.A (gn [j] s)++F) Rv)(hk:∀b H',Rv b H' -> RN r P N D F w0 R (Qf j H' (eH N (.bool b) s)) Q)
  (h:∀n0,GU N j s (GT P n0 N R s)=some (l,args,[],T):=by intro n0;kernel_rfl):RN r P N D F w0 R s Q:=by
 refine⟨λ hR a w hF aT hB=>?_⟩;have h':=h w.heap.size;obtain⟨cc,k,L,A,Ts⟩:=s;cases cc with
 | code c=>simp[GT,GU] at h'
 | ex c=>simp[GT,GU] at h'
 | drw _ _=>simp[GT,GU] at h'
 | ops ops i =>
 simp only[GT] at h' hF aT;generalize hx:AJ P w.heap.size N ops.toList i L (ap A Ts) R []=x at h';unfold GU at h';split at h'
 case h_2=>cases h'
 rename_i dst l' iF Ob';split at h'
 case h_2=>cases h'
 rename_i T' hj hpp;simp only[Option.some.injEq,Prod.mk.injEq] at h';obtain⟨e1,e2,e3,e4⟩:=h';subst e1;subst e2;subst e3;subst e4;simp only at hj hpp;rw[abe] at hpp;have h':=hx;unfold AJ at h';split at h'
 ·cases h'
 rename_i o ho;split at h'
 case h_2=>cases h'
 rename_i ss hw;split at h'
 case h_2=>cases h'
 rename_i dO hh he;split at h'
 case h_2=>cases h'
 rename_i c j_;split at h'
 case h_2=>cases h'
 rename_i f TC;split at h'
 case h_2=>cases h'
 rename_i l2 cap bound hf;split at h'
 case h_2=>cases h'
 rename_i e1 e2;simp only[Option.some.injEq,Prod.mk.injEq] at h';obtain⟨d1,d2,d3,d4⟩:=h';subst d2;have hcap:cap=#[]:=by cases cap;simp_all
 have ahO:bound=#[]:=by cases bound;simp_all
 subst hcap;subst ahO;have rW:ops.toList.drop i=o::ops.toList.drop (i+1):=by
  have g_:i<ops.toList.length:=(List.getElem?_eq_some_iff.1 ho).1;rw[List.drop_eq_getElem_cons g_,(List.getElem?_eq_some_iff.1 ho).2]
 show wpListIn _ _ _ _ _ _ _ _;rw[rW,wpListIn];have Ty:∀p∈ss.ob,p:=by rw[d4];intro p hp;cases hp
 obtain⟨c1,c2,c3⟩:=cw hw hF Ty;rw[if_pos c1];refine⟨λ _ _=>trivial,?_⟩;rw[hF.sem dO];have AT:=j8 (A:=A) hj hpp.1;have G_:Rel (T'++(ap A ((oth [j] Ts.length).filterMap (Ts[·]?))++F)) w:=by rw[<- aaF];exact aT.perm (AT.symm.append_right F).symm
 obtain⟨fn,tmps,assign,body,hy,aaE⟩:=hc w G_;rw[AK j_ TC hf,d3,hy,Oper.uponIn_round];refine⟨λ h=>(by cases h),RoundIn.mono (show RoundIn (Wr r) (0-1) P l2 fn tmps assign body w _ from aaE) ?_⟩;rintro e W' ⟨b,H',rfl,hv,UE,VK⟩;obtain⟨L',p1⟩:=dU hpp.2 (.bool b);have hh:=(hk b H' hv).h hR;have Tf:eH N (.bool b) ⟨.ops ops i,k,L,A,Ts⟩=⟨.ops ops (i+1),k,L',A,Ts⟩:=by
  unfold eH;rw[<- d1] at p1;simp only[ho,p1]
 rw[Tf] at hh;rw[<- d1] at p1;refine hh _ W' (hF.put p1) (UE.perm ?_) (hB.trans VK);rw[<- aaF];refine aa8 F ?_;show (A++(H'::(oth [j] Ts.length).filterMap (Ts[·]?)).flatten).Perm (H'++(A++((oth [j] Ts.length).filterMap (Ts[·]?)).flatten));rw[List.flatten_cons,<- aaF,<- aaF];exact aa8 _ aa7
theorem RN.rn{σ:Type}{Ax:σ -> HL}{Tx:σ -> List HL}{I:σ -> Prop}{Ix:Code -> σ -> Prop}(x:σ)(ip jp:List Nat)(hi:I x)(hc:(match s.c,s.k with | .ex .normal,[]=>true|_,_=>false)=true:=by kernel_rfl)
  (hp:cg ip jp s=true:=by kernel_rfl) (hH:picks ip jp s=(Ax x,Tx x):=by kernel_rfl):RN r P N D F w0 R s (RQ F w0 (λ x=>ap (Ax x) (Tx x)) I Ix):=by
 unfold cg at hp;unfold picks at hH;rw[abe] at hp;simp only[Prod.mk.injEq] at hH;refine⟨λ hR a w h1 h2 h3=>?_⟩;obtain⟨c,k,L,A,Ts⟩:=s;split at hc
 case h_2=>cases hc
 rename_i e1 e2;simp only at e1 e2;subst e1;subst e2;exact⟨x,hi,h2.takeT ip _ jp _ hp.1 hp.2 (by rw[hH.1,hH.2]),h3⟩
theorem RN.rr{σ:Type}{Ax:σ -> HL}{Tx:σ -> List HL}{I:σ -> Prop}{Ix:Code -> σ -> Prop}(x:σ)(ip jp:List Nat)(hi:Ix .ret x)(hc:(match s.c with | .code .ret=>true|_=>false)=true:=by kernel_rfl)
  (hp:cg ip jp s=true:=by kernel_rfl) (hH:picks ip jp s=(Ax x,Tx x):=by kernel_rfl):RN r P N D F w0 R s (RQ F w0 (λ x=>ap (Ax x) (Tx x)) I Ix):=by
 unfold cg at hp;unfold picks at hH;rw[abe] at hp;simp only[Prod.mk.injEq] at hH;refine⟨λ hR a w h1 h2 h3=>?_⟩;obtain⟨c,k,L,A,Ts⟩:=s;split at hc
 case h_2=>cases hc
 rename_i e1;simp only at e1;subst e1;exact wpIn_ret (i5 k ⟨x,hi,h2.takeT ip _ jp _ hp.1 hp.2 (by rw[hH.1,hH.2]),h3⟩)
end
section
variable {P:Program} {N:Nat} {D:List Deferred} {F:HL} {w0:World} {R:HL} {s:Cfg} {Q:Exit -> Act -> World -> Prop}
def mV(s:Cfg):Option (Value × Nat):=match s.c with
 | .code (.rangeFunc g ps _ _)=>match gB s.L g with
  | true=>some (fG s.L g,ps.size)
  | false=>none
 | _=>none
def KW(N:Nat)(s:Cfg):Bool:=match s.c with
 | .code (.rangeFunc _ ps _ _)=>ps.toList.all λ p=>decide (p<N)
 | _=>false
def Qg(K:Act -> World -> Prop)(vs:List Value)(A:HL)(Ts:List HL)(s:Cfg):Cfg:=match s with
 | ⟨.code (.rangeFunc _ ps assign _),_,L,_,_⟩=>⟨.code assign,[.met K],rj ps.toList vs L,A,Ts⟩
 | s=>s
def Qh(V:Inv)(s:Cfg):Cfg:=match s with
 | ⟨.code (.rangeFunc _ _ _ body),_,_,_,_⟩=>⟨.code body,[],V.L,V.A,V.Ts⟩
 | s=>s
def Qi(c:Fo)(d:Nat)(ip jp:List Nat)(A:HL)(Ts:List HL)(s:Cfg):Cfg:=match s with
 | ⟨_,k,L,A',Vk⟩=>⟨c,k,L,cE d::(A++(oth ip A'.length).filterMap (A'[·]?)),Ts++(oth jp Vk.length).filterMap (Vk[·]?)⟩
theorem RN.range{α σ τ:Type}{encs:α -> Array Value}{xs:List α}{gf:FuncId}{lb:Array Value}(eg:∀args w,(callFunc gf args).run P w=.ok (.enter gf args) w)
  (S:σ -> HL × List HL) (I:Nat -> σ -> Prop) (Ix:Code -> σ -> Prop) (W:τ -> Inv) (Ia:Nat -> α -> τ -> Prop) (x0:σ) (h0:I 0 x0) (ip jp:List Nat)
  (hit:It P gf lb (ap (fm ip s) (gn jp s)++F) encs xs)
  (r_:∀ (l i:Nat) (x:α) (s1:σ) (Y:HL) (w1:World),xs[i]?=some x -> I i s1 ->
   (∀ {s':Cfg} {R':HL} (t:τ) (Ya X9:List Nat),Ia i x t -> (hm:Ed s'=some (MV N [] (Y++(ap (fm ip s) (gn jp s)++F)) w1 W (Ia i x)):=by kernel_rfl) -> (h:wu (W t) Ya X9 s'=oJ (W t):=by kernel_rfl) -> (hp:cg Ya X9 s'=true:=by kernel_rfl) -> RN (some l) P N [] (Y++(ap (fm ip s) (gn jp s)++F)) w1 R' s' (λ _ _ _=>False)) ->
   RN (some l) P N [] (Y++(ap (fm ip s) (gn jp s)++F)) w1 (fm ip s++R) (Qg (MV N [] (Y++(ap (fm ip s) (gn jp s)++F)) w1 W (Ia i x)) (encs x).toList (S s1).1 (S s1).2 s) (λ _ _ _=>False))
  (SV:∀ (l i:Nat) (x:α) (t:τ) (Y:HL) (w1:World),xs[i]?=some x -> Ia i x t -> RN (some l) P N [] (Y++(ap (fm ip s) (gn jp s)++F)) w1 (fm ip s++R) (Qh (W t) s) (RQ (Y++(ap (fm ip s) (gn jp s)++F)) w1 (λ s=>ap (S s).1 (S s).2) (I (i+1)) Ix))
  (RW:∀ (d:Nat) (s1:σ),I xs.length s1 -> RN none P N (coll d::D) F w0 R (Qi (.ex .normal) d ip jp (S s1).1 (S s1).2 s) Q)
  (OF:∀ (d:Nat) (c:Code) (s1:σ),Ix c s1 -> RN none P N (coll d::D) F w0 R (Qi (.code c) d ip jp (S s1).1 (S s1).2 s) Q)
  (UA:KW N s=true:=by kernel_rfl) (hp:cg ip jp s=true:=by kernel_rfl) (hH:picks ip jp s=((S x0).1,(S x0).2):=by kernel_rfl) (hG:(mV s).map (·.1)=some (.func (.func gf) #[] lb):=by kernel_rfl) (u_:∀x:α,(mV s).map (·.2)=some (encs x).size:=by intro x;kernel_rfl):RN none P N D F w0 R s Q:=by
 refine⟨λ hR=>?_⟩;obtain⟨c,k,L,A,Ts⟩:=s;unfold cg at hp;unfold picks at hH;rw[abe] at hp;simp only[Prod.mk.injEq] at hH;cases c with
 | ops _ _=>simp[mV] at hG
 | ex _=>simp[mV] at hG
 | drw _ _=>simp[mV] at hG
 | code c =>
 cases c with
 | rangeFunc g ps assign body =>
  have hi:gB L g=true:=by
   cases h:gB L g with
   | true=>rfl
   | false=>simp[mV,h] at hG
  simp only[mV,hi,Option.map_some,Option.some.injEq] at hG u_;simp only[KW] at UA;have YE:∀ (Y:HL),∀y∈fm ip ⟨.code (.rangeFunc g ps assign body),k,L,A,Ts⟩++R,y∈Y++(ap (fm ip ⟨.code (.rangeFunc g ps assign body),k,L,A,Ts⟩) (gn jp ⟨.code (.rangeFunc g ps assign body),k,L,A,Ts⟩)++F):=by
   intro Y y hy;rcases List.mem_append.1 hy with hy|hy
   ·exact aau _ (aav _ (aav _ hy))
   ·exact aau _ (aau _ (hR y hy))
  exact Eb (assign:=assign) (body:=body) hi hG eg (λ s=>(S s).1) (λ s=>(S s).2) I Ix (λ t=>(W t).L) (λ t=>ap (W t).A (W t).Ts) Ia (λ x=>(u_ x).symm) UA x0 h0 ip (oth ip A.length) jp (oth jp Ts.length) hp.1 hp.2 _ _ rfl rfl hH.1 hH.2 hit
   (λ l i x s1 Y w1 hx hi=>(r_ l i x s1 Y w1 hx hi (λ t Ya X9 ht hm h hp=>rK t Ya X9 ht hm h hp)).h (YE Y))
   (λ l i x t Y w1 hx ht=>(SV l i x t Y w1 hx ht).h (YE Y))
   (λ d s1 hs=>(RW d s1 hs).h hR) (λ d c s1 hs=>(OF d c s1 hs).h hR)
 | _=>simp[mV] at hG
theorem Sp.runM{f:FuncId}{fn:Func}{c:Code}{args:Array Value}{H:HL}{R':Value -> HL -> Prop}(hf:P.funcs[f]?=some fn)(hb:fn.body=some c)(hR:∀y∈R,y∈F){A:HL}{Ts:List HL}(hH:H=ap A Ts)
  (h:∀w0,RN none P fn.ntmps [] F w0 R ⟨.code c,[],r9 0 args.toList,A,Ts⟩ (bodyPostM (Wr none) 0 P fn (CC F w0 R'))) (ha:decide (args.size <= fn.ntmps)=true:=by kernel_rfl):Sp P f args H F R':=by
 subst hH;exact xM hf hb rfl ha _ rfl λ w0=>(h w0).h hR
def ly(dx:List Nat)(s:Cfg):Cfg:=match s with
 | ⟨c,k,L,A,Ts⟩=>⟨c,k,L,(oth dx A.length).filterMap (A[·]?),Ts⟩
theorem GV{fn:Func}{R':Value -> HL -> Prop}(ds dx:List Nat)(hints:List Hint)(Ob:List Prop)(iD:AllP Ob)(ip jp:List Nat){v:Value}{H':HL}(hv:R' v H')
  (hD:D=ds.map coll:=by rfl) (hc:nL s=true:=by kernel_rfl) (hd:((dx++oth dx s.A.length).isPerm (List.range s.A.length),dx.filterMap (s.A[·]?))=(true,ds.map cE):=by kernel_rfl)
  (h:∀n0,j6 P n0 fn.results.toList R hints (ly dx s)=some (v,oI (j6 P 0 fn.results.toList R hints (ly dx s)),oI (j6 P 0 fn.results.toList R hints (ly dx s)),Ob):=by intro n0;kernel_rfl)
  (hp:cg ip jp (ly dx s)=true:=by kernel_rfl) (hH:ap (picks ip jp (ly dx s)).1 (picks ip jp (ly dx s)).2=H':=by kernel_rfl):RN none P N D F w0 R s (bodyPostM (Wr none) 0 P fn (CC F w0 R')):=by
 unfold cg at hp;unfold picks at hH;simp only[Prod.mk.injEq] at hd;rw[abe] at hp;obtain⟨c,k,L,A,Ts⟩:=s;refine⟨λ hR a w hF aT hB=>?_⟩;have key:LeavesInM (Wr none) 0 P fn a.tmps (CC F w0 R') a.defers .returning w:=by
  exact Go.Proofs.YtghjbimijeinfaaGreatDoor.retM (by simp) ds hD dx (oth dx A.length) R hints v _ Ob hd.1 hd.2 rfl h hR iD ip _ jp _ H' hp.1 hp.2 hH hv a w hF aT hB
 exact pL hc key key
theorem RN.retM{fn:Func}{R':Value -> HL -> Prop}(ds dx:List Nat)(hints:List Hint)(ip jp:List Nat){v:Value}{H':HL}(hv:R' v H')
 (hD:D=ds.map coll:=by rfl) (hc:nL s=true:=by kernel_rfl) (hd:((dx++oth dx s.A.length).isPerm (List.range s.A.length),dx.filterMap (s.A[·]?))=(true,ds.map cE):=by kernel_rfl)
 (h:∀n0,j6 P n0 fn.results.toList R hints (ly dx s)=some (v,oI (j6 P 0 fn.results.toList R hints (ly dx s)),oI (j6 P 0 fn.results.toList R hints (ly dx s)),[]):=by intro n0;kernel_rfl)
 (hp:cg ip jp (ly dx s)=true:=by kernel_rfl) (hH:ap (picks ip jp (ly dx s)).1 (picks ip jp (ly dx s)).2=H':=by kernel_rfl):RN none P N D F w0 R s (bodyPostM (Wr none) 0 P fn (CC F w0 R')):=GV ds dx hints [] trivial ip jp hv hD hc hd h hp hH
end
theorem ShIn.up{F X:HL}{s:Shp}(h:ShIn F s):ShIn (X++F) s:=h.mono λ x hx=>aau _ hx
def isZ(a:V2):Prop:=((decide (a.x=0) && (decide (a.y=0) && true)))=true
instance (a:V2):Decidable (isZ a):=inferInstanceAs (Decidable (_=true))
def iy(a:V2):V2:=if isZ (lx a) then ⟨1024,0⟩ else lx a
def gQ(pos ax:V2)(l:List V2):Nat -> Int × Int
 | 0=>(0,0)
 | k+1=>if (k:Int)=0 then (if dk (aC pos (l.getD k ⟨0,0⟩)) ax<dk (aC pos (l.getD k ⟨0,0⟩)) ax then dk (aC pos (l.getD k ⟨0,0⟩)) ax else dk (aC pos (l.getD k ⟨0,0⟩)) ax,if dk (aC pos (l.getD k ⟨0,0⟩)) ax>dk (aC pos (l.getD k ⟨0,0⟩)) ax then dk (aC pos (l.getD k ⟨0,0⟩)) ax else dk (aC pos (l.getD k ⟨0,0⟩)) ax)
  else (if dk (aC pos (l.getD k ⟨0,0⟩)) ax<(gQ pos ax l k).1 then dk (aC pos (l.getD k ⟨0,0⟩)) ax else (gQ pos ax l k).1,if dk (aC pos (l.getD k ⟨0,0⟩)) ax>(gQ pos ax l k).2 then dk (aC pos (l.getD k ⟨0,0⟩)) ax else (gQ pos ax l k).2)
def i9(s:Shp)(pos ax:V2):Int × Int:=if jS s then (aV (dk pos ax-s.r),aV (dk pos ax+s.r)) else gQ pos ax s.poly s.poly.length
def nM(a:Shp)(pa:V2)(b:Shp)(pb ax:V2):Int:=aV ((if (i9 b pb ax).2<(i9 a pa ax).2 then (i9 b pb ax).2 else (i9 a pa ax).2)-(if (i9 b pb ax).1>(i9 a pa ax).1 then (i9 b pb ax).1 else (i9 a pa ax).1))
def PY(off v:V2):Int:=aV (aV ((aC off v).x*(aC off v).x)+aV ((aC off v).y*(aC off v).y))
def fv(off:V2)(l:List V2):Nat -> V2 × Int
 | 0=>(l.getD 0 ⟨0,0⟩,PY off (l.getD 0 ⟨0,0⟩))
 | k+1=>if PY off (l.getD (1+k) ⟨0,0⟩)<(fv off l k).2 then (l.getD (1+k) ⟨0,0⟩,PY off (l.getD (1+k) ⟨0,0⟩)) else fv off l k
def jT(c:V2)(s:Shp)(pos:V2):V2:=aC (dJ pos c) (fv (dJ pos c) s.poly (s.poly.length-1)).1
theorem ja(a:V2)  (F:HL):Sp Tryz.prog 255 #[.agg #[vI a.x,vI a.y]] [] F (λ u H'=>u=.agg #[vI ((iy a).x),vI ((iy a).y)] /\ H'=[]):=by
 refine aas Tryz.func255 rfl mn (A:=[]) (Ts:=[]) rfl λ w0=>?_;refine ae 10 [.own 1,.own 1] λ n1=>aah (Et a  _)<|ae 11 [.own 0,.own 0,.own 0,.own 0,.sq] λ n2=>xO ((decide ((lx a).x=0) && (decide ((lx a).y=0) && true))) 8 (λ h3=>?_) λ h3=>?_
 ·refine ae 9 [.own 1,.own 1] λ _=>aap [.own 1,.own 1] [] [] (v:=.agg #[vI 1024,vI 0]) (H':=[]) ?_;refine⟨?_,rfl⟩
  first|rw[show iy a=⟨1024,0⟩ from if_pos (by assumption)]|rw[show iy a=lx a from if_neg (by assumption)]
 ·refine ae 7 [.own 0,.own 0,.own 1,.own 1] λ _=>aap [.own 1,.own 1] [] [] (v:=.agg #[vI ((lx a).x),vI ((lx a).y)]) (H':=[]) ?_;refine⟨?_,rfl⟩
  first|rw[show iy a=⟨1024,0⟩ from if_pos (by assumption)]|rw[show iy a=lx a from if_neg (by assumption)]
theorem xY(r:Int)(A:Option Addr)(cap:Nat)(pos ax:V2)(F:HL):Sp Tryz.prog 258 #[.agg #[vI r,.slice A 0 cap],.agg #[vI pos.x,vI pos.y],.agg #[vI ax.x,vI ax.y]] [] F (λ u H'=>u=.tuple #[vI (i9 ⟨r,[],A,cap⟩ pos ax).1,vI (i9 ⟨r,[],A,cap⟩ pos ax).2] /\ H'=[]):=by
 refine aas Tryz.func258 rfl mn (A:=[]) (Ts:=[]) rfl λ w0=>?_;refine ae 13 [.own 2,.own 2] λ n1=>aah (pO r A 0 cap _)<|ae 7 [.own 1,.own 1,.own 0,.own 0] λ _=>aah (oN pos ax  _)<|ae 4 [] λ _=>aak [] []<|ag [] [0,1,4,5,2,6,3,7,8,9] [.own 2,.own 2]<|aad<|ae 1 [] λ _=>?_;exact aap [] [] [] ⟨rfl,rfl⟩
theorem Ew(r:Int)(l:List V2)(b cap:Nat)(pos ax:V2)(F:HL)(hb:(b,.rows 2 cap (j7 l) 29 (0,0))∈F)(Wc:3 <= l.length)(h4:l.length <= cap)(h5:l.length <= 1000000):Sp Tryz.prog 258 #[.agg #[vI r,vS b 0 l.length cap],.agg #[vI pos.x,vI pos.y],.agg #[vI ax.x,vI ax.y]] [] F (λ u H'=>u=.tuple #[vI (i9 ⟨r,l,some ⟨b,0,none⟩,cap⟩ pos ax).1,vI (i9 ⟨r,l,some ⟨b,0,none⟩,cap⟩ pos ax).2] /\ H'=[]):=by
 refine aas Tryz.func258 rfl (mc hb mn) (A:=[]) (Ts:=[]) rfl λ w0=>?_;refine ae 13 [.own 2,.own 2] λ n1=>aah (pO r (some ⟨b,0,none⟩) l.length cap _)<|ae 2 [] λ _=>cD 13 (abz (show ¬ ((l.length:Int)=0) by omega))<|ae 13 [.own 2] λ _=>aan (σ:=Nat) (λ k=>⟨[(4,vP (n1+1) 0),(5,vP (n1+2) 0),(6,vI ((gQ pos ax l k).1)),(7,vI ((gQ pos ax l k).2)),(26,vS b 0 l.length cap),(27,vI (l.length:Int)),(28,vI (k:Int))],[((n1+2),.lit [vI ax.x,vI ax.y] 29 (0,0)),((n1+1),.lit [vI pos.x,vI pos.y] 29 (0,0)),((n1+0),.lit [vI r,vS b 0 l.length cap] 101 (0,0))],[],k <= l.length,l.length-k⟩) 0 [0,1,2] [] (aaU _) ?_;rintro k hI2 Uj;refine ae 6 [] λ _=>aal ((k:Int)<(l.length:Int)) 29 (λ h4=>?_) λ h4=>?_
 ·refine ai 16 [.ix k,.rorow 0 k 0,.rorow 0 k 1,.own 0,.own 0] [((0+k*2)+1)=k*2+1 /\ k<cap,(0+k*2)=k*2+0 /\ k<cap,(k:Int)=((k:Nat):Int) /\ k<l.length] λ n5=>aak [] []<|ag [] [0,1,3] [.own 2,.own 2,.own 0,.own 0,.own 1,.own 1]<|aac [] 2 (λ X_=>(ep pos (l.getD k ⟨0,0⟩)  _))<|aac [] 4 (λ X_=>(oN (aC pos (l.getD k ⟨0,0⟩)) ax  _))<|ag [] [5] []<|aad<|ae 8 [] λ _=>aal ((k:Int)=0) 39 (λ h6=>?_) λ h6=>?_
  ·refine ai 24 [.nw] [bm ((k:Int)+1)] λ _=>?_;have e_:gQ pos ax l (k+1)=(if dk (aC pos (l.getD k ⟨0,0⟩)) ax<dk (aC pos (l.getD k ⟨0,0⟩)) ax then dk (aC pos (l.getD k ⟨0,0⟩)) ax else dk (aC pos (l.getD k ⟨0,0⟩)) ax,if dk (aC pos (l.getD k ⟨0,0⟩)) ax>dk (aC pos (l.getD k ⟨0,0⟩)) ax then dk (aC pos (l.getD k ⟨0,0⟩)) ax else dk (aC pos (l.getD k ⟨0,0⟩)) ax):=by
    rw[gQ,if_pos h6]
   refine aS 6 (congrArg (λ v_=>(vI v_:Value)) (congrArg Prod.fst e_).symm)<|aS 7 (congrArg (λ v_=>(vI v_:Value)) (congrArg Prod.snd e_).symm) ?_;refine Uj (k+1) [1,2,3] [] ?_
   try dsimp only
   exact⟨by omega,by omega⟩
  ·refine ai 19 [.nw] [bm ((k:Int)+1)] λ _=>?_;have e_:gQ pos ax l (k+1)=(if dk (aC pos (l.getD k ⟨0,0⟩)) ax<(gQ pos ax l k).1 then dk (aC pos (l.getD k ⟨0,0⟩)) ax else (gQ pos ax l k).1,if dk (aC pos (l.getD k ⟨0,0⟩)) ax>(gQ pos ax l k).2 then dk (aC pos (l.getD k ⟨0,0⟩)) ax else (gQ pos ax l k).2):=by
    rw[gQ,if_neg h6]
   refine aS 6 (congrArg (λ v_=>(vI v_:Value)) (congrArg Prod.fst e_).symm)<|aS 7 (congrArg (λ v_=>(vI v_:Value)) (congrArg Prod.snd e_).symm) ?_;refine Uj (k+1) [1,2,3] [] ?_
   try dsimp only
   exact⟨by omega,by omega⟩
 ·refine ae 14 [] λ _=>aap [] [] [] (v:=.tuple #[vI ((gQ pos ax l k).1),vI ((gQ pos ax l k).2)]) (H':=[]) ?_;have ek:k=l.length:=by omega
  subst ek;refine⟨?_,rfl⟩;unfold i9;rw[if_neg (by intro e;simp[jS] at e;rw[e] at Wc;simp at Wc)]
theorem xZ(s:Shp)(pos ax:V2)(F:HL)(h:ShIn F s):Sp Tryz.prog 258 #[PW s,.agg #[vI pos.x,vI pos.y],.agg #[vI ax.x,vI ax.y]] [] F (λ u H'=>u=.tuple #[vI (i9 s pos ax).1,vI (i9 s pos ax).2] /\ H'=[]):=by
 cases h with
 | circle r A cap=>exact xY r A cap pos ax F
 | poly r l b cap h h3 h4 h5=>exact Ew r l b cap pos ax F h h3 h4 h5
theorem Ey(a:Shp)(pa:V2)(b:Shp)(pb ax:V2)(F:HL)(ha:ShIn F a)(hb:ShIn F b):Sp Tryz.prog 206 #[.agg #[vI a.r,.slice a.A a.poly.length a.cap],.agg #[vI pa.x,vI pa.y],.agg #[vI b.r,.slice b.A b.poly.length b.cap],.agg #[vI pb.x,vI pb.y],.agg #[vI ax.x,vI ax.y]] [] F (λ u H'=>u=vI (nM a pa b pb ax) /\ H'=[]):=by
 refine aas Tryz.func206 rfl mn (A:=[]) (Ts:=[]) rfl λ w0=>?_;refine ae 15 [.own 4,.own 4,.own 3,.own 3,.own 0,.own 0] λ n1=>aah (xZ a pa ax _ (ha.up))<|ae 12 [.own 2,.own 2,.own 1,.own 1,.own 0,.own 0] λ _=>aah (xZ b pb ax _ (hb.up))<|ae 19 [] λ _=>?_;exact aap [] [] [] ⟨rfl,rfl⟩
theorem CL(v off:V2)(q:Nat)(F:HL)(hq:(q,.lit [vI off.x,vI off.y] 29 (0,0))∈F):Sp Tryz.prog 305 #[.agg #[vI v.x,vI v.y],vP q 0] [] F (λ u H'=>u=vI (PY off v) /\ H'=[]):=by
 refine aas Tryz.func305 rfl (mc hq mn) (A:=[]) (Ts:=[]) rfl λ w0=>?_;refine ae 10 [.ro 0,.ro 0,.own 0,.own 0] λ n1=>aah (ep off v  _)<|ae 20 (ow 0 6) λ n2=>?_;exact aap [] [] [] ⟨rfl,rfl⟩
theorem Ez(l:List V2)(b cap:Nat)(off:V2)(q:Nat)(F:HL)(hb:(b,.rows 2 cap (j7 l) 29 (0,0))∈F)(h3:3 <= l.length)(h4:l.length <= cap)(h5:l.length <= 1000000)(hq:(q,.lit [vI off.x,vI off.y] 29 (0,0))∈F):Sp Tryz.prog 304 #[vS b 0 l.length cap,.func (.func 305) #[] #[vP q 0]] [] F (λ u H'=>u=.agg #[vI (((fv off l (l.length-1)).1).x),vI (((fv off l (l.length-1)).1).y)] /\ H'=[]):=by
 refine aas Tryz.func304 rfl (mc hb (mc hq mn)) (A:=[]) (Ts:=[]) rfl λ w0=>?_;refine ae 6 [] λ n1=>aak [9] [0]<|aF [0] [0,3,4,1,5,2,6] [.ix 0,.ix 0,.rorow 0 0 0,.rorow 0 0 1,.rorow 0 0 0,.rorow 0 0 1] [((0+0*2)+1)=0*2+1 /\ 0<cap,(0+0*2)=0*2+0 /\ 0<cap,((0+0*2)+1)=0*2+1 /\ 0<cap,(0+0*2)=0*2+0 /\ 0<cap,0=((0:Nat):Int) /\ 0<l.length,0=((0:Nat):Int) /\ 0<l.length]<|aac [0] 7 (λ X_=>(CL (l.getD 0 ⟨0,0⟩) off q _ (aau _ (aau _ hq))))<|aae 8 (aag [] [] λ n3=>?_);refine aae 9 (aag [1] (aab 2) λ _=>?_);refine ag [1] [10] []<|aad<|ai 11 [.sl 1 l.length false] [1=((1:Nat):Int) /\ l.length=l.length /\ 1 <= l.length /\ l.length <= cap /\ cap≠1] λ _=>aan (σ:=Nat) (λ k=>⟨[(1,.func (.func 305) #[] #[vP q 0]),(4,vP (n1+0) 0),(5,vP (n3+0) 0),(6,vI ((fv off l k).2)),(19,vS b 2 (l.length-1) (cap-1)),(20,vI (((l.length-1):Nat):Int)),(21,vI (k:Int))],[((n3+0),.lit [vI ((fv off l k).1.x),vI ((fv off l k).1.y)] 29 (0,0)),((n1+0),.lit [vI 0,vI 0] 29 (0,0))],[],k <= l.length-1,l.length-k⟩) 0 [0,1] [] (aaU _) ?_;rintro k hI4 XI;refine ae 6 [] λ _=>aal ((k:Int)<(((l.length-1):Nat):Int)) 22 (λ h6=>?_) λ h6=>?_
 ·refine ai 17 [.ix k,.rorow 0 (1+k) 0,.rorow 0 (1+k) 1,.own 0,.own 0,.own 0,.own 0] [((2+k*2)+1)=(1+k)*2+1 /\ (1+k)<cap,(2+k*2)=(1+k)*2+0 /\ (1+k)<cap,(k:Int)=((k:Nat):Int) /\ k<(l.length-1)] λ n7=>aah (CL (l.getD (1+k) ⟨0,0⟩) off q _ (aau _ hq))<|ae 10 [] λ _=>aal (PY off (l.getD (1+k) ⟨0,0⟩)<(fv off l k).2) 30 (λ h8=>?_) λ h8=>?_
  ·refine ai 13 [.own 0,.own 0,.own 1,.own 1,.nw] [bm ((k:Int)+1)] λ _=>?_;have e_:fv off l (k+1)=(l.getD (1+k) ⟨0,0⟩,PY off (l.getD (1+k) ⟨0,0⟩)):=by rw[fv,if_pos h8]
   refine aS 6 (congrArg (λ v_=>(vI v_:Value)) (congrArg Prod.snd e_).symm)<|ez 1 (congrArg (λ v_=>(.lit [vI v_.1.x,vI v_.1.y] 29 (0,0):Blk)) e_.symm) ?_;refine XI (k+1) [1,2] [] ?_
   try dsimp only
   exact⟨by omega,by omega⟩
  ·refine ai 8 [.nw] [bm ((k:Int)+1)] λ _=>?_;have e_:fv off l (k+1)=fv off l k:=by rw[fv,if_neg h8]
   refine aS 6 (congrArg (λ v_=>(vI v_:Value)) (congrArg Prod.snd e_).symm)<|ez 1 (congrArg (λ v_=>(.lit [vI v_.1.x,vI v_.1.y] 29 (0,0):Blk)) e_.symm) ?_;refine XI (k+1) [1,2] [] ?_
   try dsimp only
   exact⟨by omega,by omega⟩
 ·refine ae 12 [.own 0,.own 0,.own 1,.own 1] λ _=>aap [.own 1,.own 1] [] [] (v:=.agg #[vI ((fv off l k).1.x),vI ((fv off l k).1.y)]) (H':=[]) ?_;have ek:k=l.length-1:=by omega
  subst ek;exact⟨rfl,rfl⟩
def qQ(l:List V2)(k:Nat):V2:=iy ⟨aV ((l.getD (((k:Int)+1) % (l.length:Int)).toNat ⟨0,0⟩).y-(l.getD k ⟨0,0⟩).y),aV ((l.getD k ⟨0,0⟩).x-(l.getD (((k:Int)+1) % (l.length:Int)).toNat ⟨0,0⟩).x)⟩
def pP(l:List V2):List V2:=(List.range l.length).map (qQ l)
def lU(a:Shp)(pa:V2)(b:Shp)(pb:V2):List V2:=if jS a then if jS b then [iy (dJ pb pa)] else [iy (jT pa b pb)] else if jS b then [iy (jT pb a pa)] else []
def aH(a:Shp)(pa:V2)(b:Shp)(pb:V2):List V2:=pP a.poly++(pP b.poly++lU a pa b pb)
theorem d8(l:List V2):(pP l).length=l.length:=by simp[pP]
theorem sm{l:List V2}{k:Nat}(h:k<l.length):(pP l)[k]?=some (qQ l k):=by simp[pP,h]
theorem GW{a:Shp}{pa:V2}{b:Shp}{pb:V2}{k:Nat}(h:k<a.poly.length):(aH a pa b pb)[k]?=some (qQ a.poly k):=by
 unfold aH;rw[aa4 (by rw[d8];exact h),sm h]
theorem GX{a:Shp}{pa:V2}{b:Shp}{pb:V2}{k:Nat}(h:k<b.poly.length):(aH a pa b pb)[a.poly.length+k]?=some (qQ b.poly k):=by
 unfold aH;rw[aa6 (by rw[d8];omega),d8,Nat.add_sub_cancel_left,aa4 (by rw[d8];exact h),sm h]
theorem AP{a:Shp}{pa:V2}{b:Shp}{pb x:V2}(h:lU a pa b pb=[x]):(aH a pa b pb)[a.poly.length+b.poly.length]?=some x:=by
 unfold aH;rw[aa6 (by rw[d8];omega),d8,Nat.add_sub_cancel_left,aa6 (by rw[d8];omega),d8,Nat.sub_self,h];rfl
theorem oP{a:Shp}{pa:V2}{b:Shp}{pb:V2}{m:Nat}(h:(lU a pa b pb).length=m):(aH a pa b pb).length=a.poly.length+b.poly.length+m:=by
 unfold aH;rw[aaV,aaV,d8,d8,h];omega
theorem cN(T:HL):ap [] [T]=T:=by simp
abbrev GY(x:V2):Array Value:=#[.agg #[vI x.x,vI x.y]]
theorem qR(c:V2)(r:Int)(l:List V2)(b cap:Nat)(pos:V2)(F:HL)(hb:(b,.rows 2 cap (j7 l) 29 (0,0))∈F)(Wc:3 <= l.length)(h4:l.length <= cap)(h5:l.length <= 1000000):Sp Tryz.prog 257 #[.agg #[vI c.x,vI c.y],.agg #[vI r,vS b 0 l.length cap],.agg #[vI pos.x,vI pos.y]] [] F (λ u H'=>u=.agg #[vI ((jT c ⟨r,l,some ⟨b,0,none⟩,cap⟩ pos).x),vI ((jT c ⟨r,l,some ⟨b,0,none⟩,cap⟩ pos).y)] /\ H'=[]):=by
 refine aas Tryz.func257 rfl (mc hb mn) (A:=[]) (Ts:=[]) rfl λ w0=>?_;refine ae 12 [.own 1,.own 1,.own 3,.own 3] λ n1=>aah (i7 pos c  _)<|ae 9 [.own 0,.own 0,.own 3] λ n2=>aah (Ez l b cap (dJ pos c) (n2+0) _ (aau _ hb) Wc h4 h5 (au 0))<|ae 8 [.own 0,.own 0,.own 1,.own 1,.own 0,.own 0] λ n3=>aah (ep (dJ pos c) ((fv (dJ pos c) l (l.length-1)).1)  _)<|ae 3 [.own 2,.own 2] λ _=>?_;exact aap [.own 2,.own 2] [] [] ⟨rfl,rfl⟩
theorem KX(pa pb:V2)(ra rb:Int)(ca cb:Nat)(Aa:Option Addr)(Ab:Option Addr)(q1 q2 q3 q4 lp:Nat)(X F:HL)(J:Nat -> HL -> Prop)(Jx:HL -> Prop)(T0:HL)(VX:(q1,.lit [vI ra,.slice Aa 0 ca] 101 (0,0))∈F)(S0:(q2,.lit [vI rb,.slice Ab 0 cb] 101 (0,0))∈F)(VW:(q3,.lit [vI pb.x,vI pb.y] 29 (0,0))∈F)(Vw:(q4,.lit [vI pa.x,vI pa.y] 29 (0,0))∈F)(hY:∀i x H Y,(aH (⟨ra,[],Aa,ca⟩:Shp) pa (⟨rb,[],Ab,cb⟩:Shp) pb)[i]?=some x -> J i H -> YL Tryz.prog lp (GY x) H (Y++(X++F)) (λ b H'=>(b=true /\ J (i+1) H') \/ (b=false /\ Jx H')))(Vi:J 0 T0):Sp Tryz.prog 254 #[.func (.yield lp) #[] #[],vP q1 0,vP q2 0,vP q3 0,vP q4 0] (ap [] [T0]) (X++F) (λ _ H'=>J (aH (⟨ra,[],Aa,ca⟩:Shp) pa (⟨rb,[],Ab,cb⟩:Shp) pb).length H' \/ Jx H'):=by
 have hca:jS (⟨ra,[],Aa,ca⟩:Shp):=rfl;have YA:jS (⟨rb,[],Ab,cb⟩:Shp):=rfl;have S_:lU (⟨ra,[],Aa,ca⟩:Shp) pa (⟨rb,[],Ab,cb⟩:Shp) pb=[iy (dJ pb pa)]:=by simp only[lU,if_pos hca,if_pos YA]
 have hlen:(aH (⟨ra,[],Aa,ca⟩:Shp) pa (⟨rb,[],Ab,cb⟩:Shp) pb).length=([]:List V2).length+([]:List V2).length+1:=oP (by rw[S_];rfl);refine aas Tryz.func254 rfl (mc (aau X VX) (mc (aau X S0) (mc (aau X VW) (mc (aau X Vw) mn)))) (A:=[]) (Ts:=[T0]) rfl λ w0=>?_;refine ae 12 [.ro 0,.ro 1] λ _=>aaq 2<|ae 25 [] λ _=>aaq 1<|ae 43 [] λ _=>aaq 1<|ae 34 [.ro 0,.ro 0] λ _=>aah (i8 ra Aa 0 ca _)<|ae 2 [.ro 1,.ro 1] λ _=>aah (i8 rb Ab 0 cb _)<|ae 9 [.ro 2,.ro 2,.ro 3,.ro 3] λ _=>aah (i7 pb pa  _)<|aah (ja (dJ pb pa)  _) ?_;refine RN.yield 0 (hY 0 (iy (dJ pb pa)) _ _ (AP S_) Vi) ?_;rintro b_ T1 (⟨rfl,hJ2⟩|⟨rfl,hJ2⟩)
 ·refine ae 2 [] λ _=>aap [] [] [0] (v:=.tuple #[]) (H':=(ap [] [T1])) ?_;rw[cN];exact .inl (by rw[hlen];exact hJ2)
 ·refine ae 2 [] λ _=>aap [] [] [0] (v:=.tuple #[]) (H':=(ap [] [T1])) ?_;rw[cN];exact .inr hJ2
theorem KY(pa pb:V2)(ra rb:Int)(ca cb:Nat)(Aa:Option Addr)(lb:List V2)(bb:Nat)(q1 q2 q3 q4 lp:Nat)(X F:HL)(J:Nat -> HL -> Prop)(Jx:HL -> Prop)(T0:HL)(VX:(q1,.lit [vI ra,.slice Aa 0 ca] 101 (0,0))∈F)(S0:(q2,.lit [vI rb,vS bb 0 lb.length cb] 101 (0,0))∈F)(VW:(q3,.lit [vI pb.x,vI pb.y] 29 (0,0))∈F)(Vw:(q4,.lit [vI pa.x,vI pa.y] 29 (0,0))∈F)(hbb:(bb,.rows 2 cb (j7 lb) 29 (0,0))∈F)(h3b:3 <= lb.length)(h4b:lb.length <= cb)(h5b:lb.length <= 1000000)(hY:∀i x H Y,(aH (⟨ra,[],Aa,ca⟩:Shp) pa (⟨rb,lb,some ⟨bb,0,none⟩,cb⟩:Shp) pb)[i]?=some x -> J i H -> YL Tryz.prog lp (GY x) H (Y++(X++F)) (λ b H'=>(b=true /\ J (i+1) H') \/ (b=false /\ Jx H')))(Vi:J 0 T0):Sp Tryz.prog 254 #[.func (.yield lp) #[] #[],vP q1 0,vP q2 0,vP q3 0,vP q4 0] (ap [] [T0]) (X++F) (λ _ H'=>J (aH (⟨ra,[],Aa,ca⟩:Shp) pa (⟨rb,lb,some ⟨bb,0,none⟩,cb⟩:Shp) pb).length H' \/ Jx H'):=by
 have hca:jS (⟨ra,[],Aa,ca⟩:Shp):=rfl;have YA:¬ jS (⟨rb,lb,some ⟨bb,0,none⟩,cb⟩:Shp):=by intro e;simp[jS] at e;subst e;simp at h3b
 have S_:lU (⟨ra,[],Aa,ca⟩:Shp) pa (⟨rb,lb,some ⟨bb,0,none⟩,cb⟩:Shp) pb=[iy (jT pa (⟨rb,lb,some ⟨bb,0,none⟩,cb⟩:Shp) pb)]:=by simp only[lU,if_pos hca,if_neg YA]
 have hlen:(aH (⟨ra,[],Aa,ca⟩:Shp) pa (⟨rb,lb,some ⟨bb,0,none⟩,cb⟩:Shp) pb).length=([]:List V2).length+lb.length+1:=oP (by rw[S_];rfl);refine aas Tryz.func254 rfl (mc (aau X VX) (mc (aau X S0) (mc (aau X VW) (mc (aau X Vw) (mc (aau X hbb) mn))))) (A:=[]) (Ts:=[T0]) rfl λ w0=>?_;refine ae 12 [.ro 0,.ro 1] λ _=>aaq 2<|ae 25 [] λ _=>aaq 1<|ae 43 [] λ _=>aan (σ:=Nat × HL) (λ ⟨k,T_⟩=>⟨[(0,.func (.yield lp) #[] #[]),(1,vP q1 0),(2,vP q2 0),(3,vP q3 0),(4,vP q4 0),(7,vS bb 0 lb.length cb),(15,.agg #[.slice Aa 0 ca,vS bb 0 lb.length cb]),(16,vI 1),(19,vS bb 0 lb.length cb),(20,vI (lb.length:Int)),(21,vI (k:Int))],[],[T_],k <= lb.length /\ J (([]:List V2).length+k) T_,lb.length-k⟩) (0,T0) [] [0] (⟨aaU _,Vi⟩) ?_;rintro⟨k,T_⟩ ⟨hk_,TF⟩ UP
 skip
 refine ae 6 [] λ _=>aal ((k:Int)<(lb.length:Int)) 22 (λ h3=>?_) λ h3=>?_
 ·refine ai 22 [.ix k,.rorow 4 k 0,.rorow 4 k 1,.own 0,.own 0,.nw] [bm ((k:Int)+1),((0+k*2)+1)=k*2+1 /\ k<cb,(0+k*2)=k*2+0 /\ k<cb,(k:Int)=((k:Nat):Int) /\ k<lb.length] λ n4=>?_;have hm1:=Int.emod_nonneg ((k:Int)+1) (show (lb.length:Int)≠0 by omega);have hm2:=Int.emod_lt_of_pos ((k:Int)+1) (show (0:Int)<lb.length by omega);refine ai 21 [.nw,.ix ((((k:Int)+1) % (lb.length:Int)).toNat),.rorow 4 ((((k:Int)+1) % (lb.length:Int)).toNat) 0,.rorow 4 ((((k:Int)+1) % (lb.length:Int)).toNat) 1,.own 0,.own 0,.own 0,.own 1,.own 1,.own 0] [((0+((((k:Int)+1) % (lb.length:Int)).toNat)*2)+1)=((((k:Int)+1) % (lb.length:Int)).toNat)*2+1 /\ ((((k:Int)+1) % (lb.length:Int)).toNat)<cb,(0+((((k:Int)+1) % (lb.length:Int)).toNat)*2)=((((k:Int)+1) % (lb.length:Int)).toNat)*2+0 /\ ((((k:Int)+1) % (lb.length:Int)).toNat)<cb,((k:Int)+1) % (lb.length:Int)=(((((k:Int)+1) % (lb.length:Int)).toNat:Nat):Int) /\ (((k:Int)+1) % (lb.length:Int)).toNat<lb.length,0 <= (k:Int)+1 /\ (0:Int)<(lb.length:Int) /\ (k:Int)+1 <= 9223372036854775807] λ n5=>aah (ja (⟨i64.wrap (((lb.getD ((((k:Int)+1) % (lb.length:Int)).toNat) ⟨0,0⟩).y)-((lb.getD k ⟨0,0⟩).y)),i64.wrap (((lb.getD k ⟨0,0⟩).x)-((lb.getD ((((k:Int)+1) % (lb.length:Int)).toNat) ⟨0,0⟩).x))⟩:V2)  _)<|RN.yield 0 (hY (([]:List V2).length+k) (qQ lb k) _ _ (GX (a:=(⟨ra,[],Aa,ca⟩:Shp)) (by show k<lb.length;omega)) TF) ?_;rintro b_ T6 (⟨rfl,XD⟩|⟨rfl,XD⟩)
  ·refine ai 11 [.gen,.nw] [bm ((k:Int)+1)] λ _=>?_;refine UP (k+1,T6) [] [0] ?_
   try dsimp only
   exact⟨⟨by omega,XD⟩,by omega⟩
  ·refine ae 4 [] λ _=>aap [] [] [0] (v:=.tuple #[]) (H':=(ap [] [T6])) ?_;rw[cN];exact .inr XD
 ·have ek1:k=lb.length:=by omega
  subst ek1;refine ae 28 [.ro 0,.ro 0] λ _=>aah (i8 ra Aa 0 ca _)<|ae 2 [.ro 1,.ro 1] λ _=>aah (i8 rb (some ⟨bb,0,none⟩) lb.length cb _)<|ae 4 [] λ _=>cD 51 (abz (show ¬ ((lb.length:Int)=0) by omega))<|ae 4 [.ro 0,.ro 0] λ _=>aah (i8 ra Aa 0 ca _)<|ae 9 [.ro 3,.ro 3,.ro 1,.ro 1,.ro 2,.ro 2] λ _=>aah (qR pa rb lb bb cb pb _ (aau _ (aau X hbb)) h3b h4b h5b)<|aah (ja (jT pa (⟨rb,lb,some ⟨bb,0,none⟩,cb⟩:Shp) pb)  _)<|RN.yield 0 (hY (([]:List V2).length+lb.length) (iy (jT pa (⟨rb,lb,some ⟨bb,0,none⟩,cb⟩:Shp) pb)) _ _ (AP S_) TF) ?_;rintro b_ T8 (⟨rfl,XC⟩|⟨rfl,XC⟩)
  ·refine ae 2 [] λ _=>aap [] [] [0] (v:=.tuple #[]) (H':=(ap [] [T8])) ?_;rw[cN];exact .inl (by rw[hlen];exact XC)
  ·refine ae 2 [] λ _=>aap [] [] [0] (v:=.tuple #[]) (H':=(ap [] [T8])) ?_;rw[cN];exact .inr XC
theorem KZ(pa pb:V2)(ra rb:Int)(ca cb:Nat)(la:List V2)(ba:Nat)(Ab:Option Addr)(q1 q2 q3 q4 lp:Nat)(X F:HL)(J:Nat -> HL -> Prop)(Jx:HL -> Prop)(T0:HL)(VX:(q1,.lit [vI ra,vS ba 0 la.length ca] 101 (0,0))∈F)(S0:(q2,.lit [vI rb,.slice Ab 0 cb] 101 (0,0))∈F)(VW:(q3,.lit [vI pb.x,vI pb.y] 29 (0,0))∈F)(Vw:(q4,.lit [vI pa.x,vI pa.y] 29 (0,0))∈F)(hba:(ba,.rows 2 ca (j7 la) 29 (0,0))∈F)(h3a:3 <= la.length)(h4a:la.length <= ca)(h5a:la.length <= 1000000)(hY:∀i x H Y,(aH (⟨ra,la,some ⟨ba,0,none⟩,ca⟩:Shp) pa (⟨rb,[],Ab,cb⟩:Shp) pb)[i]?=some x -> J i H -> YL Tryz.prog lp (GY x) H (Y++(X++F)) (λ b H'=>(b=true /\ J (i+1) H') \/ (b=false /\ Jx H')))(Vi:J 0 T0):Sp Tryz.prog 254 #[.func (.yield lp) #[] #[],vP q1 0,vP q2 0,vP q3 0,vP q4 0] (ap [] [T0]) (X++F) (λ _ H'=>J (aH (⟨ra,la,some ⟨ba,0,none⟩,ca⟩:Shp) pa (⟨rb,[],Ab,cb⟩:Shp) pb).length H' \/ Jx H'):=by
 have hca:¬ jS (⟨ra,la,some ⟨ba,0,none⟩,ca⟩:Shp):=by intro e;simp[jS] at e;subst e;simp at h3a
 have YA:jS (⟨rb,[],Ab,cb⟩:Shp):=rfl;have S_:lU (⟨ra,la,some ⟨ba,0,none⟩,ca⟩:Shp) pa (⟨rb,[],Ab,cb⟩:Shp) pb=[iy (jT pb (⟨ra,la,some ⟨ba,0,none⟩,ca⟩:Shp) pa)]:=by simp only[lU,if_neg hca,if_pos YA]
 have hlen:(aH (⟨ra,la,some ⟨ba,0,none⟩,ca⟩:Shp) pa (⟨rb,[],Ab,cb⟩:Shp) pb).length=la.length+([]:List V2).length+1:=oP (by rw[S_];rfl);refine aas Tryz.func254 rfl (mc (aau X VX) (mc (aau X S0) (mc (aau X VW) (mc (aau X Vw) (mc (aau X hba) mn))))) (A:=[]) (Ts:=[T0]) rfl λ w0=>?_;refine ae 12 [.ro 0,.ro 1] λ _=>aaq 2<|ae 25 [] λ _=>aan (σ:=Nat × HL) (λ ⟨k,T_⟩=>⟨[(0,.func (.yield lp) #[] #[]),(1,vP q1 0),(2,vP q2 0),(3,vP q3 0),(4,vP q4 0),(7,vS ba 0 la.length ca),(15,.agg #[vS ba 0 la.length ca,.slice Ab 0 cb]),(16,vI 0),(19,vS ba 0 la.length ca),(20,vI (la.length:Int)),(21,vI (k:Int))],[],[T_],k <= la.length /\ J (k) T_,la.length-k⟩) (0,T0) [] [0] (⟨aaU _,Vi⟩) ?_;rintro⟨k,T_⟩ ⟨hk_,TF⟩ UP
 skip
 refine ae 6 [] λ _=>aal ((k:Int)<(la.length:Int)) 22 (λ h3=>?_) λ h3=>?_
 ·refine ai 22 [.ix k,.rorow 4 k 0,.rorow 4 k 1,.own 0,.own 0,.nw] [bm ((k:Int)+1),((0+k*2)+1)=k*2+1 /\ k<ca,(0+k*2)=k*2+0 /\ k<ca,(k:Int)=((k:Nat):Int) /\ k<la.length] λ n4=>?_;have hm1:=Int.emod_nonneg ((k:Int)+1) (show (la.length:Int)≠0 by omega);have hm2:=Int.emod_lt_of_pos ((k:Int)+1) (show (0:Int)<la.length by omega);refine ai 21 [.nw,.ix ((((k:Int)+1) % (la.length:Int)).toNat),.rorow 4 ((((k:Int)+1) % (la.length:Int)).toNat) 0,.rorow 4 ((((k:Int)+1) % (la.length:Int)).toNat) 1,.own 0,.own 0,.own 0,.own 1,.own 1,.own 0] [((0+((((k:Int)+1) % (la.length:Int)).toNat)*2)+1)=((((k:Int)+1) % (la.length:Int)).toNat)*2+1 /\ ((((k:Int)+1) % (la.length:Int)).toNat)<ca,(0+((((k:Int)+1) % (la.length:Int)).toNat)*2)=((((k:Int)+1) % (la.length:Int)).toNat)*2+0 /\ ((((k:Int)+1) % (la.length:Int)).toNat)<ca,((k:Int)+1) % (la.length:Int)=(((((k:Int)+1) % (la.length:Int)).toNat:Nat):Int) /\ (((k:Int)+1) % (la.length:Int)).toNat<la.length,0 <= (k:Int)+1 /\ (0:Int)<(la.length:Int) /\ (k:Int)+1 <= 9223372036854775807] λ n5=>aah (ja (⟨i64.wrap (((la.getD ((((k:Int)+1) % (la.length:Int)).toNat) ⟨0,0⟩).y)-((la.getD k ⟨0,0⟩).y)),i64.wrap (((la.getD k ⟨0,0⟩).x)-((la.getD ((((k:Int)+1) % (la.length:Int)).toNat) ⟨0,0⟩).x))⟩:V2)  _)<|RN.yield 0 (hY k (qQ la k) _ _ (GW (by show k<la.length;omega)) TF) ?_;rintro b_ T6 (⟨rfl,XD⟩|⟨rfl,XD⟩)
  ·refine ai 11 [.gen,.nw] [bm ((k:Int)+1)] λ _=>?_;refine UP (k+1,T6) [] [0] ?_
   try dsimp only
   exact⟨⟨by omega,XD⟩,by omega⟩
  ·refine ae 4 [] λ _=>aap [] [] [0] (v:=.tuple #[]) (H':=(ap [] [T6])) ?_;rw[cN];exact .inr XD
 ·have ek0:k=la.length:=by omega
  subst ek0;refine ae 37 [] λ _=>aaq 1<|ae 34 [.ro 0,.ro 0] λ _=>aah (i8 ra (some ⟨ba,0,none⟩) la.length ca _)<|ae 1 [] λ _=>cD 54 (abz (show ¬ ((la.length:Int)=0) by omega))<|ae 10 [.ro 0,.ro 0] λ _=>aah (i8 ra (some ⟨ba,0,none⟩) la.length ca _)<|ae 3 [] λ _=>cD 64 (abz (show ¬ ((la.length:Int)=0) by omega))<|ae 4 [.ro 1,.ro 1] λ _=>aah (i8 rb Ab 0 cb _)<|ae 9 [.ro 2,.ro 2,.ro 0,.ro 0,.ro 3,.ro 3] λ _=>?_;refine aah (qR pb ra la ba ca pa _ (aau _ (aau X hba)) h3a h4a h5a)<|aah (ja (jT pb (⟨ra,la,some ⟨ba,0,none⟩,ca⟩:Shp) pa)  _)<|RN.yield 0 (hY la.length (iy (jT pb (⟨ra,la,some ⟨ba,0,none⟩,ca⟩:Shp) pa)) _ _ (AP S_) TF) ?_;rintro b_ T8 (⟨rfl,XC⟩|⟨rfl,XC⟩)
  ·refine ae 2 [] λ _=>aap [] [] [0] (v:=.tuple #[]) (H':=(ap [] [T8])) ?_;rw[cN];exact .inl (by rw[hlen];exact XC)
  ·refine ae 2 [] λ _=>aap [] [] [0] (v:=.tuple #[]) (H':=(ap [] [T8])) ?_;rw[cN];exact .inr XC
theorem K3(pa pb:V2)(ra rb:Int)(ca cb:Nat)(la:List V2)(ba:Nat)(lb:List V2)(bb:Nat)(q1 q2 q3 q4 lp:Nat)(X F:HL)(J:Nat -> HL -> Prop)(Jx:HL -> Prop)(T0:HL)(VX:(q1,.lit [vI ra,vS ba 0 la.length ca] 101 (0,0))∈F)(S0:(q2,.lit [vI rb,vS bb 0 lb.length cb] 101 (0,0))∈F)(VW:(q3,.lit [vI pb.x,vI pb.y] 29 (0,0))∈F)(Vw:(q4,.lit [vI pa.x,vI pa.y] 29 (0,0))∈F)(hba:(ba,.rows 2 ca (j7 la) 29 (0,0))∈F)(h3a:3 <= la.length)(h4a:la.length <= ca)(h5a:la.length <= 1000000)(hbb:(bb,.rows 2 cb (j7 lb) 29 (0,0))∈F)(h3b:3 <= lb.length)(h4b:lb.length <= cb)(h5b:lb.length <= 1000000)(hY:∀i x H Y,(aH (⟨ra,la,some ⟨ba,0,none⟩,ca⟩:Shp) pa (⟨rb,lb,some ⟨bb,0,none⟩,cb⟩:Shp) pb)[i]?=some x -> J i H -> YL Tryz.prog lp (GY x) H (Y++(X++F)) (λ b H'=>(b=true /\ J (i+1) H') \/ (b=false /\ Jx H')))(Vi:J 0 T0):Sp Tryz.prog 254 #[.func (.yield lp) #[] #[],vP q1 0,vP q2 0,vP q3 0,vP q4 0] (ap [] [T0]) (X++F) (λ _ H'=>J (aH (⟨ra,la,some ⟨ba,0,none⟩,ca⟩:Shp) pa (⟨rb,lb,some ⟨bb,0,none⟩,cb⟩:Shp) pb).length H' \/ Jx H'):=by
 have hca:¬ jS (⟨ra,la,some ⟨ba,0,none⟩,ca⟩:Shp):=by intro e;simp[jS] at e;subst e;simp at h3a
 have YA:¬ jS (⟨rb,lb,some ⟨bb,0,none⟩,cb⟩:Shp):=by intro e;simp[jS] at e;subst e;simp at h3b
 have S_:lU (⟨ra,la,some ⟨ba,0,none⟩,ca⟩:Shp) pa (⟨rb,lb,some ⟨bb,0,none⟩,cb⟩:Shp) pb=[]:=by simp only[lU,if_neg hca,if_neg YA]
 have hlen:(aH (⟨ra,la,some ⟨ba,0,none⟩,ca⟩:Shp) pa (⟨rb,lb,some ⟨bb,0,none⟩,cb⟩:Shp) pb).length=la.length+lb.length+0:=oP (by rw[S_];rfl);refine aas Tryz.func254 rfl (mc (aau X VX) (mc (aau X S0) (mc (aau X VW) (mc (aau X Vw) (mc (aau X hba) (mc (aau X hbb) mn)))))) (A:=[]) (Ts:=[T0]) rfl λ w0=>?_;refine ae 12 [.ro 0,.ro 1] λ _=>aaq 2<|ae 25 [] λ _=>aan (σ:=Nat × HL) (λ ⟨k,T_⟩=>⟨[(0,.func (.yield lp) #[] #[]),(1,vP q1 0),(2,vP q2 0),(3,vP q3 0),(4,vP q4 0),(7,vS ba 0 la.length ca),(15,.agg #[vS ba 0 la.length ca,vS bb 0 lb.length cb]),(16,vI 0),(19,vS ba 0 la.length ca),(20,vI (la.length:Int)),(21,vI (k:Int))],[],[T_],k <= la.length /\ J (k) T_,la.length-k⟩) (0,T0) [] [0] (⟨aaU _,Vi⟩) ?_;rintro⟨k,T_⟩ ⟨hk_,TF⟩ UP
 skip
 refine ae 6 [] λ _=>aal ((k:Int)<(la.length:Int)) 22 (λ h3=>?_) λ h3=>?_
 ·refine ai 22 [.ix k,.rorow 4 k 0,.rorow 4 k 1,.own 0,.own 0,.nw] [bm ((k:Int)+1),((0+k*2)+1)=k*2+1 /\ k<ca,(0+k*2)=k*2+0 /\ k<ca,(k:Int)=((k:Nat):Int) /\ k<la.length] λ n4=>?_;have hm1:=Int.emod_nonneg ((k:Int)+1) (show (la.length:Int)≠0 by omega);have hm2:=Int.emod_lt_of_pos ((k:Int)+1) (show (0:Int)<la.length by omega);refine ai 21 [.nw,.ix ((((k:Int)+1) % (la.length:Int)).toNat),.rorow 4 ((((k:Int)+1) % (la.length:Int)).toNat) 0,.rorow 4 ((((k:Int)+1) % (la.length:Int)).toNat) 1,.own 0,.own 0,.own 0,.own 1,.own 1,.own 0] [((0+((((k:Int)+1) % (la.length:Int)).toNat)*2)+1)=((((k:Int)+1) % (la.length:Int)).toNat)*2+1 /\ ((((k:Int)+1) % (la.length:Int)).toNat)<ca,(0+((((k:Int)+1) % (la.length:Int)).toNat)*2)=((((k:Int)+1) % (la.length:Int)).toNat)*2+0 /\ ((((k:Int)+1) % (la.length:Int)).toNat)<ca,((k:Int)+1) % (la.length:Int)=(((((k:Int)+1) % (la.length:Int)).toNat:Nat):Int) /\ (((k:Int)+1) % (la.length:Int)).toNat<la.length,0 <= (k:Int)+1 /\ (0:Int)<(la.length:Int) /\ (k:Int)+1 <= 9223372036854775807] λ n5=>aah (ja (⟨i64.wrap (((la.getD ((((k:Int)+1) % (la.length:Int)).toNat) ⟨0,0⟩).y)-((la.getD k ⟨0,0⟩).y)),i64.wrap (((la.getD k ⟨0,0⟩).x)-((la.getD ((((k:Int)+1) % (la.length:Int)).toNat) ⟨0,0⟩).x))⟩:V2)  _)<|RN.yield 0 (hY k (qQ la k) _ _ (GW (by show k<la.length;omega)) TF) ?_;rintro b_ T6 (⟨rfl,XD⟩|⟨rfl,XD⟩)
  ·refine ai 11 [.gen,.nw] [bm ((k:Int)+1)] λ _=>?_;refine UP (k+1,T6) [] [0] ?_
   try dsimp only
   exact⟨⟨by omega,XD⟩,by omega⟩
  ·refine ae 4 [] λ _=>aap [] [] [0] (v:=.tuple #[]) (H':=(ap [] [T6])) ?_;rw[cN];exact .inr XD
 ·have ek0:k=la.length:=by omega
  subst ek0;refine ae 37 [] λ _=>aan (σ:=Nat × HL) (λ ⟨k,T_⟩=>⟨[(0,.func (.yield lp) #[] #[]),(1,vP q1 0),(2,vP q2 0),(3,vP q3 0),(4,vP q4 0),(7,vS bb 0 lb.length cb),(15,.agg #[vS ba 0 la.length ca,vS bb 0 lb.length cb]),(16,vI 1),(19,vS bb 0 lb.length cb),(20,vI (lb.length:Int)),(21,vI (k:Int))],[],[T_],k <= lb.length /\ J (la.length+k) T_,lb.length-k⟩) (0,T_) [] [0] (⟨aaU _,TF⟩) ?_;rintro⟨k,T_⟩ ⟨hk_,TF⟩ Wt
  skip
  refine ae 6 [] λ _=>aal ((k:Int)<(lb.length:Int)) 22 (λ Ti=>?_) λ Ti=>?_
  ·refine ai 22 [.ix k,.rorow 5 k 0,.rorow 5 k 1,.own 0,.own 0,.nw] [bm ((k:Int)+1),((0+k*2)+1)=k*2+1 /\ k<cb,(0+k*2)=k*2+0 /\ k<cb,(k:Int)=((k:Nat):Int) /\ k<lb.length] λ n11=>?_;have hm1:=Int.emod_nonneg ((k:Int)+1) (show (lb.length:Int)≠0 by omega);have hm2:=Int.emod_lt_of_pos ((k:Int)+1) (show (0:Int)<lb.length by omega);refine ai 21 [.nw,.ix ((((k:Int)+1) % (lb.length:Int)).toNat),.rorow 5 ((((k:Int)+1) % (lb.length:Int)).toNat) 0,.rorow 5 ((((k:Int)+1) % (lb.length:Int)).toNat) 1,.own 0,.own 0,.own 0,.own 1,.own 1,.own 0] [((0+((((k:Int)+1) % (lb.length:Int)).toNat)*2)+1)=((((k:Int)+1) % (lb.length:Int)).toNat)*2+1 /\ ((((k:Int)+1) % (lb.length:Int)).toNat)<cb,(0+((((k:Int)+1) % (lb.length:Int)).toNat)*2)=((((k:Int)+1) % (lb.length:Int)).toNat)*2+0 /\ ((((k:Int)+1) % (lb.length:Int)).toNat)<cb,((k:Int)+1) % (lb.length:Int)=(((((k:Int)+1) % (lb.length:Int)).toNat:Nat):Int) /\ (((k:Int)+1) % (lb.length:Int)).toNat<lb.length,0 <= (k:Int)+1 /\ (0:Int)<(lb.length:Int) /\ (k:Int)+1 <= 9223372036854775807] λ n12=>aah (ja (⟨i64.wrap (((lb.getD ((((k:Int)+1) % (lb.length:Int)).toNat) ⟨0,0⟩).y)-((lb.getD k ⟨0,0⟩).y)),i64.wrap (((lb.getD k ⟨0,0⟩).x)-((lb.getD ((((k:Int)+1) % (lb.length:Int)).toNat) ⟨0,0⟩).x))⟩:V2)  _)<|RN.yield 0 (hY (la.length+k) (qQ lb k) _ _ (GX (a:=(⟨ra,la,some ⟨ba,0,none⟩,ca⟩:Shp)) (by show k<lb.length;omega)) TF) ?_;rintro b_ XU (⟨rfl,abn⟩|⟨rfl,abn⟩)
   ·refine ai 11 [.gen,.nw] [bm ((k:Int)+1)] λ _=>?_;refine Wt (k+1,XU) [] [0] ?_
    try dsimp only
    exact⟨⟨by omega,abn⟩,by omega⟩
   ·refine ae 4 [] λ _=>aap [] [] [0] (v:=.tuple #[]) (H':=(ap [] [XU])) ?_;rw[cN];exact .inr abn
  ·have ek1:k=lb.length:=by omega
   subst ek1;refine ae 28 [.ro 0,.ro 0] λ _=>aah (i8 ra (some ⟨ba,0,none⟩) la.length ca _)<|ae 1 [] λ _=>cD 54 (abz (show ¬ ((la.length:Int)=0) by omega))<|ae 10 [.ro 0,.ro 0] λ _=>aah (i8 ra (some ⟨ba,0,none⟩) la.length ca _)<|ae 3 [] λ _=>cD 64 (abz (show ¬ ((la.length:Int)=0) by omega))<|ae 4 [.ro 1,.ro 1] λ _=>aah (i8 rb (some ⟨bb,0,none⟩) lb.length cb _)<|ae 3 [] λ _=>cD 74 (abz (show ¬ ((lb.length:Int)=0) by omega))<|ae 3 [] λ _=>?_;refine aap [] [] [0] (v:=.tuple #[]) (H':=(ap [] [T_])) ?_;rw[cN];exact .inl (by rw[hlen];exact TF)
end Go.Proofs.YtghjbimijeinfaaGreatDoor
