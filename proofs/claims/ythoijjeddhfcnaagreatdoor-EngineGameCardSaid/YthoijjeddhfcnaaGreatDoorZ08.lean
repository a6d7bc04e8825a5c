import Derived.Test.YthoijjeddhfcnaaGreatDoorZ06
import Derived.Test.YthoijjeddhfcnaaGreatDoorZ07
set_option maxHeartbeats 4000000
set_option maxRecDepth 100000
set_option linter.unusedSimpArgs false
set_option linter.unusedVariables false
namespace Go.Proofs.YthoijjeddhfcnaaGreatDoor
open IntKind
open Go.RowKit Go.Shelf
section
variable {r:Option Nat} {P:Program} {N:Nat} {D:List Deferred} {F:HL} {w0:World} {R:HL} {s:Cfg} {Q:Exit -> Act -> World -> Prop}
def DI(P:Program)(n0 N:Nat)(R:HL)(s:Cfg):Option (Option Tmp × Nat × Array Value × List Prop):=match s.c with
 | .ops ops i=>xv P n0 N ops.toList i s.L (ap s.A s.Ts) R []
 | _=>none
def DJ(N j:Nat)(s:Cfg)(x:Option (Option Tmp × Nat × Array Value × List Prop)):Option (Nat × Array Value × List Prop × HL):=match x with
 | some (dst,l,args,Ob)=>match s.Ts[j]?,([j]++oth [j] s.Ts.length).isPerm (List.range s.Ts.length) && (fG N dst undef s.L).isSome with
  | some T,true=>some (l,args,Ob,T)
  | _,_=>none
 | none=>none
theorem RN.yield(j:Nat){l:Nat}{args:Array Value}{T:HL}{Rv:Bool -> HL -> Prop}(hc:YL P l args T (ap s.A (fL [j] s)++F) Rv)(hk:∀b H',Rv b H' -> RN r P N D F w0 R (Oc j H' (iB N (.bool b) s)) Q)
  (h:∀n0,DJ N j s (DI P n0 N R s)=some (l,args,[],T):=by intro n0;kernel_rfl):RN r P N D F w0 R s Q:=by
 refine⟨λ hR a w hF bY hB=>?_⟩
 have h':=h w.heap.size
 obtain⟨cc,k,L,A,Ts⟩:=s
 cases cc with
 | code c=>simp[DI,DJ] at h'
 | ex c=>simp[DI,DJ] at h'
 | drw _ _=>simp[DI,DJ] at h'
 | ops ops i =>
 simp only[DI] at h' hF bY
 generalize hx:xv P w.heap.size N ops.toList i L (ap A Ts) R []=x at h'
 unfold DJ at h'
 split at h'
 case h_2=>cases h'
 rename_i dst l' iS Ob'
 split at h'
 case h_2=>cases h'
 rename_i T' hj YE
 simp only[Option.some.injEq,Prod.mk.injEq] at h'
 obtain⟨e1,e2,e3,e4⟩:=h'
 subst e1;subst e2;subst e3;subst e4
 simp only at hj YE
 rw[Bool.and_eq_true] at YE
 have h':=hx
 unfold xv at h'
 split at h'
 ·cases h'
 rename_i o ho
 split at h'
 case h_2=>cases h'
 rename_i ss hw
 split at h'
 case h_2=>cases h'
 rename_i aT hh he
 split at h'
 case h_2=>cases h'
 rename_i c t_
 split at h'
 case h_2=>cases h'
 rename_i f PT
 split at h'
 case h_2=>cases h'
 rename_i l2 cap bound hf
 split at h'
 case h_2=>cases h'
 rename_i e1 e2
 simp only[Option.some.injEq,Prod.mk.injEq] at h'
 obtain⟨d1,d2,d3,d4⟩:=h'
 subst d2
 have hcap:cap=#[]:=by cases cap;simp_all
 have hbnd:bound=#[]:=by cases bound;simp_all
 subst hcap;subst hbnd
 have PH:ops.toList.drop i=o::ops.toList.drop (i+1):=by
  have iN:i<ops.toList.length:=(List.getElem?_eq_some_iff.1 ho).1
  rw[List.drop_eq_getElem_cons iN,(List.getElem?_eq_some_iff.1 ho).2]
 show wpListIn _ _ _ _ _ _ _ _
 rw[PH,wpListIn]
 have PQ:∀p∈ss.ob,p:=by rw[d4];intro p hp;cases hp
 obtain⟨c1,c2,c3⟩:=cH hw hF PQ
 rw[if_pos c1]
 refine⟨λ _ _=>trivial,?_⟩
 rw[hF.sem aT]
 have BY:=k9 (A:=A) hj YE.1
 have Py:Rel (T'++(ap A ((oth [j] Ts.length).filterMap (Ts[·]?))++F)) w:=by rw[<- List.append_assoc];exact bY.perm (BY.symm.append_right F).symm
 obtain⟨fn,tmps,assign,body,hy,Vw⟩:=hc w Py
 rw[xw t_ PT hf,d3,hy,Oper.uponIn_round]
 refine⟨λ h=>(by cases h),RoundIn.mono (show RoundIn (Wr r) (0-1) P l2 fn tmps assign body w _ from Vw) ?_⟩
 rintro e W' ⟨b,H',rfl,hv,QC,RC⟩
 obtain⟨L',p1⟩:=fW YE.2 (.bool b)
 have hh:=(hk b H' hv).h hR
 have Rt:iB N (.bool b) ⟨.ops ops i,k,L,A,Ts⟩=⟨.ops ops (i+1),k,L',A,Ts⟩:=by
  unfold iB
  rw[<- d1] at p1
  simp only[ho,p1]
 rw[Rt] at hh
 rw[<- d1] at p1
 refine hh _ W' (hF.put p1) (QC.perm ?_) (hB.trans RC)
 rw[<- List.append_assoc]
 refine List.Perm.append_right F ?_
 show (A++(H'::(oth [j] Ts.length).filterMap (Ts[·]?)).flatten).Perm (H'++(A++((oth [j] Ts.length).filterMap (Ts[·]?)).flatten))
 rw[List.flatten_cons,<- List.append_assoc,<- List.append_assoc]
 exact List.Perm.append_right _ List.perm_append_comm
theorem RN.rn{σ:Type}{Ax:σ -> HL}{Tx:σ -> List HL}{I:σ -> Prop}{Ix:Code -> σ -> Prop}(x:σ)(ip jp:List Nat)(hi:I x)(hc:(match s.c,s.k with | .ex .normal,[]=>true|_,_=>false)=true:=by kernel_rfl)
  (hp:cE ip jp s=true:=by kernel_rfl) (hH:picks ip jp s=(Ax x,Tx x):=by kernel_rfl):RN r P N D F w0 R s (RQ F w0 (λ x=>ap (Ax x) (Tx x)) I Ix):=by
 unfold cE at hp
 unfold picks at hH
 rw[Bool.and_eq_true] at hp
 simp only[Prod.mk.injEq] at hH
 refine⟨λ hR a w h1 h2 h3=>?_⟩
 obtain⟨c,k,L,A,Ts⟩:=s
 split at hc
 case h_2=>cases hc
 rename_i e1 e2
 simp only at e1 e2
 subst e1;subst e2
 exact⟨x,hi,h2.takeT ip _ jp _ hp.1 hp.2 (by rw[hH.1,hH.2]),h3⟩
theorem RN.rr{σ:Type}{Ax:σ -> HL}{Tx:σ -> List HL}{I:σ -> Prop}{Ix:Code -> σ -> Prop}(x:σ)(ip jp:List Nat)(hi:Ix .ret x)(hc:(match s.c with | .code .ret=>true|_=>false)=true:=by kernel_rfl)
  (hp:cE ip jp s=true:=by kernel_rfl) (hH:picks ip jp s=(Ax x,Tx x):=by kernel_rfl):RN r P N D F w0 R s (RQ F w0 (λ x=>ap (Ax x) (Tx x)) I Ix):=by
 unfold cE at hp
 unfold picks at hH
 rw[Bool.and_eq_true] at hp
 simp only[Prod.mk.injEq] at hH
 refine⟨λ hR a w h1 h2 h3=>?_⟩
 obtain⟨c,k,L,A,Ts⟩:=s
 split at hc
 case h_2=>cases hc
 rename_i e1
 simp only at e1
 subst e1
 exact wpIn_ret (gX k ⟨x,hi,h2.takeT ip _ jp _ hp.1 hp.2 (by rw[hH.1,hH.2]),h3⟩)
end
section
variable {P:Program} {N:Nat} {D:List Deferred} {F:HL} {w0:World} {R:HL} {s:Cfg} {Q:Exit -> Act -> World -> Prop}
def lG(s:Cfg):Option (Value × Nat):=match s.c with
 | .code (.rangeFunc g ps _ _)=>match nX s.L g with
  | true=>some (jJ s.L g,ps.size)
  | false=>none
 | _=>none
def HP(N:Nat)(s:Cfg):Bool:=match s.c with
 | .code (.rangeFunc _ ps _ _)=>ps.toList.all λ p=>decide (p<N)
 | _=>false
def MM(K:Act -> World -> Prop)(vs:List Value)(A:HL)(Ts:List HL)(s:Cfg):Cfg:=match s with
 | ⟨.code (.rangeFunc _ ps assign _),_,L,_,_⟩=>⟨.code assign,[.met K],oA ps.toList vs L,A,Ts⟩
 | s=>s
def MN(V:Inv)(s:Cfg):Cfg:=match s with
 | ⟨.code (.rangeFunc _ _ _ body),_,_,_,_⟩=>⟨.code body,[],V.L,V.A,V.Ts⟩
 | s=>s
def MO(c:Fo)(d:Nat)(ip jp:List Nat)(A:HL)(Ts:List HL)(s:Cfg):Cfg:=match s with
 | ⟨_,k,L,A',Rj⟩=>⟨c,k,L,cO d::(A++(oth ip A'.length).filterMap (A'[·]?)),Ts++(oth jp Rj.length).filterMap (Rj[·]?)⟩
theorem RN.range{α σ τ:Type}{encs:α -> Array Value}{xs:List α}{gf:FuncId}{lb:Array Value}(eg:∀args w,(callFunc gf args).run P w=.ok (.enter gf args) w)
  (S:σ -> HL × List HL) (I:Nat -> σ -> Prop) (Ix:Code -> σ -> Prop) (W:τ -> Inv) (Ia:Nat -> α -> τ -> Prop) (x0:σ) (h0:I 0 x0) (ip jp:List Nat)
  (hit:It P gf lb (ap (eR ip s) (fL jp s)++F) encs xs)
  (rW:∀ (l i:Nat) (x:α) (s1:σ) (Y:HL) (w1:World),xs[i]?=some x -> I i s1 ->
   (∀ {s':Cfg} {R':HL} (t:τ) (TH TG:List Nat),Ia i x t -> (hm:Dm s'=some (MV N [] (Y++(ap (eR ip s) (fL jp s)++F)) w1 W (Ia i x)):=by kernel_rfl) -> (h:uB (W t) TH TG s'=oa (W t):=by kernel_rfl) -> (hp:cE TH TG s'=true:=by kernel_rfl) -> RN (some l) P N [] (Y++(ap (eR ip s) (fL jp s)++F)) w1 R' s' (λ _ _ _=>False)) ->
   RN (some l) P N [] (Y++(ap (eR ip s) (fL jp s)++F)) w1 (eR ip s++R) (MM (MV N [] (Y++(ap (eR ip s) (fL jp s)++F)) w1 W (Ia i x)) (encs x).toList (S s1).1 (S s1).2 s) (λ _ _ _=>False))
  (Po:∀ (l i:Nat) (x:α) (t:τ) (Y:HL) (w1:World),xs[i]?=some x -> Ia i x t -> RN (some l) P N [] (Y++(ap (eR ip s) (fL jp s)++F)) w1 (eR ip s++R) (MN (W t) s) (RQ (Y++(ap (eR ip s) (fL jp s)++F)) w1 (λ s=>ap (S s).1 (S s).2) (I (i+1)) Ix))
  (O_:∀ (d:Nat) (s1:σ),I xs.length s1 -> RN none P N (coll d::D) F w0 R (MO (.ex .normal) d ip jp (S s1).1 (S s1).2 s) Q)
  (No:∀ (d:Nat) (c:Code) (s1:σ),Ix c s1 -> RN none P N (coll d::D) F w0 R (MO (.code c) d ip jp (S s1).1 (S s1).2 s) Q)
  (Re:HP N s=true:=by kernel_rfl) (hp:cE ip jp s=true:=by kernel_rfl) (hH:picks ip jp s=((S x0).1,(S x0).2):=by kernel_rfl) (hG:(lG s).map (·.1)=some (.func (.func gf) #[] lb):=by kernel_rfl) (AT:∀x:α,(lG s).map (·.2)=some (encs x).size:=by intro x;kernel_rfl):RN none P N D F w0 R s Q:=by
 refine⟨λ hR=>?_⟩
 obtain⟨c,k,L,A,Ts⟩:=s
 unfold cE at hp
 unfold picks at hH
 rw[Bool.and_eq_true] at hp
 simp only[Prod.mk.injEq] at hH
 cases c with
 | ops _ _=>simp[lG] at hG
 | ex _=>simp[lG] at hG
 | drw _ _=>simp[lG] at hG
 | code c =>
 cases c with
 | rangeFunc g ps assign body =>
  have hi:nX L g=true:=by
   cases h:nX L g with
   | true=>rfl
   | false=>simp[lG,h] at hG
  simp only[lG,hi,Option.map_some,Option.some.injEq] at hG AT
  simp only[HP] at Re
  have Uh:∀ (Y:HL),∀y∈eR ip ⟨.code (.rangeFunc g ps assign body),k,L,A,Ts⟩++R,y∈Y++(ap (eR ip ⟨.code (.rangeFunc g ps assign body),k,L,A,Ts⟩) (fL jp ⟨.code (.rangeFunc g ps assign body),k,L,A,Ts⟩)++F):=by
   intro Y y hy
   rcases List.mem_append.1 hy with hy|hy
   ·exact List.mem_append_right _ (List.mem_append_left _ (List.mem_append_left _ hy))
   ·exact List.mem_append_right _ (List.mem_append_right _ (hR y hy))
  exact Ba (assign:=assign) (body:=body) hi hG eg (λ s=>(S s).1) (λ s=>(S s).2) I Ix (λ t=>(W t).L) (λ t=>ap (W t).A (W t).Ts) Ia (λ x=>(AT x).symm) Re x0 h0 ip (oth ip A.length) jp (oth jp Ts.length) hp.1 hp.2 _ _ rfl rfl hH.1 hH.2 hit
   (λ l i x s1 Y w1 hx hi=>(rW l i x s1 Y w1 hx hi (λ t TH TG ht hm h hp=>s7 t TH TG ht hm h hp)).h (Uh Y))
   (λ l i x t Y w1 hx ht=>(Po l i x t Y w1 hx ht).h (Uh Y))
   (λ d s1 hs=>(O_ d s1 hs).h hR) (λ d c s1 hs=>(No d c s1 hs).h hR)
 | _=>simp[lG] at hG
theorem Sp.runM{f:FuncId}{fn:Func}{c:Code}{args:Array Value}{H:HL}{R':Value -> HL -> Prop}(hf:P.funcs[f]?=some fn)(hb:fn.body=some c)(hR:∀y∈R,y∈F){A:HL}{Ts:List HL}(hH:H=ap A Ts)
  (h:∀w0,RN none P fn.ntmps [] F w0 R ⟨.code c,[],pf 0 args.toList,A,Ts⟩ (bodyPostM (Wr none) 0 P fn (zl F w0 R'))) (ha:decide (args.size <= fn.ntmps)=true:=by kernel_rfl):Sp P f args H F R':=by
 subst hH
 exact uy hf hb rfl ha _ rfl λ w0=>(h w0).h hR
def ke(dx:List Nat)(s:Cfg):Cfg:=match s with
 | ⟨c,k,L,A,Ts⟩=>⟨c,k,L,(oth dx A.length).filterMap (A[·]?),Ts⟩
theorem DL{fn:Func}{R':Value -> HL -> Prop}(ds dx:List Nat)(hints:List Hint)(Ob:List Prop)(iD:AllP Ob)(ip jp:List Nat){v:Value}{H':HL}(hv:R' v H')
  (hD:D=ds.map coll:=by rfl) (hc:l8 s=true:=by kernel_rfl) (hd:((dx++oth dx s.A.length).isPerm (List.range s.A.length),dx.filterMap (s.A[·]?))=(true,ds.map cO):=by kernel_rfl)
  (h:∀n0,jg P n0 fn.results.toList R hints (ke dx s)=some (v,mI (jg P 0 fn.results.toList R hints (ke dx s)),mI (jg P 0 fn.results.toList R hints (ke dx s)),Ob):=by intro n0;kernel_rfl)
  (hp:cE ip jp (ke dx s)=true:=by kernel_rfl) (hH:ap (picks ip jp (ke dx s)).1 (picks ip jp (ke dx s)).2=H':=by kernel_rfl):RN none P N D F w0 R s (bodyPostM (Wr none) 0 P fn (zl F w0 R')):=by
 unfold cE at hp
 unfold picks at hH
 simp only[Prod.mk.injEq] at hd
 rw[Bool.and_eq_true] at hp
 obtain⟨c,k,L,A,Ts⟩:=s
 refine⟨λ hR a w hF bY hB=>?_⟩
 have key:LeavesInM (Wr none) 0 P fn a.tmps (zl F w0 R') a.defers .returning w:=by
  exact Go.Proofs.YthoijjeddhfcnaaGreatDoor.retM (by simp) ds hD dx (oth dx A.length) R hints v _ Ob hd.1 hd.2 rfl h hR iD ip _ jp _ H' hp.1 hp.2 hH hv a w hF bY hB
 exact nq hc key key
theorem RN.retM{fn:Func}{R':Value -> HL -> Prop}(ds dx:List Nat)(hints:List Hint)(ip jp:List Nat){v:Value}{H':HL}(hv:R' v H')
 (hD:D=ds.map coll:=by rfl) (hc:l8 s=true:=by kernel_rfl) (hd:((dx++oth dx s.A.length).isPerm (List.range s.A.length),dx.filterMap (s.A[·]?))=(true,ds.map cO):=by kernel_rfl)
 (h:∀n0,jg P n0 fn.results.toList R hints (ke dx s)=some (v,mI (jg P 0 fn.results.toList R hints (ke dx s)),mI (jg P 0 fn.results.toList R hints (ke dx s)),[]):=by intro n0;kernel_rfl)
 (hp:cE ip jp (ke dx s)=true:=by kernel_rfl) (hH:ap (picks ip jp (ke dx s)).1 (picks ip jp (ke dx s)).2=H':=by kernel_rfl):RN none P N D F w0 R s (bodyPostM (Wr none) 0 P fn (zl F w0 R')):=DL ds dx hints [] trivial ip jp hv hD hc hd h hp hH
end
theorem ShIn.up{F X:HL}{s:Shp}(h:ShIn F s):ShIn (X++F) s:=h.mono λ x hx=>List.mem_append_right _ hx
def isZ(a:V2):Prop:=((decide (a.x=0) && (decide (a.y=0) && true)))=true
instance (a:V2):Decidable (isZ a):=inferInstanceAs (Decidable (_=true))
def gG(a:V2):V2:=if isZ (kc a) then ⟨1024,0⟩ else kc a
def gj(pos ax:V2)(l:List V2):Nat -> Int × Int
 | 0=>(0,0)
 | k+1=>if (k:Int)=0 then (if du (ay pos (l.getD k ⟨0,0⟩)) ax<du (ay pos (l.getD k ⟨0,0⟩)) ax then du (ay pos (l.getD k ⟨0,0⟩)) ax else du (ay pos (l.getD k ⟨0,0⟩)) ax,if du (ay pos (l.getD k ⟨0,0⟩)) ax>du (ay pos (l.getD k ⟨0,0⟩)) ax then du (ay pos (l.getD k ⟨0,0⟩)) ax else du (ay pos (l.getD k ⟨0,0⟩)) ax)
  else (if du (ay pos (l.getD k ⟨0,0⟩)) ax<(gj pos ax l k).1 then du (ay pos (l.getD k ⟨0,0⟩)) ax else (gj pos ax l k).1,if du (ay pos (l.getD k ⟨0,0⟩)) ax>(gj pos ax l k).2 then du (ay pos (l.getD k ⟨0,0⟩)) ax else (gj pos ax l k).2)
def hO(s:Shp)(pos ax:V2):Int × Int:=if gZ s then (aV (du pos ax-s.r),aV (du pos ax+s.r)) else gj pos ax s.poly s.poly.length
def l9(a:Shp)(pa:V2)(b:Shp)(pb ax:V2):Int:=aV ((if (hO b pb ax).2<(hO a pa ax).2 then (hO b pb ax).2 else (hO a pa ax).2)-(if (hO b pb ax).1>(hO a pa ax).1 then (hO b pb ax).1 else (hO a pa ax).1))
def Mx(off v:V2):Int:=aV (aV ((ay off v).x*(ay off v).x)+aV ((ay off v).y*(ay off v).y))
def eX(off:V2)(l:List V2):Nat -> V2 × Int
 | 0=>(l.getD 0 ⟨0,0⟩,Mx off (l.getD 0 ⟨0,0⟩))
 | k+1=>if Mx off (l.getD (1+k) ⟨0,0⟩)<(eX off l k).2 then (l.getD (1+k) ⟨0,0⟩,Mx off (l.getD (1+k) ⟨0,0⟩)) else eX off l k
def iZ(c:V2)(s:Shp)(pos:V2):V2:=ay (dL pos c) (eX (dL pos c) s.poly (s.poly.length-1)).1
theorem hZ(a:V2)  (F:HL):Sp Tryz.prog 204 #[.agg #[vI a.x,vI a.y]] [] F (λ u H'=>u=.agg #[vI ((gG a).x),vI ((gG a).y)] /\ H'=[]):=by
 refine Sp.run Tryz.func204 rfl mn (A:=[]) (Ts:=[]) rfl λ w0=>?_
 refine aa 10 [.own 1,.own 1] λ n1=>al (Bm a  _)<|aa 11 [.own 0,.own 0,.own 0,.own 0,.sq] λ n2=>rC ((decide ((kc a).x=0) && (decide ((kc a).y=0) && true))) 8 (λ h3=>?_) λ h3=>?_
 ·refine aa 9 [.own 1,.own 1] λ _=>RN.ret [.own 1,.own 1] [] [] (v:=.agg #[vI 1024,vI 0]) (H':=[]) ?_
  refine⟨?_,rfl⟩
  first|rw[show gG a=⟨1024,0⟩ from if_pos (by assumption)]|rw[show gG a=kc a from if_neg (by assumption)]
 ·refine aa 7 [.own 0,.own 0,.own 1,.own 1] λ _=>RN.ret [.own 1,.own 1] [] [] (v:=.agg #[vI ((kc a).x),vI ((kc a).y)]) (H':=[]) ?_
  refine⟨?_,rfl⟩
  first|rw[show gG a=⟨1024,0⟩ from if_pos (by assumption)]|rw[show gG a=kc a from if_neg (by assumption)]
theorem uJ(r:Int)(A:Option Addr)(cap:Nat)(pos ax:V2)(F:HL):Sp Tryz.prog 207 #[.agg #[vI r,.slice A 0 cap],.agg #[vI pos.x,vI pos.y],.agg #[vI ax.x,vI ax.y]] [] F (λ u H'=>u=.tuple #[vI (hO ⟨r,[],A,cap⟩ pos ax).1,vI (hO ⟨r,[],A,cap⟩ pos ax).2] /\ H'=[]):=by
 refine Sp.run Tryz.func207 rfl mn (A:=[]) (Ts:=[]) rfl λ w0=>?_
 refine aa 13 [.own 2,.own 2] λ n1=>al (nu r A 0 cap _)<|aa 7 [.own 1,.own 1,.own 0,.own 0] λ _=>al (mL pos ax  _)<|aa 4 [] λ _=>RN.draw [] []<|af [] [0,1,4,5,2,6,3,7,8,9] [.own 2,.own 2]<|RD.fin<|aa 1 [] λ _=>?_
 exact RN.ret [] [] [] ⟨rfl,rfl⟩
theorem Br(r:Int)(l:List V2)(b cap:Nat)(pos ax:V2)(F:HL)(hb:(b,.rows 2 cap (jh l) 29 (0,0))∈F)(RY:3 <= l.length)(h4:l.length <= cap)(h5:l.length <= 1000000):Sp Tryz.prog 207 #[.agg #[vI r,vS b 0 l.length cap],.agg #[vI pos.x,vI pos.y],.agg #[vI ax.x,vI ax.y]] [] F (λ u H'=>u=.tuple #[vI (hO ⟨r,l,some ⟨b,0,none⟩,cap⟩ pos ax).1,vI (hO ⟨r,l,some ⟨b,0,none⟩,cap⟩ pos ax).2] /\ H'=[]):=by
 refine Sp.run Tryz.func207 rfl (mc hb mn) (A:=[]) (Ts:=[]) rfl λ w0=>?_
 refine aa 13 [.own 2,.own 2] λ n1=>al (nu r (some ⟨b,0,none⟩) l.length cap _)<|aa 2 [] λ _=>dR 13 (decide_eq_false (show ¬ ((l.length:Int)=0) by omega))<|aa 13 [.own 2] λ _=>RN.loop (σ:=Nat) (λ k=>⟨[(4,vP (n1+1) 0),(5,vP (n1+2) 0),(6,vI ((gj pos ax l k).1)),(7,vI ((gj pos ax l k).2)),(26,vS b 0 l.length cap),(27,vI (l.length:Int)),(28,vI (k:Int))],[((n1+2),.lit [vI ax.x,vI ax.y] 29 (0,0)),((n1+1),.lit [vI pos.x,vI pos.y] 29 (0,0)),((n1+0),.lit [vI r,vS b 0 l.length cap] 71 (0,0))],[],k <= l.length,l.length-k⟩) 0 [0,1,2] [] (Nat.zero_le _) ?_
 rintro k Wi PK
 refine aa 6 [] λ _=>RN.em ((k:Int)<(l.length:Int)) 29 (λ h4=>?_) λ h4=>?_
 ·refine aq 16 [.ix k,.rorow 0 k 0,.rorow 0 k 1,.own 0,.own 0] [((0+k*2)+1)=k*2+1 /\ k<cap,(0+k*2)=k*2+0 /\ k<cap,(k:Int)=((k:Nat):Int) /\ k<l.length] λ n5=>RN.draw [] []<|af [] [0,1,3] [.own 2,.own 2,.own 0,.own 0,.own 1,.own 1]<|au [] 2 (λ X_=>(dM pos (l.getD k ⟨0,0⟩)  _))<|au [] 4 (λ X_=>(mL (ay pos (l.getD k ⟨0,0⟩)) ax  _))<|af [] [5] []<|RD.fin<|aa 8 [] λ _=>RN.em ((k:Int)=0) 39 (λ h6=>?_) λ h6=>?_
  ·refine aq 24 [.nw] [bF ((k:Int)+1)] λ _=>?_
   have e_:gj pos ax l (k+1)=(if du (ay pos (l.getD k ⟨0,0⟩)) ax<du (ay pos (l.getD k ⟨0,0⟩)) ax then du (ay pos (l.getD k ⟨0,0⟩)) ax else du (ay pos (l.getD k ⟨0,0⟩)) ax,if du (ay pos (l.getD k ⟨0,0⟩)) ax>du (ay pos (l.getD k ⟨0,0⟩)) ax then du (ay pos (l.getD k ⟨0,0⟩)) ax else du (ay pos (l.getD k ⟨0,0⟩)) ax):=by
    rw[gj,if_pos h6]
   refine bZ 6 (congrArg (λ v_=>(vI v_:Value)) (congrArg Prod.fst e_).symm)<|bZ 7 (congrArg (λ v_=>(vI v_:Value)) (congrArg Prod.snd e_).symm) ?_
   refine PK (k+1) [1,2,3] [] ?_
   try dsimp only
   exact⟨by omega,by omega⟩
  ·refine aq 19 [.nw] [bF ((k:Int)+1)] λ _=>?_
   have e_:gj pos ax l (k+1)=(if du (ay pos (l.getD k ⟨0,0⟩)) ax<(gj pos ax l k).1 then du (ay pos (l.getD k ⟨0,0⟩)) ax else (gj pos ax l k).1,if du (ay pos (l.getD k ⟨0,0⟩)) ax>(gj pos ax l k).2 then du (ay pos (l.getD k ⟨0,0⟩)) ax else (gj pos ax l k).2):=by
    rw[gj,if_neg h6]
   refine bZ 6 (congrArg (λ v_=>(vI v_:Value)) (congrArg Prod.fst e_).symm)<|bZ 7 (congrArg (λ v_=>(vI v_:Value)) (congrArg Prod.snd e_).symm) ?_
   refine PK (k+1) [1,2,3] [] ?_
   try dsimp only
   exact⟨by omega,by omega⟩
 ·refine aa 14 [] λ _=>RN.ret [] [] [] (v:=.tuple #[vI ((gj pos ax l k).1),vI ((gj pos ax l k).2)]) (H':=[]) ?_
  have ek:k=l.length:=by omega
  subst ek
  refine⟨?_,rfl⟩
  unfold hO
  rw[if_neg (by intro e;simp[gZ] at e;rw[e] at RY;simp at RY)]
theorem uK(s:Shp)(pos ax:V2)(F:HL)(h:ShIn F s):Sp Tryz.prog 207 #[Mw s,.agg #[vI pos.x,vI pos.y],.agg #[vI ax.x,vI ax.y]] [] F (λ u H'=>u=.tuple #[vI (hO s pos ax).1,vI (hO s pos ax).2] /\ H'=[]):=by
 cases h with
 | circle r A cap=>exact uJ r A cap pos ax F
 | poly r l b cap h h3 h4 h5=>exact Br r l b cap pos ax F h h3 h4 h5
theorem Bt(a:Shp)(pa:V2)(b:Shp)(pb ax:V2)(F:HL)(ha:ShIn F a)(hb:ShIn F b):Sp Tryz.prog 176 #[.agg #[vI a.r,.slice a.A a.poly.length a.cap],.agg #[vI pa.x,vI pa.y],.agg #[vI b.r,.slice b.A b.poly.length b.cap],.agg #[vI pb.x,vI pb.y],.agg #[vI ax.x,vI ax.y]] [] F (λ u H'=>u=vI (l9 a pa b pb ax) /\ H'=[]):=by
 refine Sp.run Tryz.func176 rfl mn (A:=[]) (Ts:=[]) rfl λ w0=>?_
 refine aa 15 [.own 4,.own 4,.own 3,.own 3,.own 0,.own 0] λ n1=>al (uK a pa ax _ (ha.up))<|aa 12 [.own 2,.own 2,.own 1,.own 1,.own 0,.own 0] λ _=>al (uK b pb ax _ (hb.up))<|aa 19 [] λ _=>?_
 exact RN.ret [] [] [] ⟨rfl,rfl⟩
theorem zw(v off:V2)(q:Nat)(F:HL)(hq:(q,.lit [vI off.x,vI off.y] 29 (0,0))∈F):Sp Tryz.prog 225 #[.agg #[vI v.x,vI v.y],vP q 0] [] F (λ u H'=>u=vI (Mx off v) /\ H'=[]):=by
 refine Sp.run Tryz.func225 rfl (mc hq mn) (A:=[]) (Ts:=[]) rfl λ w0=>?_
 refine aa 10 [.ro 0,.ro 0,.own 0,.own 0] λ n1=>al (dM off v  _)<|aa 20 (ow 0 6) λ n2=>?_
 exact RN.ret [] [] [] ⟨rfl,rfl⟩
theorem Bu(l:List V2)(b cap:Nat)(off:V2)(q:Nat)(F:HL)(hb:(b,.rows 2 cap (jh l) 29 (0,0))∈F)(h3:3 <= l.length)(h4:l.length <= cap)(h5:l.length <= 1000000)(hq:(q,.lit [vI off.x,vI off.y] 29 (0,0))∈F):Sp Tryz.prog 224 #[vS b 0 l.length cap,.func (.func 225) #[] #[vP q 0]] [] F (λ u H'=>u=.agg #[vI (((eX off l (l.length-1)).1).x),vI (((eX off l (l.length-1)).1).y)] /\ H'=[]):=by
 refine Sp.run Tryz.func224 rfl (mc hb (mc hq mn)) (A:=[]) (Ts:=[]) rfl λ w0=>?_
 refine aa 6 [] λ n1=>RN.draw [9] [0]<|aL [0] [0,3,4,1,5,2,6] [.ix 0,.ix 0,.rorow 0 0 0,.rorow 0 0 1,.rorow 0 0 0,.rorow 0 0 1] [((0+0*2)+1)=0*2+1 /\ 0<cap,(0+0*2)=0*2+0 /\ 0<cap,((0+0*2)+1)=0*2+1 /\ 0<cap,(0+0*2)=0*2+0 /\ 0<cap,0=((0:Nat):Int) /\ 0<l.length,0=((0:Nat):Int) /\ 0<l.length]<|au [0] 7 (λ X_=>(zw (l.getD 0 ⟨0,0⟩) off q _ (List.mem_append_right _ (List.mem_append_right _ hq))))<|RD.one 8 (RDO.ev [] [] λ n3=>?_)
 refine RD.one 9 (RDO.ev [1] [.own 0,.own 0] λ _=>?_)
 refine af [1] [10] []<|RD.fin<|aq 11 [.sl 1 l.length false] [1=((1:Nat):Int) /\ l.length=l.length /\ 1 <= l.length /\ l.length <= cap /\ cap≠1] λ _=>RN.loop (σ:=Nat) (λ k=>⟨[(1,.func (.func 225) #[] #[vP q 0]),(4,vP (n1+0) 0),(5,vP (n3+0) 0),(6,vI ((eX off l k).2)),(19,vS b 2 (l.length-1) (cap-1)),(20,vI (((l.length-1):Nat):Int)),(21,vI (k:Int))],[((n3+0),.lit [vI ((eX off l k).1.x),vI ((eX off l k).1.y)] 29 (0,0)),((n1+0),.lit [vI 0,vI 0] 29 (0,0))],[],k <= l.length-1,l.length-k⟩) 0 [0,1] [] (Nat.zero_le _) ?_
 rintro k hI4 UC
 refine aa 6 [] λ _=>RN.em ((k:Int)<(((l.length-1):Nat):Int)) 22 (λ h6=>?_) λ h6=>?_
 ·refine aq 17 [.ix k,.rorow 0 (1+k) 0,.rorow 0 (1+k) 1,.own 0,.own 0,.own 0,.own 0] [((2+k*2)+1)=(1+k)*2+1 /\ (1+k)<cap,(2+k*2)=(1+k)*2+0 /\ (1+k)<cap,(k:Int)=((k:Nat):Int) /\ k<(l.length-1)] λ n7=>al (zw (l.getD (1+k) ⟨0,0⟩) off q _ (List.mem_append_right _ hq))<|aa 10 [] λ _=>RN.em (Mx off (l.getD (1+k) ⟨0,0⟩)<(eX off l k).2) 30 (λ h8=>?_) λ h8=>?_
  ·refine aq 13 [.own 0,.own 0,.own 1,.own 1,.nw] [bF ((k:Int)+1)] λ _=>?_
   have e_:eX off l (k+1)=(l.getD (1+k) ⟨0,0⟩,Mx off (l.getD (1+k) ⟨0,0⟩)):=by rw[eX,if_pos h8]
   refine bZ 6 (congrArg (λ v_=>(vI v_:Value)) (congrArg Prod.snd e_).symm)<|fS 1 (congrArg (λ v_=>(.lit [vI v_.1.x,vI v_.1.y] 29 (0,0):Blk)) e_.symm) ?_
   refine UC (k+1) [1,2] [] ?_
   try dsimp only
   exact⟨by omega,by omega⟩
  ·refine aq 8 [.nw] [bF ((k:Int)+1)] λ _=>?_
   have e_:eX off l (k+1)=eX off l k:=by rw[eX,if_neg h8]
   refine bZ 6 (congrArg (λ v_=>(vI v_:Value)) (congrArg Prod.snd e_).symm)<|fS 1 (congrArg (λ v_=>(.lit [vI v_.1.x,vI v_.1.y] 29 (0,0):Blk)) e_.symm) ?_
   refine UC (k+1) [1,2] [] ?_
   try dsimp only
   exact⟨by omega,by omega⟩
 ·refine aa 12 [.own 0,.own 0,.own 1,.own 1] λ _=>RN.ret [.own 1,.own 1] [] [] (v:=.agg #[vI ((eX off l k).1.x),vI ((eX off l k).1.y)]) (H':=[]) ?_
  have ek:k=l.length-1:=by omega
  subst ek
  exact⟨rfl,rfl⟩
def og(l:List V2)(k:Nat):V2:=gG ⟨aV ((l.getD (((k:Int)+1) % (l.length:Int)).toNat ⟨0,0⟩).y-(l.getD k ⟨0,0⟩).y),aV ((l.getD k ⟨0,0⟩).x-(l.getD (((k:Int)+1) % (l.length:Int)).toNat ⟨0,0⟩).x)⟩
def nv(l:List V2):List V2:=(List.range l.length).map (og l)
def kD(a:Shp)(pa:V2)(b:Shp)(pb:V2):List V2:=if gZ a then if gZ b then [gG (dL pb pa)] else [gG (iZ pa b pb)] else if gZ b then [gG (iZ pb a pa)] else []
def aO(a:Shp)(pa:V2)(b:Shp)(pb:V2):List V2:=nv a.poly++(nv b.poly++kD a pa b pb)
theorem d6(l:List V2):(nv l).length=l.length:=by simp[nv]
theorem pp{l:List V2}{k:Nat}(h:k<l.length):(nv l)[k]?=some (og l k):=by simp[nv,h]
theorem DM{a:Shp}{pa:V2}{b:Shp}{pb:V2}{k:Nat}(h:k<a.poly.length):(aO a pa b pb)[k]?=some (og a.poly k):=by
 unfold aO
 rw[List.getElem?_append_left (by rw[d6];exact h),pp h]
theorem DN{a:Shp}{pa:V2}{b:Shp}{pb:V2}{k:Nat}(h:k<b.poly.length):(aO a pa b pb)[a.poly.length+k]?=some (og b.poly k):=by
 unfold aO
 rw[List.getElem?_append_right (by rw[d6];omega),d6,Nat.add_sub_cancel_left,List.getElem?_append_left (by rw[d6];exact h),pp h]
theorem xC{a:Shp}{pa:V2}{b:Shp}{pb x:V2}(h:kD a pa b pb=[x]):(aO a pa b pb)[a.poly.length+b.poly.length]?=some x:=by
 unfold aO
 rw[List.getElem?_append_right (by rw[d6];omega),d6,Nat.add_sub_cancel_left,List.getElem?_append_right (by rw[d6];omega),d6,Nat.sub_self,h]
 rfl
theorem mP{a:Shp}{pa:V2}{b:Shp}{pb:V2}{m:Nat}(h:(kD a pa b pb).length=m):(aO a pa b pb).length=a.poly.length+b.poly.length+m:=by
 unfold aO
 rw[List.length_append,List.length_append,d6,d6,h];omega
theorem dS(T:HL):ap [] [T]=T:=by simp
abbrev DP(x:V2):Array Value:=#[.agg #[vI x.x,vI x.y]]
theorem oh(c:V2)(r:Int)(l:List V2)(b cap:Nat)(pos:V2)(F:HL)(hb:(b,.rows 2 cap (jh l) 29 (0,0))∈F)(RY:3 <= l.length)(h4:l.length <= cap)(h5:l.length <= 1000000):Sp Tryz.prog 206 #[.agg #[vI c.x,vI c.y],.agg #[vI r,vS b 0 l.length cap],.agg #[vI pos.x,vI pos.y]] [] F (λ u H'=>u=.agg #[vI ((iZ c ⟨r,l,some ⟨b,0,none⟩,cap⟩ pos).x),vI ((iZ c ⟨r,l,some ⟨b,0,none⟩,cap⟩ pos).y)] /\ H'=[]):=by
 refine Sp.run Tryz.func206 rfl (mc hb mn) (A:=[]) (Ts:=[]) rfl λ w0=>?_
 refine aa 12 [.own 1,.own 1,.own 3,.own 3] λ n1=>al (gY pos c  _)<|aa 9 [.own 0,.own 0,.own 3] λ n2=>al (Bu l b cap (dL pos c) (n2+0) _ (List.mem_append_right _ hb) RY h4 h5 (aC 0))<|aa 8 [.own 0,.own 0,.own 1,.own 1,.own 0,.own 0] λ n3=>al (dM (dL pos c) ((eX (dL pos c) l (l.length-1)).1)  _)<|aa 3 [.own 2,.own 2] λ _=>?_
 exact RN.ret [.own 2,.own 2] [] [] ⟨rfl,rfl⟩
theorem HQ(pa pb:V2)(ra rb:Int)(ca cb:Nat)(Aa:Option Addr)(Ab:Option Addr)(q1 q2 q3 q4 lp:Nat)(X F:HL)(J:Nat -> HL -> Prop)(Jx:HL -> Prop)(T0:HL)(Rc:(q1,.lit [vI ra,.slice Aa 0 ca] 71 (0,0))∈F)(PA:(q2,.lit [vI rb,.slice Ab 0 cb] 71 (0,0))∈F)(RI:(q3,.lit [vI pb.x,vI pb.y] 29 (0,0))∈F)(Rp:(q4,.lit [vI pa.x,vI pa.y] 29 (0,0))∈F)(hY:∀i x H Y,(aO (⟨ra,[],Aa,ca⟩:Shp) pa (⟨rb,[],Ab,cb⟩:Shp) pb)[i]?=some x -> J i H -> YL Tryz.prog lp (DP x) H (Y++(X++F)) (λ b H'=>(b=true /\ J (i+1) H') \/ (b=false /\ Jx H')))(RM:J 0 T0):Sp Tryz.prog 203 #[.func (.yield lp) #[] #[],vP q1 0,vP q2 0,vP q3 0,vP q4 0] (ap [] [T0]) (X++F) (λ _ H'=>J (aO (⟨ra,[],Aa,ca⟩:Shp) pa (⟨rb,[],Ab,cb⟩:Shp) pb).length H' \/ Jx H'):=by
 have V1:gZ (⟨ra,[],Aa,ca⟩:Shp):=rfl
 have V0:gZ (⟨rb,[],Ab,cb⟩:Shp):=rfl
 have Pv:kD (⟨ra,[],Aa,ca⟩:Shp) pa (⟨rb,[],Ab,cb⟩:Shp) pb=[gG (dL pb pa)]:=by simp only[kD,if_pos V1,if_pos V0]
 have hlen:(aO (⟨ra,[],Aa,ca⟩:Shp) pa (⟨rb,[],Ab,cb⟩:Shp) pb).length=([]:List V2).length+([]:List V2).length+1:=mP (by rw[Pv];rfl)
 refine Sp.run Tryz.func203 rfl (mc (List.mem_append_right X Rc) (mc (List.mem_append_right X PA) (mc (List.mem_append_right X RI) (mc (List.mem_append_right X Rp) mn)))) (A:=[]) (Ts:=[T0]) rfl λ w0=>?_
 refine aa 12 [.ro 0,.ro 1] λ _=>RN.rounds 2<|aa 25 [] λ _=>RN.rounds 1<|aa 43 [] λ _=>RN.rounds 1<|aa 34 [.ro 0,.ro 0] λ _=>al (g9 ra Aa 0 ca _)<|aa 2 [.ro 1,.ro 1] λ _=>al (g9 rb Ab 0 cb _)<|aa 9 [.ro 2,.ro 2,.ro 3,.ro 3] λ _=>al (gY pb pa  _)<|al (hZ (dL pb pa)  _) ?_
 refine RN.yield 0 (hY 0 (gG (dL pb pa)) _ _ (xC Pv) RM) ?_
 rintro b_ T1 (⟨rfl,hJ2⟩|⟨rfl,hJ2⟩)
 ·refine aa 2 [] λ _=>RN.ret [] [] [0] (v:=.tuple #[]) (H':=(ap [] [T1])) ?_
  rw[dS]
  exact .inl (by rw[hlen];exact hJ2)
 ·refine aa 2 [] λ _=>RN.ret [] [] [0] (v:=.tuple #[]) (H':=(ap [] [T1])) ?_
  rw[dS]
  exact .inr hJ2
theorem HS(pa pb:V2)(ra rb:Int)(ca cb:Nat)(Aa:Option Addr)(lb:List V2)(bb:Nat)(q1 q2 q3 q4 lp:Nat)(X F:HL)(J:Nat -> HL -> Prop)(Jx:HL -> Prop)(T0:HL)(Rc:(q1,.lit [vI ra,.slice Aa 0 ca] 71 (0,0))∈F)(PA:(q2,.lit [vI rb,vS bb 0 lb.length cb] 71 (0,0))∈F)(RI:(q3,.lit [vI pb.x,vI pb.y] 29 (0,0))∈F)(Rp:(q4,.lit [vI pa.x,vI pa.y] 29 (0,0))∈F)(YS:(bb,.rows 2 cb (jh lb) 29 (0,0))∈F)(YW:3 <= lb.length)(h4b:lb.length <= cb)(h5b:lb.length <= 1000000)(hY:∀i x H Y,(aO (⟨ra,[],Aa,ca⟩:Shp) pa (⟨rb,lb,some ⟨bb,0,none⟩,cb⟩:Shp) pb)[i]?=some x -> J i H -> YL Tryz.prog lp (DP x) H (Y++(X++F)) (λ b H'=>(b=true /\ J (i+1) H') \/ (b=false /\ Jx H')))(RM:J 0 T0):Sp Tryz.prog 203 #[.func (.yield lp) #[] #[],vP q1 0,vP q2 0,vP q3 0,vP q4 0] (ap [] [T0]) (X++F) (λ _ H'=>J (aO (⟨ra,[],Aa,ca⟩:Shp) pa (⟨rb,lb,some ⟨bb,0,none⟩,cb⟩:Shp) pb).length H' \/ Jx H'):=by
 have V1:gZ (⟨ra,[],Aa,ca⟩:Shp):=rfl
 have V0:¬ gZ (⟨rb,lb,some ⟨bb,0,none⟩,cb⟩:Shp):=by intro e;simp[gZ] at e;subst e;simp at YW
 have Pv:kD (⟨ra,[],Aa,ca⟩:Shp) pa (⟨rb,lb,some ⟨bb,0,none⟩,cb⟩:Shp) pb=[gG (iZ pa (⟨rb,lb,some ⟨bb,0,none⟩,cb⟩:Shp) pb)]:=by simp only[kD,if_pos V1,if_neg V0]
 have hlen:(aO (⟨ra,[],Aa,ca⟩:Shp) pa (⟨rb,lb,some ⟨bb,0,none⟩,cb⟩:Shp) pb).length=([]:List V2).length+lb.length+1:=mP (by rw[Pv];rfl)
 refine Sp.run Tryz.func203 rfl (mc (List.mem_append_right X Rc) (mc (List.mem_append_right X PA) (mc (List.mem_append_right X RI) (mc (List.mem_append_right X Rp) (mc (List.mem_append_right X YS) mn))))) (A:=[]) (Ts:=[T0]) rfl λ w0=>?_
 refine aa 12 [.ro 0,.ro 1] λ _=>RN.rounds 2<|aa 25 [] λ _=>RN.rounds 1<|aa 43 [] λ _=>RN.loop (σ:=Nat × HL) (λ ⟨k,T_⟩=>⟨[(0,.func (.yield lp) #[] #[]),(1,vP q1 0),(2,vP q2 0),(3,vP q3 0),(4,vP q4 0),(7,vS bb 0 lb.length cb),(15,.agg #[.slice Aa 0 ca,vS bb 0 lb.length cb]),(16,vI 1),(19,vS bb 0 lb.length cb),(20,vI (lb.length:Int)),(21,vI (k:Int))],[],[T_],k <= lb.length /\ J (([]:List V2).length+k) T_,lb.length-k⟩) (0,T0) [] [0] (⟨Nat.zero_le _,RM⟩) ?_
 rintro⟨k,T_⟩ ⟨Xy,Qb⟩ QF
 skip
 refine aa 6 [] λ _=>RN.em ((k:Int)<(lb.length:Int)) 22 (λ h3=>?_) λ h3=>?_
 ·refine aq 22 [.ix k,.rorow 4 k 0,.rorow 4 k 1,.own 0,.own 0,.nw] [bF ((k:Int)+1),((0+k*2)+1)=k*2+1 /\ k<cb,(0+k*2)=k*2+0 /\ k<cb,(k:Int)=((k:Nat):Int) /\ k<lb.length] λ n4=>?_
  have YJ:=Int.emod_nonneg ((k:Int)+1) (show (lb.length:Int)≠0 by omega)
  have YI:=Int.emod_lt_of_pos ((k:Int)+1) (show (0:Int)<lb.length by omega)
  refine aq 21 [.nw,.ix ((((k:Int)+1) % (lb.length:Int)).toNat),.rorow 4 ((((k:Int)+1) % (lb.length:Int)).toNat) 0,.rorow 4 ((((k:Int)+1) % (lb.length:Int)).toNat) 1,.own 0,.own 0,.own 0,.own 1,.own 1,.own 0] [((0+((((k:Int)+1) % (lb.length:Int)).toNat)*2)+1)=((((k:Int)+1) % (lb.length:Int)).toNat)*2+1 /\ ((((k:Int)+1) % (lb.length:Int)).toNat)<cb,(0+((((k:Int)+1) % (lb.length:Int)).toNat)*2)=((((k:Int)+1) % (lb.length:Int)).toNat)*2+0 /\ ((((k:Int)+1) % (lb.length:Int)).toNat)<cb,((k:Int)+1) % (lb.length:Int)=(((((k:Int)+1) % (lb.length:Int)).toNat:Nat):Int) /\ (((k:Int)+1) % (lb.length:Int)).toNat<lb.length,0 <= (k:Int)+1 /\ (0:Int)<(lb.length:Int) /\ (k:Int)+1 <= 9223372036854775807] λ n5=>al (hZ (⟨i64.wrap (((lb.getD ((((k:Int)+1) % (lb.length:Int)).toNat) ⟨0,0⟩).y)-((lb.getD k ⟨0,0⟩).y)),i64.wrap (((lb.getD k ⟨0,0⟩).x)-((lb.getD ((((k:Int)+1) % (lb.length:Int)).toNat) ⟨0,0⟩).x))⟩:V2)  _)<|RN.yield 0 (hY (([]:List V2).length+k) (og lb k) _ _ (DN (a:=(⟨ra,[],Aa,ca⟩:Shp)) (by show k<lb.length;omega)) Qb) ?_
  rintro b_ T6 (⟨rfl,Tf⟩|⟨rfl,Tf⟩)
  ·refine aq 11 [.gen,.nw] [bF ((k:Int)+1)] λ _=>?_
   refine QF (k+1,T6) [] [0] ?_
   try dsimp only
   exact⟨⟨by omega,Tf⟩,by omega⟩
  ·refine aa 4 [] λ _=>RN.ret [] [] [0] (v:=.tuple #[]) (H':=(ap [] [T6])) ?_
   rw[dS]
   exact .inr Tf
 ·have ek1:k=lb.length:=by omega
  subst ek1
  refine aa 28 [.ro 0,.ro 0] λ _=>al (g9 ra Aa 0 ca _)<|aa 2 [.ro 1,.ro 1] λ _=>al (g9 rb (some ⟨bb,0,none⟩) lb.length cb _)<|aa 4 [] λ _=>dR 51 (decide_eq_false (show ¬ ((lb.length:Int)=0) by omega))<|aa 4 [.ro 0,.ro 0] λ _=>al (g9 ra Aa 0 ca _)<|aa 9 [.ro 3,.ro 3,.ro 1,.ro 1,.ro 2,.ro 2] λ _=>al (oh pa rb lb bb cb pb _ (List.mem_append_right _ (List.mem_append_right X YS)) YW h4b h5b)<|al (hZ (iZ pa (⟨rb,lb,some ⟨bb,0,none⟩,cb⟩:Shp) pb)  _)<|RN.yield 0 (hY (([]:List V2).length+lb.length) (gG (iZ pa (⟨rb,lb,some ⟨bb,0,none⟩,cb⟩:Shp) pb)) _ _ (xC Pv) Qb) ?_
  rintro b_ T8 (⟨rfl,Td⟩|⟨rfl,Td⟩)
  ·refine aa 2 [] λ _=>RN.ret [] [] [0] (v:=.tuple #[]) (H':=(ap [] [T8])) ?_
   rw[dS]
   exact .inl (by rw[hlen];exact Td)
  ·refine aa 2 [] λ _=>RN.ret [] [] [0] (v:=.tuple #[]) (H':=(ap [] [T8])) ?_
   rw[dS]
   exact .inr Td
theorem HT(pa pb:V2)(ra rb:Int)(ca cb:Nat)(la:List V2)(ba:Nat)(Ab:Option Addr)(q1 q2 q3 q4 lp:Nat)(X F:HL)(J:Nat -> HL -> Prop)(Jx:HL -> Prop)(T0:HL)(Rc:(q1,.lit [vI ra,vS ba 0 la.length ca] 71 (0,0))∈F)(PA:(q2,.lit [vI rb,.slice Ab 0 cb] 71 (0,0))∈F)(RI:(q3,.lit [vI pb.x,vI pb.y] 29 (0,0))∈F)(Rp:(q4,.lit [vI pa.x,vI pa.y] 29 (0,0))∈F)(YT:(ba,.rows 2 ca (jh la) 29 (0,0))∈F)(YX:3 <= la.length)(h4a:la.length <= ca)(h5a:la.length <= 1000000)(hY:∀i x H Y,(aO (⟨ra,la,some ⟨ba,0,none⟩,ca⟩:Shp) pa (⟨rb,[],Ab,cb⟩:Shp) pb)[i]?=some x -> J i H -> YL Tryz.prog lp (DP x) H (Y++(X++F)) (λ b H'=>(b=true /\ J (i+1) H') \/ (b=false /\ Jx H')))(RM:J 0 T0):Sp Tryz.prog 203 #[.func (.yield lp) #[] #[],vP q1 0,vP q2 0,vP q3 0,vP q4 0] (ap [] [T0]) (X++F) (λ _ H'=>J (aO (⟨ra,la,some ⟨ba,0,none⟩,ca⟩:Shp) pa (⟨rb,[],Ab,cb⟩:Shp) pb).length H' \/ Jx H'):=by
 have V1:¬ gZ (⟨ra,la,some ⟨ba,0,none⟩,ca⟩:Shp):=by intro e;simp[gZ] at e;subst e;simp at YX
 have V0:gZ (⟨rb,[],Ab,cb⟩:Shp):=rfl
 have Pv:kD (⟨ra,la,some ⟨ba,0,none⟩,ca⟩:Shp) pa (⟨rb,[],Ab,cb⟩:Shp) pb=[gG (iZ pb (⟨ra,la,some ⟨ba,0,none⟩,ca⟩:Shp) pa)]:=by simp only[kD,if_neg V1,if_pos V0]
 have hlen:(aO (⟨ra,la,some ⟨ba,0,none⟩,ca⟩:Shp) pa (⟨rb,[],Ab,cb⟩:Shp) pb).length=la.length+([]:List V2).length+1:=mP (by rw[Pv];rfl)
 refine Sp.run Tryz.func203 rfl (mc (List.mem_append_right X Rc) (mc (List.mem_append_right X PA) (mc (List.mem_append_right X RI) (mc (List.mem_append_right X Rp) (mc (List.mem_append_right X YT) mn))))) (A:=[]) (Ts:=[T0]) rfl λ w0=>?_
 refine aa 12 [.ro 0,.ro 1] λ _=>RN.rounds 2<|aa 25 [] λ _=>RN.loop (σ:=Nat × HL) (λ ⟨k,T_⟩=>⟨[(0,.func (.yield lp) #[] #[]),(1,vP q1 0),(2,vP q2 0),(3,vP q3 0),(4,vP q4 0),(7,vS ba 0 la.length ca),(15,.agg #[vS ba 0 la.length ca,.slice Ab 0 cb]),(16,vI 0),(19,vS ba 0 la.length ca),(20,vI (la.length:Int)),(21,vI (k:Int))],[],[T_],k <= la.length /\ J (k) T_,la.length-k⟩) (0,T0) [] [0] (⟨Nat.zero_le _,RM⟩) ?_
 rintro⟨k,T_⟩ ⟨Xy,Qb⟩ QF
 skip
 refine aa 6 [] λ _=>RN.em ((k:Int)<(la.length:Int)) 22 (λ h3=>?_) λ h3=>?_
 ·refine aq 22 [.ix k,.rorow 4 k 0,.rorow 4 k 1,.own 0,.own 0,.nw] [bF ((k:Int)+1),((0+k*2)+1)=k*2+1 /\ k<ca,(0+k*2)=k*2+0 /\ k<ca,(k:Int)=((k:Nat):Int) /\ k<la.length] λ n4=>?_
  have YJ:=Int.emod_nonneg ((k:Int)+1) (show (la.length:Int)≠0 by omega)
  have YI:=Int.emod_lt_of_pos ((k:Int)+1) (show (0:Int)<la.length by omega)
  refine aq 21 [.nw,.ix ((((k:Int)+1) % (la.length:Int)).toNat),.rorow 4 ((((k:Int)+1) % (la.length:Int)).toNat) 0,.rorow 4 ((((k:Int)+1) % (la.length:Int)).toNat) 1,.own 0,.own 0,.own 0,.own 1,.own 1,.own 0] [((0+((((k:Int)+1) % (la.length:Int)).toNat)*2)+1)=((((k:Int)+1) % (la.length:Int)).toNat)*2+1 /\ ((((k:Int)+1) % (la.length:Int)).toNat)<ca,(0+((((k:Int)+1) % (la.length:Int)).toNat)*2)=((((k:Int)+1) % (la.length:Int)).toNat)*2+0 /\ ((((k:Int)+1) % (la.length:Int)).toNat)<ca,((k:Int)+1) % (la.length:Int)=(((((k:Int)+1) % (la.length:Int)).toNat:Nat):Int) /\ (((k:Int)+1) % (la.length:Int)).toNat<la.length,0 <= (k:Int)+1 /\ (0:Int)<(la.length:Int) /\ (k:Int)+1 <= 9223372036854775807] λ n5=>al (hZ (⟨i64.wrap (((la.getD ((((k:Int)+1) % (la.length:Int)).toNat) ⟨0,0⟩).y)-((la.getD k ⟨0,0⟩).y)),i64.wrap (((la.getD k ⟨0,0⟩).x)-((la.getD ((((k:Int)+1) % (la.length:Int)).toNat) ⟨0,0⟩).x))⟩:V2)  _)<|RN.yield 0 (hY k (og la k) _ _ (DM (by show k<la.length;omega)) Qb) ?_
  rintro b_ T6 (⟨rfl,Tf⟩|⟨rfl,Tf⟩)
  ·refine aq 11 [.gen,.nw] [bF ((k:Int)+1)] λ _=>?_
   refine QF (k+1,T6) [] [0] ?_
   try dsimp only
   exact⟨⟨by omega,Tf⟩,by omega⟩
  ·refine aa 4 [] λ _=>RN.ret [] [] [0] (v:=.tuple #[]) (H':=(ap [] [T6])) ?_
   rw[dS]
   exact .inr Tf
 ·have ek0:k=la.length:=by omega
  subst ek0
  refine aa 37 [] λ _=>RN.rounds 1<|aa 34 [.ro 0,.ro 0] λ _=>al (g9 ra (some ⟨ba,0,none⟩) la.length ca _)<|aa 1 [] λ _=>dR 54 (decide_eq_false (show ¬ ((la.length:Int)=0) by omega))<|aa 10 [.ro 0,.ro 0] λ _=>al (g9 ra (some ⟨ba,0,none⟩) la.length ca _)<|aa 3 [] λ _=>dR 64 (decide_eq_false (show ¬ ((la.length:Int)=0) by omega))<|aa 4 [.ro 1,.ro 1] λ _=>al (g9 rb Ab 0 cb _)<|aa 9 [.ro 2,.ro 2,.ro 0,.ro 0,.ro 3,.ro 3] λ _=>?_
  refine al (oh pb ra la ba ca pa _ (List.mem_append_right _ (List.mem_append_right X YT)) YX h4a h5a)<|al (hZ (iZ pb (⟨ra,la,some ⟨ba,0,none⟩,ca⟩:Shp) pa)  _)<|RN.yield 0 (hY la.length (gG (iZ pb (⟨ra,la,some ⟨ba,0,none⟩,ca⟩:Shp) pa)) _ _ (xC Pv) Qb) ?_
  rintro b_ T8 (⟨rfl,Td⟩|⟨rfl,Td⟩)
  ·refine aa 2 [] λ _=>RN.ret [] [] [0] (v:=.tuple #[]) (H':=(ap [] [T8])) ?_
   rw[dS]
   exact .inl (by rw[hlen];exact Td)
  ·refine aa 2 [] λ _=>RN.ret [] [] [0] (v:=.tuple #[]) (H':=(ap [] [T8])) ?_
   rw[dS]
   exact .inr Td
theorem HU(pa pb:V2)(ra rb:Int)(ca cb:Nat)(la:List V2)(ba:Nat)(lb:List V2)(bb:Nat)(q1 q2 q3 q4 lp:Nat)(X F:HL)(J:Nat -> HL -> Prop)(Jx:HL -> Prop)(T0:HL)(Rc:(q1,.lit [vI ra,vS ba 0 la.length ca] 71 (0,0))∈F)(PA:(q2,.lit [vI rb,vS bb 0 lb.length cb] 71 (0,0))∈F)(RI:(q3,.lit [vI pb.x,vI pb.y] 29 (0,0))∈F)(Rp:(q4,.lit [vI pa.x,vI pa.y] 29 (0,0))∈F)(YT:(ba,.rows 2 ca (jh la) 29 (0,0))∈F)(YX:3 <= la.length)(h4a:la.length <= ca)(h5a:la.length <= 1000000)(YS:(bb,.rows 2 cb (jh lb) 29 (0,0))∈F)(YW:3 <= lb.length)(h4b:lb.length <= cb)(h5b:lb.length <= 1000000)(hY:∀i x H Y,(aO (⟨ra,la,some ⟨ba,0,none⟩,ca⟩:Shp) pa (⟨rb,lb,some ⟨bb,0,none⟩,cb⟩:Shp) pb)[i]?=some x -> J i H -> YL Tryz.prog lp (DP x) H (Y++(X++F)) (λ b H'=>(b=true /\ J (i+1) H') \/ (b=false /\ Jx H')))(RM:J 0 T0):Sp Tryz.prog 203 #[.func (.yield lp) #[] #[],vP q1 0,vP q2 0,vP q3 0,vP q4 0] (ap [] [T0]) (X++F) (λ _ H'=>J (aO (⟨ra,la,some ⟨ba,0,none⟩,ca⟩:Shp) pa (⟨rb,lb,some ⟨bb,0,none⟩,cb⟩:Shp) pb).length H' \/ Jx H'):=by
 have V1:¬ gZ (⟨ra,la,some ⟨ba,0,none⟩,ca⟩:Shp):=by intro e;simp[gZ] at e;subst e;simp at YX
 have V0:¬ gZ (⟨rb,lb,some ⟨bb,0,none⟩,cb⟩:Shp):=by intro e;simp[gZ] at e;subst e;simp at YW
 have Pv:kD (⟨ra,la,some ⟨ba,0,none⟩,ca⟩:Shp) pa (⟨rb,lb,some ⟨bb,0,none⟩,cb⟩:Shp) pb=[]:=by simp only[kD,if_neg V1,if_neg V0]
 have hlen:(aO (⟨ra,la,some ⟨ba,0,none⟩,ca⟩:Shp) pa (⟨rb,lb,some ⟨bb,0,none⟩,cb⟩:Shp) pb).length=la.length+lb.length+0:=mP (by rw[Pv];rfl)
 refine Sp.run Tryz.func203 rfl (mc (List.mem_append_right X Rc) (mc (List.mem_append_right X PA) (mc (List.mem_append_right X RI) (mc (List.mem_append_right X Rp) (mc (List.mem_append_right X YT) (mc (List.mem_append_right X YS) mn)))))) (A:=[]) (Ts:=[T0]) rfl λ w0=>?_
 refine aa 12 [.ro 0,.ro 1] λ _=>RN.rounds 2<|aa 25 [] λ _=>RN.loop (σ:=Nat × HL) (λ ⟨k,T_⟩=>⟨[(0,.func (.yield lp) #[] #[]),(1,vP q1 0),(2,vP q2 0),(3,vP q3 0),(4,vP q4 0),(7,vS ba 0 la.length ca),(15,.agg #[vS ba 0 la.length ca,vS bb 0 lb.length cb]),(16,vI 0),(19,vS ba 0 la.length ca),(20,vI (la.length:Int)),(21,vI (k:Int))],[],[T_],k <= la.length /\ J (k) T_,la.length-k⟩) (0,T0) [] [0] (⟨Nat.zero_le _,RM⟩) ?_
 rintro⟨k,T_⟩ ⟨Xy,Qb⟩ QF
 skip
 refine aa 6 [] λ _=>RN.em ((k:Int)<(la.length:Int)) 22 (λ h3=>?_) λ h3=>?_
 ·refine aq 22 [.ix k,.rorow 4 k 0,.rorow 4 k 1,.own 0,.own 0,.nw] [bF ((k:Int)+1),((0+k*2)+1)=k*2+1 /\ k<ca,(0+k*2)=k*2+0 /\ k<ca,(k:Int)=((k:Nat):Int) /\ k<la.length] λ n4=>?_
  have YJ:=Int.emod_nonneg ((k:Int)+1) (show (la.length:Int)≠0 by omega)
  have YI:=Int.emod_lt_of_pos ((k:Int)+1) (show (0:Int)<la.length by omega)
  refine aq 21 [.nw,.ix ((((k:Int)+1) % (la.length:Int)).toNat),.rorow 4 ((((k:Int)+1) % (la.length:Int)).toNat) 0,.rorow 4 ((((k:Int)+1) % (la.length:Int)).toNat) 1,.own 0,.own 0,.own 0,.own 1,.own 1,.own 0] [((0+((((k:Int)+1) % (la.length:Int)).toNat)*2)+1)=((((k:Int)+1) % (la.length:Int)).toNat)*2+1 /\ ((((k:Int)+1) % (la.length:Int)).toNat)<ca,(0+((((k:Int)+1) % (la.length:Int)).toNat)*2)=((((k:Int)+1) % (la.length:Int)).toNat)*2+0 /\ ((((k:Int)+1) % (la.length:Int)).toNat)<ca,((k:Int)+1) % (la.length:Int)=(((((k:Int)+1) % (la.length:Int)).toNat:Nat):Int) /\ (((k:Int)+1) % (la.length:Int)).toNat<la.length,0 <= (k:Int)+1 /\ (0:Int)<(la.length:Int) /\ (k:Int)+1 <= 9223372036854775807] λ n5=>al (hZ (⟨i64.wrap (((la.getD ((((k:Int)+1) % (la.length:Int)).toNat) ⟨0,0⟩).y)-((la.getD k ⟨0,0⟩).y)),i64.wrap (((la.getD k ⟨0,0⟩).x)-((la.getD ((((k:Int)+1) % (la.length:Int)).toNat) ⟨0,0⟩).x))⟩:V2)  _)<|RN.yield 0 (hY k (og la k) _ _ (DM (by show k<la.length;omega)) Qb) ?_
  rintro b_ T6 (⟨rfl,Tf⟩|⟨rfl,Tf⟩)
  ·refine aq 11 [.gen,.nw] [bF ((k:Int)+1)] λ _=>?_
   refine QF (k+1,T6) [] [0] ?_
   try dsimp only
   exact⟨⟨by omega,Tf⟩,by omega⟩
  ·refine aa 4 [] λ _=>RN.ret [] [] [0] (v:=.tuple #[]) (H':=(ap [] [T6])) ?_
   rw[dS]
   exact .inr Tf
 ·have ek0:k=la.length:=by omega
  subst ek0
  refine aa 37 [] λ _=>RN.loop (σ:=Nat × HL) (λ ⟨k,T_⟩=>⟨[(0,.func (.yield lp) #[] #[]),(1,vP q1 0),(2,vP q2 0),(3,vP q3 0),(4,vP q4 0),(7,vS bb 0 lb.length cb),(15,.agg #[vS ba 0 la.length ca,vS bb 0 lb.length cb]),(16,vI 1),(19,vS bb 0 lb.length cb),(20,vI (lb.length:Int)),(21,vI (k:Int))],[],[T_],k <= lb.length /\ J (la.length+k) T_,lb.length-k⟩) (0,T_) [] [0] (⟨Nat.zero_le _,Qb⟩) ?_
  rintro⟨k,T_⟩ ⟨Xy,Qb⟩ Yw
  skip
  refine aa 6 [] λ _=>RN.em ((k:Int)<(lb.length:Int)) 22 (λ Qe=>?_) λ Qe=>?_
  ·refine aq 22 [.ix k,.rorow 5 k 0,.rorow 5 k 1,.own 0,.own 0,.nw] [bF ((k:Int)+1),((0+k*2)+1)=k*2+1 /\ k<cb,(0+k*2)=k*2+0 /\ k<cb,(k:Int)=((k:Nat):Int) /\ k<lb.length] λ n11=>?_
   have YJ:=Int.emod_nonneg ((k:Int)+1) (show (lb.length:Int)≠0 by omega)
   have YI:=Int.emod_lt_of_pos ((k:Int)+1) (show (0:Int)<lb.length by omega)
   refine aq 21 [.nw,.ix ((((k:Int)+1) % (lb.length:Int)).toNat),.rorow 5 ((((k:Int)+1) % (lb.length:Int)).toNat) 0,.rorow 5 ((((k:Int)+1) % (lb.length:Int)).toNat) 1,.own 0,.own 0,.own 0,.own 1,.own 1,.own 0] [((0+((((k:Int)+1) % (lb.length:Int)).toNat)*2)+1)=((((k:Int)+1) % (lb.length:Int)).toNat)*2+1 /\ ((((k:Int)+1) % (lb.length:Int)).toNat)<cb,(0+((((k:Int)+1) % (lb.length:Int)).toNat)*2)=((((k:Int)+1) % (lb.length:Int)).toNat)*2+0 /\ ((((k:Int)+1) % (lb.length:Int)).toNat)<cb,((k:Int)+1) % (lb.length:Int)=(((((k:Int)+1) % (lb.length:Int)).toNat:Nat):Int) /\ (((k:Int)+1) % (lb.length:Int)).toNat<lb.length,0 <= (k:Int)+1 /\ (0:Int)<(lb.length:Int) /\ (k:Int)+1 <= 9223372036854775807] λ TF=>al (hZ (⟨i64.wrap (((lb.getD ((((k:Int)+1) % (lb.length:Int)).toNat) ⟨0,0⟩).y)-((lb.getD k ⟨0,0⟩).y)),i64.wrap (((lb.getD k ⟨0,0⟩).x)-((lb.getD ((((k:Int)+1) % (lb.length:Int)).toNat) ⟨0,0⟩).x))⟩:V2)  _)<|RN.yield 0 (hY (la.length+k) (og lb k) _ _ (DN (a:=(⟨ra,la,some ⟨ba,0,none⟩,ca⟩:Shp)) (by show k<lb.length;omega)) Qb) ?_
   rintro b_ Sl (⟨rfl,Wg⟩|⟨rfl,Wg⟩)
   ·refine aq 11 [.gen,.nw] [bF ((k:Int)+1)] λ _=>?_
    refine Yw (k+1,Sl) [] [0] ?_
    try dsimp only
    exact⟨⟨by omega,Wg⟩,by omega⟩
   ·refine aa 4 [] λ _=>RN.ret [] [] [0] (v:=.tuple #[]) (H':=(ap [] [Sl])) ?_
    rw[dS]
    exact .inr Wg
  ·have ek1:k=lb.length:=by omega
   subst ek1
   refine aa 28 [.ro 0,.ro 0] λ _=>al (g9 ra (some ⟨ba,0,none⟩) la.length ca _)<|aa 1 [] λ _=>dR 54 (decide_eq_false (show ¬ ((la.length:Int)=0) by omega))<|aa 10 [.ro 0,.ro 0] λ _=>al (g9 ra (some ⟨ba,0,none⟩) la.length ca _)<|aa 3 [] λ _=>dR 64 (decide_eq_false (show ¬ ((la.length:Int)=0) by omega))<|aa 4 [.ro 1,.ro 1] λ _=>al (g9 rb (some ⟨bb,0,none⟩) lb.length cb _)<|aa 3 [] λ _=>dR 74 (decide_eq_false (show ¬ ((lb.length:Int)=0) by omega))<|aa 3 [] λ _=>?_
   refine RN.ret [] [] [0] (v:=.tuple #[]) (H':=(ap [] [T_])) ?_
   rw[dS]
   exact .inl (by rw[hlen];exact Qb)
end Go.Proofs.YthoijjeddhfcnaaGreatDoor
