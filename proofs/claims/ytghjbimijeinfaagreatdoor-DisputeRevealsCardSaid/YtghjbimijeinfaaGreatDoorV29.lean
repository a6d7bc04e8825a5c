import Derived.Test.YtghjbimijeinfaaGreatDoorV28
set_option maxHeartbeats 4000000
set_option maxRecDepth 100000
set_option linter.all false
namespace Go.Proofs.YtghjbimijeinfaaGreatDoor
open IntKind
open Go.RowKit Go.Shelf
def eZ(k:Nat):Nat:=if k % 2=0 then k+1 else k-1
def rh(k:Nat)(a b:Int):Int:=if k % 2=0 then nB a b else nB b a
def kI(xs:List Int)(l k:Nat):Int:=rC xs (kO xs.length) (2 ^ (aA xs.length-l)+k)
theorem vY(xs:List Int):kI xs (aA xs.length) 0=gx xs:=by
 unfold kI;rw[Nat.sub_self];rfl
theorem vZ{xs:List Int}(hl:xs.length <= 1000000){j:Nat}(hj:j<xs.length):kI xs 0 j=aI (j:Int) (xs.getD j 0):=by
 unfold kI;have h:=jl hl;rw[Nat.sub_zero,show 2 ^ aA xs.length=kO xs.length from rfl,zW xs _ h.2.1 (by omega),if_pos hj]
theorem DI{xs:List Int}(hl:xs.length <= 1000000){l k:Nat}(h:l<aA xs.length)(hk:k<2 ^ (aA xs.length-l)):kI xs (l+1) (k / 2)=rh k (kI xs l k) (kI xs l (eZ k)):=by
 unfold kI;have e:2 ^ (aA xs.length-l)=2*2 ^ (aA xs.length-(l+1)):=by rw[show aA xs.length-l=(aA xs.length-(l+1))+1 by omega,Nat.pow_succ,Nat.mul_comm]
 have h3:0<2 ^ (aA xs.length-(l+1)):=Nat.two_pow_pos _;have h4:2 ^ (aA xs.length-l) <= kO xs.length:=Nat.pow_le_pow_right (by omega) (by omega);rw[zX xs _ (k:=2 ^ (aA xs.length-(l+1))+k / 2) (by omega) (by omega)];unfold rh eZ
 by_cases hp:k % 2=0
 ·rw[if_pos hp,if_pos hp,show 2*(2 ^ (aA xs.length-(l+1))+k / 2)=2 ^ (aA xs.length-l)+k by omega];rfl
 ·rw[if_neg hp,if_neg hp,show 2*(2 ^ (aA xs.length-(l+1))+k / 2)=2 ^ (aA xs.length-l)+(k-1) by omega,show 2 ^ (aA xs.length-l)+(k-1)+1=2 ^ (aA xs.length-l)+k by omega]
theorem JP{xs:List Int}(hl:xs.length <= 1000000){l k:Nat}(h:l <= aA xs.length)(hk:k<2 ^ (aA xs.length-l)):kI xs l k=lG xs l (k*2 ^ l):=by
 have:=jl hl;exact qr xs (aA xs.length) this.2.1 l (aA xs.length-l) k (by omega) hk
theorem qt(xs:List Int)(i:Nat)(v:Int):∀j f,i<f \/ f+2 ^ j <= i -> lG (xs.set i v) j f=lG xs j f
 | 0,f,h=>by
  have hi:i≠f:=by rw[Nat.pow_zero] at h;omega
  rw[lG,lG,List.length_set]
  by_cases hf:f<xs.length
  ·rw[if_pos hf,if_pos hf,aaK,aaK,List.getElem?_set_ne hi]
  ·rw[if_neg hf,if_neg hf]
 | j+1,f,h=>by
  have h3:0<2 ^ j:=Nat.two_pow_pos _;rw[Nat.pow_succ] at h;rw[lG,lG,qt xs i v j f (by omega),qt xs i v j (f+2 ^ j) (by omega)]
theorem z7{xs:List Int}(hl:xs.length <= 1000000){l k i:Nat}(v:Int)(h:l <= aA xs.length)(hk:k<2 ^ (aA xs.length-l))(hi:k≠i / 2 ^ l):kI (xs.set i v) l k=kI xs l k:=by
 have h3:0<2 ^ l:=Nat.two_pow_pos _;rw[JP hl h hk,JP (xs:=xs.set i v) (by rw[List.length_set];exact hl) (by rw[List.length_set];exact h) (by rw[List.length_set];exact hk),qt];rcases Nat.lt_or_gt_of_ne hi with h4|h4
 ·right;have:=(Nat.le_div_iff_mul_le h3).1 (show k+1 <= i / 2 ^ l by omega);rw[Nat.add_mul,Nat.one_mul] at this;exact this
 ·left;have:=(Nat.div_lt_iff_lt_mul h3).1 (show i / 2 ^ l<k by omega);exact this
theorem pv(i l:Nat):i / 2 ^ (l+1)=i / 2 ^ l / 2:=by rw[Nat.pow_succ,Nat.div_div_eq_div_mul]
theorem mP{xs:List Int}(hl:xs.length <= 1000000){i l:Nat}(hi:i<xs.length)(h:l <= aA xs.length):i / 2 ^ l<2 ^ (aA xs.length-l):=by
 have h1:=(jl hl).2.1;rw[Nat.div_lt_iff_lt_mul (Nat.two_pow_pos _),<- Nat.pow_add,show aA xs.length-l+l=aA xs.length by omega];unfold kO at h1;omega
theorem B9{k d:Nat}(hd:0<d)(h:k<2 ^ d):eZ k<2 ^ d:=by
 have e:2 ^ d=2*2 ^ (d-1):=by rw[show d=(d-1)+1 by omega,Nat.pow_succ,Nat.mul_comm,Nat.add_sub_cancel]
 unfold eZ;split <;> omega
theorem JQ(k:Nat):eZ k≠k:=by
 unfold eZ;split <;> omega
theorem PC(k:Nat):eZ k <= k+1:=by
 unfold eZ;split <;> omega
def cV(xs:List Int)(lf:Nat):List Int:=(List.range (aA xs.length)).map λ l=>kI xs l (eZ (lf / 2 ^ l))
theorem fD(xs:List Int)(lf:Nat):(cV xs lf).length=aA xs.length:=by simp[cV]
theorem ou(xs:List Int)(lf:Nat){l:Nat}(h:l<aA xs.length):(cV xs lf).getD l 0=kI xs l (eZ (lf / 2 ^ l)):=by
 simp[cV,aaK,h]
theorem z8(xs:List Int)(lf:Nat){l:Nat}(h:l<aA xs.length):(cV xs lf).take (l+1)=(cV xs lf).take l++[kI xs l (eZ (lf / 2 ^ l))]:=by
 rw[List.take_add_one];congr 1;rw[aa3 (by rw[fD];exact h)];have:=ou xs lf h;rw[aaK,aa3 (by rw[fD];exact h)] at this;simpa using this
def lq(lf:Nat)(a:Int)(pl:List Int):Nat -> Int
 | 0=>a
 | l+1=>rh (lf / 2 ^ l) (lq lf a pl l) (pl.getD l 0)
theorem tL{xs:List Int}(hl:xs.length <= 1000000){lf:Nat}(h0:lf<xs.length):∀l,l <= aA xs.length -> lq lf (aI (lf:Int) (xs.getD lf 0)) (cV xs lf) l=kI xs l (lf / 2 ^ l)
 | 0,_=>by rw[lq,Nat.pow_zero,Nat.div_one,vZ hl h0]
 | l+1,h=>by
  rw[lq,tL hl h0 l (by omega),ou xs lf (by omega),pv,DI hl (by omega) (mP hl h0 (by omega))]
theorem Ac{xs:List Int}(hl:xs.length <= 1000000){i:Nat}(hi:i<xs.length):i / 2 ^ aA xs.length=0:=by
 have:=mP hl hi (aaS _);rw[Nat.sub_self,Nat.pow_zero] at this;exact Nat.lt_one_iff.1 this
theorem FX{xs:List Int}(hl:xs.length <= 1000000){lf:Nat}(h0:lf<xs.length):lq lf (aI (lf:Int) (xs.getD lf 0)) (cV xs lf) (aA xs.length)=gx xs:=by
 rw[tL hl h0 _ (aaS _),Ac hl h0,vY]
section
variable {α:Type} [DecidableEq α]
def ga:List (α × Int × Nat) -> α -> Option Int
 | [],_=>none
 | x::l,k=>if k=x.1 then some x.2.1 else ga l k
def fh:List (α × Int × Nat) -> Nat -> α -> Int -> List (α × Int × Nat)
 | [],c,k,a=>[(k,a,c)]
 | x::l,c,k,a=>if k=x.1 then (k,a,x.2.2)::l else x::fh l c k a
def eE(us:List (α × Int × Nat))(c:Nat)(k:α):Nat:=if (ga us k).isSome then c else c+1
theorem pw(c:Nat)(k k':α)(a:Int):∀us:List (α × Int × Nat),ga (fh us c k a) k'=if k'=k then some a else ga us k'
 | []=>by
  rw[fh,ga];rfl
 | x::l=>by
  rw[fh]
  by_cases h:k=x.1
  ·rw[if_pos h,ga,ga]
   by_cases h2:k'=k
   ·rw[if_pos h2,if_pos h2]
   ·rw[if_neg h2,if_neg h2,if_neg (by rw[<- h];exact h2)]
  ·rw[if_neg h,ga,ga,pw c k k' a l]
   by_cases h2:k'=x.1
   ·rw[if_pos h2,if_pos h2,if_neg (by rw[h2];exact λ e=>h e.symm)]
   ·rw[if_neg h2,if_neg h2]
end
def uV(us:List ((Int × Int) × Int × Nat)):List ((Int × Int) × Value × Nat):=us.map λ x=>(x.1,.int .u64 x.2.1,x.2.2)
def iV(us:List (Int × Int × Nat)):List (Int × Value × Nat):=us.map λ x=>(x.1,vI x.2.1,x.2.2)
def lM(us:List ((Int × Int) × Int × Nat))(k:Int × Int):Int:=(ga us k).getD 0
theorem jm(us:List ((Int × Int) × Int × Nat))(c:Nat)(k k':Int × Int)(a:Int):lM (fh us c k a) k'=if k'=k then a else lM us k':=by
 unfold lM;rw[pw];split <;> rfl
theorem qu(k:Int × Int):∀ (kv:List ((Int × Int) × Value × Nat)) (i:Nat),ln kv k (i+1)=(ln kv k i).map λ x=>(x.1+1,x.2)
 | [],_=>rfl
 | x::l,i=>by
  rw[ln,ln];split
  ·rfl
  ·exact qu k l (i+1)
theorem qx(k:Int):∀ (kv:List (Int × Value × Nat)) (i:Nat),lj kv k (i+1)=(lj kv k i).map λ x=>(x.1+1,x.2)
 | [],_=>rfl
 | x::l,i=>by
  rw[lj,lj];split
  ·rfl
  ·exact qx k l (i+1)
theorem Ad(a b:Int × Int):((a.1 == b.1 && a.2 == b.2)=true)=(a=b):=by
 rw[abe,beq_iff_eq,beq_iff_eq];exact propext ⟨λ h=>Prod.ext h.1 h.2,λ h=>by rw[h];exact⟨rfl,rfl⟩⟩
theorem Ca(k:Int × Int):∀us:List ((Int × Int) × Int × Nat),B8 (uV us) k=(ga us k).map (.int .u64 ·)
 | []=>rfl
 | x::l=>by
  have ih:=Ca k l;unfold B8 at ih ⊢;rw[show uV (x::l)=(x.1,.int .u64 x.2.1,x.2.2)::uV l from rfl,ln,ga];simp only[Ad]
  by_cases h:k=x.1
  ·rw[if_pos h,if_pos h];rfl
  ·rw[if_neg h,if_neg h,qu,Option.map_map,<- ih];rfl
theorem Cb(k:Int):∀us:List (Int × Int × Nat),B7 (iV us) k=(ga us k).map (vI ·)
 | []=>rfl
 | x::l=>by
  have ih:=Cb k l;unfold B7 at ih ⊢;rw[show iV (x::l)=(x.1,vI x.2.1,x.2.2)::iV l from rfl,lj,ga];simp only[beq_iff_eq]
  by_cases h:k=x.1
  ·rw[if_pos h,if_pos h];rfl
  ·rw[if_neg h,if_neg h,qx,Option.map_map,<- ih];rfl
theorem JR(c:Nat)(k:Int × Int)(a:Int):∀us:List ((Int × Int) × Int × Nat),mj (uV us) c k (.int .u64 a)=uV (fh us c k a)
 | []=>rfl
 | x::l=>by
  have ih:=JR c k a l;unfold mj at ih ⊢;rw[show uV (x::l)=(x.1,.int .u64 x.2.1,x.2.2)::uV l from rfl,ln,fh];simp only[Ad]
  by_cases h:k=x.1
  ·rw[if_pos h,if_pos h];rfl
  ·rw[if_neg h,if_neg h,qu];cases hp:ln (uV l) k 0 with
   | none =>
    rw[hp] at ih;simp only[Option.map_none] at ih ⊢;rw[List.cons_append,ih];rfl
   | some y =>
    rw[hp] at ih;simp only[Option.map_some] at ih ⊢;rw[List.modify_succ_cons,ih];rfl
theorem JS(c:Nat)(k a:Int):∀us:List (Int × Int × Nat),mi (iV us) c k (vI a)=iV (fh us c k a)
 | []=>rfl
 | x::l=>by
  have ih:=JS c k a l;unfold mi at ih ⊢;rw[show iV (x::l)=(x.1,vI x.2.1,x.2.2)::iV l from rfl,lj,fh];simp only[beq_iff_eq]
  by_cases h:k=x.1
  ·rw[if_pos h,if_pos h];rfl
  ·rw[if_neg h,if_neg h,qx];cases hp:lj (iV l) k 0 with
   | none =>
    rw[hp] at ih;simp only[Option.map_none] at ih ⊢;rw[List.cons_append,ih];rfl
   | some y =>
    rw[hp] at ih;simp only[Option.map_some] at ih ⊢;rw[List.modify_succ_cons,ih];rfl
theorem Mx(c:Nat)(k:Int × Int)(us:List ((Int × Int) × Int × Nat)):hO (uV us) c k=eE us c k:=by
 have:=Ca k us;unfold B8 at this;unfold hO eE;cases hp:ln (uV us) k 0 with
 | none=>rw[hp] at this;cases ha:ga us k with
  | none=>rfl
  | some x=>rw[ha] at this;cases this
 | some y=>rw[hp] at this;cases ha:ga us k with
  | none=>rw[ha] at this;cases this
  | some x=>rfl
theorem My(c:Nat)(k:Int)(us:List (Int × Int × Nat)):g9 (iV us) c k=eE us c k:=by
 have:=Cb k us;unfold B7 at this;unfold g9 eE;cases hp:lj (iV us) k 0 with
 | none=>rw[hp] at this;cases ha:ga us k with
  | none=>rfl
  | some x=>rw[ha] at this;cases this
 | some y=>rw[hp] at this;cases ha:ga us k with
  | none=>rw[ha] at this;cases this
  | some x=>rfl
theorem Rk(us:List ((Int × Int) × Int × Nat))(k:Int × Int):P1 (uV us) k false (.int .u64 0)=.int .u64 (lM us k):=by
 unfold P1 lM;rw[Ca,if_neg (by decide)];cases ga us k <;> rfl
theorem NP(us:List (Int × Int × Nat))(k:Int):KE (iV us) k true (vI 0)=.tuple #[vI ((ga us k).getD 0),.bool (ga us k).isSome]:=by
 unfold KE;rw[Cb,if_pos rfl];cases ga us k <;> rfl
abbrev fY(us:List ((Int × Int) × Int × Nat))(c:Nat):Obj:=kG (uV us) c
abbrev iO(us:List (Int × Int × Nat))(c:Nat):Obj:=jY (iV us) c
theorem Ae(us:List ((Int × Int) × Int × Nat))(c:Nat)(k:Int × Int)(a:Int):kG (mj (uV us) c k (.int .u64 a)) (hO (uV us) c k)=fY (fh us c k a) (eE us c k):=by
 rw[JR,Mx]
theorem Af(us:List (Int × Int × Nat))(c:Nat)(k a:Int):jY (mi (iV us) c k (vI a)) (g9 (iV us) c k)=iO (fh us c k a) (eE us c k):=by
 rw[JS,My]
section
variable {r:Option Nat} {P:Program} {N:Nat} {D:List Deferred} {F:HL} {w0:World} {R:HL} {s:Cfg} {Q:Exit -> Act -> World -> Prop} {hards:List Nat} {Rd:HL}
theorem pz{i:Nat}(p:Nat){us:List ((Int × Int) × Int × Nat)}{cl:Nat}(k:Int × Int){a:Int}(hk:RD r P N D F w0 R hards [] (Gs p (fY (fh us cl k a) (eE us cl k)) (rL N i undef s)) Q)
  (h:m6 P N p (cX i s) s=some (.agg #[vI k.1,vI k.2],.int .u64 a,ur (m6 P N p (cX i s) s),ur (m6 P N p (cX i s) s),fY us cl):=by kernel_rfl) (hx:hards.contains i=true:=by kernel_rfl):RDO r P N D F w0 R hards [] i s Q :=
 Mw p (kv:=uV us) (cl:=cl) k (v:=.int .u64 a) (by rw[Ae];exact hk) h hx
theorem JT{i:Nat}(p:Nat){us:List (Int × Int × Nat)}{cl:Nat}{k a:Int}(hk:RD r P N D F w0 R hards [] (Gs p (iO (fh us cl k a) (eE us cl k)) (rL N i undef s)) Q)
  (h:m5 P N p (cX i s) s=some (k,vI a,uq (m5 P N p (cX i s) s),uq (m5 P N p (cX i s) s),iO us cl):=by kernel_rfl) (hx:hards.contains i=true:=by kernel_rfl):RDO r P N D F w0 R hards [] i s Q :=
 Mq p (kv:=iV us) (cl:=cl) (k:=k) (v:=vI a) (by rw[Af];exact hk) h hx
theorem DJ{i:Nat}(p:Nat){us:List ((Int × Int) × Int × Nat)}{cl:Nat}(k:Int × Int)(hk:RD r P N D F w0 R hards Rd (rL N i (.int .u64 (lM us k)) s) Q)
  (h:rD P N p (cX i s) s=some (.agg #[vI k.1,vI k.2],false,.int .u64 0,Ms (rD P N p (cX i s) s),Ms (rD P N p (cX i s) s),fY us cl):=by kernel_rfl) (hx:hards.contains i=false:=by kernel_rfl):RDO r P N D F w0 R hards Rd i s Q:=by
 have hz:Mt (rD P N p (cX i s) s)=.int .u64 0:=by rw[h];rfl
 exact Mv p (kv:=uV us) (cl:=cl) k (ok:=false) (by rw[hz];exact Rk us k) hk (by rw[hz];exact h) hx
theorem Ag{i:Nat}(p:Nat){us:List (Int × Int × Nat)}{cl:Nat}{k:Int}{v:Value}(ev:Value.tuple #[vI ((ga us k).getD 0),.bool (ga us k).isSome]=v)(hk:RD r P N D F w0 R hards Rd (rL N i v s) Q)
  (h:pq P N p (cX i s) s=some (k,true,vI 0,zZ (pq P N p (cX i s) s),zZ (pq P N p (cX i s) s),iO us cl):=by kernel_rfl) (hx:hards.contains i=false:=by kernel_rfl):RDO r P N D F w0 R hards Rd i s Q :=
 Mu p (kv:=iV us) (cl:=cl) ((NP us k).trans ev) hk h hx
theorem Mz(p:Nat){us:List ((Int × Int) × Int × Nat)}{cl:Nat}(k:Int × Int){a:Int}(hk:RN r P N D F w0 R (Gs p (fY (fh us cl k a) (eE us cl k)) (eH N undef s)) Q)
  (h:m6 P N p (fN s) s=some (.agg #[vI k.1,vI k.2],.int .u64 a,ur (m6 P N p (fN s) s),ur (m6 P N p (fN s) s),fY us cl):=by kernel_rfl):RN r P N D F w0 R s Q :=
 PA p (kv:=uV us) (cl:=cl) k (v:=.int .u64 a) (by rw[Ae];exact hk) h
theorem MA(p:Nat){us:List (Int × Int × Nat)}{cl:Nat}{k a:Int}(hk:RN r P N D F w0 R (Gs p (iO (fh us cl k a) (eE us cl k)) (eH N undef s)) Q)
  (h:m5 P N p (fN s) s=some (k,vI a,uq (m5 P N p (fN s) s),uq (m5 P N p (fN s) s),iO us cl):=by kernel_rfl):RN r P N D F w0 R s Q :=
 Pz p (kv:=iV us) (cl:=cl) (k:=k) (v:=vI a) (by rw[Af];exact hk) h
theorem MB(p:Nat){us:List (Int × Int × Nat)}{cl:Nat}{k:Int}{v:Value}(ev:Value.tuple #[vI ((ga us k).getD 0),.bool (ga us k).isSome]=v)(hk:RN r P N D F w0 R (eH N v s) Q)
  (h:pq P N p (fN s) s=some (k,true,vI 0,zZ (pq P N p (fN s) s),zZ (pq P N p (fN s) s),iO us cl):=by kernel_rfl):RN r P N D F w0 R s Q :=
 Py p (kv:=iV us) (cl:=cl) ((NP us k).trans ev) hk h
end
def jA:Enc Int:=⟨1,λ p k=>match k with|0=>.int .u64 p|_=>default,0⟩
noncomputable def NQ:TypeInfo:=match Tryz.prog.info? 77 with | some i=>i | none=>⟨.bool,"",0,0,false,0,0,none,false,#[]⟩
noncomputable def NR:Value:=match NQ.zero with|some z=>z|none=>.bool false
theorem PD:EncOk jA Tryz.prog 77 NQ NR where
 info:=by kernel_rfl
 zero:=by kernel_rfl
 size:=by kernel_rfl
 zsize:=by kernel_rfl
 zcell:=λ k hk=>by
  have h:∀k<1,NR.cells[k]?=some (jA.cell jA.dflt k):=by intro k hk;(iterate 1 (rcases k with _|k;· kernel_rfl));omega
  exact h k hk
 one:=λ x k=>by unfold jA;dsimp only;split <;> rfl
 bytes:=aaN (by kernel_rfl)
theorem JU(h:Nat):mU [.int .u64 0]=bu jA (List.replicate h 0):=by
 have e:=oZ (e:=jA) ([]:List Int) h;rw[List.nil_append] at e;rw[show List.replicate h (0:Int)=List.replicate h jA.dflt from rfl,e];funext i k;cases k with
 | zero=>rfl
 | succ k=>simp[mU,bu,jA]
theorem FY{h:Nat}{b:Nat}{T:TypeId}:SlIs jA T [] (some ⟨b,0,none⟩) h [(b,.rows 1 h (bu jA (List.replicate h 0)) T (0,0))]:=.inr ⟨b,0,List.replicate h 0,by simp,by rw[Nat.zero_add];rfl,by simp,aaU _,by simp⟩
abbrev Rl(lf x:Nat):Array Value:=#[.agg #[vI (x:Int),vI ((lf / 2 ^ x:Nat):Int)]]
theorem FZ{h i:Nat}(hi:i<h):(List.range h)[i]?=some i:=by simp[hi]
theorem hZ{h i x:Nat}(e:(List.range h)[i]?=some x):x=i /\ i<h:=by
 obtain⟨h1,h2⟩:=List.getElem?_eq_some_iff.1 e;simp at h1 h2;exact⟨h2.symm,h1⟩
theorem PE{h l s:Nat}(hl:l <= h)(hh:h <= 20)(hs:s=2 ^ (h-l)):i64.wrap (1*2 ^ min ((h:Int)-(l:Int)).toNat 64)=(s:Int):=by
 have e:((h:Int)-(l:Int)).toNat=h-l:=by omega
 have h2:=Nat.pow_le_pow_right (n:=2) (by omega) (show h-l <= 20 by omega);rw[e,Nat.min_eq_left (by omega),IntKind.wrap_i64,Int.one_mul];have e2:(2:Int) ^ (h-l)=(s:Int):=by rw[hs];norm_cast
 rw[e2];omega
theorem Rm(lf:Nat){i:Nat}(hi:i <= 20):(lf:Int).fdiv (2 ^ min (i:Int).toNat 64)=((lf / 2 ^ i:Nat):Int):=by
 rw[Int.toNat_natCast,Nat.min_eq_left (by omega),Int.fdiv_eq_ediv_of_nonneg _ (Int.le_of_lt (Int.pow_pos (by decide)))]
 norm_cast
theorem MC(k:Nat):k ^^^ 1=eZ k:=by
 have h1:(k ^^^ 1) / 2=k / 2:=by rw[Nat.xor_div_two];simp
 have h2:(k ^^^ 1) % 2=(k % 2) ^^^ 1:=by
  have:=@Nat.xor_mod_two_pow k 1 1;simpa using this
 unfold eZ;rcases Nat.mod_two_eq_zero_or_one k with h|h
 ·rw[h] at h2;rw[if_pos h];have:(0 ^^^ 1:Nat)=1:=by decide
  omega
 ·rw[h] at h2;rw[if_neg (by omega)];have:(1 ^^^ 1:Nat)=0:=by decide
  omega
theorem MD{k:Nat}(hk:k <= 4000000):i64.wrap ((BitVec.ofInt 64 (k:Int) ^^^ BitVec.ofInt 64 1).toNat:Int)=((eZ k:Nat):Int):=by
 have h2:=PC k;have e1:(BitVec.ofInt 64 (k:Int)).toNat=k:=by
  rw[BitVec.toNat_ofInt];omega
 have e2:(BitVec.ofInt 64 (1:Int)).toNat=1:=by decide
 rw[BitVec.toNat_xor,e1,e2,MC,IntKind.wrap_i64];omega
theorem F1(h q1 q2 lp lf:Nat)(X F:HL)(J:Nat -> HL -> Prop)(Jx:HL -> Prop)(T0:HL)(hh:h <= 20)(h1:(q1,.lit [vI (h:Int)] 3 (0,0))∈F)(h2:(q2,.lit [vI (lf:Int)] 3 (0,0))∈F)(hY:∀i x H Y,(List.range h)[i]?=some x -> J i H -> YL Tryz.prog lp (Rl lf x) H (Y++(X++F)) (λ b H'=>(b=true /\ J (i+1) H') \/ (b=false /\ Jx H')))(Vi:J 0 T0):Sp Tryz.prog 115 #[.func (.yield lp) #[] #[],vP q1 0,vP q2 0] (ap [] [T0]) (X++F) (λ _ H'=>J (List.range h).length H' \/ Jx H'):=by
 refine aas Tryz.func115 rfl (mc (aau _ h1) (mc (aau _ h2) mn)) (A:=[]) (Ts:=[T0]) rfl λ w0=>?_;refine ae 7 [.ro 0] λ _=>aan (σ:=Nat × HL) (λ ⟨i,T_⟩=>⟨[(0,.func (.yield lp) #[] #[]),(2,vP q2 0),(5,vI (h:Int)),(6,vI (i:Int))],[],[T_],i <= h /\ J i T_,h-i⟩) (0,T0) [] [0] (⟨aaU _,Vi⟩) ?_;rintro⟨i,T_⟩ ⟨Yu,TF⟩ UP;refine ae 6 [] λ _=>aal ((i:Int)<(h:Int)) 7 (λ h3=>?_) λ h3=>?_
 ·refine ai 18 [.ro 1,.dv] [0 <= (i:Int)] λ _=>aS 13 (congrArg (λ v_=>(vI v_:Value)) (Rm lf (i:=i) (by omega)))<|ae 1 [] λ _=>RN.yield 0 (hY i i _ _ (FZ (by omega)) TF) ?_;rintro b_ T4 (⟨rfl,hJ5⟩|⟨rfl,hJ5⟩)
  ·refine ai 11 [.gen,.nw] [bm ((i:Int)+1)] λ _=>aS 6 (congrArg (λ v_=>(vI v_:Value)) (show (i:Int)+1=((i+1:Nat):Int) by omega)) ?_;refine UP (i+1,T4) [] [0] ?_
   try dsimp only
   exact⟨⟨by omega,hJ5⟩,by omega⟩
  ·refine ae 4 [] λ _=>aap [] [] [0] (v:=.tuple #[]) (H':=(ap [] [T4])) ?_;rw[cN];exact .inr hJ5
 ·refine ae 5 [] λ _=>aap [] [] [0] (v:=.tuple #[]) (H':=(ap [] [T_])) ?_;rw[cN];obtain rfl:i=h:=by omega
  exact .inl (by rw[List.length_range];exact TF)
theorem pA(h q1 q2 lf:Nat)(F:HL)(hh:h <= 20)(h1:(q1,.lit [vI (h:Int)] 3 (0,0))∈F)(h2:(q2,.lit [vI (lf:Int)] 3 (0,0))∈F):It Tryz.prog 115 #[vP q1 0,vP q2 0] F (Rl lf) (List.range h):=by
 intro X l J Jx H0 hY h0;have key:=F1 h q1 q2 l lf X F J Jx H0 hh h1 h2 hY h0;rw[cN] at key;exact key
theorem mQ(h lf:Nat)(F:HL):Sp Tryz.prog 72 #[vI (lf:Int),vI (h:Int)] (ap [] []) F (λ u H'=>∃n:Nat,H'=ap [((n+1),.lit [vI (h:Int)] 3 (0,0)),((n+0),.lit [vI (lf:Int)] 3 (0,0))] [] /\ u=.func (.func 115) #[] #[vP (n+1) 0,vP (n+0) 0]):=by
 refine aas Tryz.func72 rfl mn (A:=[]) (Ts:=[]) rfl λ w0=>?_;refine ae 13 [] λ n1=>aap [] [0,1] [] (v:=.func (.func 115) #[] #[vP (n1+1) 0,vP (n1+0) 0]) (H':=(ap [((n1+1),.lit [vI (h:Int)] 3 (0,0)),((n1+0),.lit [vI (lf:Int)] 3 (0,0))] [])) ?_;exact⟨_,rfl,rfl⟩
theorem tM(l:Int)(k:Nat)(F:HL)(hk:k <= 4000000):Sp Tryz.prog 74 #[.agg #[vI l,vI (k:Int)]] [] F (λ u H'=>u=.agg #[vI l,vI ((eZ k:Nat):Int)] /\ H'=[]):=by
 refine aas Tryz.func74 rfl mn (A:=[]) (Ts:=[]) rfl λ w0=>?_;refine ae 17 [.own 1,.own 1,.own 0,.own 0] λ n1=>aap (aab 2) [] [] (v:=.agg #[vI l,vI (i64.wrap ((BitVec.ofInt 64 (k:Int) ^^^ BitVec.ofInt 64 1).toNat:Int))]) (H':=[]) ?_;exact⟨congrArg (λ x=>Value.agg #[vI l,vI x]) (MD hk),rfl⟩
theorem qy(l a b:Int)(k:Nat)(F:HL)(hk:k <= 4000000):Sp Tryz.prog 73 #[.agg #[vI l,vI (k:Int)],.int .u64 a,.int .u64 b] [] F (λ u H'=>u=.int .u64 (rh k a b) /\ H'=[]):=by
 refine aas Tryz.func73 rfl mn (A:=[]) (Ts:=[]) rfl λ w0=>?_;refine ai 15 [.own 0,.nw] [0 <= (k:Int) /\ (0:Int)<2 /\ (k:Int) <= 9223372036854775807] λ n1=>aal ((k:Int) % 2=0) 10 (λ h2=>?_) λ h2=>?_
 ·refine ae 5 [] λ _=>aah (qo a b _)<|ae 3 [] λ _=>aap [] [] [] (v:=.int .u64 (nB a b)) (H':=[]) ?_;exact⟨congrArg (Value.int .u64) (by unfold rh;rw[if_pos (by omega)]),rfl⟩
 ·refine ae 7 [] λ _=>aah (qo b a _)<|ae 3 [] λ _=>aap [] [] [] (v:=.int .u64 (nB b a)) (H':=[]) ?_;exact⟨congrArg (Value.int .u64) (by unfold rh;rw[if_neg (by omega)]),rfl⟩
theorem Cc(t cb nb n c h l s k:Nat)(F:HL)(ht:(t,.lit [vI (h:Int),vS cb 0 n n,vS nb 0 c c] 353 (0,0))∈F)(hl:l <= h)(hh:h <= 20)(hs:s=2 ^ (h-l))(hc:s+k<c)(hc2:c <= 100000000):Sp Tryz.prog 349 #[vP t 0,.agg #[vI (l:Int),vI (k:Int)]] [] F (λ u H'=>u=vP nb ((s+k)*1) /\ H'=[]):=by
 refine aas Tryz.func349 rfl (mc ht mn) (A:=[]) (Ts:=[]) rfl λ w0=>?_;refine ae 7 [] λ n1=>aak [] []<|aF [] [0,4,8,12,1,5,9,13,2,6,3,7,10,11] [.own 0,.own 0,.ro 0,.ro 0,.nw,.dv] [0 <= (h:Int)-(l:Int),bm ((h:Int)-(l:Int))]<|nz 16 (congrArg (λ v_=>(vI v_:Value)) (PE hl hh hs))<|aF [] [14,15,16] [.nw,.ix (s+k)] [(s:Int)+(k:Int)=(((s+k):Nat):Int) /\ (s+k)<c,bm ((s:Int)+(k:Int))]<|aad<|ae 1 [] λ _=>aap [] [] [] (v:=vP nb (0+(s+k)*1)) (H':=[]) ?_;exact⟨congrArg (vP nb) (by omega),rfl⟩
theorem F3(t cb nb n c lf:Nat)(h:Int)(F:HL)(ht:(t,.lit [vI h,vS cb 0 n n,vS nb 0 c c] 353 (0,0))∈F)(h0:lf<n):Sp Tryz.prog 348 #[vP t 0,vI (lf:Int)] [] F (λ u H'=>u=.bool true /\ H'=[]):=by
 refine aas Tryz.func348 rfl (mc ht mn) (A:=[]) (Ts:=[]) rfl λ w0=>?_;refine ae 10 [] λ _=>aal ((lf:Int) >= 0) 7 (λ h1=>?_) λ h1=>?_
 ·refine ae 11 [.ro 0] λ _=>aap [] [] [] (v:=.bool (decide ((lf:Int)<(n:Int)))) (H':=[]) ?_;exact⟨congrArg Value.bool (abA (by omega)),rfl⟩
 ·(exfalso;omega)
theorem Cd(t cb nb lf:Nat)(xs:List Int)(F:HL)(ht:(t,.lit [vI (aA xs.length:Int),vS cb 0 xs.length xs.length,vS nb 0 (2*kO xs.length) (2*kO xs.length)] 353 (0,0))∈F)(YA:(cb,.rows 1 xs.length (aM xs) 3 (0,0))∈F)(W_:(nb,.rows 1 (2*kO xs.length) (iM (nC xs (kO xs.length) (kO xs.length-1))) 77 (0,0))∈F)(h0:lf<xs.length)(hl:xs.length <= 1000000):Sp Tryz.prog 347 #[vP t 0,vI (lf:Int)] (ap [] []) F (λ u H'=>∃x:Option Addr × Nat × HL,H'=ap [] [x.2.2] /\ (u=.agg #[vI (lf:Int),vI (xs.getD lf 0),.slice x.1 (aA xs.length) x.2.1] /\ SlIs jA 77 (cV xs lf) x.1 x.2.1 x.2.2)):=by
 obtain⟨UD,VF,YC,hb4⟩:=jl hl;have agL:∀x:Nat,2 ^ (aA xs.length-x) <= kO xs.length:=λ x=>Nat.pow_le_pow_right (by omega) (by omega);refine Sp.runM Tryz.func347 rfl (mc ht (mc YA (mc W_ mn))) (A:=[]) (Ts:=[]) rfl λ w0=>?_;refine ae 11 [.own 1] λ n1=>aah (F3 t cb nb xs.length (2*kO xs.length) lf (aA xs.length:Int) _ (aq ht) h0)<|ai 25 [.own 1,.ro 0,.mk 0 (aA xs.length),.own 0,.own 3,.ro 0] [0=((0:Nat):Int) /\ (aA xs.length:Int)=((aA xs.length:Nat):Int) /\ 0 <= aA xs.length /\ 8*(aA xs.length) <= 140737488355328 /\ 1=1 /\ aA xs.length <= 9223372036854775807] λ n2=>aai (Hp:=[]) (Tp:=[]) [] [] (mQ (aA xs.length) lf _) ?_;rintro _ m3 rfl;refine ae 3 [] λ _=>ez 3 (congrArg (λ v_=>(.rows 1 (aA xs.length) v_ 77 (0,0):Blk)) (show (mU [.int .u64 0])=(bu jA (List.replicate (aA xs.length) 0)) from (JU _)))<|Jn 3<|RN.range (σ:=Nat × Option Addr × Nat × HL) (τ:=Nat × Option Addr × Nat × HL × Nat) (encs:=λ (x_:Nat)=>#[.agg #[vI (x_:Int),vI ((lf / 2 ^ x_:Nat):Int)]]) (xs:=(List.range (aA xs.length))) (enters_of Tryz.func115 (by kernel_rfl) rfl) (λ ⟨Y1,A_,c_,T_⟩=>([((n2+1),.lit [.slice A_ Y1 c_] 79 (0,0))],[T_])) (λ i_ ⟨Y1,A_,c_,T_⟩=>Y1=i_ /\ SlIs jA 77 ((cV xs lf).take Y1) A_ c_ T_) (λ c_ ⟨Y1,A_,c_,T_⟩=>False) (λ ⟨y_,A_,c_,T_,p_⟩=>⟨[(1,vI (lf:Int)),(2,vP (n1+0) 0),(4,vP (n1+1) 0),(5,vP (n2+1) 0),(6,vP p_ 0)],[((n2+1),.lit [.slice A_ y_ c_] 79 (0,0)),(p_,.lit [vI (y_:Int),vI ((lf / 2 ^ y_:Nat):Int)] 170 (0,0))],[T_],True,0⟩) (λ i_ x_ ⟨y_,A_,c_,T_,p_⟩=>y_=i_ /\ y_=x_ /\ i_<aA xs.length /\ SlIs jA 77 ((cV xs lf).take y_) A_ c_ T_) (0,some ⟨(n2+0),0,none⟩,aA xs.length,[((n2+0),.rows 1 (aA xs.length) (bu jA (List.replicate (aA xs.length) 0)) 77 (0,0))]) (⟨rfl,FY⟩) [2] [0] (pA (aA xs.length) (m3+1) (m3+0) lf _ (by omega) (au 0) (au 1)) ?_ ?_ ?_ ?_
 ·rintro l_ i_ x_ ⟨Y1,A_,c_,T_⟩ Y4 w5 Yf ⟨rfl,IF⟩ VQ;obtain rfl:=(hZ Yf).1.symm;refine ae 4 (aab 2) λ n8=>?_;refine VQ (Y1,A_,c_,T_,(n8+0)) [1,0] [0] ?_
  try dsimp only
  exact⟨rfl,rfl,(hZ Yf).2,IF⟩
 ·rintro l_ i_ x_ ⟨y_,A_,c_,T_,p_⟩ Y9 w10 V7 ⟨rfl,rfl,V9,IF⟩;have hp_:=agL y_;have hq_:=mP hl h0 (Nat.le_of_lt V9);have UQ:=B9 (show 0<aA xs.length-y_ by omega) hq_;have Tu:2 <= kO xs.length:=by have:=Nat.pow_le_pow_right (n:=2) (by omega) (show 1 <= aA xs.length by omega);unfold kO;omega
  refine ae 1 [] λ _=>aak [8,9] []<|ag [] [0,1,2] [.own 0,.ro 3,.own 1,.own 1]<|aac [] 3 (λ X_=>(tM (y_:Int) (lf / 2 ^ y_) _ (by omega)))<|aac [] 4 (λ X_=>(Cc t cb nb xs.length (2*kO xs.length) (aA xs.length) y_ _ (eZ (lf / 2 ^ y_)) _ (sf (aau Y9 (aau _ ht))) (by omega) (by omega) rfl (by omega) (by omega)))<|aF [] [5,6] [.rorow 6 (2 ^ (aA xs.length-y_)+eZ (lf / 2 ^ y_)) 0] [(2 ^ (aA xs.length-y_)+eZ (lf / 2 ^ y_))*1=(2 ^ (aA xs.length-y_)+eZ (lf / 2 ^ y_))*1+0 /\ (2 ^ (aA xs.length-y_)+eZ (lf / 2 ^ y_))<(2*kO xs.length)]<|aae 7 (aag [] [] λ n12=>?_);refine aae 8 (wB [] PD ((cV xs lf).take y_) [rC xs (kO xs.length) (2 ^ (aA xs.length-y_)+eZ (lf / 2 ^ y_))] 0 0 (show y_=((cV xs lf).take y_).length by rw[aaW,fD];omega) IF (by rw[aaW,fD,List.length_singleton];omega) ?_);rintro Wz Vb TM ⟨agD,amm⟩;refine aae 9 (aag [] [.own 1] λ _=>?_);refine aad<|ae 1 [] λ _=>RN.rn (y_+1,Wz,Vb,TM) [1] [0] ?_
  try dsimp only
  exact⟨by omega,by rw[z8 xs lf (by omega)];exact agD⟩
 ·rintro d18 ⟨Y1,A_,c_,T_⟩  ⟨rfl,IF⟩;refine ae 3 [] λ _=>aak [10] []<|aF [] [0,1,5,8,2,3,4,6,7,9] [.own 5,.own 1,.ro 0,.ix lf,.rorow 1 lf 0] [(0+lf*1)=lf*1+0 /\ lf<xs.length,(lf:Int)=((lf:Nat):Int) /\ lf<xs.length]<|aae 10 (aag [] [.own 4,.own 4,.own 4] λ _=>?_);refine aad<|ae 1 [] λ _=>RN.retM [d18] [0] [.own 3,.own 3,.own 3] [] [0] (v:=.agg #[vI (lf:Int),vI (xs.getD lf 0),.slice A_ ((List.range (aA xs.length)).length) c_]) (H':=(ap [] [T_])) ?_;rw[List.length_range] at IF ⊢;exact⟨(A_,c_,T_),rfl,rfl,by rw[List.take_of_length_le (by rw[fD];simp)] at IF;exact IF⟩
 ·exact λ _ _ _ h=>h.elim
theorem Ah(r v:Int)(n pb o N cp lf:Nat)(full pl:List Int)(F:HL)(hl:n <= 1000000)(VY:lf<n)(hp:(pb,.rows 1 N (bu jA full) 77 (0,0))∈F)(hN:o+aA n <= N)(iS:∀l,l<aA n -> full.getD (o+l) 0=pl.getD l 0):Sp Tryz.prog 69 #[.int .u64 r,vI (n:Int),.agg #[vI (lf:Int),vI v,vS pb (o*1) (aA n) cp]] [] F (λ u H'=>u=.bool (decide (lq lf (aI (lf:Int) v) pl (aA n)=r)) /\ H'=[]):=by
 obtain⟨UD,VF,YC,hb4⟩:=jl hl;refine Sp.runM Tryz.func69 rfl (mc hp mn) (A:=[]) (Ts:=[]) rfl λ w0=>?_;refine ae 9 [] λ n1=>aah (om n _ hl)<|ae 10 [.own 0] λ _=>cD 15 (abz (show ¬ ((lf:Int)<0) by omega))<|ae 6 [.own 0] λ _=>cD 21 (abz (show ¬ ((lf:Int) >= (n:Int)) by omega))<|ae 8 [.own 0] λ _=>aam ((((aA n):Nat):Int)=(aA n:Int)) 27 (λ h2=>?_) λ h2=>?_
 ·refine ae 9 (aab 2) λ _=>aah (mO (lf:Int) v _)<|ae 10 [.own 0,.own 1] λ n3=>aai (Hp:=[]) (Tp:=[]) [] [] (mQ (aA n) lf _) ?_;rintro _ m4 rfl;refine ae 3 [] λ _=>RN.range (σ:=Nat) (τ:=Nat × Nat) (encs:=λ (x_:Nat)=>#[.agg #[vI (x_:Int),vI ((lf / 2 ^ x_:Nat):Int)]]) (xs:=(List.range (aA n))) (enters_of Tryz.func115 (by kernel_rfl) rfl) (λ m_=>([((n3+0),.lit [.int .u64 (lq lf (aI (lf:Int) v) pl m_)] 77 (0,0))],[])) (λ i_ m_=>m_=i_) (λ c_ m_=>False) (λ ⟨y_,p_⟩=>⟨[(0,.int .u64 r),(5,vP (n1+0) 0),(8,vP (n3+0) 0),(9,vP p_ 0)],[((n3+0),.lit [.int .u64 (lq lf (aI (lf:Int) v) pl y_)] 77 (0,0)),(p_,.lit [vI (y_:Int),vI ((lf / 2 ^ y_:Nat):Int)] 170 (0,0))],[],True,0⟩) (λ i_ x_ ⟨y_,p_⟩=>y_=i_ /\ y_=x_ /\ i_<aA n) 0 rfl [2] [] (pA (aA n) (m4+1) (m4+0) lf _ (by omega) (au 0) (au 1)) ?_ ?_ ?_ ?_
  ·rintro l_ i_ x_ m_ Y5 w6 hx7 rfl XH;obtain rfl:=(hZ hx7).1.symm;refine ae 4 (aab 2) λ n9=>?_;refine XH (m_,(n9+0)) [1,0] [] ?_
   try dsimp only
   exact⟨rfl,rfl,(hZ hx7).2⟩
  ·rintro l_ i_ x_ ⟨y_,p_⟩ Y10 w11 Z7 ⟨rfl,rfl,V9⟩;have hq_:=Nat.div_le_self lf (2 ^ y_);refine ae 1 [] λ _=>aak [9] []<|aF [] [0,1,2,4,3,5,6,7] [.own 1,.own 1,.own 0,.ro 2,.own 1,.ix y_,.rorow 3 (o+y_) 0] [(o*1+y_*1)=(o+y_)*1+0 /\ (o+y_)<N,(y_:Int)=((y_:Nat):Int) /\ y_<(aA n)]<|aac [] 8 (λ X_=>(qy (y_:Int) (lq lf (aI (lf:Int) v) pl y_) (full.getD (o+y_) 0) (lf / 2 ^ y_) _ (by omega)))<|aae 9 (aag [] [.own 0] λ _=>?_);refine aad<|ae 1 [] λ _=>?_;have e_:lq lf (aI (lf:Int) v) pl (y_+1)=rh (lf / 2 ^ y_) (lq lf (aI (lf:Int) v) pl y_) (full.getD (o+y_) 0):=by rw[lq,iS y_ V9]
   refine ez 0 (congrArg (λ v_=>(.lit [.int .u64 v_] 77 (0,0):Blk)) e_.symm)<|RN.rn (y_+1) [0] [] ?_
   try dsimp only
   first|done|rfl
  ·rintro d13 m_  rfl;refine ae 10 [.own 1] λ _=>RN.retM [d13] [0] [] [] [] (v:=.bool (decide (lq lf (aI (lf:Int) v) pl (List.range (aA n)).length=r))) (H':=[]) ?_;exact⟨by rw[List.length_range],rfl⟩
  ·exact λ _ _ _ h=>h.elim
 ·exact absurd rfl h2
abbrev NU:=List ((Int × Int) × Int × Nat)
abbrev CU:=List (Int × Int × Nat)
def fE(lf:Nat)(us:NU)(uc:Nat)(a:Int):Nat -> NU × Nat × Int
 | 0=>(us,uc,a)
 | m+1=>let s:=fE lf us uc a m
  (fh s.1 s.2.1 ((m:Int),((lf / 2 ^ m:Nat):Int)) s.2.2,eE s.1 s.2.1 ((m:Int),((lf / 2 ^ m:Nat):Int)),rh (lf / 2 ^ m) s.2.2 (lM (fh s.1 s.2.1 ((m:Int),((lf / 2 ^ m:Nat):Int)) s.2.2) ((m:Int),((eZ (lf / 2 ^ m):Nat):Int))))
def xn(h lf:Nat)(us:NU)(uc:Nat)(a:Int):NU × Nat :=
 (fh (fE lf us uc a h).1 (fE lf us uc a h).2.1 ((h:Int),0) (fE lf us uc a h).2.2,eE (fE lf us uc a h).1 (fE lf us uc a h).2.1 ((h:Int),0))
def di(lf:Nat)(pl:List Int)(us:NU)(uc:Nat)(a:Int):Nat -> NU × Nat
 | 0=>(us,uc)
 | m+1=>let s:=di lf pl us uc a m
  let t:=(fh s.1 s.2 ((m:Int),((lf / 2 ^ m:Nat):Int)) (lq lf a pl m),eE s.1 s.2 ((m:Int),((lf / 2 ^ m:Nat):Int)))
  (fh t.1 t.2 ((m:Int),((eZ (lf / 2 ^ m):Nat):Int)) (pl.getD m 0),eE t.1 t.2 ((m:Int),((eZ (lf / 2 ^ m):Nat):Int)))
theorem xo{l k:Nat}{m q:Nat}(h:l≠m \/ k≠q):((l:Int),(k:Int))≠((m:Int),(q:Int)):=by
 intro e;simp only[Prod.mk.injEq] at e;omega
structure PI(xs:List Int)(js:List Nat)(ks:CU)(us:NU):Prop where
 cel:∀j:Nat,ga ks (j:Int)=if j∈js then some (xs.getD j 0) else none
 lt:∀j∈js,j<xs.length
 root:lM us ((aA xs.length:Int),0)=gx xs
 sib:∀j∈js,∀l,l<aA xs.length -> lM us ((l:Int),((eZ (j / 2 ^ l):Nat):Int))=kI xs l (eZ (j / 2 ^ l))
theorem ME(xs:List Int):PI xs [] [] (fh [] 0 ((aA xs.length:Int),0) (gx xs)) where
 cel:=λ j=>by rw[if_neg (by simp)];rfl
 lt:=λ j h=>by cases h
 root:=by rw[jm,if_pos rfl]
 sib:=λ j h=>by cases h
theorem ov{xs:List Int}(hl:xs.length <= 1000000){lf:Nat}(h0:lf<xs.length)(us:NU)(uc:Nat)(p q:Nat):∀m,m <= aA xs.length ->
  (p<m /\ (q=lf / 2 ^ p \/ q=eZ (lf / 2 ^ p)) /\ lM (di lf (cV xs lf) us uc (aI (lf:Int) (xs.getD lf 0)) m).1 ((p:Int),(q:Int))=kI xs p q) \/
  ((m <= p \/ q≠eZ (lf / 2 ^ p)) /\ lM (di lf (cV xs lf) us uc (aI (lf:Int) (xs.getD lf 0)) m).1 ((p:Int),(q:Int))=lM us ((p:Int),(q:Int)))
 | 0,_=>.inr ⟨.inl (aaU _),rfl⟩
 | m+1,h=>by
  have ih:=ov hl h0 us uc p q m (by omega);rw[di];dsimp only;rw[jm,jm]
  by_cases h1:p=m /\ q=eZ (lf / 2 ^ m)
  ·obtain⟨rfl,rfl⟩:=h1;left;rw[if_pos rfl,ou xs lf (by omega)];exact⟨by omega,.inr rfl,rfl⟩
  ·rw[if_neg (xo (by omega))]
   by_cases h2:p=m /\ q=lf / 2 ^ m
   ·obtain⟨rfl,rfl⟩:=h2;left;rw[if_pos rfl,tL hl h0 p (by omega)];exact⟨by omega,.inl rfl,rfl⟩
   ·rw[if_neg (xo (by omega))];rcases ih with ⟨a1,a2,a3⟩|⟨a1,a2⟩
    ·exact .inl ⟨by omega,a2,a3⟩
    ·refine .inr ⟨?_,a2⟩
     by_cases hp:p=m
     ·subst hp;right;intro e;exact h1 ⟨rfl,e⟩
     ·omega
theorem PI.learn{xs:List Int}{js:List Nat}{ks:CU}{us:NU}(h:PI xs js ks us)(hl:xs.length <= 1000000){lf:Nat}(h0:lf<xs.length)(uc cc:Nat):PI xs (js++[lf]) (fh ks cc (lf:Int) (xs.getD lf 0)) (di lf (cV xs lf) us uc (aI (lf:Int) (xs.getD lf 0)) (aA xs.length)).1 where
 cel:=λ j=>by
  rw[pw,h.cel]
  by_cases e:j=lf
  ·subst e;rw[if_pos rfl,if_pos (by simp)]
  ·rw[if_neg (by omega)]
   by_cases h2:j∈js
   ·rw[if_pos h2,if_pos (by simp[h2])]
   ·rw[if_neg h2,if_neg (by simp[h2,e])]
 lt:=λ j hj=>by
  rcases List.mem_append.1 hj with h1|h1
  ·exact h.lt j h1
  ·rw[List.mem_singleton] at h1;omega
 root:=by
  rcases ov hl h0 us uc (aA xs.length) 0 _ (aaS _) with ⟨a,_⟩|⟨_,a⟩
  ·exact absurd a (Nat.lt_irrefl _)
  ·exact a.trans h.root
 sib:=λ j hj l g_=>by
  rcases ov hl h0 us uc l (eZ (j / 2 ^ l)) _ (aaS _) with ⟨_,_,a⟩|⟨b,a⟩
  ·exact a
  ·rw[a];rcases List.mem_append.1 hj with h1|h1
   ·exact h.sib j h1 l g_
   ·rw[List.mem_singleton] at h1;subst h1;exact absurd rfl (b.resolve_left (by omega))
theorem pB{xs:List Int}(hl:xs.length <= 1000000){lf:Nat}(h0:lf<xs.length)(v:Int){us:NU}(uc:Nat)(hs:∀l,l<aA xs.length -> lM us ((l:Int),((eZ (lf / 2 ^ l):Nat):Int))=kI xs l (eZ (lf / 2 ^ l)))(p q:Nat):∀m,m <= aA xs.length ->
  (fE lf us uc (aI (lf:Int) v) m).2.2=kI (xs.set lf v) m (lf / 2 ^ m) /\
  lM (fE lf us uc (aI (lf:Int) v) m).1 ((p:Int),(q:Int))=if p<m /\ q=lf / 2 ^ p then kI (xs.set lf v) p q else lM us ((p:Int),(q:Int))
 | 0,_=>by
  refine⟨?_,by rw[if_neg (by omega)];rfl⟩;rw[Nat.pow_zero,Nat.div_one,vZ (by rw[List.length_set];exact hl) (by rw[List.length_set];exact h0),aaK,List.getElem?_set_self h0];rfl
 | m+1,h=>by
  have hn:(xs.set lf v).length=xs.length:=List.length_set ..;have ih:=pB hl h0 v uc hs p q m (by omega);have ihs:=(pB hl h0 v uc hs m (eZ (lf / 2 ^ m)) m (by omega)).2;rw[if_neg (by omega),hs m (by omega)] at ihs;rw[fE];dsimp only;rw[jm,jm,if_neg (xo (.inr (JQ _))),ihs,ih.1,ih.2];constructor
  ·rw[pv,DI (xs:=xs.set lf v) (by rw[hn];exact hl) (by rw[hn];omega) (by rw[hn];exact mP hl h0 (by omega)),z7 (i:=lf) hl v (by omega) (B9 (by omega) (mP hl h0 (by omega))) (JQ _)]
  ·by_cases h2:p=m /\ q=lf / 2 ^ m
   ·obtain⟨rfl,rfl⟩:=h2;rw[if_pos rfl,if_pos ⟨by omega,rfl⟩]
   ·rw[if_neg (xo (by omega))]
    by_cases h3:p<m /\ q=lf / 2 ^ p
    ·rw[if_pos h3,if_pos ⟨by omega,h3.2⟩]
    ·rw[if_neg h3,if_neg (λ e=>by
      obtain⟨e1,e2⟩:=e
      by_cases hp:p=m
      ·subst hp;exact h2 ⟨rfl,e2⟩
      ·exact h3 ⟨by omega,e2⟩)]
theorem PI.set{xs:List Int}{js:List Nat}{ks:CU}{us:NU}(h:PI xs js ks us)(hl:xs.length <= 1000000){lf:Nat}(h0:lf∈js)(v:Int)(uc cc:Nat):PI (xs.set lf v) js (fh ks cc (lf:Int) v) (xn (aA xs.length) lf us uc (aI (lf:Int) v)).1:=by
 have hn:(xs.set lf v).length=xs.length:=List.length_set ..;have hj:=h.lt lf h0;refine⟨λ j=>?_,λ j XO=>by rw[hn];exact h.lt j XO,?_,λ j XO l g_=>?_⟩
 ·rw[pw,h.cel]
  by_cases e:j=lf
  ·subst e;rw[if_pos rfl,if_pos h0,aaK,List.getElem?_set_self hj];rfl
  ·rw[if_neg (by omega),aaK,aaK,List.getElem?_set_ne (by omega)]
 ·unfold xn;dsimp only;rw[hn,jm,if_pos rfl,(pB hl hj v uc (h.sib lf h0) 0 0 _ (aaS _)).1,Ac hl hj,<- vY,hn]
 ·rw[hn] at g_;unfold xn;dsimp only;rw[jm,if_neg (λ e=>by simp only[Prod.mk.injEq] at e;omega),(pB hl hj v uc (h.sib lf h0) l (eZ (j / 2 ^ l)) _ (aaS _)).2]
  by_cases e:eZ (j / 2 ^ l)=lf / 2 ^ l
  ·rw[if_pos ⟨g_,e⟩]
  ·rw[if_neg (λ h2=>e h2.2),h.sib j XO l g_,z7 hl v (by omega) (B9 (by omega) (mP hl (h.lt j XO) (by omega))) e]
def ia:List Int -> List (Nat × Int) -> List Int
 | xs,[]=>xs
 | xs,x::l=>ia (xs.set x.1 x.2) l
theorem JV(pp cb nb h lf uc cc:Nat)(v x:Int)(us:NU)(ks:CU)(F:HL)(hp:(pp,.lit [vI (h:Int),.map (some cb),.map (some nb)] 173 (0,0))∈F)(hx:ga ks (lf:Int)=some x)(hh:h <= 20)(hlf:lf <= 1000000):Sp Tryz.prog 28 #[vP pp 0,vI (lf:Int),vI v] [(nb,.obj (fY us uc)),(cb,.obj (iO ks cc))] F (λ u H'=>u=.bool true /\ H'=[(nb,.obj (fY ((xn h lf us uc (aI (lf:Int) v)).1) ((xn h lf us uc (aI (lf:Int) v)).2))),(cb,.obj (iO (fh ks cc (lf:Int) v) (eE ks cc (lf:Int))))]):=by
 refine Sp.runM Tryz.func28 rfl (mc hp mn) (A:=[(nb,.obj (fY us uc)),(cb,.obj (iO ks cc))]) (Ts:=[]) rfl λ w0=>?_;refine ae 14 [.own 0,.ro 0] λ n1=>MB 2 (us:=ks) (cl:=cc) (k:=(lf:Int)) (v:=.tuple #[vI x,.bool true]) (by rw[hx];rfl)<|ae 24 [.own 0,.ro 0] λ _=>MA 2 (us:=ks) (cl:=cc) (k:=(lf:Int)) (a:=v)<|ae 6 [] λ _=>aah (mO (lf:Int) v _)<|ae 12 [.own 0,.own 1,.ro 0] λ n2=>aai (Hp:=[]) (Tp:=[]) [] [] (mQ h lf _) ?_;rintro _ m3 rfl;refine ae 3 [] λ _=>RN.range (σ:=Nat) (τ:=Nat × Nat) (encs:=λ (x_:Nat)=>#[.agg #[vI (x_:Int),vI ((lf / 2 ^ x_:Nat):Int)]]) (xs:=(List.range h)) (enters_of Tryz.func115 (by kernel_rfl) rfl) (λ m_=>([((n2+0),.lit [.int .u64 ((fE lf us uc (aI (lf:Int) v) m_).2.2)] 77 (0,0)),(nb,.obj (fY ((fE lf us uc (aI (lf:Int) v) m_).1) ((fE lf us uc (aI (lf:Int) v) m_).2.1)))],[])) (λ i_ m_=>m_=i_) (λ c_ m_=>False) (λ ⟨y_,p_⟩=>⟨[(3,vP (n1+0) 0),(9,vP (n2+0) 0),(10,vP p_ 0)],[((n2+0),.lit [.int .u64 ((fE lf us uc (aI (lf:Int) v) y_).2.2)] 77 (0,0)),(nb,.obj (fY ((fE lf us uc (aI (lf:Int) v) y_).1) ((fE lf us uc (aI (lf:Int) v) y_).2.1))),(p_,.lit [vI (y_:Int),vI ((lf / 2 ^ y_:Nat):Int)] 170 (0,0))],[],True,0⟩) (λ i_ x_ ⟨y_,p_⟩=>y_=i_ /\ y_=x_ /\ i_<h) 0 rfl [2,4] [] (pA h (m3+1) (m3+0) lf _ (by omega) (au 0) (au 1)) ?_ ?_ ?_ ?_
 ·rintro l_ i_ x_ m_ Y4 w5 Yf rfl VQ;obtain rfl:=(hZ Yf).1.symm;refine ae 4 (aab 2) λ n8=>?_;refine VQ (m_,(n8+0)) [1,2,0] [] ?_
  try dsimp only
  exact⟨rfl,rfl,(hZ Yf).2⟩
 ·rintro l_ i_ x_ ⟨y_,p_⟩ Y9 w10 V7 ⟨rfl,rfl,V9⟩;have hq_:=Nat.div_le_self lf (2 ^ y_);refine ae 2 [] λ _=>aak [6] []<|ag [] [0,4,5,1,2,3] [.ro 2,.own 2,.own 2,.own 0,.ro 4]<|aae 6 (pz 1 (us:=((fE lf us uc (aI (lf:Int) v) y_).1)) (cl:=((fE lf us uc (aI (lf:Int) v) y_).2.1)) ((y_:Int),((lf / 2 ^ y_:Nat):Int)) (a:=(fE lf us uc (aI (lf:Int) v) y_).2.2) ?_);refine aad<|ae 1 [] λ _=>aak [10] []<|ag [] [0,1,2,6,3,4,5] [.own 2,.own 2,.own 0,.ro 2,.own 2,.own 2,.ro 4]<|aac [] 7 (λ X_=>(tM (y_:Int) (lf / 2 ^ y_) _ (by omega)))<|aae 8 (DJ 1 (us:=(fh ((fE lf us uc (aI (lf:Int) v) y_).1) ((fE lf us uc (aI (lf:Int) v) y_).2.1) ((y_:Int),((lf / 2 ^ y_:Nat):Int)) ((fE lf us uc (aI (lf:Int) v) y_).2.2))) (cl:=(eE ((fE lf us uc (aI (lf:Int) v) y_).1) ((fE lf us uc (aI (lf:Int) v) y_).2.1) ((y_:Int),((lf / 2 ^ y_:Nat):Int)))) ((y_:Int),((eZ (lf / 2 ^ y_):Nat):Int)) ?_);refine aac [] 9 (λ X_=>(qy (y_:Int) ((fE lf us uc (aI (lf:Int) v) y_).2.2) (lM (fh ((fE lf us uc (aI (lf:Int) v) y_).1) ((fE lf us uc (aI (lf:Int) v) y_).2.1) ((y_:Int),((lf / 2 ^ y_:Nat):Int)) ((fE lf us uc (aI (lf:Int) v) y_).2.2)) ((y_:Int),((eZ (lf / 2 ^ y_):Nat):Int))) (lf / 2 ^ y_) _ (by omega)))<|aae 10 (aag [] [.own 0] λ _=>?_);refine aad<|ae 1 [] λ _=>RN.rn (y_+1) [0,1] [] ?_
  try dsimp only
  first|done|rfl
 ·rintro d12 m_  rfl;refine ae 3 [] λ _=>aak [10] []<|ag [] [0,4,9,1,5,2,6,3,7,8] [.own 5,.own 5,.own 1,.ro 0,.ro 0]<|aae 10 (pz 2 (us:=((fE lf us uc (aI (lf:Int) v) (List.range h).length).1)) (cl:=((fE lf us uc (aI (lf:Int) v) (List.range h).length).2.1)) ((h:Int),0) (a:=(fE lf us uc (aI (lf:Int) v) (List.range h).length).2.2) ?_);refine aad<|ae 6 [] λ _=>RN.retM [d12] [0] [] [1,5] [] (v:=.bool true) (H':=[(nb,.obj (fY (fh ((fE lf us uc (aI (lf:Int) v) (List.range h).length).1) ((fE lf us uc (aI (lf:Int) v) (List.range h).length).2.1) ((h:Int),0) ((fE lf us uc (aI (lf:Int) v) (List.range h).length).2.2)) (eE ((fE lf us uc (aI (lf:Int) v) (List.range h).length).1) ((fE lf us uc (aI (lf:Int) v) (List.range h).length).2.1) ((h:Int),0)))),(cb,.obj (iO (fh ks cc (lf:Int) v) (eE ks cc (lf:Int))))]) ?_;rw[List.length_range];exact⟨rfl,rfl⟩
 ·exact λ _ _ _ h=>h.elim
theorem F4(pp cb nb h uc:Nat)(us:NU)(F:HL)(hp:(pp,.lit [vI (h:Int),.map (some cb),.map (some nb)] 173 (0,0))∈F):Sp Tryz.prog 30 #[vP pp 0] [(nb,.obj (fY us uc))] F (λ u H'=>u=.int .u64 (lM us ((h:Int),0)) /\ H'=[(nb,.obj (fY us uc))]):=by
 refine aas Tryz.func30 rfl (mc hp mn) (A:=[(nb,.obj (fY us uc))]) (Ts:=[]) rfl λ w0=>?_;refine ae 6 [] λ _=>aak [] []<|ag [] [0,4,1,5,2,6,3,7,8] [.ro 0,.ro 0]<|aae 9 (DJ 0 (us:=us) (cl:=uc) ((h:Int),0) ?_);refine ag [] [10] []<|aad<|ae 1 [] λ _=>?_;exact aap [] [0] [] ⟨rfl,rfl⟩
theorem Ce(pp cb nb h lf uc cc pb o N cp:Nat)(v:Int)(us:NU)(ks:CU)(full pl:List Int)(F:HL)(hp:(pp,.lit [vI (h:Int),.map (some cb),.map (some nb)] 173 (0,0))∈F)(hpb:(pb,.rows 1 N (bu jA full) 77 (0,0))∈F)(hN:o+h <= N)(iS:∀l,l<h -> full.getD (o+l) 0=pl.getD l 0)(hh:h <= 20)(hlf:lf <= 1000000):Sp Tryz.prog 70 #[vP pp 0,.agg #[vI (lf:Int),vI v,vS pb (o*1) h cp]] [(nb,.obj (fY us uc)),(cb,.obj (iO ks cc))] F (λ _ H'=>H'=[(nb,.obj (fY ((di lf pl us uc (aI (lf:Int) v) h).1) ((di lf pl us uc (aI (lf:Int) v) h).2))),(cb,.obj (iO (fh ks cc (lf:Int) v) (eE ks cc (lf:Int))))]):=by
 refine Sp.runM Tryz.func70 rfl (mc hp (mc hpb mn)) (A:=[(nb,.obj (fY us uc)),(cb,.obj (iO ks cc))]) (Ts:=[]) rfl λ w0=>?_;refine ae 7 [] λ n1=>aak [8] []<|ag [] [0,4,6,1,5,7,2,3] [.own 1,.own 0,.own 0,.ro 0]<|aae 8 (JT 3 (us:=ks) (cl:=cc) (k:=(lf:Int)) (a:=v) ?_);refine aad<|ae 7 (aab 2) λ _=>aah (mO (lf:Int) v _)<|ae 5 [.own 0] λ n2=>aak [] []<|ag [] [0,2,1,3,4,5] [.own 2,.own 1,.ro 0]<|aae 6 (aaf [] (Hp:=[]) (Tp:=[]) [] [] (mQ h lf _) ?_);rintro _ m3 rfl;refine aad<|ae 2 [] λ _=>RN.range (σ:=Nat) (τ:=Nat × Nat) (encs:=λ (x_:Nat)=>#[.agg #[vI (x_:Int),vI ((lf / 2 ^ x_:Nat):Int)]]) (xs:=(List.range h)) (enters_of Tryz.func115 (by kernel_rfl) rfl) (λ m_=>([((n2+0),.lit [.int .u64 (lq lf (aI (lf:Int) v) pl m_)] 77 (0,0)),(nb,.obj (fY ((di lf pl us uc (aI (lf:Int) v) m_).1) ((di lf pl us uc (aI (lf:Int) v) m_).2)))],[])) (λ i_ m_=>m_=i_) (λ c_ m_=>False) (λ ⟨y_,p_⟩=>⟨[(2,vP (n1+0) 0),(3,vP (n1+1) 0),(4,vP (n2+0) 0),(5,vP p_ 0)],[((n2+0),.lit [.int .u64 (lq lf (aI (lf:Int) v) pl y_)] 77 (0,0)),(nb,.obj (fY ((di lf pl us uc (aI (lf:Int) v) y_).1) ((di lf pl us uc (aI (lf:Int) v) y_).2))),(p_,.lit [vI (y_:Int),vI ((lf / 2 ^ y_:Nat):Int)] 170 (0,0))],[],True,0⟩) (λ i_ x_ ⟨y_,p_⟩=>y_=i_ /\ y_=x_ /\ i_<h) 0 rfl [2,5] [] (pA h (m3+1) (m3+0) lf _ (by omega) (au 0) (au 1)) ?_ ?_ ?_ ?_
 ·rintro l_ i_ x_ m_ Y4 w5 Yf rfl VQ;obtain rfl:=(hZ Yf).1.symm;refine ae 4 (aab 2) λ n8=>?_;refine VQ (m_,(n8+0)) [1,2,0] [] ?_
  try dsimp only
  exact⟨rfl,rfl,(hZ Yf).2⟩
 ·rintro l_ i_ x_ ⟨y_,p_⟩ Y9 w10 V7 ⟨rfl,rfl,V9⟩;have hq_:=Nat.div_le_self lf (2 ^ y_);refine ai 13 [.ro 2,.own 2,.ix y_,.rorow 6 (o+y_) 0] [(o*1+y_*1)=(o+y_)*1+0 /\ (o+y_)<N,(y_:Int)=((y_:Nat):Int) /\ y_<h] λ _=>aS 6 (congrArg (λ v_=>(.int .u64 v_:Value)) (iS y_ V9))<|aak [6] []<|ag [] [0,4,5,1,2,3] [.ro 3,.own 2,.own 2,.own 0,.ro 5]<|aae 6 (pz 1 (us:=((di lf pl us uc (aI (lf:Int) v) y_).1)) (cl:=((di lf pl us uc (aI (lf:Int) v) y_).2)) ((y_:Int),((lf / 2 ^ y_:Nat):Int)) (a:=lq lf (aI (lf:Int) v) pl y_) ?_);refine aad<|ae 2 [] λ _=>aak [7] []<|ag [] [0,4,6,1,2,3] [.ro 3,.own 2,.own 2,.ro 5]<|aac [] 5 (λ X_=>(tM (y_:Int) (lf / 2 ^ y_) _ (by omega)))<|aae 7 (pz 1 (us:=(fh ((di lf pl us uc (aI (lf:Int) v) y_).1) ((di lf pl us uc (aI (lf:Int) v) y_).2) ((y_:Int),((lf / 2 ^ y_:Nat):Int)) (lq lf (aI (lf:Int) v) pl y_))) (cl:=(eE ((di lf pl us uc (aI (lf:Int) v) y_).1) ((di lf pl us uc (aI (lf:Int) v) y_).2) ((y_:Int),((lf / 2 ^ y_:Nat):Int)))) ((y_:Int),((eZ (lf / 2 ^ y_):Nat):Int)) (a:=pl.getD y_ 0) ?_);refine aad<|ae 5 [.own 2,.own 2,.own 0] λ _=>aah (qy (y_:Int) (lq lf (aI (lf:Int) v) pl y_) (pl.getD y_ 0) (lf / 2 ^ y_) _ (by omega))<|ae 3 [.own 0] λ _=>RN.rn (y_+1) [0,1] [] ?_
  try dsimp only
  first|done|rfl
 ·rintro d12 m_  rfl;refine ae 1 [] λ _=>RN.retM [d12] [0] [] [1,6] [] (v:=.tuple #[]) (H':=[(nb,.obj (fY ((di lf pl us uc (aI (lf:Int) v) (List.range h).length).1) ((di lf pl us uc (aI (lf:Int) v) (List.range h).length).2))),(cb,.obj (iO (fh ks cc (lf:Int) v) (eE ks cc (lf:Int))))]) ?_;rw[List.length_range]
 ·exact λ _ _ _ h=>h.elim
structure Lf where
 i:Int
 v:Int
 A:Option Addr
 n:Nat
 c:Nat
def Cf:Enc Lf:=⟨3,λ p k=>match k with|0=>vI p.i|1=>vI p.v|_=>.slice p.A p.n p.c,⟨0,0,none,0,0⟩⟩
noncomputable def Rn:TypeInfo:=match Tryz.prog.info? 81 with | some i=>i | none=>⟨.bool,"",0,0,false,0,0,none,false,#[]⟩
noncomputable def Rp:Value:=match Rn.zero with|some z=>z|none=>.bool false
theorem Rq:EncOk Cf Tryz.prog 81 Rn Rp where
 info:=by kernel_rfl
 zero:=by kernel_rfl
 size:=by kernel_rfl
 zsize:=by kernel_rfl
 zcell:=λ k hk=>by
  have h:∀k<3,Rp.cells[k]?=some (Cf.cell Cf.dflt k):=by intro k hk;(iterate 3 (rcases k with _|k;· kernel_rfl));omega
  exact h k hk
 one:=λ x k=>by unfold Cf;dsimp only;split <;> rfl
 bytes:=aaN (by kernel_rfl)
def SO(F:HL)(xs:List Int)(p:Lf)(j:Nat):Prop:=j<xs.length /\ ∃b o N full c,p=⟨(j:Int),xs.getD j 0,some ⟨b,o*1,none⟩,aA xs.length,c⟩ /\ (b,.rows 1 N (bu jA full) 77 (0,0))∈F /\ o+aA xs.length <= N /\ ∀l,l<aA xs.length -> full.getD (o+l) 0=(cV xs j).getD l 0
structure LfsIn(F:HL)(xs:List Int)(ls:List Lf)(js:List Nat):Prop where
 len:ls.length=js.length
 row:∀k,k<ls.length -> SO F xs (ls.getD k Cf.dflt) (js.getD k 0)
theorem LfsIn.mono{F F':HL}{xs:List Int}{ls:List Lf}{js:List Nat}(h:LfsIn F xs ls js)(hF:∀x∈F,x∈F'):LfsIn F' xs ls js:=⟨h.len,λ k hk=>by
 obtain⟨h1,b,o,N,f,c,h2,h3,h4⟩:=h.row k hk;exact⟨h1,b,o,N,f,c,h2,hF _ h3,h4⟩⟩
theorem LfsIn.get{F:HL}{xs:List Int}{ls:List Lf}{js:List Nat}(h:LfsIn F xs ls js){k:Nat}(hk:k<ls.length):∃jj b o N full c,js.take (k+1)=js.take k++[jj] /\ jj<xs.length /\ ls.getD k Cf.dflt=⟨(jj:Int),xs.getD jj 0,some ⟨b,o*1,none⟩,aA xs.length,c⟩ /\ (b,.rows 1 N (bu jA full) 77 (0,0))∈F /\ o+aA xs.length <= N /\ ∀l,l<aA xs.length -> full.getD (o+l) 0=(cV xs jj).getD l 0:=by
 obtain⟨h1,b,o,N,f,c,h2,h3,h4,h5⟩:=h.row k hk;have hj:k<js.length:=by rw[<- h.len];exact hk
 refine⟨js.getD k 0,b,o,N,f,c,?_,h1,h2,h3,h4,h5⟩;rw[List.take_add_one,aaK,aa3 hj];rfl
theorem tN{α:Type}{l:List α}(l':List α)(d:α){k:Nat}(h:k<l.length):(l++l').getD k d=l.getD k d:=by
 rw[aaK,aa4 h,aaK]
theorem tP{α:Type}(l:List α)(x d:α):(l++[x]).getD l.length d=x:=by
 rw[aaK,aa6 (aaS _),Nat.sub_self];rfl
theorem LfsIn.snoc{F F':HL}{xs:List Int}{ls:List Lf}{js:List Nat}(h:LfsIn F xs ls js)(hF:∀x∈F,x∈F'){j c:Nat}{A:Option Addr}{T:HL}(hs:SlIs jA 77 (cV xs j) A c T)(hT:∀x∈T,x∈F')(hj:j<xs.length)(h1:0<aA xs.length):LfsIn F' xs (ls++[⟨(j:Int),xs.getD j 0,A,aA xs.length,c⟩]) (js++[j]):=by
 obtain⟨b,o,f,rfl,rfl,a1,a2,a3⟩:=hs.open (by rw[fD];exact h1);rw[fD] at a2;refine⟨by rw[aaV,aaV,h.len];rfl,λ k hk=>?_⟩;rw[aaV,List.length_singleton] at hk;have h2:=h.len
 by_cases hk2:k<ls.length
 ·rw[tN _ _ hk2,tN _ _ (show k<js.length by omega)];exact(h.mono hF).row k hk2
 ·obtain rfl:k=ls.length:=by omega
  rw[tP,h2,tP];exact⟨hj,b,o,o+c,f,c,rfl,hT _ (List.mem_singleton.2 rfl),by omega,λ l hl=>a3 l (by rw[fD];exact hl)⟩
theorem PI.look{xs:List Int}{js:List Nat}{ks:CU}{us:NU}(h:PI xs js ks us)(j:Nat):ga ks (j:Int)=none \/ ga ks (j:Int)=some (xs.getD j 0):=by
 rw[h.cel];split
 ·exact .inr rfl
 ·exact .inl rfl
theorem wa(pp cb nb h lf uc cc pb o N cp:Nat)(v:Int)(us:NU)(ks:CU)(full pl:List Int)(F:HL)(hp:(pp,.lit [vI (h:Int),.map (some cb),.map (some nb)] 173 (0,0))∈F)(hpb:(pb,.rows 1 N (bu jA full) 77 (0,0))∈F)(hN:o+h <= N)(iS:∀l,l<h -> full.getD (o+l) 0=pl.getD l 0)(hh:h <= 20)(hlf:lf <= 1000000):Sp Tryz.prog 70 #[vP pp 0,.agg #[vI (lf:Int),vI v,.slice (some ⟨pb,o*1,none⟩) h cp]] (ap [(nb,.obj (fY us uc)),(cb,.obj (iO ks cc))] []) F (λ u H'=>∃x:Unit,H'=ap [(nb,.obj (fY ((di lf pl us uc (aI (lf:Int) v) h).1) ((di lf pl us uc (aI (lf:Int) v) h).2))),(cb,.obj (iO (fh ks cc (lf:Int) v) (eE ks cc (lf:Int))))] [] /\ True) :=
 (Ce pp cb nb h lf uc cc pb o N cp v us ks full pl F hp hpb hN iS hh hlf).mono λ u H' h_=>⟨(),by rw[h_];rfl,trivial⟩
theorem Ai(lb o0 N0 c0 nl:Nat)(full ls:List Lf)(js:List Nat)(xs:List Int)(F:HL)(hl:xs.length <= 1000000)(hb:(lb,.rows 3 N0 (bu Cf full) 81 (0,0))∈F)(hN:o0+nl <= N0)(hnl:ls.length=nl)(hn1:nl <= 1000000)(hfd:∀k,k<nl -> full.getD (o0+k) Cf.dflt=ls.getD k Cf.dflt)(hls:LfsIn F xs ls js):Sp Tryz.prog 26 #[.int .u64 (gx xs),vI (xs.length:Int),.slice (some ⟨lb,o0*3,none⟩) nl c0] (ap [] []) F (λ u H'=>∃x:(Nat × Nat × Nat) × (CU × Nat × NU × Nat),H'=ap [(x.1.1,.lit [vI (aA xs.length:Int),.map (some x.1.2.1),.map (some x.1.2.2)] 173 (0,0)),(x.1.2.1,.obj (iO x.2.1 x.2.2.1)),(x.1.2.2,.obj (fY x.2.2.2.1 x.2.2.2.2))] [] /\ (u=.tuple #[vP x.1.1 0,vI 0] /\ PI xs js x.2.1 x.2.2.2.1)):=by
 obtain⟨UD,VF,YC,hb4⟩:=jl hl;refine aas Tryz.func26 rfl (mc hb mn) (A:=[]) (Ts:=[]) rfl λ w0=>?_;refine ae 9 [] λ _=>aah (om xs.length _ hl)<|ae 11 [] λ n1=>Mz 0 (us:=[]) (cl:=0) ((aA xs.length:Int),0) (a:=gx xs)<|ae 15 [] λ n2=>aan (σ:=Nat × CU × Nat × NU × Nat) (λ ⟨i_,ks,cc,us,uc⟩=>⟨[(0,.int .u64 (gx xs)),(1,vI (xs.length:Int)),(9,vP (n2+0) 0),(25,vS lb (o0*3) nl c0),(26,vI (nl:Int)),(27,vI (i_:Int))],[((n2+0),.lit [vI (aA xs.length:Int),.map (some (n1+0)),.map (some (n1+1))] 173 (0,0)),((n1+1),.obj (fY us uc)),((n1+0),.obj (iO ks cc))],[],i_ <= nl /\ PI xs (js.take i_) ks us,nl-i_⟩) (0,[],0,fh [] 0 ((aA xs.length:Int),0) (gx xs),eE ([]:NU) 0 ((aA xs.length:Int),0)) [0,1,2] [] (⟨aaU _,ME xs⟩) ?_;rintro⟨i_,ks,cc,us,uc⟩ ⟨Yu,V3⟩ mt4;refine ae 6 [] λ _=>aal ((i_:Int)<(nl:Int)) 28 (λ h5=>?_) λ h5=>?_
 ·refine ae 6 [] λ _=>?_;obtain⟨jj,pb,po,pN,pf_,pc,hjs,hjj,hje,hpb,UA,iS⟩:=hls.get (k:=i_) (by omega);refine ai 3 [.ix i_,.rorow 0 (o0+i_) 0,.rorow 0 (o0+i_) 1,.rorow 0 (o0+i_) 2] [((o0*3+i_*3)+2)=(o0+i_)*3+2 /\ (o0+i_)<N0,((o0*3+i_*3)+1)=(o0+i_)*3+1 /\ (o0+i_)<N0,(o0*3+i_*3)=(o0+i_)*3+0 /\ (o0+i_)<N0,(i_:Int)=((i_:Nat):Int) /\ i_<nl] λ _=>aS 30 (congrArg (λ v_:Lf=>Value.agg #[vI v_.i,vI v_.v,.slice v_.A v_.n v_.c]) ((hfd i_ (by omega)).trans hje))<|ae 10 (ow 0 6) λ n6=>aah (Ah (gx xs) (xs.getD jj 0) xs.length pb po pN pc jj pf_ (cV xs jj) _ hl hjj (aq hpb) UA iS)<|ae 3 [] λ _=>cD 35 (nt (abA (FX hl hjj)))<|ae 5 [] λ _=>aak [] []<|ag [] [0,4,1,5,2,3] [.own 0,.own 1] ?_;rcases V3.look jj with hl_|hl_
  ·refine aae 6 (Ag 3 (us:=ks) (cl:=cc) (k:=(jj:Int)) (v:=.tuple #[vI 0,.bool false]) (by rw[hl_];rfl) ?_);refine ag [] [7,8,9,10,11] []<|aad<|ae 18 (aab 3) λ _=>aai [2,3] [] (wa (n2+0) (n1+0) (n1+1) (aA xs.length) jj uc cc pb po pN pc (xs.getD jj 0) us ks pf_ (cV xs jj) _ (au 1) (aq hpb) UA iS (by omega) (by omega)) ?_;rintro _ ⟨⟩ _;refine ai 7 [.nw] [bm ((i_:Int)+1)] λ _=>aS 27 (congrArg (λ v_=>(vI v_:Value)) (show (i_:Int)+1=((i_+1:Nat):Int) by omega)) ?_;refine mt4 (i_+1,(fh ks cc (jj:Int) (xs.getD jj 0)),(eE ks cc (jj:Int)),((di jj (cV xs jj) us uc (aI (jj:Int) (xs.getD jj 0)) (aA xs.length)).1),((di jj (cV xs jj) us uc (aI (jj:Int) (xs.getD jj 0)) (aA xs.length)).2)) [3,0,1] [] ?_
   try dsimp only
   exact⟨⟨by omega,by rw[hjs];exact V3.learn hl hjj _ _⟩,by omega⟩
  ·refine aae 6 (Ag 3 (us:=ks) (cl:=cc) (k:=(jj:Int)) (v:=.tuple #[vI (xs.getD jj 0),.bool true]) (by rw[hl_];rfl) ?_);refine ag [] [7,8,9,10,11] []<|aad<|ae 12 [.own 0] λ _=>cD 52 (nt (abA (rfl:xs.getD jj 0=xs.getD jj 0)))<|ae 6 (aab 3) λ _=>aai [2,3] [] (wa (n2+0) (n1+0) (n1+1) (aA xs.length) jj uc cc pb po pN pc (xs.getD jj 0) us ks pf_ (cV xs jj) _ (au 1) (aq hpb) UA iS (by omega) (by omega)) ?_;rintro _ ⟨⟩ _;refine ai 7 [.nw] [bm ((i_:Int)+1)] λ _=>aS 27 (congrArg (λ v_=>(vI v_:Value)) (show (i_:Int)+1=((i_+1:Nat):Int) by omega)) ?_;refine mt4 (i_+1,(fh ks cc (jj:Int) (xs.getD jj 0)),(eE ks cc (jj:Int)),((di jj (cV xs jj) us uc (aI (jj:Int) (xs.getD jj 0)) (aA xs.length)).1),((di jj (cV xs jj) us uc (aI (jj:Int) (xs.getD jj 0)) (aA xs.length)).2)) [3,0,1] [] ?_
   try dsimp only
   exact⟨⟨by omega,by rw[hjs];exact V3.learn hl hjj _ _⟩,by omega⟩
 ·refine ae 13 [] λ _=>aap [] [0,2,1] [] (v:=.tuple #[vP (n2+0) 0,vI 0]) (H':=(ap [((n2+0),.lit [vI (aA xs.length:Int),.map (some (n1+0)),.map (some (n1+1))] 173 (0,0)),((n1+0),.obj (iO ks cc)),((n1+1),.obj (fY us uc))] [])) ?_;obtain rfl:i_=nl:=by omega
  rw[List.take_of_length_le (by rw[<- hls.len];omega)] at V3;exact⟨(((n2+0),(n1+0),(n1+1)),(ks,cc,us,uc)),rfl,rfl,V3⟩
def Setup.std(S:Setup):Setup:={ S with bo:=0,bods:=je S }
theorem tQ(S:Setup):SetEq S S.std:=⟨⟨rfl,rfl,rfl,rfl,rfl,rfl,rfl,rfl,rfl,rfl,rfl,rfl⟩,λ k hk=>⟨(S.body k).sh.A,(S.body k).sh.cap,by
 show (je S).getD (0+k) dB=_;rw[Nat.zero_add,gG hk];rfl⟩,rfl,gj S⟩
section
variable {S S2:Setup} {J:Nat -> Nat × Int} {xss:List (List Inp)} {n:Nat}
theorem F5{α:Type}{l:List α}{i:Nat}(h:i<l.length)(d:α):l.take (i+1)=l.take i++[l.getD i d]:=by
 rw[List.take_add_one,aa3 h,aaK,aa3 h];rfl
end
def m8(on:Bool)(tr ix v:Int)(k:Nat)(M:MemS):MemS:=if on=true then (if (k:Int)=tr then M.set ix v else M) else M
theorem DL(tr ix v:Int)(k:Nat)(M:MemS):m8 false tr ix v k M=M:=rfl
def nD(g:Gm)(f:Nat -> MemS -> MemS):Nat -> Nat -> MemS -> MemS
 | 0,_,M=>M
 | n+1,k,M=>nD g f n (k+1) (eR g (f k M))
def ut(g:Gm)(f:Nat -> MemS -> MemS):Nat -> Nat -> MemS -> Prop
 | 0,_,_=>False
 | n+1,k,M=>mX (f k M) /\ ((n=0 /\ gS g (f k M)=true) \/ (gS g (f k M)=false /\ ut g f n (k+1) (eR g (f k M))))
def PF(g:Gm)(f:Nat -> MemS -> MemS):Nat -> Nat -> MemS -> Nat
 | 0,_,_=>0
 | n+1,k,M=>if gS g (f k M)=true then 0 else PF g f n (k+1) (eR g (f k M))+1
theorem JW{g:Gm}{f:Nat -> MemS -> MemS}:∀ (m n k:Nat) (M:MemS),ut g f (m+1) k M -> m<n -> PF g f n k M=m
 | m,0,_,_,_,h=>by omega
 | 0,n+1,k,M,h,_=>by
  rcases h.2 with ⟨_,e⟩|⟨_,e⟩
  ·rw[PF,if_pos e]
  ·exact e.elim
 | m+1,n+1,k,M,h,hn=>by
  rcases h.2 with ⟨e,_⟩|⟨e1,e2⟩
  ·omega
  ·rw[PF,if_neg (by rw[e1];simp),JW m n _ _ e2 (by omega)]
theorem DM(g:Gm)(a b c:Int):∀ (n k:Nat) (M:MemS),nD g (m8 false a b c) n k M=eI g n M
 | 0,_,_=>rfl
 | n+1,k,M=>by rw[nD,DL,eI,DM g a b c n]
theorem xq(g:Gm)(a b c:Int):∀ (n k:Nat) (M:MemS),ut g (m8 false a b c) n k M↔cH g n M
 | 0,_,_=>Iff.rfl
 | n+1,k,M=>by rw[ut,DL,cH,xq g a b c n]
theorem DN(g:Gm)(f:Nat -> MemS -> MemS):∀ (a b k:Nat) (M:MemS),nD g f (a+b) k M=nD g f b (k+a) (nD g f a k M)
 | 0,b,k,M=>by rw[Nat.zero_add];rfl
 | a+1,b,k,M=>by
  rw[show a+1+b=(a+b)+1 by omega,nD,nD,DN g f a b (k+1),show k+1+a=k+(a+1) by omega]
theorem pC(g:Gm)(f:Nat -> MemS -> MemS)(a k:Nat)(M:MemS):nD g f (a+1) k M=eR g (f (k+a) (nD g f a k M)):=by rw[DN g f a 1];rfl
def JX(S:Setup)(ix:Int):Prop:=(32 <= ix /\ ix<48) \/ 48+4*S.players <= ix
theorem TV.ch{S:Setup}{ins:Nat -> Inp}{M:MemS}(hS:SetV S)(h:TV S ins M){ix:Int}(v:Int)(hc:JX S ix):TV S ins (M.set ix v) /\ kC S (M.set ix v)=kC S M /\ (M.set ix v).get 0=M.get 0:=by
 have hp:=hS.pl;have u_:∀j:Int,j<32 \/ (48 <= j /\ j<48+4*S.players) -> (M.set ix v).get j=M.get j:=λ j hj=>bj (by rcases hc with hc|hc <;> omega);have g0:=u_ 0 (by omega);have g1:=u_ 1 (by omega);have g2:=u_ 2 (by omega);have g3:=u_ 3 (by omega);have g4:=u_ 4 (by omega);have g8:=u_ 8 (by omega);have g11:=u_ 11 (by omega);refine⟨⟨by rw[aK];exact h.len,by rw[g0];exact h.t0,by rw[g1,g2,g3,g4,g8];exact h.ct,λ q hq=>?_,?_⟩,?_,g0⟩
 ·rw[g1,g2] at hq;have S0:(q:Int)<S.players:=by
   rcases h.ct with k|k|k|k|k|k|k|k <;> (split at hq <;> omega)
  rw[u_ _ (by omega),u_ _ (by omega),u_ _ (by omega)];exact h.pl q hq
 ·rw[show B4 (M.set ix v)=B4 M by unfold B4;rw[g1,g2],g11];exact h.ec
 ·unfold kC;rw[g1,g2,g3,g4,g8]
theorem NS{S:Setup}(hS:SetV S){g:Gm}(hg:g.S=S){ins:Nat -> Inp}(hi:∀q:Nat,(q:Int)<S.players -> g.ins.getD (g.io+q) dI=ins q)(Tz:S.players <= g.ni){f:Nat -> MemS -> MemS}(hf:∀k M,TV S ins M -> TV S ins (f k M) /\ kC S (f k M)=kC S M /\ (f k M).get 0=M.get 0):∀ (n k:Nat) (M:MemS),TV S ins M -> kC S M <= n ->
  ∃m,m+1 <= n /\ ut g f (m+1) k M /\ (∀j:Int,1 <= j -> j <= 10 -> (nD g f (m+1) k M).get j=0) /\ ((nD g f (m+1) k M).cs.length:Int)=sizeOf S /\ (nD g f (m+1) k M).get 0=M.get 0+1
 | 0,k,M,h,hl=>by
  have:=xi hS.pl ⟨by have:=hS.nb;omega,by have:=hS.nb;omega⟩ hS.ro h.ct;unfold kC at hl;omega
 | n+1,k,M,h,hl=>by
  obtain⟨hv,hlf,h0⟩:=hf k M h;obtain⟨Tw,⟨e1,hx⟩|⟨e1,hx,hem,hst,TZ⟩⟩:=NK hS hg hi Tz hv
  ·obtain⟨m,hm,k1,k2,k3,k4⟩:=NS hS hg hi Tz hf n (k+1) (eR g (f k M)) hx.tv (by have h_:kC S (eR g (f k M))<kC S (f k M):=hx.lt;omega);refine⟨m+1,by omega,⟨Tw,.inr ⟨e1,k1⟩⟩,k2,k3,?_⟩;rw[nD,k4,hx.t0,h0]
  ·exact⟨0,by omega,⟨Tw,.inl ⟨rfl,e1⟩⟩,hx.z,hx.len,by rw[nD,nD];rw[hx.t0,h0]⟩
def WC(S:Setup)(J:Nat -> Nat × Int)(xss:List (List Inp))(f:Nat -> Nat -> MemS -> MemS)(c0:List Int):Nat -> List Int
 | 0=>c0
 | t+1=>(nD (eU S (J t) (xss.getD t [])) (f t) (PF (eU S (J t) (xss.getD t [])) (f t) 1000 0 ⟨WC S J xss f c0 t,[],0⟩+1) 0 ⟨WC S J xss f c0 t,[],0⟩).cs
abbrev LC(S:Setup)(J:Nat -> Nat × Int)(xss:List (List Inp))(f:Nat -> Nat -> MemS -> MemS)(c0:List Int)(t:Nat):Nat:=PF (eU S (J t) (xss.getD t [])) (f t) 1000 0 ⟨WC S J xss f c0 t,[],0⟩
abbrev fC(ct tr ix v:Int):Nat -> Nat -> MemS -> MemS:=λ t=>m8 (decide ((t:Int)=ct)) tr ix v
theorem Rt{S:Setup}(hS:SetV S){ct tr ix:Int}(v:Int)(hc:ct<0 \/ JX S ix)(t:Nat){ins:Nat -> Inp}(k:Nat)(M:MemS)(h:TV S ins M):TV S ins (fC ct tr ix v t k M) /\ kC S (fC ct tr ix v t k M)=kC S M /\ (fC ct tr ix v t k M).get 0=M.get 0:=by
 unfold fC m8;split
 ·next e =>
  have e:=abq e;split
  ·exact TV.ch hS h v (hc.resolve_left (by omega))
  ·exact⟨h,rfl,rfl⟩
 ·exact⟨h,rfl,rfl⟩
theorem Ru{S:Setup}(hS:SetV S){J:Nat -> Nat × Int}{xss:List (List Inp)}{n:Nat}(hn:n <= 900)(hr:∀i,i<n -> lF S.players (xss.getD i [])){ct tr ix:Int}(v:Int)(hc:ct<0 \/ JX S ix){c0:List Int}(h0:TE2 S 0 ⟨c0,[],0⟩):∀t,t <= n -> TE2 S (t:Int) ⟨WC S J xss (fC ct tr ix v) c0 t,[],0⟩ /\ (t<n -> LC S J xss (fC ct tr ix v) c0 t <= 649 /\ ut (eU S (J t) (xss.getD t [])) (fC ct tr ix v t) (LC S J xss (fC ct tr ix v) c0 t+1) 0 ⟨WC S J xss (fC ct tr ix v) c0 t,[],0⟩):=by
 have key:∀t,t<n -> TE2 S (t:Int) ⟨WC S J xss (fC ct tr ix v) c0 t,[],0⟩ -> (LC S J xss (fC ct tr ix v) c0 t <= 649 /\ ut (eU S (J t) (xss.getD t [])) (fC ct tr ix v t) (LC S J xss (fC ct tr ix v) c0 t+1) 0 ⟨WC S J xss (fC ct tr ix v) c0 t,[],0⟩) /\ TE2 S ((t+1:Nat):Int) ⟨WC S J xss (fC ct tr ix v) c0 (t+1),[],0⟩:=λ t ht hT=>by
  have Tc:=hr t ht;obtain⟨h1,h2,h3⟩:=hT.tv hS (by omega) (λ q=>(eU S (J t) (xss.getD t [])).ins.getD ((eU S (J t) (xss.getD t [])).io+q) dI);have hb:=tE hS;obtain⟨m,a1,a2,a3,a4,a5⟩:=NS hS (g:=eU S (J t) (xss.getD t [])) rfl (λ _ _=>rfl) (by show S.players <= ((xss.getD t []).length:Int);have:=Tc.1;omega) (λ k M h=>Rt hS v hc t k M h) (l0 S.players S.nb S.rounds 0).toNat 0 _ h1 (by omega);have e:LC S J xss (fC ct tr ix v) c0 t=m:=JW m 1000 0 _ a2 (by omega);refine⟨⟨by omega,by rw[e];exact a2⟩,?_⟩;have ew:WC S J xss (fC ct tr ix v) c0 (t+1)=(nD (eU S (J t) (xss.getD t [])) (fC ct tr ix v t) (m+1) 0 ⟨WC S J xss (fC ct tr ix v) c0 t,[],0⟩).cs:=by rw[WC,show PF (eU S (J t) (xss.getD t [])) (fC ct tr ix v t) 1000 0 ⟨WC S J xss (fC ct tr ix v) c0 t,[],0⟩=m from e]
  rw[hT.t0] at a5;refine⟨by rw[ew];exact a4,λ j h1 h2=>?_,?_⟩
  ·rw[ew];exact a3 j h1 h2
  ·rw[ew,show (⟨(nD (eU S (J t) (xss.getD t [])) (fC ct tr ix v t) (m+1) 0 ⟨WC S J xss (fC ct tr ix v) c0 t,[],0⟩).cs,[],0⟩:MemS).get 0=(nD (eU S (J t) (xss.getD t [])) (fC ct tr ix v t) (m+1) 0 ⟨WC S J xss (fC ct tr ix v) c0 t,[],0⟩).get 0 from rfl,a5];omega
 have hT:∀t,t <= n -> TE2 S (t:Int) ⟨WC S J xss (fC ct tr ix v) c0 t,[],0⟩:=λ t=>by
  induction t with
  | zero=>exact λ _=>h0
  | succ t ih=>exact λ h=>(key t (by omega) (ih (by omega))).2
 exact λ t ht=>⟨hT t ht,λ h=>(key t h (hT t ht)).1⟩
theorem JY{g g':Gm}(h:GEq g g')(f:Nat -> MemS -> MemS):∀ (n k:Nat) (M:MemS),nD g f n k M=nD g' f n k M
 | 0,_,_=>rfl
 | n+1,k,M=>by rw[nD,nD,eR,eR,nP h,JY h f n]
theorem JZ{g g':Gm}(h:GEq g g')(f:Nat -> MemS -> MemS):∀ (n k:Nat) (M:MemS),ut g f n k M↔ut g' f n k M
 | 0,_,_=>Iff.rfl
 | n+1,k,M=>by rw[ut,ut,eR,eR,nP h,Bc h,JZ h f n]
def XW(S:Setup)(J:Nat -> Nat × Int)(xss:List (List Inp))(ct tr ix v:Int):Nat -> List Int:=WC S.std J xss (fC ct tr ix v) (bJ S S.nb)
def XN(S:Setup)(J:Nat -> Nat × Int)(xss:List (List Inp))(ct tr ix v:Int):Nat -> Nat:=LC S.std J xss (fC ct tr ix v) (bJ S S.nb)
structure XTk(S:Setup)(g:Gm)(t:Nat)(ct tr ix v:Int)(W:Nat -> List Int)(L:Nat -> Nat):Prop where
 le:L t <= 649
 gd:ut g (fC ct tr ix v t) (L t+1) 0 ⟨W t,[],0⟩
 next:(nD g (fC ct tr ix v t) (L t+1) 0 ⟨W t,[],0⟩).cs=W (t+1)
 len:((W t).length:Int)=sizeOf S /\ ((W (t+1)).length:Int)=sizeOf S
 te:TE2 S (t:Int) ⟨W t,[],0⟩
theorem NT{S:Setup}(hV:SetV S){J:Nat -> Nat × Int}{xss:List (List Inp)}{n:Nat}(hn:n <= 900)(hr:∀i,i<n -> lF S.players (xss.getD i [])){ct tr ix:Int}(v:Int)(hc:ct<0 \/ JX S ix){S3:Setup}(h3:SetEq S S3){t:Nat}(ht:t<n):XTk S (eU S3 (J t) (xss.getD t [])) t ct tr ix v (XW S J xss ct tr ix v) (XN S J xss ct tr ix v):=by
 have hS:=(tQ S).setV hV;have hw:=Ru hS hn (J:=J) (xss:=xss) hr (tr:=tr) v (show ct<0 \/ JX S.std ix from hc) (JI hV (tQ S));obtain⟨h1,h2⟩:=hw t (by omega);obtain⟨h4,h5⟩:=h2 ht;have eg:=JF (tQ S) h3 J xss t;refine⟨h4,(JZ eg _ _ _ _).1 h5,?_,⟨h1.len,(hw (t+1) (by omega)).1.len⟩,⟨h1.len,h1.z,h1.t0⟩⟩;rw[<- JY eg];rfl
end Go.Proofs.YtghjbimijeinfaaGreatDoor
