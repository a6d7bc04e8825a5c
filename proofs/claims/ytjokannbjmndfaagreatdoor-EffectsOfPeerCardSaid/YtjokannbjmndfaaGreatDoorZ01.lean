import Derived.Test.YtjokannbjmndfaaGreatDoorZ00
set_option linter.all false
set_option maxHeartbeats 4000000
set_option maxRecDepth 100000
namespace Go.Proofs.YtjokannbjmndfaaGreatDoor
open IntKind
open Go.RowKit
variable {AS ss:SS} {D:List Deferred} {N n0:Nat} {P:Program} {a:Act} {i:TypeInfo} {kt t:TypeId} {o:Oper} {α:Type} {ρ:Operand->Value}
abbrev FL:=List (Nat×Value)
structure Fm(N:Nat)(D:List Deferred)(L:FL)(a:Act):Prop where
 size:a.tmps.size=N
 defs:a.defers=D
 has:∀t v,L.lookup t=some v->a.tmps[t]?=some v
def cN(L:FL):Operand->Value
 | .tmp t=>(L.lookup t).getD undef
 | .const v=>v
 | .global g=>.pointer (some ⟨g,0,none⟩)
 | .func f=>.func (.func f) #[] #[]
def dw(L:FL):Operand->Bool
 | .tmp t=>(L.lookup t).isSome
 |_=>true
theorem Fm.eval{L:FL}(h:Fm N D L a){x:Operand}(hx:dw L x=true):a.eval x=cN L x:=by
 cases x with
 |tmp t=>
  simp only[dw,adb] at hx;obtain⟨v,hv⟩:=hx;simp[Act.eval,cN,hv,h.has t v hv]
 |_=>rfl
def bV:Op->Option (List Operand)
 | .alloc _=>some []
 | .move x | .assign x | .box _ x | .load _ x | .nilCheck x | .unOp _ _ x | .convert _ _ x | .sliceToArrayPointer _ x | .makeInterface _ x | .fieldAddr _ x _ | .field _ x _ | .typeAssert x _ _ _ | .extract x _ | .range _ x | .next x _=>some [x]
 | .pick c a b=>some [c,a,b]
 | .build _ ps | .buildSlice _ _ ps=>some (ps.toList.map (·.2))
 | .store _ a v | .binOp _ _ a v _ | .makeSlice _ a v | .indexAddr _ a v | .index _ a v | .lookup _ a v _=>some [a,v]
 | .makeFunc _ first captured=>some (first.toList++captured.toList)
 | .makeMap _ r=>some r.toList
 | .slice _ x l h m=>some (x::(l.toList++(h.toList++m.toList)))
 | .mapUpdate _ m k v=>some [m,k,v]
 | .insert _ m k v=>some [m,k,v]
 | .call c=>some ((match c.callee with | .value f=>[f] | .invoke r _=>[r] | .builtin _=>[])++c.args.toList)
 |_=>none
theorem t7{o:Op}{l:List Operand}(h:bV o=some l):(∀x∈o.operands,x∈l)/\∀cs b,o≠ .select cs b:=by
 cases o <;> simp only[bV,de,reduceCtorEq] at h <;> subst h <;> refine⟨?_,by simp⟩ <;> intro x hx <;> simp[Op.operands,Call.operands] at hx ⊢ <;>
  first
   |done
   |exact hx
   | (rename_i c;obtain⟨callee,args,ats⟩:=c;cases callee <;> simp_all)
   |skip
def iP(o:Op)(L:FL):Bool:=match bV o with
 |some l=>l.all (dw L)
 |none=>false
theorem Fm.exec{L:FL}(h:Fm N D L a)(ho:iP o.op L=true):execOp a.eval o=execOp (cN L) o:=by
 unfold iP at ho;split at ho
 ·rename_i l hl;obtain⟨h1,h2⟩:=t7 hl;exact execOp_congr o h2 λ x hx=>h.eval (adt.1 ho x (h1 x hx))
 ·cases ho
def cD(N:Nat)(dst:Option Tmp)(v:Value)(L:FL):Option FL:=match dst with
 |none=>some L
 |some d=>match decide (d<N) with
  |true=>some ((d,v)::L)
  |false=>none
theorem Fm.put{L L':FL}(h:Fm N D L a){dst:Option Tmp}{v:Value}(hp:cD N dst v L=some L'):Fm N D L' (a.put dst v):=by
 unfold cD at hp;cases dst with
 |none=>cases hp;exact h
 |some d=>
  simp only at hp;split at hp
  ·rename_i hd;cases hp;have Ws:d<N:=abh hd;refine⟨by simp[Act.put,h.size],h.defs,?_⟩;intro t u ht;simp only[Act.put];rw[adh] at ht
   by_cases e:t=d
   ·subst e;simp at ht;subst ht;rw[lv (by rw[h.size];exact Ws)]
   ·rw[vo (λ e'=>e e'.symm)];have:(t == d)=false:=by simpa using e
    rw[this] at ht;exact h.has t u ht
  ·cases hp
def t8(keys:List Nat)(L:FL):Option FL:=match keys with
 | []=>some []
 |t::ks=>match L.lookup t,t8 ks L with
  |some v,some l=>some ((t,v)::l)
  |_,_=>none
theorem nL{L:FL}:∀ {keys:List Nat} {L':FL},t8 keys L=some L'->∀t v,L'.lookup t=some v->L.lookup t=some v
 | [],L',h,t,v,hl=>by rw[t8] at h;cases h;cases hl
 |k::ks,L',h,t,v,hl=>by
  rw[t8] at h;split at h
  ·rename_i u l hu hp;cases h;rw[adh] at hl
   by_cases e:t=k
   ·subst e;simp at hl;subst hl;exact hu
   ·have:(t == k)=false:=by simpa using e
    rw[this] at hl;exact nL hp t v hl
  ·cases h
theorem Fm.pick{L L':FL}(h:Fm N D L a){keys:List Nat}(hp:t8 keys L=some L'):Fm N D L' a :=
 ⟨h.size,h.defs,λ t v ht=>h.has t v (nL hp t v ht)⟩
def tu(a:Addr)(n:Nat):Addr:=⟨a.block,a.off+n,none⟩
theorem gH{a:Addr}(h:a.spot=none)(n:Nat):a.add n=tu a n:=by
 unfold Addr.add tu;split
 ·subst n;cases a;simp at h;subst h;rfl
 ·rfl
def Ea(ρ:Operand->Value)(x:Option Operand)(n d:Nat):Prop:=match x with
 |some v=>match ρ v with
  | .int _ z=>z=(n:Int)
  |_=>False
 |none=>n=d
theorem iQ{lo hi:Option Operand}{l h len cap:Nat}(o1:Ea ρ lo l 0)(o2:Ea ρ hi h len)(o3:l<=h)(o4:h<=cap)(W:World) :
  (Instr.sliceBounds true len cap (lo.map ρ) (hi.map ρ) none).run P W=.ok (l,h,cap) W:=by
 have b1:∀ (k:IntKind) (y n:Nat) (c:BoundsCode),n<=y->(Instr.sliceBound (.int k (n:Int)) y c).run P W=.ok n W:=by
  intro k y n c hny;simp[Instr.sliceBound,asIntOf,hny,go_sem]
 have g:∀ (x:Option Operand) (n d:Nat),Ea ρ x n d->(x=none/\n=d)\/∃v k,x=some v/\ρ v=.int k (n:Int):=by
  intro x n d hb;cases x with
  |none=>exact .inl ⟨rfl,hb⟩
  |some v=>
   right;unfold Ea at hb;simp only at hb;cases hv:ρ v <;> rw[hv] at hb <;> simp only at hb
   exact⟨v,_,rfl,by rw[hv,hb]⟩
 unfold Instr.sliceBounds;rcases g _ _ _ o1 with ⟨rfl,rfl⟩|⟨v,k,rfl,hv⟩ <;> rcases g _ _ _ o2 with ⟨rfl,rfl⟩|⟨v',k',rfl,hv'⟩
 ·simp[abg]
 ·simp[abg,hv',b1,o4]
 ·simp[abg,hv,b1,o3]
 ·simp[abg,hv,hv',b1,o3,o4]
def CG(P:Program)(t:TypeId)(cs:Array Value)(off:Nat):Option Value:=match P.underlying t with
 |some (.struct _)=>match P.info? t with
  |some i=>some (.agg (cs.extract off (off+i.size)))
  |none=>none
 |some (.array _ _)=>match P.info? t with
  |some i=>some (.agg (cs.extract off (off+i.size)))
  |none=>none
 |some _=>cs[off]?
 |none=>none
def QB(P:Program)(rec:TypeId->Value->Value->Option Bool)(xs ys:Array Value):List Field->Option Bool
 | []=>some true
 | f :: fs=>match decide (f.name="_") with
  |true=>QB P rec xs ys fs
  |false=>match CG P f.type xs f.offset,CG P f.type ys f.offset with
   |some a,some b=>match rec f.type a b,QB P rec xs ys fs with
    |some r,some r'=>some (r && r')
    |_,_=>none
   |_,_=>none
def Qs(P:Program):Nat->TypeId->Value->Value->Option Bool
 |0,_,_,_=>none
 |d+1,t,x,y=>match P.underlying t,x,y with
  |some (.int _),.int k a,.int k' b=>match decide (k=k') with
   |true=>some (decide (a=b))
   |false=>none
  |some .bool,.bool a,.bool b=>some (a == b)
  |some (.struct fs),.agg xs,.agg ys=>match P.stoodInHeld t with
   |false=>QB P (Qs P d) xs ys fs.toList
   |true=>none
  |_,_,_=>none
theorem xr{cs:Array Value}{off:Nat}{v:Value}(h:CG P t cs off=some v)(w:World):(part t cs off).run P w=.ok v w:=by
 have und:∀d,P.underlying t=some d->∀W,(underlying t).run P W=.ok d W:=λ d hd W=>by simp[underlying,program,bind,Sem.bind,Sem.run,hd,pure]
 have inf:∀i,P.info? t=some i->∀W,(typeInfo t).run P W=.ok i W:=λ i hd W=>by simp[typeInfo,program,bind,Sem.bind,Sem.run,hd,pure]
 unfold CG at h;split at h
 ·rename_i fs hu;split at h
  ·rename_i i hi;cases h;simp[part,isAgg,abg,und _ hu,sizeOf,inf _ hi]
  ·cases h
 ·rename_i n e hu;split at h
  ·rename_i i hi;cases h;simp[part,isAgg,abg,und _ hu,sizeOf,inf _ hi]
  ·cases h
 ·rename_i d h1 h2 hu;have hag:(isAgg t).run P w=.ok false w:=by
   unfold isAgg;rw[abg,und _ hu];simp only[abf];cases d <;> first|rfl|exact(h1 _ rfl).elim|exact(h2 _ _ rfl).elim
  simp[part,abg,hag,h]
 ·cases h
theorem CH{P:Program}:∀ (d:Nat) (t:TypeId) (x y:Value) (b:Bool) (w:World),Qs P d t x y=some b->(Op.equalIn d t x y).run P w=.ok b w
 |0,t,x,y,b,w,h=>by simp[Qs] at h
 |d+1,t,x,y,b,w,h=>by
  unfold Qs at h;split at h
  case h_1=>
   rename_i k1 k a k' b' hu;split at h
   ·rename_i hk;cases h;have:k=k':=abh hk;subst this;rw[run_equalIn_int w d t k k1 a b' hu];rfl
   ·cases h
  case h_2=>
   rename_i a b' hu;cases h;exact run_equalIn_bool' w d t a b' hu
  case h_3=>
   rename_i fs xs ys hu;split at h
   ·rename_i hs;have hf:P.fieldsOf t=fs:=by simp[Program.fieldsOf,hu]
    rw[run_equalIn_agg w d t xs ys (by rw[hf];exact hu) hs,hf];revert h;generalize fs.toList=l;clear hu hf
    induction l generalizing b with
    |nil=>intro h;simp[QB] at h;subst h;simp[Op.eqFields]
    |cons f fs ih=>
     intro h;rw[QB] at h;split at h
     ·rename_i hn;have ZT:f.name="_":=abh hn;rw[Op.eqFields,if_neg (by simp[ZT])];exact ih _ h
     ·rename_i hn;have ZT:¬ f.name="_":=of_decide_eq_false hn;split at h
      ·rename_i u v hu hv;split at h
       ·rename_i r r' hr Zl;cases h;rw[Op.eqFields,if_pos ZT];simp only[abg,xr hu,xr hv,abf,CH d _ _ _ _ w hr];cases r
        ·simp
        ·simpa using ih _ Zl
       ·cases h
      ·cases h
   ·cases h
  case h_4=>cases h
def GS(s:ByteArray)(j:Nat):Int:=((s[j]?).getD 0).toNat
theorem nM(k:Program->Sem α)(w:World):((program >>=k):Sem α).run P w=(k P).run P w:=rfl
theorem cL(h:P.info? t=some i)(w:World):(typeInfo t).run P w=.ok i w:=by
 simp[typeInfo,program,bind,Sem.bind,Sem.run,h,pure]
theorem aE{i:TypeDesc}(h:P.underlying t=some i)(w:World):(underlying t).run P w=.ok i w:=by
 simp[underlying,program,bind,Sem.bind,Sem.run,h,pure]
theorem GT{a b:ByteArray}:(a == b)=true↔a=b:=by
 obtain⟨a⟩:=a;obtain⟨b⟩:=b;show (a == b)=true↔_;simp
theorem LA{a:ByteArray}:(a == a)=true:=GT.2 rfl
def xt:Nat->List (ByteArray×Value)->List MapEntry
 |_,[]=>[]
 |i,(k,v)::l=>{ key:=.string k,val:=v,born:=i }::xt (i+1) l
abbrev GU(kv:List (ByteArray×Value)):Obj:=.map ⟨xt 0 kv⟩ kv.length
def vH:List (ByteArray×Value)->ByteArray->Option Value
 | [],_=>none
 | (k',v)::l,k=>if (k == k')=true then some v else vH l k
def Ay:List (ByteArray×Value)->ByteArray->Nat->Option (Nat×Value)
 | [],_,_=>none
 | (k',v)::l,k,i=>if (k == k')=true then some (i,v) else Ay l k (i+1)
theorem ua(k:ByteArray):∀ (kv:List (ByteArray×Value)) (b i:Nat),Instr.findNow .string (.string k) (xt b kv) i=some (Ay kv k i)
 | [],_,_=>rfl
 | (k',v)::l,b,i=>by
  rw[xt,Instr.findNow,Ay];simp only[Instr.sameNow];cases h:(k == k') with
  |true=>simp
  |false=>simp[ua k l (b+1) (i+1)]
theorem xu(k:ByteArray):∀ (kv:List (ByteArray×Value)) (i:Nat),(Ay kv k i).map (·.2)=vH kv k
 | [],_=>rfl
 | (k',v)::l,i=>by
  rw[Ay,vH];split
  ·rfl
  ·exact xu k l (i+1)
theorem Eb(hk:P.underlying kt=some .string)(k:ByteArray)(kv:List (ByteArray×Value))(b:Nat)(w:World):(Instr.findKey kt (.string k) (xt b kv)).run P w=.ok (Ay kv k 0) w:=by
 unfold Instr.findKey;rw[abg,aE hk];simp only[Result.andThen,ua];rfl
theorem Az(hk:P.underlying kt=some .string)(e:Bool)(k:ByteArray)(w:World):(Instr.checkKey e 10000 kt (.string k)).run P w=.ok () w:=by
 rw[show (10000:Nat)=9999+1 from rfl,Instr.checkKey.eq_def];simp only;rw[abg,aE hk];rfl
theorem b7(a:α)(w:World):((pure a:Sem α)).run P w=.ok a w:=rfl
theorem gh{w:World}{r:Nat}{es:Array MapEntry}{c:Nat}(h:w.heap[r]?=some (.map es c)):(getObj r).run P w=.ok (.map es c) w:=by
 unfold getObj;rw[acW];simp only[h];rfl
theorem AA{w:World}{et:TypeId}{b:Nat}{kv:List (ByteArray×Value)}{k:ByteArray}{z:Value}(ok:Bool)(ht:P.underlying t=some (.map kt et))(hk:P.underlying kt=some .string)(hi:P.info? et=some i)(hz:i.zero=some z)(hb:w.heap[b]?=some (GU kv)) :
  (Instr.lookup t (.map (some b)) (.string k) ok).run P w=.ok (if ok=true then .tuple #[(vH kv k).getD z,.bool (vH kv k).isSome] else (vH kv k).getD z) w:=by
 unfold Instr.lookup;rw[abg,aE ht];simp only[Result.andThen,abg,gh hb,b7,Az hk,Eb hk];rw[<- xu k kv 0];cases h:Ay kv k 0 with
 |some x=>
  obtain⟨j,v⟩:=x;cases ok <;> rfl
 |none=>
  simp only[zeroValue,abg,cL hi,Result.andThen,hz,b7];cases ok <;> rfl
abbrev lkV(kv:List (ByteArray×Value))(k:ByteArray)(ok:Bool)(z:Value):Value:=if ok=true then .tuple #[(vH kv k).getD z,.bool (vH kv k).isSome] else (vH kv k).getD z
theorem GV(a b:ByteArray):(a.toList == b.toList)=decide (a=b):=by
 rw[ByteArray.toList_eq,ByteArray.toList_eq,Bool.eq_iff_iff,decide_eq_true_iff,beq_iff_eq];constructor
 ·intro h;exact ByteArray.ext (afN.mp h)
 ·rintro rfl;rfl
def ev(P:Program)(n0:Nat)(o:Oper)(ρ:Operand->Value)(s:SS):Option (Next×SS) :=
 match o.op with
 | .indexAddr t x ix=>match s.hints with
  | .ix j::hs=>match P.underlying t,ρ x,ρ ix with
   |some (.slice elem),.slice (some a) len _,.int _ i=>match a.spot,P.info? elem with
    |none,some inf=>some (.value (.pointer (some (tu a (j*inf.size)))),{ s with hints:=hs,ob:=(i=(j:Int)/\j<len)::s.ob })
    |_,_=>none
   |some (.array len elem),.pointer (some a),.int _ i=>match a.spot,P.info? elem with
    |none,some inf=>some (.value (.pointer (some (tu a (j*inf.size)))),{ s with hints:=hs,ob:=(i=(j:Int)/\j<len)::s.ob })
    |_,_=>none
   |_,_,_=>none
  | .gen::hs=>bX P n0 (execOp ρ o) { s with hints:=hs }
  |_=>bX P n0 (execOp ρ o) s
 | .binOp op t x y _=>match s.hints with
  | .nw::hs=>match op,ρ x,ρ y with
   | .add,.int .i64 a,.int .i64 b=>some (.value (.int .i64 (a+b)),{ s with hints:=hs,ob:=(-9223372036854775808<=a+b/\a+b<=9223372036854775807)::s.ob })
   | .sub,.int .i64 a,.int .i64 b=>some (.value (.int .i64 (a-b)),{ s with hints:=hs,ob:=(-9223372036854775808<=a-b/\a-b<=9223372036854775807)::s.ob })
   | .mul,.int .i64 a,.int .i64 b=>some (.value (.int .i64 (a*b)),{ s with hints:=hs,ob:=(-9223372036854775808<=a*b/\a*b<=9223372036854775807)::s.ob })
   | .quo,.int .i64 a,.int .i64 b=>some (.value (.int .i64 (a/b)),{ s with hints:=hs,ob:=(0<=a/\0<b/\a<=9223372036854775807)::s.ob })
   | .rem,.int .i64 a,.int .i64 b=>some (.value (.int .i64 (a%b)),{ s with hints:=hs,ob:=(0<=a/\0<b/\a<=9223372036854775807)::s.ob })
   |_,_,_=>none
  | .dv::hs=>match op,ρ x,ρ y with
   | .quo,.int .i64 a,.int .i64 b=>some (.value (.int .i64 (i64.wrap (a.tdiv b))),{ s with hints:=hs,ob:=(b≠0)::s.ob })
   | .rem,.int .i64 a,.int .i64 b=>some (.value (.int .i64 (a.tmod b)),{ s with hints:=hs,ob:=(b≠0)::s.ob })
   | .shl,.int k a,.int _ b=>some (.value (.int k (k.wrap (a*2 ^ min b.toNat k.bits))),{ s with hints:=hs,ob:=(0<=b)::s.ob })
   | .shr,.int k a,.int _ b=>some (.value (.int k (a.fdiv (2 ^ min b.toNat k.bits))),{ s with hints:=hs,ob:=(0<=b)::s.ob })
   |_,_,_=>none
  | .sq::hs=>match op,ρ x,ρ y with
   | .eql,.agg xs,.agg ys=>match P.eqGuardType P.depth t,Qs P 10000 t (.agg xs) (.agg ys) with
    |false,some b=>some (.value (.bool b),{ s with hints:=hs })
    |_,_=>none
   | .neq,.agg xs,.agg ys=>match P.eqGuardType P.depth t,Qs P 10000 t (.agg xs) (.agg ys) with
    |false,some b=>some (.value (.bool (!b)),{ s with hints:=hs })
    |_,_=>none
   | .eql,.string a,.string b=>some (.value (.bool (decide (a=b))),{ s with hints:=hs })
   | .neq,.string a,.string b=>some (.value (.bool (!decide (a=b))),{ s with hints:=hs })
   |_,_,_=>none
  | .gen::hs=>bX P n0 (execOp ρ o) { s with hints:=hs }
  |_=>bX P n0 (execOp ρ o) s
 | .index t x ix=>match s.hints with
  | .ix j::hs=>match P.underlying t,ρ x,ρ ix with
   |some .string,.string b,.int _ i=>some (.value (.int .u8 (GS b j)),{ s with hints:=hs,ob:=(i=(j:Int)/\j<b.size)::s.ob })
   |_,_,_=>none
  | .gen::hs=>bX P n0 (execOp ρ o) { s with hints:=hs }
  |_=>bX P n0 (execOp ρ o) s
 | .unOp op t x=>match s.hints with
  | .nw::hs=>match op,ρ x with
   | .neg,.int .i64 a=>some (.value (.int .i64 (-a)),{ s with hints:=hs,ob:=(-9223372036854775807<=a/\a<=9223372036854775808)::s.ob })
   |_,_=>none
  | .gen::hs=>bX P n0 (execOp ρ o) { s with hints:=hs }
  |_=>bX P n0 (execOp ρ o) s
 | .slice t x lo hi mx=>match s.hints with
  | .sl l h e::hs=>match P.underlying t,ρ x,mx with
   |some (.slice elem),.slice a len cap,none=>match a,P.info? elem with
    |none,some inf=>some (.value (.slice none (h-l) (cap-l)),{ s with hints:=hs,ob:=(Ea ρ lo l 0/\Ea ρ hi h len/\l<=h/\h<=cap)::s.ob })
    |some a,some inf=>match a.spot with
     |none=>some (.value (.slice (some (match e with|true=>a|false=>tu a (l*inf.size))) (h-l) (cap-l)),{ s with hints:=hs,ob:=(Ea ρ lo l 0/\Ea ρ hi h len/\l<=h/\h<=cap/\(match e with|true=>cap=l|false=>cap≠l))::s.ob })
     |_=>none
    |_,_=>none
   |_,_,_=>none
  | .gen::hs=>bX P n0 (execOp ρ o) { s with hints:=hs }
  | .sl0 h::hs=>match P.underlying t,ρ x,lo,mx with
   |some (.slice elem),.slice a len cap,none,none=>match P.info? elem with
    |some inf=>some (.value (.slice a h cap),{ s with hints:=hs,ob:=(Ea ρ hi h len/\h<=cap)::s.ob })
    |none=>none
   |_,_,_,_=>none
  |_=>bX P n0 (execOp ρ o) s
 | .makeSlice t x y=>match s.hints with
  | .mk l c::hs=>match P.underlying t,ρ x,ρ y with
   |some (.slice elem),.int .i64 a,.int .i64 b=>match P.info? elem with
    |some inf=>match inf.zero,s.wr with
     |some z,true=>some (.value (.slice (some ⟨n0+s.cnt,0,none⟩) l c),{ s with h:=(n0+s.cnt,.rows inf.size c (λ _ k=>z.cells.getD k default) elem (0,0))::s.h,cnt:=s.cnt+1,hints:=hs,ob:=(a=(l:Int)/\b=(c:Int)/\l<=c/\inf.bytes*c<=140737488355328/\z.cells.size=inf.size/\c<=9223372036854775807)::s.ob })
     |_,_=>none
    |none=>none
   |_,_,_=>none
  | .gen::hs=>bX P n0 (execOp ρ o) { s with hints:=hs }
  |_=>bX P n0 (execOp ρ o) s
 | .pick x a b=>match s.hints with
  | .gd c::hs=>match ρ x with
   | .bool t=>some (.value (match c with|true=>ρ a|false=>ρ b),{ s with hints:=hs,ob:=(t=c)::s.ob })
   |_=>none
  | .gen::hs=>bX P n0 (execOp ρ o) { s with hints:=hs }
  |_=>bX P n0 (execOp ρ o) s
 | .lookup t x ix ok=>match s.hints with
  | .mp p kv v::hs=>match P.underlying t,ρ x,ρ ix,s.h[p]? with
   |some (.map kt et),.map (some b),.string k,some (b',.obj O)=>match P.underlying kt,(P.info? et).bind (·.zero) with
    |some .string,some z=>some (.value v,{ s with hints:=hs,eq:=(b,b')::s.eq,ob:=(O=GU kv/\lkV kv k ok z=v)::s.ob })
    |_,_=>none
   |_,_,_,_=>none
  | .mq p kv v::hs=>match P.underlying t,ρ x,ρ ix,s.r[p]? with
   |some (.map kt et),.map (some b),.string k,some (b',.obj O)=>match P.underlying kt,(P.info? et).bind (·.zero) with
    |some .string,some z=>some (.value v,{ s with hints:=hs,eq:=(b,b')::s.eq,ob:=(O=GU kv/\lkV kv k ok z=v)::s.ob })
    |_,_=>none
   |_,_,_,_=>none
  | .gen::hs=>bX P n0 (execOp ρ o) { s with hints:=hs }
  |_=>bX P n0 (execOp ρ o) s
 |_=>bX P n0 (execOp ρ o) s
theorem dk{x:Next}(h:ev P n0 o ρ ss=some (x,AS)):(∀p∈ss.eq,p∈AS.eq)/\(∀p∈ss.ob,p∈AS.ob)/\AS.r=ss.r/\AS.wr=ss.wr:=by
 unfold ev at h
 repeat' split at h
 all_goals first
  |exact(dj _ _ _ h :)
  | (cases h;done)
  | (cases h;exact⟨λ _ h=>h,λ _ h=>aaD _ h,rfl,rfl⟩)
  | (cases h;exact⟨λ _ h=>aaD _ h,λ _ h=>aaD _ h,rfl,rfl⟩)
  | (cases h;exact⟨λ _ h=>h,λ _ h=>h,rfl,rfl⟩)
theorem xv(z:Array Value)(c:Nat):((Array.range (c*z.size)).map λ i=>z[i%z.size]!)=⟨bj z.size (λ _ k=>z.getD k default) c⟩:=by
 apply Array.ext';rw[adu,afA];show _=bj _ _ _
 symm
 refine kg (by simp) ?_;intro i k hi hk;have h1:i*z.size+k<c*z.size:=by
  have:(i+1)*z.size<=c*z.size:=acJ _ hi;rw[ade] at this;omega
 rw[abo,List.getElem?_range h1];simp only[UV,Nat.mul_add_mod_self_right,afP hk];simp[getElem!_def,Array.getD,hk,getElem?_pos]
theorem gI{F:HL}{x:Next}{w:World}(h:ev P n0 o ρ ss=some (x,AS))
  (heq:∀p∈AS.eq,p.1=p.2) (iS:∀p∈AS.ob,p) (hR:Rel (ss.h++F) w) (hr:∀y∈ss.r,y∈F) (hn:ss.wr=true->n0+ss.cnt=w.heap.size) :
  ∃w',(execOp ρ o).run P w=.ok x w'/\Rel (AS.h++F) w'/\Below 0 w w'/\(ss.wr=true->n0+AS.cnt=w'.heap.size)/\(ss.wr=false->w'=w):=by
 have g:∀hs:List Hint,bX P n0 (execOp ρ o) { ss with hints:=hs }=some (x,AS)->∃w',(execOp ρ o).run P w=.ok x w'/\Rel (AS.h++F) w'/\Below 0 w w'/\(ss.wr=true->n0+AS.cnt=w'.heap.size)/\(ss.wr=false->w'=w):=λ hs h=>by
  have h1:=mZ (F:=F) (w:=w) _ _ _ h heq iS hR hr hn;exact h1
 have g':bX P n0 (execOp ρ o) ss=some (x,AS)->∃w',(execOp ρ o).run P w=.ok x w'/\Rel (AS.h++F) w'/\Below 0 w w'/\(ss.wr=true->n0+AS.cnt=w'.heap.size)/\(ss.wr=false->w'=w):=λ h=>by
  exact mZ (F:=F) (w:=w) _ _ _ h heq iS hR hr hn
 unfold ev at h;split at h
 ·-- indexAddr
  rename_i t x' ix' C_;split at h
  case h_2=>exact g _ h
  case h_3=>exact g' h
  split at h
  ·rename_i elem a len cap k i hu hx hi;split at h
   case h_2=>cases h
   rename_i inf hs UW;cases h;obtain⟨o1,o2⟩:=iS _ (aaC);refine⟨w,?_,hR,jt _ _,hn,λ _=>rfl⟩;subst o1;simp[execOp,C_,Instr.indexAt,hx,hi,asIntOf,underlying,hu,sizeOf,typeInfo,UW,nM,go_sem,gH hs,o2,program,bind,Sem.bind,Sem.run,pure]
  ·rename_i len elem a k i hu hx hi;split at h
   case h_2=>cases h
   rename_i inf hs UW;cases h;obtain⟨o1,o2⟩:=iS _ (aaC);refine⟨w,?_,hR,jt _ _,hn,λ _=>rfl⟩;subst o1;simp[execOp,C_,Instr.indexAt,hx,hi,asIntOf,underlying,hu,sizeOf,typeInfo,UW,nM,go_sem,gH hs,o2,program,bind,Sem.bind,Sem.run,pure,Instr.sureAddr]
  ·cases h
 ·-- binOp
  rename_i op t x' y' ty C_;split at h
  case h_4=>exact g _ h
  case h_5=>exact g' h
  case h_3=>
   split at h
   case h_5=>cases h
   case h_3=>
    rename_i a b hx hy;cases h;exact⟨w,by simp[execOp,C_,hx,hy,eqGuard,Go.binOp,Op.stringOp,GV,pure,bind,Sem.bind,Sem.run],hR,jt _ _,hn,λ _=>rfl⟩
   case h_4=>
    rename_i a b hx hy;cases h;exact⟨w,by simp[execOp,C_,hx,hy,eqGuard,Go.binOp,Op.stringOp,GV,bne,pure,bind,Sem.bind,Sem.run],hR,jt _ _,hn,λ _=>rfl⟩
   all_goals
    rename_i xs ys hx hy;split at h
    case h_2=>cases h
    rename_i b hg he;cases h;refine⟨w,?_,hR,jt _ _,hn,λ _=>rfl⟩;have e2:=λ W=>CH _ _ _ _ _ W he;simp[execOp,C_,hx,hy,abg,run_eqGuard_agg w _ t x' y' xs ys hg,run_eql_struct,run_neq_struct,e2]
  ·split at h
   case h_6=>cases h
   case h_4=>
    rename_i a b hx hy;cases h;obtain⟨o1,o2,o3⟩:=iS _ (aaC);refine⟨w,?_,hR,jt _ _,hn,λ _=>rfl⟩;have h1:a/b<=a:=Int.ediv_le_self _ o1;have h2:0<=a/b:=Int.ediv_nonneg o1 (by omega);have hw:i64.wrap (a.tdiv b)=a/b:=by rw[afu o1,IntKind.wrap_i64];omega
    have o4:¬ b=0:=by omega
    simp[execOp,C_,hx,hy,eqGuard,Go.binOp,Op.intDiv,o4,hw,pure,bind,Sem.bind,Sem.run]
   case h_5=>
    rename_i a b hx hy;cases h;obtain⟨o1,o2,o3⟩:=iS _ (aaC);refine⟨w,?_,hR,jt _ _,hn,λ _=>rfl⟩;have hw:a.tmod b=a%b:=Int.tmod_eq_emod_of_nonneg o1;have o4:¬ b=0:=by omega
    simp[execOp,C_,hx,hy,eqGuard,Go.binOp,Op.intDiv,o4,hw,pure,bind,Sem.bind,Sem.run]
   all_goals
    rename_i a b hx hy;cases h;have o1:=iS _ (aaC);refine⟨w,?_,hR,jt _ _,hn,λ _=>rfl⟩;have hw:∀z:Int,-9223372036854775808<=z/\z<=9223372036854775807->i64.wrap z=z:=λ z hz=>by rw[IntKind.wrap_i64];omega
    simp[execOp,C_,hx,hy,eqGuard,Go.binOp,Op.intArith,hw _ o1,pure,bind,Sem.bind,Sem.run]
  ·split at h
   case h_5=>cases h
   case h_3=>
    rename_i k a yk b hx hy;cases h;have o1:¬ b<0:=by have:0<=b:=iS _ (aaC);omega
    refine⟨w,?_,hR,jt _ _,hn,λ _=>rfl⟩;simp[execOp,C_,hx,hy,eqGuard,Go.binOp,Op.shift,o1,pure,bind,Sem.bind,Sem.run]
   case h_4=>
    rename_i k a yk b hx hy;cases h;have o1:¬ b<0:=by have:0<=b:=iS _ (aaC);omega
    refine⟨w,?_,hR,jt _ _,hn,λ _=>rfl⟩;simp[execOp,C_,hx,hy,eqGuard,Go.binOp,Op.shift,o1,pure,bind,Sem.bind,Sem.run]
   all_goals
    rename_i a b hx hy;cases h;have o1:b≠0:=iS _ (aaC);refine⟨w,?_,hR,jt _ _,hn,λ _=>rfl⟩;simp[execOp,C_,hx,hy,eqGuard,Go.binOp,Op.intDiv,o1,pure,bind,Sem.bind,Sem.run]
 ·-- index
  rename_i t x' ix' C_;split at h
  case h_2=>exact g _ h
  case h_3=>exact g' h
  split at h
  case h_2=>cases h
  rename_i b k i hu hx hi;cases h;obtain⟨o1,o2⟩:=iS _ (aaC);refine⟨w,?_,hR,jt _ _,hn,λ _=>rfl⟩;subst o1;have k3:=λ W=>aE hu W;simp[execOp,C_,Instr.index,hx,hi,asIntOf,k3,abg,o2,GS]
 ·-- unOp
  rename_i op t x' C_;split at h
  case h_2=>exact g _ h
  case h_3=>exact g' h
  split at h
  case h_2=>cases h
  rename_i a hx;cases h;have o1:=iS _ (aaC);refine⟨w,?_,hR,jt _ _,hn,λ _=>rfl⟩;have hw:i64.wrap (-a)=-a:=by rw[IntKind.wrap_i64];omega
  simp[execOp,C_,hx,Op.unary,Op.intArith,hw,pure,bind,Sem.bind,Sem.run]
 ·-- slice
  rename_i t x' lo hi mx C_;split at h
  case h_2=>exact g _ h
  case h_4=>exact g' h
  case h_3=>
   rename_i hh hs YH;split at h
   case h_2=>cases h
   rename_i elem a len cap hu hx;split at h
   case h_2=>cases h
   rename_i inf UW;cases h;obtain⟨o2,o4⟩:=iS _ (aaC);refine⟨w,?_,hR,jt _ _,hn,λ _=>rfl⟩;have k1:=iQ (P:=P) (ρ:=ρ) (lo:=none) (hi:=hi) (l:=0) (h:=hh) (len:=len) (cap:=cap) rfl o2 (aaJ _) o4 w;have k2:=λ W=>cL UW W;have k3:=λ W=>aE hu W;have ea:(if cap=0 then a else Option.map (λ x=>x.add 0) a)=a:=by
    split
    ·rfl
    ·cases a <;> simp[Addr.add]
   rw[show Option.map ρ none=none from rfl] at k1;simp[execOp,C_,Instr.sliceAt,Instr.slice,hx,k3,sizeOf,k2,abg,k1,ea]
  rename_i l hh e hs YH;split at h
  case h_2=>cases h
  rename_i elem a len cap hu hx;split at h
  case h_3=>cases h
  ·rename_i inf UW;cases h;obtain⟨o1,o2,o3,o4⟩:=iS _ (aaC);refine⟨w,?_,hR,jt _ _,hn,λ _=>rfl⟩;have k1:=iQ (P:=P) o1 o2 o3 o4 w;have k2:=λ W=>cL UW W;have k3:=λ W=>aE hu W;simp[execOp,C_,Instr.sliceAt,Instr.slice,hx,k3,sizeOf,k2,abg,k1]
  ·rename_i a inf UW;split at h
   case h_2=>cases h
   rename_i Xw;cases h;obtain⟨o1,o2,o3,o4,o5⟩:=iS _ (aaC);refine⟨w,?_,hR,jt _ _,hn,λ _=>rfl⟩;have k1:=iQ (P:=P) o1 o2 o3 o4 w;have k2:=λ W=>cL UW W;have k3:=λ W=>aE hu W;cases e
   ·simp only at o5 ⊢;simp[execOp,C_,Instr.sliceAt,Instr.slice,hx,k3,sizeOf,k2,abg,k1,o5,gH Xw]
   ·simp only at o5 ⊢;subst o5;simp[execOp,C_,Instr.sliceAt,Instr.slice,hx,k3,sizeOf,k2,abg,k1]
 ·-- makeSlice
  rename_i t x' y' C_;split at h
  case h_2=>exact g _ h
  case h_3=>exact g' h
  rename_i l c hs YH;split at h
  case h_2=>cases h
  rename_i elem a b hu hx hy;split at h
  case h_2=>cases h
  rename_i inf UW;split at h
  case h_2=>cases h
  rename_i z hz Xb;cases h
  replace hn:=hn Xb
  obtain⟨o1,o2,o3,o4,o5,o6⟩:=iS _ (aaC);subst o1;subst o2;have hl:i64.wrap (l:Int)=l:=by rw[IntKind.wrap_i64];omega
  have hc:i64.wrap (c:Int)=c:=by rw[IntKind.wrap_i64];omega
  have IF:=hR.cons (.rows inf.size c (λ _ k=>z.cells.getD k default) elem (0,0)) (o:=.cells ⟨bj inf.size (λ _ k=>z.cells.getD k default) c⟩ elem (0,0)) rfl;rw[<- hn] at IF;refine⟨_,?_,IF,⟨rfl,rfl,rfl,by simp,λ k hk=>by omega⟩,λ _=>by simp;omega,λ e=>by rw[Xb] at e;cases e⟩;have ae1:¬ ((281474976710656:Int)<(inf.bytes:Int)*(c:Int)):=by
   have:((inf.bytes*c:Nat):Int)=(inf.bytes:Int)*(c:Int):=by simp
   rw[<- this];omega
  have DO:¬ (roomBytes<c*inf.bytes):=by unfold roomBytes;rw[afx];omega
  have hlc:¬ ((c:Int)<l):=by omega
  have XA:¬ ((l:Int)<0):=by omega
  have hc0:¬ ((c:Int)<0):=by omega
  have k2:=λ W=>cL UW W;have k3:=λ W=>aE hu W
  by_cases h0:c*inf.size=0
  ·have he:∀g,bj inf.size g c=[]:=λ g=>by
    apply aa6;rw[cH];exact h0
   have hr0:∀f:Nat->Value,Array.map f (Array.range 0)=⟨[]⟩:=λ f=>by simp
   simp[execOp,C_,Instr.makeSlice,hx,hy,k3,sizeOf,k2,zeroValue,hz,abg,asInt,asIntOf,hl,hc,ae1,DO,hlc,XA,hc0,h0,askRoom,newRow,newObj,he,hr0,Sem.run,hn]
  ·have hzf:=xv z.cells c;rw[o5] at hzf;simp[execOp,C_,Instr.makeSlice,hx,hy,k3,sizeOf,k2,zeroValue,hz,abg,asInt,asIntOf,hl,hc,ae1,DO,hlc,XA,hc0,h0,askRoom,newRow,newObj,Sem.run,hn,o5,hzf]
 ·-- pick
  rename_i x' a' b' C_;split at h
  case h_2=>exact g _ h
  case h_3=>exact g' h
  split at h
  case h_2=>cases h
  rename_i t ht;cases h;have o1:=iS _ (aaC);refine⟨w,?_,hR,jt _ _,hn,λ _=>rfl⟩;subst o1;cases t <;> simp[execOp,C_,ht,asBool]
 ·-- lookup
  rename_i t x' ix' ok C_;split at h
  case h_3=>exact g _ h
  case h_4=>exact g' h
  all_goals
   split at h
   case h_2=>cases h
   rename_i kt et b k b' O hu hx hi hp;split at h
   case h_2=>cases h
   rename_i z hk hz;cases h;obtain⟨o1,o2⟩:=iS _ (aaC);have e1:b=b':=heq _ (aaC);subst o1;subst e1;subst o2;rw[Option.bind_eq_some_iff] at hz;obtain⟨inf,UW,hz⟩:=hz;refine⟨w,?_,hR,jt _ _,hn,λ _=>rfl⟩;have hb:w.heap[b]?=some (GU _):=hR.holds (b,.obj (GU _)) (by first|exact aaB _ (go hp)|exact aaz _ (hr _ (go hp)));have:=AA (P:=P) (w:=w) (k:=k) ok hu hk UW hz hb;simp only[execOp,C_,hx,hi,abg,this,Result.andThen];rfl
 ·exact g' h
end Go.Proofs.YtjokannbjmndfaaGreatDoor
