import Derived.RecoverIn
import Derived.Test.YtdppjkjbghbnjaaGreatDoorD01
set_option maxHeartbeats 4000000
set_option maxRecDepth 100000
set_option linter.all false
namespace Go.Proofs.YtdppjkjbghbnjaaGreatDoor
open Go.RowKit
noncomputable section
inductive Tr(α:Type) where
 | lf
 | nd (v:α) (l r:Tr α)
noncomputable def fW{α:Type}(d:α)(p:List Bool):Tr α -> α :=
 List.rec (motive:=λ _=>Tr α -> α) (λ t=>Tr.rec (motive:=λ _=>α) d (λ v _ _ _ _=>v) t) (λ b _ ih t=>Tr.rec (motive:=λ _=>α) d (λ _ l r _ _=>Bool.rec (motive:=λ _=>α) (ih l) (ih r) b) t) p
noncomputable def dW{α:Type}(d x:α)(p:List Bool):Tr α -> Tr α :=
 List.rec (motive:=λ _=>Tr α -> Tr α) (λ t=>Tr.rec (motive:=λ _=>Tr α) (.nd x .lf .lf) (λ _ l r _ _=>.nd x l r) t)
  (λ b _ ih t=>Tr.rec (motive:=λ _=>Tr α) (Bool.rec (motive:=λ _=>Tr α) (.nd d (ih .lf) .lf) (.nd d .lf (ih .lf)) b) (λ v l r _ _=>Bool.rec (motive:=λ _=>Tr α) (.nd v (ih l) r) (.nd v l (ih r)) b) t) p
noncomputable def Hj(k:Nat):Nat -> List Bool :=
 Nat.rec (motive:=λ _=>Nat -> List Bool) (λ _=>[]) (λ _ ih i=>Nat.rec (motive:=λ _=>List Bool) [] (λ i _=>Nat.beq (i % 2) 1::ih (i / 2)) i) k
noncomputable def pth(i:Nat):List Bool:=Hj i i
noncomputable def Tr.get{α:Type}(d:α)(t:Tr α)(i:Nat):α:=fW d (pth i) t
noncomputable def Tr.set{α:Type}(d x:α)(t:Tr α)(i:Nat):Tr α:=dW d x (pth i) t
def dS{α:Type}(d:α):List α -> Nat -> Tr α -> Tr α
 | [],_,t=>t
 | x::l,i,t=>match Tr.set d x t i with
  | .lf=>dS d l (i+1) .lf
  | .nd a b c=>dS d l (i+1) (.nd a b c)
def Nn{α:Type}(d:α)(t:Tr α)(i:Nat):Nat -> List α
 | 0=>[]
 | n+1=>t.get d i::Nn d t (i+1) n
mutual
def pl:Value -> Bool
 | .pointer (some _)=>false
 | .slice (some _) _ _=>false
 | .map (some _)=>false
 | .chan _=>false
 | .func fn first captured=>match fn with
  | .func _=>match Me first with
   | true=>Me captured
   | false=>false
  | _=>false
 | .iface _ v=>pl v
 | .agg cs=>Me cs
 | .tuple cs=>Me cs
 | _=>true
def Me:Array Value -> Bool
 | ⟨l⟩=>xB l
def xB:List Value -> Bool
 | []=>true
 | v::l=>match pl v with
  | true=>xB l
  | false=>false
end
inductive AB where
 | cells (n:Nat) (t:Tr Value) (ty:TypeId) (w:Nat) (ro:Bool)
 | map (es:List (Value × Value × Nat)) (clock:Nat)
 | loop (st:LoopState) (pend:Option Code) (T:Tr Value) (N:Nat) (ps:Array Tmp) (assign body:Code) (defers:Nat)
 | dfr (shut:Bool)
abbrev AH:=Tr (Option AB)
structure St where
 T:Tr Value
 D:List Deferred
 H:AH
 n:Nat
abbrev b7(H:AH)(h:Nat):Option AB:=Tr.get none H h
abbrev cX(H:AH)(h:Nat)(b:Option AB):AH:=Tr.set none b H h
abbrev cY(T:Tr Value)(t:Nat):Value:=Tr.get undef T t
abbrev sw(T:Tr Value)(t:Nat)(v:Value):Tr Value:=Tr.set undef v T t
def lP:Nat:=9223372036854775808
def ael(T:Tr Value):Operand -> Value
 | .tmp t=>cY T t
 | .const v=>v
 | .global g=>.pointer (some ⟨g,0,none⟩)
 | .func f=>.func (.func f) #[] #[]
def Qg(G:Nat):Operand -> Bool
 | .tmp _=>true
 | .const v=>pl v
 | .global g=>Nat.blt g G
 | .func _=>true
def i7:Op -> Option (List Operand)
 | .defer c=>match c.callee with
  | .value f=>some (f::c.args.toList)
  | _=>none
 | o=>cq o
def sx(G:Nat):List Operand -> Bool
 | []=>true
 | x::l=>match Qg G x with
  | true=>sx G l
  | false=>false
def vc(T:Tr Value):List Operand -> Bool
 | []=>true
 | x::l=>match pl (ael T x) with
  | true=>vc T l
  | false=>false
def xC(P:Program){α:Type}:Sem α -> Option α
 | .pure a=>some a
 | .program k=>xC P (k P)
 | .mark _ k=>xC P k
 | _=>none
def Hk(op:BinOp)(a b:Int):Option Bool:=match op with
 | .lss=>some (decide (a<b))
 | .leq=>some (decide (a <= b))
 | .gtr=>some (decide (a>b))
 | .geq=>some (decide (a >= b))
 | .eql=>some (a == b)
 | .neq=>some (a != b)
 | _=>none
def Hm:Value -> Value -> Option Bool
 | .pointer none,.pointer b=>some b.isNone
 | .pointer (some _),.pointer none=>some false
 | .slice none _ _,.slice b _ _=>some b.isNone
 | .slice (some _) _ _,.slice none _ _=>some false
 | .map none,.map b=>some b.isNone
 | .map (some _),.map none=>some false
 | .nilFunc,.nilFunc=>some true
 | .nilFunc,.func _ _ _=>some false
 | .func _ _ _,.nilFunc=>some false
 | .nilIface,.iface _ _=>some false
 | .iface _ _,.nilIface=>some false
 | _,_=>none
def KL(P:Program)(t:TypeId)(u:Value):Bool:=match P.underlying t with
 | some (.pointer _)=>match u with | .pointer _=>true|_=>false
 | some (.slice _)=>match u with | .slice _ _ _=>true|_=>false
 | some (.map _ _)=>match u with | .map _=>true|_=>false
 | some (.func _ _ _)=>match u with | .nilFunc=>true | .func _ _ _=>true|_=>false
 | some (.interface _)=>match u with | .nilIface=>true | .iface _ _=>true|_=>false
 | _=>false
def xD(P:Program)(t:TypeId):Bool:=match P.underlying t with
 | some (.struct _)=>false
 | some (.array _ _)=>false
 | some _=>true
 | none=>false
def Aj(P:Program)(t:TypeId):Option Nat:=match P.underlying t with
 | some (.struct _)=>(P.info? t).map (·.size)
 | some (.array _ _)=>(P.info? t).map (·.size)
 | _=>none
def fi(P:Program)(t:TypeId):Option Nat:=(P.info? t).map (·.size)
def xE(P:Program)(t:TypeId)(j:Nat):Option (Nat × TypeId):=match P.underlying t with
 | some (.struct fs)=>match fs[j]? with
  | some f=>match P.info? f.type with
   | some inf=>match inf.size with
    | 0=>none
    | _+1=>some (f.offset,f.type)
   | none=>none
  | none=>none
 | _=>none
def nT:List Value -> Nat -> Option Value
 | [],_=>none
 | v::l,i=>match i with
  | 0=>some v
  | i+1=>nT l i
def tE:List Value -> Nat -> List Value
 | [],_=>[]
 | v::l,i=>match i with
  | 0=>v::l
  | i+1=>tE l i
def tF:List Value -> Nat -> List Value
 | [],_=>[]
 | v::l,i=>match i with
  | 0=>[]
  | i+1=>v::tF l i
def kL:List Value -> List Value -> Option (List Value)
 | [],l=>some l
 | _::_,[]=>none
 | v::vs,_::l=>match kL vs l with
  | some l=>some (v::l)
  | none=>none
def fj(vs:List Value):List Value -> Nat -> Option (List Value)
 | [],i=>match i with
  | 0=>kL vs []
  | _+1=>none
 | x::l,i=>match i with
  | 0=>kL vs (x::l)
  | i+1=>match fj vs l i with
   | some l=>some (x::l)
   | none=>none
def hO:Value -> List Value
 | .agg cs=>cs.toList
 | v=>[v]
def gq:List Value -> Nat
 | []=>0
 | _::l=>Nat.succ (gq l)
def nU(P:Program)(t:TypeId)(cs:List Value)(off:Nat):Option Value:=match xD P t with
 | true=>nT cs off
 | false=>match Aj P t with
  | some k=>some (.agg ⟨tF (tE cs off) k⟩)
  | none=>none
def kM(place:Nat -> Option (Nat × Nat)):List (Nat × Value) -> List Value -> Option (List Value)
 | [],l=>some l
 | (i,v)::ps,l=>match place i with
  | some (off,k+1)=>match Nat.beq (gq (hO v)) (k+1) with
   | false=>none
   | true=>match fj (hO v) l off with
    | some l=>kM place ps l
    | none=>none
  | _=>none
def vd(T:Tr Value):List (Nat × Operand) -> List (Nat × Value)
 | []=>[]
 | (i,x)::l=>(i,ael T x)::vd T l
def kO(P:Program)(t:TypeId):Option (List Value):=match P.info? t with
 | some i=>match i.zero with
  | some z=>match pl z with
   | true=>some (hO z)
   | false=>none
  | none=>none
 | none=>none
def jT(P:Program):List Field -> Option (List (Nat × Nat))
 | []=>some []
 | f::fs=>match fi P f.type,jT P fs with
  | some k,some l=>some ((f.offset,k)::l)
  | _,_=>none
def Hn:List (Nat × Nat) -> Nat -> Option (Nat × Nat)
 | [],_=>none
 | v::l,i=>match i with
  | 0=>some v
  | i+1=>Hn l i
def Ak(P:Program)(t:TypeId)(parts:List (Nat × Value)):Option Value:=match kO P t with
 | some z=>match P.underlying t with
  | some (.struct fs)=>match jT P fs.toList with
   | some pls=>match kM (Hn pls) parts z with
    | some l=>some (.agg ⟨l⟩)
    | none=>none
   | none=>none
  | some (.array _ el)=>match fi P el with
   | some k=>match kM (λ i=>some (i*k,k)) parts z with
    | some l=>some (.agg ⟨l⟩)
    | none=>none
   | none=>none
  | _=>none
 | none=>none
def ml(z:List Value):Nat -> List Value
 | 0=>[]
 | n+1=>z++ml z n
def mU(T:Tr Value):List Operand -> List Value
 | []=>[]
 | x::l=>ael T x::mU T l
def JO:Value -> Option Nat
 | .int _ (.ofNat n)=>some n
 | _=>none
def ve(T:Tr Value)(d:Nat):Option Operand -> Option Nat
 | none=>some d
 | some x=>JO (ael T x)
def Al(a:Addr)(k:Nat):Addr:=match k with
 | 0=>a
 | k+1=>⟨a.block,a.off+(k+1),none⟩
def Am(P:Program)(t:TypeId)(v:Value):Option Nat:=match P.underlying t,v with
 | some (.slice _),.slice _ n _=>some n
 | some .string,.string s=>some s.size
 | _,_=>none
def Np(P:Program):Call -> Option (Operand × TypeId)
 | ⟨.builtin .len,⟨[x]⟩,⟨[t]⟩⟩=>match P.underlying t with
  | some (.slice _)=>some (x,t)
  | some .string=>some (x,t)
  | _=>none
 | _=>none
def QM:Call -> Bool
 | ⟨.builtin .min,_,_⟩=>true
 | ⟨.builtin .max,_,_⟩=>true
 | _=>false
inductive Cl where
 | pu|lo|nw|ef
def QN(P:Program)(c:Call):Cl:=match Np P c with
 | some _=>.pu
 | none=>match QM c with
  | true=>.pu
  | false=>.ef
def sa(P:Program):Op -> Cl
 | .alloc _ | .box _ _ | .buildSlice _ _ _ | .makeSlice _ _ _ | .makeMap _ _=>.nw
 | .load _ _ | .lookup _ _ _ _ | .slice _ _ _ _ _=>.lo
 | .store _ _ _ | .mapUpdate _ _ _ _ | .insert _ _ _ _ | .defer _=>.ef
 | .call c=>QN P c
 | _=>.pu
def gt(P:Program)(T:Tr Value)(o:Oper):Option Value:=match cq o.op with
 | some l=>match vc T l with
  | true=>match xC P (execOp (ael T) o) with
   | some (.value v)=>match pl v with
    | true=>some v
    | false=>none
   | _=>none
  | false=>none
 | none=>none
def gQ(P:Program)(o:Oper)(T:Tr Value):Option Value:=match o.op with
 | .move x=>some (ael T x)
 | .assign x=>some (ael T x)
 | .pick c a b=>match ael T c with
  | .bool true=>some (ael T a)
  | .bool false=>some (ael T b)
  | _=>none
 | .build t parts=>Ak P t (vd T parts.toList)
 | .nilCheck x=>match ael T x with
  | .pointer (some a)=>some (.pointer (some a))
  | .func (.func f) first captured=>some (.func (.func f) first captured)
  | .iface t v=>some (.iface t v)
  | _=>none
 | .binOp op t x y _=>match ael T x,ael T y with
  | .int k a,.int k' b=>match Hk op a b with
   | some r=>match decide (k=k') with
    | true=>some (.bool r)
    | false=>none
   | none=>gt P T o
  | u,v=>match Hm u v with
   | some r=>match KL P t u,op with
    | true,.eql=>some (.bool r)
    | true,.neq=>some (.bool (!r))
    | _,_=>none
   | none=>gt P T o
 | .makeInterface t x=>match P.underlying t with
  | some (.interface _)=>none
  | some _=>some (.iface t (ael T x))
  | none=>none
 | .makeFunc fn first captured=>match fn with
  | .func f=>some (.func (.func f) ⟨mU T first.toList⟩ ⟨mU T captured.toList⟩)
  | _=>none
 | .fieldAddr t x j=>match ael T x,xE P t j with
  | .pointer (some a),some (k,_)=>some (.pointer (some (Al a k)))
  | _,_=>none
 | .field t x j=>match ael T x,xE P t j with
  | .agg cs,some (k,ft)=>nU P ft cs.toList k
  | _,_=>none
 | .indexAddr t x i=>match P.underlying t,ael T x,JO (ael T i) with
  | some (.slice el),.slice (some a) n _,some i=>match Nat.blt i n,fi P el with
   | true,some k=>some (.pointer (some (Al a (i*k))))
   | _,_=>none
  | some (.array n el),.pointer (some a),some i=>match Nat.blt i n,fi P el with
   | true,some k=>some (.pointer (some (Al a (i*k))))
   | _,_=>none
  | _,_,_=>none
 | .index t x i=>match P.underlying t,ael T x,JO (ael T i) with
  | some (.array n el),.agg cs,some i=>match Nat.blt i n,fi P el with
   | true,some k=>nU P el cs.toList (i*k)
   | _,_=>none
  | _,_,_=>gt P T o
 | .extract x i=>match ael T x with
  | .tuple cs=>nT cs.toList i
  | _=>none
 | .call c=>match Np P c with
  | some (x,t)=>match Am P t (ael T x) with
   | some n=>some (.int .i64 (.ofNat n))
   | none=>none
  | none=>gt P T o
 | _=>gt P T o
def gR(t:Tr Value)(i:Nat):Nat -> List Value
 | 0=>[]
 | k+1=>cY t i::gR t (i+1) k
def tG(P:Program)(t:TypeId)(H:AH)(a:Addr):Option Value:=match a.spot,b7 H a.block with
 | none,some (.cells n tr _ _ _)=>match xD P t with
  | true=>match Nat.blt a.off n with
   | true=>some (cY tr a.off)
   | false=>none
  | false=>match Aj P t with
   | some k=>match Nat.ble (a.off+k) n with
    | true=>some (.agg ⟨gR tr a.off k⟩)
    | false=>none
   | none=>none
 | _,_=>none
def lr:Value -> Value -> Option Bool
 | .int k a,.int k' b=>match decide (k=k') with
  | true=>some (a == b)
  | false=>none
 | .string a,.string b=>some (a == b)
 | .bool a,.bool b=>some (a == b)
 | _,_=>none
def Hs(P:Program)(t:TypeId)(k:Value):Bool:=match P.underlying t,k with
 | some (.int _),.int _ _=>true
 | some .string,.string _=>true
 | some .bool,.bool _=>true
 | _,_=>false
def xF(k:Value):List (Value × Value × Nat) -> Option (Option Value)
 | []=>some none
 | (k',v,_)::l=>match lr k k' with
  | some true=>some (some v)
  | some false=>xF k l
  | none=>none
def BW(P:Program)(t:TypeId):Option Value:=match P.info? t with
 | some i=>match i.zero with
  | some z=>match pl z with
   | true=>some z
   | false=>none
  | none=>none
 | none=>none
def BX(ok:Bool)(v:Value)(b:Bool):Value:=match ok with
 | true=>.tuple ⟨[v,.bool b]⟩
 | false=>v
def Ht(P:Program)(t:TypeId)(H:AH)(m k:Value)(ok:Bool):Option Value:=match P.underlying t with
 | some (.map kt et)=>match Hs P kt k with
  | true=>match m with
   | .map none=>match BW P et with
    | some z=>some (BX ok z false)
    | none=>none
   | .map (some r)=>match b7 H r with
    | some (.map es _)=>match xF k es with
     | some (some v)=>some (BX ok v true)
     | some none=>match BW P et with
      | some z=>some (BX ok z false)
      | none=>none
     | none=>none
    | _=>none
   | _=>none
  | false=>none
 | _=>none
def BZ(a:Addr)(m l k:Nat):Addr:=match Nat.beq m l with
 | true=>a
 | false=>Al a (l*k)
def vf(k:Nat)(base:Option Addr)(l h m c:Nat):Option Value:=match Nat.ble l h,Nat.ble h m,Nat.ble m c with
 | true,true,true=>match base with
  | none=>some (.slice none (h-l) (m-l))
  | some a=>match a.spot with
   | none=>some (.slice (some (BZ a m l k)) (h-l) (m-l))
   | some _=>none
 | _,_,_=>none
def Hu(H:AH)(k:Nat)(a:Addr)(l h c:Nat)(m:Option Nat):Option Value:=match a.spot,b7 H a.block with
 | none,some (.cells nn _ _ w _)=>match Nat.beq w k,Nat.blt 0 w,Nat.ble l h,Nat.ble ((c-lP+h)*w) nn with
  | true,true,true,true=>match m with
   | none=>match Nat.blt l h with
    | true=>some (.slice (some (Al a (l*k))) (h-l) (c+l))
    | false=>match l with
     | 0=>some (.slice (some a) 0 c)
     | _+1=>none
   | some m=>match Nat.ble h m,Nat.ble ((c-lP+m)*w) nn,Nat.blt m lP with
    | true,true,true=>some (.slice (some (BZ a m l k)) (h-l) (m-l))
    | _,_,_=>none
  | _,_,_,_=>none
 | _,_=>none
def Pl(hi mx:Option Operand):Bool:=match mx,hi with
 | some _,none=>false
 | _,_=>true
def Nq(T:Tr Value):Option Operand -> Option (Option Nat)
 | none=>some none
 | some x=>match JO (ael T x) with
  | some n=>some (some n)
  | none=>none
def An(P:Program)(t:TypeId)(H:AH)(T:Tr Value)(x:Value)(lo hi mx:Option Operand):Option Value:=match Pl hi mx with
 | false=>none
 | true=>match P.underlying t with
  | some (.slice el)=>match x with
   | .slice base n c=>match fi P el,ve T 0 lo,ve T n hi with
    | some k,some l,some h=>match Nat.blt c lP with
     | true=>match ve T c mx with
      | some m=>vf k base l h m c
      | none=>none
     | false=>match base,Nq T mx with
      | some a,some m=>Hu H k a l h c m
      | _,_=>none
    | _,_,_=>none
   | _=>none
  | some (.array n el)=>match x with
   | .pointer (some a)=>match fi P el,ve T 0 lo,ve T n hi,ve T n mx with
    | some k,some l,some h,some m=>match Nat.blt n lP with
     | true=>vf k (some a) l h m n
     | false=>none
    | _,_,_,_=>none
   | _=>none
  | _=>none
def jx(P:Program)(o:Oper)(T:Tr Value)(H:AH):Option Value:=match o.op with
 | .load t x=>match ael T x with
  | .pointer (some a)=>tG P t H a
  | _=>none
 | .lookup t m k ok=>Ht P t H (ael T m) (ael T k) ok
 | .slice t x lo hi mx=>match P.underlying t with
  | some .string=>gt P T o
  | _=>An P t H T (ael T x) lo hi mx
 | _=>none
inductive Mk where
 | ptr|sl (n c:Nat)|mp
def Mk.val:Mk -> Nat -> Value
 | .ptr,h=>.pointer (some ⟨h,0,none⟩)
 | .sl n c,h=>.slice (some ⟨h,0,none⟩) n c
 | .mp,h=>.map (some h)
def jF(l:List Value)(ty:TypeId):AB:=match dS undef l 0 .lf with
 | .lf=>.cells (gq l) .lf ty 0 false
 | .nd a b c=>.cells (gq l) (.nd a b c) ty 0 false
def tH(P:Program)(t:TypeId):Option TypeId:=match P.underlying t with
 | some (.slice el)=>some el
 | _=>none
def sy(P:Program)(o:Oper)(T:Tr Value):Option (AB × Mk):=match o.op with
 | .alloc t=>match kO P t with
  | some z=>some (jF z t,.ptr)
  | none=>none
 | .box t x=>some (jF (hO (ael T x)) t,.ptr)
 | .buildSlice t len parts=>match tH P t with
  | some el=>match fi P el,kO P el with
   | some k,some z=>match Nat.ble (len*k) 16777216,Nat.beq (gq z) k,Nat.blt 0 k with
    | true,true,true=>match kM (λ i=>some (i*k,k)) (vd T parts.toList) (ml z len) with
     | some l=>some (jF l el,.sl len len)
     | none=>none
    | _,_,_=>none
   | _,_=>none
  | none=>none
 | .makeSlice t l c=>match tH P t with
  | some el=>match P.info? el with
   | some inf=>match kO P el,JO (ael T l),JO (ael T c) with
    | some z,some n,some m=>match Nat.ble n m,Nat.ble (inf.bytes*m) 281474976710656,Nat.blt m lP,Nat.beq (gq z) inf.size,Nat.blt 0 inf.size,Nat.blt 0 inf.bytes with
     | true,true,true,true,true,true=>some (jF (ml z m) el,.sl n m)
     | _,_,_,_,_,_=>none
    | _,_,_=>none
   | none=>none
  | none=>none
 | .makeMap t r=>match r with
  | none=>some (.map [] 0,.mp)
  | some r=>match P.underlying t,ael T r with
   | some (.map _ _),.int _ _=>some (.map [] 0,.mp)
   | _,_=>none
 | _=>none
inductive AN where
 | val (v:Value) (H:AH) (n:Nat)
 | ent (f:FuncId) (args:List Value)
 | rnd (l:Nat) (args:List Value)
 | dfr (d:Deferred)
 | rcv
def kl(t:Tr Value)(i:Nat):List Value -> Tr Value
 | []=>t
 | v::l=>kl (sw t i v) (i+1) l
def jU:List Value -> Bool
 | []=>true
 | v::l=>match v with
  | .agg _=>false
  | .tuple _=>false
  | _=>jU l
def oM(H:AH)(a:Addr)(vs:List Value):Option AH:=match a.spot,b7 H a.block with
 | none,some (.cells n tr ty w false)=>match Nat.ble (a.off+gq vs) n,jU vs with
  | true,true=>some (cX H a.block (some (.cells n (kl tr a.off vs) ty w false)))
  | _,_=>none
 | _,_=>none
def vg(P:Program)(t:TypeId)(H:AH)(a:Addr)(v:Value):Option AH:=match fi P t with
 | some k=>match Nat.beq (gq (hO v)) k with
  | true=>oM H a (hO v)
  | false=>none
 | none=>none
def rg(k v:Value)(clock:Nat):List (Value × Value × Nat) -> Option (List (Value × Value × Nat) × Nat)
 | []=>some ([(k,v,clock)],clock+1)
 | (k',v',b)::l=>match lr k k' with
  | some true=>some ((k,v,b)::l,clock)
  | some false=>match rg k v clock l with
   | some (l,c)=>some ((k',v',b)::l,c)
   | none=>none
  | none=>none
def KM(P:Program)(t:TypeId)(H:AH)(m k v:Value):Option AH:=match P.underlying t with
 | some (.map kt _)=>match Hs P kt k,m with
  | true,.map (some r)=>match b7 H r with
   | some (.map es c)=>match rg k v c es with
    | some (es,c)=>some (cX H r (some (.map es c)))
    | none=>none
   | _=>none
  | _,_=>none
 | _=>none
def pQ(H:AH)(k:Nat):Value -> Option (List Value)
 | .slice none n _=>match n with
  | 0=>some []
  | _+1=>none
 | .slice (some a) n _=>match a.spot,b7 H a.block with
  | none,some (.cells nn tr _ _ _)=>match Nat.ble (a.off+n*k) nn with
   | true=>some (gR tr a.off (n*k))
   | false=>none
  | _,_=>none
 | _=>none
def dZ:Value -> Nat
 | .slice _ n _=>n
 | _=>0
def vh(l:List Value)(ty:TypeId)(w:Nat):AB:=match dS undef l 0 .lf with
 | .lf=>.cells (gq l) .lf ty w false
 | .nd a b c=>.cells (gq l) (.nd a b c) ty w false
def rh(H:AH)(n k len add cap:Nat)(base:Option Addr)(new:List Value):Option AN:=match base with
 | some a=>match a.spot with
  | none=>match oM H ⟨a.block,a.off+len*k,none⟩ new with
   | some H=>some (.val (.slice (some a) (len+add) cap) H n)
   | none=>none
  | some _=>none
 | none=>match new with
  | []=>some (.val (.slice none (len+add) cap) H n)
  | _=>none
def i8(H:AH)(n k len add:Nat)(el:TypeId)(u_ new:List Value):AN:=.val (.slice (some ⟨n,0,none⟩) (len+add) lP) (cX H n (some (vh (u_++new) el k))) (n+1)
def Qh(H:AH)(a:Addr):Option (Nat × Nat × TypeId):=match b7 H a.block with
 | some (.cells nn _ ty w false)=>some (nn,w,ty)
 | _=>none
def Hv(H:AH)(n k len add cap:Nat)(a:Addr)(el:TypeId)(new:List Value):Option AN:=match a.spot,a.off,Nat.beq cap lP,Qh H a with
 | none,0,true,some (nn,w,ty)=>match Nat.beq w k,Nat.ble (len*k) nn,Nat.beq ty el with
  | true,true,true=>match Nat.ble ((len+add)*k) nn with
   | true=>rh H n k len add cap (some a) new
   | false=>match pQ H k (.slice (some a) len cap) with
    | some u_=>some (i8 (cX H a.block none) n k len add el u_ new)
    | none=>none
  | _,_,_=>none
 | _,_,_,_=>none
def Hw(tr:Tr Value)(i:Nat)(new:List Value)(el:TypeId)(k:Nat):AB:=match kl tr i new with
 | .lf=>.cells (i+gq new) .lf el k false
 | .nd a b c=>.cells (i+gq new) (.nd a b c) el k false
def tI(H:AH)(n k len add cap:Nat)(a:Addr)(el:TypeId)(new:List Value):Option AN:=match a.spot,a.off,Nat.beq cap lP,b7 H a.block with
 | none,0,true,some (.cells nn tr ty w false)=>match Nat.beq w k,Nat.ble (len*k) nn,Nat.beq ty el with
  | true,true,true=>match Nat.ble ((len+add)*k) nn with
   | true=>rh H n k len add cap (some a) new
   | false=>some (.val (.slice (some ⟨n,0,none⟩) (len+add) lP) (cX (cX H a.block none) n (some (Hw tr (len*k) new el k))) (n+1))
  | _,_,_=>none
 | _,_,_,_=>none
def xG(P:Program)(H:AH)(n:Nat)(el:TypeId)(x y:Value):Option AN:=match P.info? el,kO P el with
 | some inf,some z=>match inf.size,inf.bytes,x with
  | k+1,by_+1,.slice base len cap=>match pQ H (k+1) y,Nat.beq (gq z) (k+1),Nat.blt (len+dZ y) 1000000,Nat.blt by_ 1000000 with
   | some new,true,true,true=>match jU new,Nat.blt cap lP with
    | true,true=>match Nat.ble (len+dZ y) cap with
     | true=>rh H n (k+1) len (dZ y) cap base new
     | false=>match pQ H (k+1) (.slice base len cap) with
      | some u_=>some (i8 H n (k+1) len (dZ y) el u_ new)
      | none=>none
    | true,false=>match base with
     | some a=>tI H n (k+1) len (dZ y) cap a el new
     | none=>none
    | _,_=>none
   | _,_,_,_=>none
  | _,_,_=>none
 | _,_=>none
def Pm(P:Program)(t:TypeId):Bool:=match P.underlying t with
 | some (.slice _)=>true
 | _=>false
def Hy(P:Program)(H:AH)(n:Nat)(c:Call)(T:Tr Value):Option AN:=match c with
 | ⟨_,⟨[x,y]⟩,⟨[t,u]⟩⟩=>match tH P t,Pm P u with
  | some el,true=>xG P H n el (ael T x) (ael T y)
  | _,_=>none
 | _=>none
def ri(P:Program)(f:FuncId):Bool:=match P.funcs[f]? with
 | some fn=>!(fn.name == "runtime.NumGoroutine") && fn.body.isSome
 | none=>false
def qj(P:Program)(v:Value)(args:List Value):Option AN:=match v with
 | .func fn first captured=>match fn with
  | .func f=>match ri P f with
   | true=>some (.ent f (first.toList++(args++captured.toList)))
   | false=>none
  | .yield l=>match first.toList with
   | []=>some (.rnd l args)
   | _=>none
  | _=>none
 | _=>none
def Hz(P:Program)(t:TypeId)(name:String):Option FuncId:=match P.info? t,Nat.blt 0 (P.types.size+Made.depth) with
 | some i,true=>match i.methods.find? (·.name == name) with
  | some m=>match m.path.toList,m.func,P.underlying t with
   | [],some (f,true),some (.pointer _)=>some f
   | [],some (_,false),some (.pointer _)=>none
   | [],some (f,false),some _=>some f
   | _,_,_=>none
  | none=>none
 | _,_=>none
def xH(P:Program)(H:AH)(n:Nat)(el:TypeId)(x y:Value):Option AN:=match fi P el with
 | some k=>match x,y with
  | .slice (some a) dl _,.slice b sl cc=>match a.spot,pQ H k (.slice b (Nat.min sl dl) cc) with
   | none,some vs=>match oM H a vs with
    | some H=>some (.val (.int .i64 (.ofNat (Nat.min sl dl))) H n)
    | none=>none
   | _,_=>none
  | _,_=>none
 | none=>none
def xI(P:Program)(H:AH)(n:Nat)(c:Call)(T:Tr Value):Option AN:=match c with
 | ⟨_,⟨[x,y]⟩,⟨[t,_]⟩⟩=>match tH P t with
  | some el=>xH P H n el (ael T x) (ael T y)
  | none=>none
 | _=>none
def mW(P:Program)(o:Oper)(T:Tr Value)(H:AH)(n:Nat):Option AN:=match o.op with
 | .store t x y=>match ael T x with
  | .pointer (some a)=>match vg P t H a (ael T y) with
   | some H=>some (.val undef H n)
   | none=>none
  | _=>none
 | .mapUpdate t m k v=>match KM P t H (ael T m) (ael T k) (ael T v) with
  | some H=>some (.val undef H n)
  | none=>none
 | .insert t m k v=>match KM P t H (ael T m) (ael T k) (ael T v) with
  | some H=>some (.val undef H n)
  | none=>none
 | .defer c=>match c.callee with
  | .value f=>match ael T f with
   | .func fn first captured=>some (.dfr { target:=.fn fn captured,args:=⟨first.toList++mU T c.args.toList⟩ })
   | _=>none
  | _=>none
 | .call c=>match c.callee with
  | .value f=>match qj P (ael T f) (mU T c.args.toList) with
   | some x=>some x
   | none=>match gt P T o with
    | some v=>some (.val v H n)
    | none=>none
  | .builtin b=>match b with
   | .append=>Hy P H n c T
   | .copy=>xI P H n c T
   | .recover=>some .rcv
   | _=>none
  | .invoke recv name=>match ael T recv with
   | .iface t v=>match Hz P t name with
    | some f=>match ri P f with
     | true=>some (.ent f (v::mU T c.args.toList))
     | false=>none
    | none=>none
   | _=>none
 | _=>none
def Nr(b:AB)(m:Mk)(H:AH)(n:Nat):AN:=.val (m.val n) (cX H n (some b)) (n+1)
def B0(P:Program)(G:Nat)(o:Oper)(T:Tr Value)(H:AH)(n:Nat):Option AN:=match i7 o.op with
 | none=>none
 | some l=>match sx G l with
  | false=>none
  | true=>match sa P o.op with
   | .pu=>match gQ P o T with
    | some v=>some (.val v H n)
    | none=>none
   | .lo=>match jx P o T H with
    | some v=>some (.val v H n)
    | none=>none
   | .nw=>match sy P o T with
    | some (b,m)=>some (Nr b m H n)
    | none=>none
   | .ef=>mW P o T H n
inductive Ex where
 | normal
 | exit (id:Nat)
 | ret
inductive Task where
 | code (r:Option Nat) (N:Nat) (c:Code) (s:St)
 | loop (r:Option Nat) (N:Nat) (c:Code) (s:St)
 | fn (f:FuncId) (args:List Value) (H:AH) (n:Nat)
 | rnd (l:Nat) (T:Tr Value) (N:Nat) (assign body:Code) (H:AH) (n:Nat)
 | dfn (f:FuncId) (args:List Value) (H:AH) (n:Nat)
inductive Rs where
 | cd (e:Ex) (s:St)
 | fn (v:Value) (H:AH) (n:Nat)
def eR(ops:Array Oper)(o:Oper)(T:Tr Value):Option Bool:=match o.guard with
 | none=>some true
 | some (j,want)=>match (ops[j]?).bind (·.dst) with
  | some d=>match cY T d with
   | .bool b=>some (b == want)
   | .tuple _=>some false
   | _=>none
  | none=>none
def fq(N:Nat)(dst:Option Tmp)(v:Value)(T:Tr Value):Option (Tr Value):=match dst with
 | none=>some T
 | some d=>match Nat.blt d N with
  | true=>some (sw T d v)
  | false=>none
def HA:List Tmp -> List Value -> Tr Value -> Tr Value
 | p::ps,v::vs,T=>HA ps vs (sw T p v)
 | _,_,T=>T
def B1(N:Nat):List Tmp -> Bool
 | []=>true
 | p::ps=>match Nat.blt p N with
  | true=>B1 N ps
  | false=>false
inductive OpR where
 | val (v:Value) (H:AH) (n:Nat)
 | dfr (d:Deferred)
def jV(P:Program)(G:Nat)(ih:Task -> Option Rs)(r:Option Nat)(o:Oper)(T:Tr Value)(H:AH)(n:Nat):Option OpR:=match B0 P G o T H n with
 | none=>none
 | some x=>match x with
  | .val v H n=>some (.val v H n)
  | .ent f args=>match ih (.fn f args H n) with
   | some (.fn v H n)=>some (.val v H n)
   | _=>none
  | .rnd l args=>match b7 H l with
   | some (.loop _ _ T N' ps assign body _)=>match Nat.beq (gq args) ps.size,B1 N' ps.toList with
    | true,true=>match ih (.rnd l (HA ps.toList args T) N' assign body H n) with
     | some (.fn v H n)=>some (.val v H n)
     | _=>none
    | _,_=>none
   | _=>none
  | .dfr d=>match r with
   | none=>some (.dfr d)
   | some _=>none
  | .rcv=>none
def mB(P:Program)(G:Nat)(ih:Task -> Option Rs)(r:Option Nat)(N:Nat)(ops:Array Oper):List Oper -> St -> Option St
 | [],s=>some s
 | o::rest,s=>match eR ops o s.T with
  | none=>none
  | some false=>match fq N o.dst undef s.T with
   | some T=>mB P G ih r N ops rest ⟨T,s.D,s.H,s.n⟩
   | none=>none
  | some true=>match jV P G ih r o s.T s.H s.n with
   | none=>none
   | some (.val v H n)=>match fq N o.dst v s.T with
    | some T=>mB P G ih r N ops rest ⟨T,s.D,H,n⟩
    | none=>none
   | some (.dfr d)=>match fq N o.dst undef s.T with
    | some T=>mB P G ih r N ops rest ⟨T,d::s.D,s.H,s.n⟩
    | none=>none
mutual
def sc:Value -> Value -> Bool
 | .bool a,.bool b=>a == b
 | .int k a,.int k' b=>match decide (k=k') with
  | true=>a == b
  | false=>false
 | .string a,.string b=>a == b
 | .pointer a,.pointer b=>decide (a=b)
 | .slice a n c,.slice b n' c'=>match decide (a=b),Nat.beq n n',Nat.beq c c' with
  | true,true,true=>true
  | _,_,_=>false
 | .map a,.map b=>decide (a=b)
 | .func fn f c,.func fn' f' c'=>match decide (fn=fn'),Eh f f' with
  | true,true=>Eh c c'
  | _,_=>false
 | .nilFunc,.nilFunc=>true
 | .iface t v,.iface t' v'=>match Nat.beq t t' with
  | true=>sc v v'
  | false=>false
 | .nilIface,.nilIface=>true
 | .agg c,.agg c'=>Eh c c'
 | .tuple c,.tuple c'=>Eh c c'
 | _,_=>false
def Eh:Array Value -> Array Value -> Bool
 | ⟨l⟩,⟨l'⟩=>pR l l'
def pR:List Value -> List Value -> Bool
 | [],[]=>true
 | v::l,v'::l'=>match sc v v' with
  | true=>pR l l'
  | false=>false
 | _,_=>false
end
def xJ(e:Edge):Bool:=match e.ground with
 | .textOnly _=>false
 | .gcOnly _=>false
 | _=>true
def jW(i:Nat):List Nat -> Bool
 | []=>false
 | j::l=>match Nat.beq i j with
  | true=>true
  | false=>jW i l
def KN{α:Type}:List α -> Nat -> Option α
 | [],_=>none
 | b::l,i=>match i with
  | 0=>some b
  | i+1=>KN l i
def Ao(bs:List (List Nat)):List Edge -> Option (List Nat)
 | []=>some []
 | e::es=>match Ao bs es with
  | none=>none
  | some l=>match xJ e with
   | false=>some l
   | true=>match KN bs e.on with
    | some b=>some (e.on::(b++l))
    | none=>none
def HB:List Oper -> List (List Nat) -> Option (List (List Nat))
 | [],bs=>some bs
 | o::l,bs=>match Ao bs o.after.toList with
  | some b=>HB l (bs++[b])
  | none=>none
def rj:List Operand -> List Tmp
 | []=>[]
 | x::l=>match x with
  | .tmp t=>t::rj l
  | _=>rj l
def looks(ops:Array Oper)(o:Oper):Option (List Tmp):=match i7 o.op with
 | none=>none
 | some l=>match o.guard with
  | none=>some (rj l)
  | some (j,_)=>match (ops[j]?).bind (·.dst) with
   | some d=>some (d::rj l)
   | none=>none
def isE(P:Program)(o:Oper):Bool:=match sa P o.op with
 | .ef=>true
 | _=>false
def isN(P:Program)(o:Oper):Bool:=match sa P o.op with
 | .nw=>true
 | _=>false
def rk(P:Program)(ops:Array Oper)(i:Nat)(o o':Oper)(b':List Nat):Bool:=match jW i b' with
 | true=>match o.dst,o'.dst with
  | some d,some d'=>!(Nat.beq d d')
  | _,_=>true
 | false=>match isE P o',isE P o || isN P o with
  | true,true=>false
  | _,_=>match looks ops o,looks ops o' with
   | some l,some l'=>match o.dst,o'.dst with
    | some d,some d'=>!(Nat.beq d d') && !(jW d l') && !(jW d' l)
    | some d,none=>!(jW d l')
    | none,some d'=>!(jW d' l)
    | none,none=>true
   | _,_=>false
def rm(P:Program)(ops:Array Oper)(o':Oper)(b':List Nat):Nat -> List Oper -> Bool
 | _,[]=>true
 | i,o::l=>match rk P ops i o o' b' with
  | true=>rm P ops o' b' (i+1) l
  | false=>false
def nq(G:Nat)(o:Oper):Bool:=match i7 o.op with
 | some l=>sx G l
 | none=>false
def tJ(P:Program)(G:Nat)(ops:Array Oper)(all:List Oper):Nat -> List Oper -> List (List Nat) -> Bool
 | _,[],[]=>true
 | i,o::l,b::bs=>match nq G o,rm P ops o b 0 (all.take i),(looks ops o).isSome with
  | true,true,true=>tJ P G ops all (i+1) l bs
  | _,_,_=>false
 | _,_,_=>false
def Ap(P:Program)(G:Nat)(ops:Array Oper):Option (List (List Nat)):=match HB ops.toList [] with
 | some bs=>match tJ P G ops ops.toList 0 ops.toList bs with
  | true=>some bs
  | false=>none
 | none=>none
structure DLd where
 i:Nat
 o:Oper
 b:List Nat
 T:Tr Value
 v:Value
structure DSt where
 T:Tr Value
 H:AH
 n:Nat
 pend:List (Nat × AB)
 stg:List (Nat × List Nat × AH)
 lds:List DLd
def hZ(H:AH):List (Nat × AB) -> AH
 | []=>H
 | (h,b)::l=>hZ (cX H h (some b)) l
def QO(P:Program)(G:Nat)(ih:Task -> Option Rs)(r:Option Nat)(N:Nat)(ops:Array Oper)(i:Nat)(o:Oper)(b:List Nat)(s:DSt):Option DSt:=match eR ops o s.T with
 | none=>none
 | some false=>match fq N o.dst undef s.T with
  | some T=>some { s with T:=T }
  | none=>none
 | some true=>match sa P o.op with
  | .pu=>match gQ P o s.T with
   | some v=>match fq N o.dst v s.T with
    | some T=>some { s with T:=T }
    | none=>none
   | none=>none
  | .lo=>match jx P o s.T s.H with
   | some v=>match fq N o.dst v s.T with
    | some T=>some { s with T:=T,lds:=⟨i,o,b,s.T,v⟩::s.lds }
    | none=>none
   | none=>none
  | .nw=>match sy P o s.T with
   | some (bl,m)=>match fq N o.dst (m.val s.n) s.T with
    | some T=>some { s with T:=T,n:=s.n+1,pend:=s.pend++[(s.n,bl)] }
    | none=>none
   | none=>none
  | .ef=>match hZ s.H s.pend with
   | H=>match jV P G ih r o s.T H s.n with
    | some (.val v H' n')=>match fq N o.dst v s.T with
     | some T=>some { s with T:=T,H:=H',n:=n',pend:=[],stg:=s.stg++[(i,b,H')] }
     | none=>none
    | _=>none
def xK(P:Program)(G:Nat)(ih:Task -> Option Rs)(r:Option Nat)(N:Nat)(ops:Array Oper):Nat -> List Oper -> List (List Nat) -> DSt -> Option DSt
 | _,[],_,s=>some s
 | i,o::l,b::bs,s=>match QO P G ih r N ops i o b s with
  | some s=>xK P G ih r N ops (i+1) l bs s
  | none=>none
 | _,_,_,_=>none
def Qi(P:Program)(d:DLd)(H:AH):Bool:=match jx P d.o d.T H with
 | some v=>sc d.v v
 | none=>false
def sA(P:Program)(d:DLd):List Nat -> AH -> List (Nat × List Nat × AH) -> Bool
 | be,H,[]=>match jW d.i be with
  | true=>true
  | false=>Qi P d H
 | be,H,(e,be',H')::l=>match jW d.i be || jW e d.b with
  | true=>sA P d be' H' l
  | false=>match Qi P d H with
   | true=>sA P d be' H' l
   | false=>false
def B2(P:Program)(H:AH)(stg:List (Nat × List Nat × AH)):List DLd -> Bool
 | []=>true
 | d::l=>match sA P d [] H stg with
  | true=>B2 P H stg l
  | false=>false
def Ns(P:Program)(G:Nat)(ih:Task -> Option Rs)(r:Option Nat)(N:Nat)(ops:Array Oper)(s:St):Option St:=match Ap P G ops with
 | none=>none
 | some bs=>match xK P G ih r N ops 0 ops.toList bs ⟨s.T,s.H,s.n,[],[],[]⟩ with
  | none=>none
  | some d=>match B2 P s.H d.stg d.lds with
   | true=>some ⟨d.T,s.D,hZ d.H d.pend,d.n⟩
   | false=>none
def B3:Code -> Option Ex
 | .ret=>some .ret
 | .exit id=>some (.exit id)
 | _=>none
def je(P:Program)(G:Nat)(ih:Task -> Option Rs)(r:Option Nat)(N:Nat):Code -> St -> Option (Ex × St)
 | .skip,s=>some (.normal,s)
 | .label _,s=>some (.normal,s)
 | .region _ ops draw,s=>match draw with
  | false=>match mB P G ih r N ops ops.toList s with
   | some s=>some (.normal,s)
   | none=>none
  | true=>match Ns P G ih r N ops s with
   | some s=>some (.normal,s)
   | none=>none
 | .seq a b,s=>match je P G ih r N a s with
  | some (.normal,s)=>je P G ih r N b s
  | x=>x
 | .cond c x y,s=>match ael s.T c with
  | .bool true=>je P G ih r N x s
  | .bool false=>je P G ih r N y s
  | _=>none
 | .block id c,s=>match je P G ih r N c s with
  | some (.exit Uh,s)=>match Nat.beq Uh id with
   | true=>some (.normal,s)
   | false=>some (.exit Uh,s)
  | x=>x
 | .loop c,s=>match je P G ih r N c s with
  | some (.normal,s)=>match ih (.loop r N c s) with
   | some (.cd e s)=>some (e,s)
   | _=>none
  | x=>x
 | .rangeFunc g ps assign body,s=>match ael s.T g,Qg G g with
  | .func (.func f) first captured,true=>match ri P f with
   | true=>match (match r with
    | none=>some (s.n,(⟨{ target:=.collected s.n,args:=#[] },[]⟩:Deferred × List Deferred).1::s.D,cX s.H s.n (some (.dfr false)),s.n+1)
    | some l0=>match b7 s.H l0 with
     | some (.loop _ _ _ _ _ _ _ d)=>some (d,s.D,s.H,s.n)
     | _=>none) with
    | some (d,D,H,n)=>match ih (.fn f (first.toList++(.func (.yield n) #[] #[]::captured.toList)) (cX H n (some (.loop .ready none s.T N ps assign body d))) (n+1)) with
     | some (.fn _ H' n')=>match b7 H' n with
      | some (.loop st pend T' N' Vs Vd Zz d')=>match st with
       | .busy=>none
       | _=>match pend with
        | none=>some (.normal,⟨s.T,D,cX H' n (some (.loop .exhausted pend T' N' Vs Vd Zz d')),n'⟩)
        | some c=>match B3 c with
         | some e=>some (e,⟨s.T,D,cX H' n (some (.loop .exhausted pend T' N' Vs Vd Zz d')),n'⟩)
         | none=>none
      | _=>none
     | _=>none
    | none=>none
   | false=>none
  | _,_=>none
 | .exit id,s=>some (.exit id,s)
 | .scope c,s=>je P G ih r N c s
 | .goto _,_=>none
 | .ret,s=>some (.ret,s)
 | .refuse _,_=>none
def oN(P:Program)(T:Tr Value)(H:AH):List ResultVar -> Option (List Value)
 | []=>some []
 | .tmp t::l=>match oN P T H l with
  | some vs=>some (cY T t::vs)
  | none=>none
 | .cell a t::l=>match cY T a with
  | .pointer (some a)=>match tG P t H a,oN P T H l with
   | some v,some vs=>some (v::vs)
   | _,_=>none
  | _=>none
def xL:List Value -> Value
 | [v]=>v
 | l=>.tuple ⟨l⟩
def ko(P:Program)(ih:Task -> Option Rs):List Deferred -> AH -> Nat -> Option (AH × Nat)
 | [],H,n=>some (H,n)
 | d::ds,H,n=>match d.target with
  | .collected h=>match b7 H h with
   | some (.dfr false)=>ko P ih ds (cX H h (some (.dfr true))) n
   | _=>none
  | .fn (.func f) captured=>match ri P f with
   | true=>match ih (.dfn f (d.args.toList++captured.toList) H n) with
    | some (.fn _ H n)=>ko P ih ds H n
    | _=>none
   | false=>none
  | _=>none
def mX(P:Program)(G:Nat)(N:Nat)(ops:Array Oper):List Oper -> St -> Option St
 | [],s=>some s
 | o::rest,s=>match eR ops o s.T with
  | none=>none
  | some false=>match fq N o.dst undef s.T with
   | some T=>mX P G N ops rest ⟨T,s.D,s.H,s.n⟩
   | none=>none
  | some true=>match B0 P G o s.T s.H s.n with
   | some (.val v H n)=>match fq N o.dst v s.T with
    | some T=>mX P G N ops rest ⟨T,s.D,H,n⟩
    | none=>none
   | some .rcv=>match fq N o.dst .nilIface s.T with
    | some T=>mX P G N ops rest ⟨T,s.D,s.H,s.n⟩
    | none=>none
   | _=>none
def HC(P:Program)(G:Nat)(ih:Task -> Option Rs)(N:Nat):Code -> St -> Option (Ex × St)
 | .seq a b,s=>match HC P G ih N a s with
  | some (.normal,s)=>HC P G ih N b s
  | x=>x
 | .cond c x y,s=>match ael s.T c with
  | .bool true=>HC P G ih N x s
  | .bool false=>HC P G ih N y s
  | _=>none
 | .region id ops false,s=>match mX P G N ops ops.toList s with
  | some s=>some (.normal,s)
  | none=>match je P G ih none N (.region id ops false) s with
   | some x=>some x
   | none=>none
 | c,s=>je P G ih none N c s
def mC(args:List Value):Tr Value:=dS undef args 0 .lf
def rp(P:Program)(f:FuncId):Option (Func × Code):=match P.funcs[f]? with
 | some fn=>match fn.body with
  | some c=>some (fn,c)
  | none=>none
 | none=>none
def gS(P:Program)(G:Nat)(ih:Task -> Option Rs):Task -> Option Rs
 | .code r N c s=>match je P G ih r N c s with
  | some (e,s)=>some (.cd e s)
  | none=>none
 | .loop r N c s=>match je P G ih r N (.loop c) s with
  | some (e,s)=>some (.cd e s)
  | none=>none
 | .fn f args H n=>match rp P f with
  | some (fn,c)=>match Nat.ble (gq args) fn.ntmps with
   | true=>match je P G ih none fn.ntmps c ⟨mC args,[],H,n⟩ with
    | some (.exit _,_)=>none
    | some (_,s)=>match ko P ih s.D s.H s.n with
     | some (H,n)=>match oN P s.T H fn.results.toList with
      | some vs=>some (.fn (xL vs) H n)
      | none=>none
     | none=>none
    | none=>none
   | false=>none
  | none=>none
 | .rnd l T N assign body H n=>match je P G ih (some l) N assign ⟨T,[],H,n⟩ with
  | some (.normal,s)=>match b7 s.H l,s.D with
   | some (.loop .ready pend T' N' ps Vd bo d),[]=>match je P G ih (some l) N body ⟨s.T,[],cX s.H l (some (.loop .busy pend T' N' ps Vd bo d)),s.n⟩ with
    | some (e,s)=>match b7 s.H l with
     | some (.loop _ _ T' N' ps Vd bo d)=>match e with
      | .normal=>some (.fn (.bool true) (cX s.H l (some (.loop .ready none T' N' ps Vd bo d))) s.n)
      | .ret=>some (.fn (.bool false) (cX s.H l (some (.loop .done (some .ret) T' N' ps Vd bo d))) s.n)
      | .exit id=>some (.fn (.bool false) (cX s.H l (some (.loop .done (some (.exit id)) T' N' ps Vd bo d))) s.n)
     | _=>none
    | none=>none
   | _,_=>none
  | _=>none
 | .dfn f args H n=>match rp P f with
  | some (fn,c)=>match Nat.ble (gq args) fn.ntmps with
   | true=>match HC P G ih fn.ntmps c ⟨mC args,[],H,n⟩ with
    | some (.exit _,_)=>none
    | some (_,s)=>match s.D with
     | []=>match oN P s.T s.H fn.results.toList with
      | some vs=>some (.fn (xL vs) s.H s.n)
      | none=>none
     | _=>none
    | none=>none
   | false=>none
  | none=>none
def HD(P:Program)(G:Nat):Nat -> Task -> Option Rs
 | 0,_=>none
 | k+1,t=>gS P G (HD P G k) t
end
section tr
variable {α:Type} {d x:α}
theorem xM:fW d [] .lf=d:=rfl
theorem xN{v:α}{l r:Tr α}:fW d [] (.nd v l r)=v:=rfl
theorem nV{b:Bool}{p:List Bool}:fW d (b::p) .lf=d:=rfl
theorem fw{b:Bool}{p:List Bool}{v:α}{l r:Tr α}:fW d (b::p) (.nd v l r)=fW d p (match b with|true=>r|false=>l):=by cases b <;> rfl
theorem qk(p:List Bool):fW d p .lf=d:=by cases p <;> rfl
theorem xO:dW d x [] .lf=.nd x .lf .lf:=rfl
theorem xP{v:α}{l r:Tr α}:dW d x [] (.nd v l r)=.nd x l r:=rfl
theorem kq{b:Bool}{p:List Bool}:dW d x (b::p) .lf=(match b with|true=>.nd d .lf (dW d x p .lf)|false=>.nd d (dW d x p .lf) .lf):=by cases b <;> rfl
theorem kr{b:Bool}{p:List Bool}{v:α}{l r:Tr α}:dW d x (b::p) (.nd v l r)=(match b with|true=>.nd v l (dW d x p r)|false=>.nd v (dW d x p l) r):=by cases b <;> rfl
theorem HE(p:List Bool):∀t:Tr α,fW d p (dW d x p t)=x:=by
 induction p with
 | nil=>intro t;cases t <;> rfl
 | cons b p ih =>
  intro t;cases t with
  | lf=>rw[kq];cases b <;> simp only[fw] <;> exact ih _
  | nd v l r=>rw[kr];cases b <;> simp only[fw] <;> exact ih _
theorem xQ:∀ (p q:List Bool) (t:Tr α),p≠q -> fW d q (dW d x p t)=fW d q t:=by
 intro p
 induction p with
 | nil =>
  intro q t h;cases q with
  | nil=>exact absurd rfl h
  | cons c q=>cases t <;> cases c <;> simp[xO,xP,fw,nV,qk]
 | cons b p ih =>
  intro q t h;cases q with
  | nil=>cases t <;> cases b <;> simp[kq,kr,xN,xM]
  | cons c q =>
   cases t with
   | lf =>
    rw[kq,nV];cases b <;> cases c <;> simp only[fw,qk] <;> (rw[ih _ _ (λ e=>h (by rw[e]))];exact qk _)
   | nd v l r =>
    rw[kr,fw];cases b <;> cases c <;> simp only[fw] <;> exact ih _ _ (λ e=>h (by rw[e]))
theorem Ei(k i:Nat):Hj (k+1) (i+1)=(Nat.beq (i % 2) 1::Hj k (i / 2)):=rfl
def QP:List Bool -> Nat
 | []=>0
 | b::p=>2*QP p+(match b with|true=>1|false=>0)+1
theorem B4:∀k i,i <= k -> QP (Hj k i)=i:=by
 intro k
 induction k with
 | zero =>
  intro i h;obtain rfl:i=0:=by omega
  rfl
 | succ k ih =>
  intro i h;cases i with
  | zero=>rfl
  | succ i =>
   rw[Ei];show 2*QP (Hj k (i / 2))+(match Nat.beq (i % 2) 1 with|true=>1|false=>0)+1=i+1;rw[ih _ (by omega)];rcases Nat.mod_two_eq_zero_or_one i with e|e <;> rw[e] <;> simp <;> omega
theorem KO{i j:Nat}(h:pth i=pth j):i=j:=by
 have h1:=B4 i i (aa0 _);have h2:=B4 j j (aa0 _);unfold pth at h;rw[h] at h1;exact h1.symm.trans h2
theorem KP(t:Tr α)(i:Nat):Tr.get d (Tr.set d x t i) i=x:=HE _ _
theorem rq(t:Tr α){i j:Nat}(h:i≠j):Tr.get d (Tr.set d x t i) j=Tr.get d t j:=xQ _ _ _ λ e=>h (KO e)
theorem Aq(i:Nat):Tr.get d (.lf:Tr α) i=d:=qk _
theorem i9(t:Tr α)(i j:Nat):Tr.get d (Tr.set d x t i) j=if i=j then x else Tr.get d t j:=by
 split
 ·rename_i e;subst e;exact KP _ _
 ·rename_i e;exact rq _ e
theorem HF(y:α)(l:List α)(i:Nat)(t:Tr α):dS d (y::l) i t=dS d l (i+1) (Tr.set d y t i):=by
 rw[dS];split <;> rename_i h <;> rw[h]
theorem ql:∀ (l:List α) (i:Nat) (t:Tr α) (j:Nat),Tr.get d (dS d l i t) j=if i <= j then (if h:j-i<l.length then l[j-i] else Tr.get d t j) else Tr.get d t j
 | [],i,t,j=>by simp[dS]
 | y::l,i,t,j=>by
  rw[HF,ql l,i9]
  by_cases h1:i=j
  ·subst h1;simp;intro h;omega
  ·by_cases h2:i <= j
   ·have h3:i+1 <= j:=by omega
    have h4:j-i=(j-(i+1))+1:=by omega
    simp only[h1,h2,h3,if_true,if_false,h4,abr,Nat.add_lt_add_iff_right,List.getElem_cons_succ]
   ·have h3:¬ i+1 <= j:=by omega
    simp[h1,h2,h3]
end tr
abbrev Nu:=Nat -> Option (Nat × Nat)
def Nu.Le(ν ν':Nu):Prop:=∀h x,ν h=some x -> ν' h=some x
theorem Nu.Le.refl(ν:Nu):ν.Le ν:=λ _ _ h=>h
theorem Nu.Le.trans{a b c:Nu}(h:a.Le b)(h':b.Le c):a.Le c:=λ _ _ e=>h' _ _ (h _ _ e)
def Nu.upd(ν:Nu)(h r K:Nat):Nu:=λ k=>if k=h then some (r,K) else ν k
theorem cB{ν:Nu}{h r K:Nat}:ν.upd h r K h=some (r,K):=if_pos rfl
theorem eS{ν:Nu}{h r K k:Nat}(e:k≠h):ν.upd h r K k=ν k:=if_neg e
theorem jX{ν:Nu}{h r K:Nat}(e:ν h=none):ν.Le (ν.upd h r K):=λ k x hx=>by
 rw[eS];exact hx;intro e';subst e';rw[e] at hx;cases hx
def cJ:Value -> Bool
 | .bool _=>true
 | .int _ _=>true
 | .float _ _=>true
 | .complex _ _ _=>true
 | .string _=>true
 | .pointer none=>true
 | .slice none _ _=>true
 | .map none=>true
 | .nilFunc=>true
 | .nilIface=>true
 | _=>false
inductive FnR(ν:Nu):Fn -> Fn -> Prop
 | func (f:FuncId):FnR ν (.func f) (.func f)
 | yield {l b K:Nat}:ν l=some (b,K) -> FnR ν (.yield l) (.yield b)
def QQ(K c c':Nat):Prop:=(c<lP -> c'=c) /\ (lP <= c -> c'+(c-lP)=K)
inductive VRi(ν:Nu):Value -> Value -> Prop
 | atom (v:Value):cJ v=true -> VRi ν v v
 | ptr {h b K:Nat} (o:Nat):ν h=some (b,K) -> VRi ν (.pointer (some ⟨h,o,none⟩)) (.pointer (some ⟨b,o,none⟩))
 | slice {h b K c c':Nat} (o n:Nat):ν h=some (b,K) -> QQ K c c' -> VRi ν (.slice (some ⟨h,o,none⟩) n c) (.slice (some ⟨b,o,none⟩) n c')
 | map {h b K:Nat}:ν h=some (b,K) -> VRi ν (.map (some h)) (.map (some b))
 | func {fn fn':Fn} {f f' c c':Array Value}:FnR ν fn fn' -> f.size=f'.size -> (∀ (i:Nat) (v v':Value),f[i]?=some v -> f'[i]?=some v' -> VRi ν v v') -> c.size=c'.size -> (∀ (i:Nat) (v v':Value),c[i]?=some v -> c'[i]?=some v' -> VRi ν v v') -> VRi ν (.func fn f c) (.func fn' f' c')
 | iface {v v':Value} (t:TypeId):VRi ν v v' -> VRi ν (.iface t v) (.iface t v')
 | agg {c c':Array Value}:c.size=c'.size -> (∀ (i:Nat) (v v':Value),c[i]?=some v -> c'[i]?=some v' -> VRi ν v v') -> VRi ν (.agg c) (.agg c')
 | tuple {c c':Array Value}:c.size=c'.size -> (∀ (i:Nat) (v v':Value),c[i]?=some v -> c'[i]?=some v' -> VRi ν v v') -> VRi ν (.tuple c) (.tuple c')
inductive LR(ν:Nu):List Value -> List Value -> Prop
 | nil:LR ν [] []
 | cons {v v':Value} {l l':List Value}:VRi ν v v' -> LR ν l l' -> LR ν (v::l) (v'::l')
section vr
variable {ν ν':Nu}
theorem FnR.mono{f f':Fn}(h:FnR ν f f')(hl:ν.Le ν'):FnR ν' f f':=by
 cases h with
 | func f=>exact .func f
 | yield h=>exact .yield (hl _ _ h)
theorem VRi.mono{v v':Value}(h:VRi ν v v')(hl:ν.Le ν'):VRi ν' v v':=by
 induction h with
 | atom v h=>exact .atom v h
 | ptr o h=>exact .ptr o (hl _ _ h)
 | slice o n h c=>exact .slice o n (hl _ _ h) c
 | map h=>exact .map (hl _ _ h)
 | func hf e1 _ e2 _ Vz Vy=>exact .func (hf.mono hl) e1 Vz e2 Vy
 | iface t _ ih=>exact .iface t ih
 | agg e _ ih=>exact .agg e ih
 | tuple e _ ih=>exact .tuple e ih
theorem LR.mono{l l':List Value}(h:LR ν l l')(hl:ν.Le ν'):LR ν' l l':=by
 induction h with
 | nil=>exact .nil
 | cons h _ ih=>exact .cons (h.mono hl) ih
theorem LR.length{l l':List Value}(h:LR ν l l'):l'.length=l.length:=by
 induction h with
 | nil=>rfl
 | cons _ _ ih=>simp[ih]
theorem LR.get{l l':List Value}(h:LR ν l l'){i:Nat}{v:Value}(hv:l[i]?=some v):∃v',l'[i]?=some v' /\ VRi ν v v':=by
 induction h generalizing i with
 | nil=>simp at hv
 | cons hd _ ih =>
  cases i with
  | zero=>simp at hv;subst hv;exact⟨_,rfl,hd⟩
  | succ i=>simp at hv;simpa using ih hv
theorem LR.of_get{l l':List Value}(e:l.length=l'.length)(h:∀ (i:Nat) (v v':Value),l[i]?=some v -> l'[i]?=some v' -> VRi ν v v'):LR ν l l':=by
 induction l generalizing l' with
 | nil=>cases l' with
  | nil=>exact .nil
  | cons _ _=>simp at e
 | cons v l ih=>cases l' with
  | nil=>simp at e
  | cons v' l'=>exact .cons (h 0 v v' rfl rfl) (ih (by simpa using e) λ i u u' hu hu'=>h (i+1) u u' (by simpa using hu) (by simpa using hu'))
theorem LR.of_arr{c c':Array Value}(e:c.size=c'.size)(h:∀ (i:Nat) (v v':Value),c[i]?=some v -> c'[i]?=some v' -> VRi ν v v'):LR ν c.toList c'.toList :=
 .of_get (by simpa using e) λ i v v' h1 h2=>h i v v' (by simpa using h1) (by simpa using h2)
theorem LR.arr{l l':List Value}(h:LR ν l l'):(⟨l⟩:Array Value).size=(⟨l'⟩:Array Value).size /\ (∀ (i:Nat) (v v':Value),(⟨l⟩:Array Value)[i]?=some v -> (⟨l'⟩:Array Value)[i]?=some v' -> VRi ν v v'):=by
 refine⟨by simp[h.length],λ i v v' h1 h2=>?_⟩;obtain⟨u,hu,hr⟩:=h.get (i:=i) (v:=v) (by simpa using h1);have:u=v':=by
  have h2':l'[i]?=some v':=by simpa using h2
  rw[hu] at h2';simpa using h2'
 subst this;exact hr
theorem VRi.agg_of{l l':List Value}(h:LR ν l l'):VRi ν (.agg ⟨l⟩) (.agg ⟨l'⟩):=.agg h.arr.1 h.arr.2
theorem VRi.tuple_of{l l':List Value}(h:LR ν l l'):VRi ν (.tuple ⟨l⟩) (.tuple ⟨l'⟩):=.tuple h.arr.1 h.arr.2
theorem VRi.func_of{fn fn':Fn}{l l' c c':List Value}(hf:FnR ν fn fn')(h:LR ν l l')(k:LR ν c c'):VRi ν (.func fn ⟨l⟩ ⟨c⟩) (.func fn' ⟨l'⟩ ⟨c'⟩):=.func hf h.arr.1 h.arr.2 k.arr.1 k.arr.2
theorem VRi.undef:VRi ν undef undef:=.tuple rfl (by simp)
theorem LR.append{a a' b b':List Value}(h:LR ν a a')(k:LR ν b b'):LR ν (a++b) (a'++b'):=by
 induction h with
 | nil=>exact k
 | cons h _ ih=>exact .cons h ih
theorem VRi.plain_refl:∀ (v:Value),pl v=true -> VRi ν v v:=by
 intro v;refine Value.rec (motive_1:=λ v=>pl v=true -> VRi ν v v) (motive_2:=λ a=>Me a=true -> LR ν a.toList a.toList) (motive_3:=λ l=>xB l=true -> LR ν l l)
  ?_ ?_ ?_ ?_ ?_ ?_ ?_ ?_ ?_ ?_ ?_ ?_ ?_ ?_ ?_ ?_ ?_ ?_ v
 case _=>exact λ b _=>.atom _ rfl
 case _=>exact λ b _ _=>.atom _ rfl
 case _=>exact λ b _ _=>.atom _ rfl
 case _=>exact λ b _ _ _=>.atom _ rfl
 case _=>exact λ b _=>.atom _ rfl
 case _=>intro a h;cases a with
  | none=>exact .atom _ rfl
  | some a=>simp[pl] at h
 case _=>intro a n c h;cases a with
  | none=>exact .atom _ rfl
  | some a=>simp[pl] at h
 case _=>intro a h;cases a with
  | none=>exact .atom _ rfl
  | some a=>simp[pl] at h
 case _=>intro a h;simp[pl] at h
 case _ =>
  intro fn f c Vz Vy h;cases fn with
  | func g =>
   rw[pl] at h;split at h
   ·rename_i e;have:=VRi.func_of (FnR.func (ν:=ν) g) (Vz e) (Vy h);exact this
   ·cases h
  | _=>simp[pl] at h
 case _=>exact λ _=>.atom _ rfl
 case _=>intro t v ih h;exact .iface t (ih (by simpa [pl] using h))
 case _=>exact λ _=>.atom _ rfl
 case _=>intro c ih h;exact .agg_of (ih (by simpa [pl] using h))
 case _=>intro c ih h;exact .tuple_of (ih (by simpa [pl] using h))
 case _=>intro l ih h;exact ih (by simpa [Me] using h)
 case _=>exact λ _=>.nil
 case _ =>
  intro v l Vz Vy h;rw[xB] at h;split at h
  ·rename_i e;exact .cons (Vz e) (Vy h)
  ·cases h
theorem VRi.plain_eq{v v':Value}(h:VRi ν v v')(hp:pl v=true):v'=v:=by
 have key:∀ (l l':List Value),LR ν l l' -> (∀v∈l,∀v',VRi ν v v' -> pl v=true -> v'=v) -> xB l=true -> l'=l:=by
  intro l l' hl
  induction hl with
  | nil=>intros;rfl
  | cons hd _ ih =>
   intro hv hpl;rw[xB] at hpl;split at hpl
   ·rename_i e;rw[hv _ aax _ hd e,ih (λ v hm=>hv v (aaA _ hm)) hpl]
   ·cases hpl
 have arr:∀ (c c':Array Value),c.size=c'.size -> (∀ (i:Nat) (v v':Value),c[i]?=some v -> c'[i]?=some v' -> VRi ν v v') -> (∀ (i:Nat) (v v':Value),c[i]?=some v -> c'[i]?=some v' -> pl v=true -> v'=v) -> Me c=true -> c'=c:=by
  intro c c' e h1 h2 hp;obtain⟨l⟩:=c;obtain⟨l'⟩:=c';have hl:=LR.of_arr e h1;rw[Me] at hp;have ID:∀v∈l,pl v=true:=by
   clear h1 h2 e hl
   induction l with
   | nil=>intro v hv;cases hv
   | cons u l ih =>
    rw[xB] at hp;split at hp
    ·rename_i eu;intro v hv;rcases List.mem_cons.1 hv with rfl|hv
     ·exact eu
     ·exact ih hp v hv
    ·cases hp
  congr 1;apply List.ext_getElem?;intro i;cases hi:l[i]? with
  | none =>
   have e':l.length=l'.length:=by simpa using e
   rw[List.getElem?_eq_none_iff] at hi ⊢;omega
  | some v =>
   obtain⟨v',h3,h4⟩:=hl.get hi;simp only at h3;rw[h3,h2 i v v' (by simpa using hi) (by simpa using h3) (ID v (List.mem_of_getElem? hi))]
 induction h with
 | atom v h=>rfl
 | ptr o h=>simp[pl] at hp
 | slice o n h c=>simp[pl] at hp
 | map h=>simp[pl] at hp
 | func hf e1 h1 e2 h2 Vz Vy =>
  cases hf with
  | func g =>
   rw[pl] at hp;split at hp
   ·rename_i e;rw[arr _ _ e1 h1 Vz e,arr _ _ e2 h2 Vy hp]
   ·cases hp
  | yield _=>simp[pl] at hp
 | iface t _ ih=>rw[ih (by simpa [pl] using hp)]
 | agg e h1 ih=>rw[arr _ _ e h1 ih (by simpa [pl] using hp)]
 | tuple e h1 ih=>rw[arr _ _ e h1 ih (by simpa [pl] using hp)]
end vr
theorem rt{α β γ:Type}(s:Sem α)(f:α -> Sem β)(g:β -> Sem γ):(s.bind f).bind g=s.bind λ x=>(f x).bind g:=by
 induction s <;> simp only[Sem.bind] <;> first|rfl|(congr 1;funext x;rename_i ih;exact ih x)|(rename_i ih;rw[ih])
theorem sB{α:Type}(s:Sem α):s.bind .pure=s:=by
 induction s <;> simp only[Sem.bind] <;> first|rfl|(congr 1;funext x;rename_i ih;exact ih x)|(rename_i ih;rw[ih])
theorem ja:LawfulMonad Sem:=LawfulMonad.mk' (m:=Sem)
 (id_map:=λ x=>sB x) (pure_bind:=λ _ _=>rfl) (bind_assoc:=λ x f g=>rt x f g)
section lists
variable {ν:Nu} {P:Program}
theorem ew(l:List Value):gq l=l.length:=by induction l with
 | nil=>rfl
 | cons v l ih=>simp[gq,ih]
theorem gu(v:Value):hO v=v.cells.toList:=by cases v <;> rfl
theorem kw{v v':Value}(h:VRi ν v v'):LR ν (hO v) (hO v'):=by
 cases h with
 | atom v h=>cases v <;> first|exact .cons (.atom _ h) .nil|simp[cJ] at h
 | ptr o h=>exact .cons (.ptr o h) .nil
 | slice o n h c=>exact .cons (.slice o n h c) .nil
 | map h=>exact .cons (.map h) .nil
 | func hf e1 h1 e2 h2=>exact .cons (.func hf e1 h1 e2 h2) .nil
 | iface t h=>exact .cons (.iface t h) .nil
 | agg e h=>exact .of_arr e h
 | tuple e h=>exact .cons (.tuple e h) .nil
theorem kx(l:List Value)(i:Nat):nT l i=l[i]?:=by
 induction l generalizing i with
 | nil=>rfl
 | cons v l ih=>cases i with
  | zero=>rfl
  | succ i=>simpa [nT] using ih i
theorem xR(l:List Value)(i:Nat):tE l i=l.drop i:=by
 induction l generalizing i with
 | nil=>simp[tE]
 | cons v l ih=>cases i with
  | zero=>rfl
  | succ i=>simpa [tE] using ih i
theorem xS(l:List Value)(i:Nat):tF l i=l.take i:=by
 induction l generalizing i with
 | nil=>simp[tF]
 | cons v l ih=>cases i with
  | zero=>rfl
  | succ i=>simpa [tF] using ih i
theorem LR.drop{l l':List Value}(h:LR ν l l')(n:Nat):LR ν (l.drop n) (l'.drop n):=by
 induction h generalizing n with
 | nil=>simpa using LR.nil
 | cons h1 h2 ih=>cases n with
  | zero=>exact .cons h1 h2
  | succ n=>simpa using ih n
theorem LR.take{l l':List Value}(h:LR ν l l')(n:Nat):LR ν (l.take n) (l'.take n):=by
 induction h generalizing n with
 | nil=>simpa using LR.nil
 | cons h1 h2 ih=>cases n with
  | zero=>simpa using LR.nil
  | succ n=>simpa using LR.cons h1 (ih n)
theorem tK{vs No:List Value}(h:LR ν vs No):∀ {l l' r:List Value},LR ν l l' -> kL vs l=some r -> ∃r',kL No l'=some r' /\ LR ν r r':=by
 induction h with
 | nil=>intro l l' r hl e;rw[kL] at e;cases e;exact⟨_,rfl,hl⟩
 | cons hv _ ih =>
  intro l l' r hl e;cases hl with
  | nil=>simp[kL] at e
  | cons h1 h2 =>
   rw[kL] at e;split at e
   ·rename_i r0 hr;cases e;obtain⟨r1,e1,e2⟩:=ih h2 hr;exact⟨_,by rw[kL,e1],.cons hv e2⟩
   ·cases e
theorem Ej{vs No:List Value}(h:LR ν vs No):∀ {l l' r:List Value} (i:Nat),LR ν l l' -> fj vs l i=some r -> ∃r',fj No l' i=some r' /\ LR ν r r':=by
 intro l l' r i hl
 induction hl generalizing i r with
 | nil =>
  intro e;cases i with
  | zero=>exact tK h .nil e
  | succ i=>simp[fj] at e
 | cons h1 h2 ih =>
  intro e;cases i with
  | zero=>exact tK h (.cons h1 h2) e
  | succ i =>
   rw[fj] at e;split at e
   ·rename_i r0 hr;cases e;obtain⟨r1,e1,e2⟩:=ih i hr;exact⟨_,by rw[fj];simp only[e1],.cons h1 e2⟩
   ·cases e
inductive PR(ν:Nu):List (Nat × Value) -> List (Nat × Value) -> Prop
 | nil:PR ν [] []
 | cons {v v':Value} {l l':List (Nat × Value)} (i:Nat):VRi ν v v' -> PR ν l l' -> PR ν ((i,v)::l) ((i,v')::l')
theorem oO{place:Nat -> Option (Nat × Nat)}{ps Vs:List (Nat × Value)}(h:PR ν ps Vs):∀ {l l' r:List Value},LR ν l l' -> kM place ps l=some r -> ∃r',kM place Vs l'=some r' /\ LR ν r r':=by
 induction h with
 | nil=>intro l l' r hl e;rw[kM] at e;cases e;exact⟨_,rfl,hl⟩
 | cons i hv _ ih =>
  intro l l' r hl e;rw[kM] at e;split at e
  ·rename_i off k hp;split at e
   ·cases e
   ·rename_i hb;split at e
    ·rename_i l1 W8;have hc:=kw hv;obtain⟨l2,e1,e2⟩:=Ej hc off hl W8;obtain⟨r',e3,e4⟩:=ih e2 e;refine⟨r',?_,e4⟩;rw[kM,hp];simp only[e1,e3];rw[ew] at hb ⊢;rw[hc.length,hb]
    ·cases e
  ·cases e
theorem tL(l:List Value):kL [] l=some l:=by cases l <;> rfl
theorem tM{l r:List Value}{i:Nat}(h:fj [] l i=some r):r=l:=by
 induction l generalizing i r with
 | nil=>cases i with
  | zero=>rw[fj] at h;simp only[tL] at h;cases h;rfl
  | succ i=>simp[fj] at h
 | cons x l ih=>cases i with
  | zero=>rw[fj] at h;simp only[tL] at h;cases h;rfl
  | succ i =>
   rw[fj] at h;split at h
   ·rename_i l1 hl;cases h;rw[ih hl]
   ·cases h
theorem ru{v:Value}{vs l r:List Value}{i:Nat}(h:fj (v::vs) l i=some r):i<l.length /\ fj vs (l.set i v) (i+1)=some r:=by
 induction l generalizing i r with
 | nil=>cases i <;> simp[fj,kL] at h
 | cons x l ih=>cases i with
  | zero =>
   rw[fj] at h;simp only[kL] at h;split at h
   ·rename_i l1 hl;cases h;refine⟨by simp,?_⟩;simp only[List.set_cons_zero];rw[fj];cases l with
    | nil=>rw[fj];simp only[hl]
    | cons y l=>rw[fj];simp only[hl]
   ·cases h
  | succ i =>
   rw[fj] at h;split at h
   ·rename_i l1 hl;cases h;obtain⟨h1,h2⟩:=ih hl;refine⟨by simp;omega,?_⟩;simp only[List.set_cons_succ];rw[fj];simp only[h2]
   ·cases h
theorem Ek{vs l r:List Value}{i:Nat}(h:fj vs l i=some r):r.length=l.length /\ (vs≠[] -> i+vs.length <= l.length):=by
 induction vs generalizing l i with
 | nil=>rw[tM h];simp
 | cons v vs ih =>
  obtain⟨h1,h2⟩:=ru h;obtain⟨h3,h4⟩:=ih h2;rw[List.length_set] at h3 h4;refine⟨h3,λ _=>?_⟩;cases vs with
  | nil=>simp;omega
  | cons u vs=>have:=h4 (by simp);simp at this ⊢;omega
theorem Ar{vs l r:List Value}{off k:Nat}(h:fj vs l (off+k)=some r):(vs.zipIdx k).foldl (λ (cs:Array Value) p=>cs.setIfInBounds (off+p.2) p.1) ⟨l⟩=⟨r⟩:=by
 induction vs generalizing l k with
 | nil=>rw[tM h];rfl
 | cons v vs ih =>
  obtain⟨h1,h2⟩:=ru h;rw[List.zipIdx_cons,List.foldl_cons];have:=ih (l:=l.set (off+k) v) (k:=k+1) h2;simpa using this
theorem ky{place:Nat -> Option (Nat × Nat)}:∀ {ps:List (Nat × Value)} {l r:List Value},kM place ps l=some r -> Instr.fill place ⟨l⟩ ps=some ⟨r⟩
 | [],l,r,h=>by rw[kM] at h;cases h;rfl
 | (i,v)::ps,l,r,h=>by
  rw[kM] at h;split at h
  ·rename_i off k hp;split at h
   ·cases h
   ·rename_i hs;split at h
    ·rename_i l1 W8;have Rq:(hO v).length=k+1:=by rw[ew] at hs;exact ab8 hs
     have IT:v.cells.size=k+1:=by rw[<- Rq,gu];simp
     have hbd:=(Ek W8).2 (by intro e;rw[e] at Rq;simp at Rq);rw[Instr.fill,hp];simp only;rw[if_neg (by rw[IT];simp;omega)];have:=Ar (k:=0) (off:=off) (by simpa using W8);have e2:(Array.foldl (λ (cs:Array Value) (x:Value × Nat)=>cs.setIfInBounds (off+x.2) x.1) ⟨l⟩ v.cells.zipIdx)=⟨l1⟩:=by
      rw[<- Array.foldl_toList,Array.toList_zipIdx,<- gu];exact this
     have e3:=ky (r:=r) h;rw[<- e3,<- e2]
    ·cases h
  ·cases h
end lists
structure TRel(ν:Nu)(N:Nat)(T:Tr Value)(tm:Array Value):Prop where
 size:tm.size=N
 get:∀t,t<N -> ∃v',tm[t]?=some v' /\ VRi ν (cY T t) v'
 out:∀t,N <= t -> cY T t=undef
section fr
variable {ν ν':Nu} {P:Program} {G N:Nat} {T T':Tr Value} {a:Act}
theorem TRel.mono{tm:Array Value}(h:TRel ν N T tm)(hl:ν.Le ν'):TRel ν' N T tm :=
 ⟨h.size,λ t ht=>let ⟨v',e,r⟩:=h.get t ht;⟨v',e,r.mono hl⟩,h.out⟩
theorem TRel.set{tm:Array Value}(h:TRel ν N T tm){d:Nat}{v v':Value}(hd:d<N)(hv:VRi ν v v'):TRel ν N (sw T d v) (tm.setIfInBounds d v'):=by
 refine⟨by simp[h.size],λ t ht=>?_,λ t ht=>?_⟩
 ·unfold cY sw;rw[i9]
  by_cases e:d=t
  ·subst e;refine⟨v',?_,by simpa using hv⟩;rw[Array.getElem?_setIfInBounds_self_of_lt (by rw[h.size];exact hd)]
  ·rw[if_neg e,Array.getElem?_setIfInBounds_ne e];exact h.get t ht
 ·unfold cY sw;rw[rq _ (by omega)];exact h.out t ht
theorem TRel.put(h:TRel ν N T a.tmps){dst:Option Tmp}{v v':Value}(hv:VRi ν v v')(hp:fq N dst v T=some T'):TRel ν N T' (a.put dst v').tmps:=by
 unfold fq at hp;split at hp
 ·cases hp;exact h
 ·rename_i d;split at hp
  ·rename_i hd;cases hp;exact h.set (Nat.lt_of_lt_of_le (Nat.lt_of_succ_le (aaN hd)) (aa0 _)) hv
  ·cases hp
theorem fK(a:Act)(dst:Option Tmp)(v:Value):(a.put dst v).defers=a.defers:=by cases dst <;> rfl
structure FE(ν:Nu)(G N:Nat)(T:Tr Value)(a:Act):Prop where
 t:TRel ν N T a.tmps
 g:∀k,k<G -> ∃K,ν k=some (k,K)
theorem dT{a b:Nat}(h:Nat.blt a b=true):a<b:=aaN h
theorem FE.ael(h:FE ν G N T a){x:Operand}(hx:Qg G x=true):VRi ν (ael T x) (a.eval x):=by
 cases x with
 | tmp t =>
  show VRi ν (cY T t) (a.eval (.tmp t));unfold Act.eval;simp only;rcases abX t N with ht|ht
  ·obtain⟨v',e,r⟩:=h.t.get t ht;simpa [e] using r
  ·rw[h.t.out t ht,Array.getD_eq_getD_getElem?,Array.getElem?_eq_none (by rw[h.t.size];exact ht)];exact VRi.undef
 | const v=>exact .plain_refl _ hx
 | global g =>
  obtain⟨K,e⟩:=h.g g (dT hx);exact .ptr 0 e
 | func f=>exact .func (.func f) rfl (by simp) rfl (by simp)
theorem rv{l:List Operand}(h:sx G l=true):∀x∈l,Qg G x=true:=by
 induction l with
 | nil=>intro x hx;cases hx
 | cons y l ih =>
  rw[sx] at h;split at h
  ·rename_i e;intro x hx;rcases List.mem_cons.1 hx with rfl|hx
   ·exact e
   ·exact ih h x hx
  ·cases h
def OK(ν:Nu)(T:Tr Value)(a:Act)(l:List Operand):Prop:=∀x∈l,VRi ν (Go.Proofs.YtdppjkjbghbnjaaGreatDoor.ael T x) (a.eval x)
theorem FE.ok(h:FE ν G N T a){l:List Operand}(hl:sx G l=true):OK ν T a l:=λ x hx=>h.ael (rv hl x hx)
theorem KQ{α:Type}(s:Sem α):∀ {x:α},xC P s=some x -> ∀w,s.run P w=.ok x w:=by
 induction s with
 | pure a=>intro x h w;rw[xC] at h;cases h;rfl
 | program k ih=>intro x h w;rw[xC] at h;rw[Sem.run];exact ih _ h w
 | mark m k ih=>intro x h w;rw[xC] at h;rw[Sem.run];exact ih h w
 | _=>intro x h;simp[xC] at h
theorem Au{l:List Operand}(h:vc T l=true):∀x∈l,pl (Go.Proofs.YtdppjkjbghbnjaaGreatDoor.ael T x)=true:=by
 induction l with
 | nil=>intro x hx;cases hx
 | cons y l ih =>
  rw[vc] at h;split at h
  ·rename_i e;intro x hx;rcases List.mem_cons.1 hx with rfl|hx
   ·exact e
   ·exact ih h x hx
  ·cases h
theorem oP{o:Oper}{v:Value}(h:gt P T o=some v){l:List Operand}(hl:cq o.op=some l)(g_:OK ν T a l):∃v',VRi ν v v' /\ ∀w,(execOp a.eval o).run P w=.ok (.value v') w:=by
 unfold gt at h;rw[hl] at h;simp only at h;split at h
 case h_2=>cases h
 rename_i hp;split at h
 case h_2=>cases h
 rename_i u hr;split at h
 case h_2=>cases h
 rename_i hv;cases h;obtain⟨k1,k2⟩:=sL hl;have e:execOp a.eval o=execOp (Go.Proofs.YtdppjkjbghbnjaaGreatDoor.ael T) o:=execOp_congr o k2 λ x hx=>(g_ x (k1 x hx)).plain_eq (Au hp x (k1 x hx));exact⟨v,.plain_refl _ hv,λ w=>by rw[e];exact KQ _ hr w⟩
theorem HG{w:World}{ρ:Operand -> Value}{o:Oper}{op:BinOp}{t ty:TypeId}{x y:Operand}{k:IntKind}{m n:Int}{r:Bool}(ho:o.op=.binOp op t x y ty)(hx:ρ x=.int k m)(hy:ρ y=.int k n)(h:Hk op m n=some r):(execOp ρ o).run P w=.ok (.value (.bool r)) w:=by
 unfold Hk at h;split at h <;> first|(cases h;done)|skip
 all_goals
  cases h;simp[execOp,ho,hx,hy,eqGuard,Go.binOp,Op.intCmp,pure,bind,Sem.bind,Sem.run]
theorem xT{t:TypeId}(h:xD P t=true)(w:World):(isAgg t).run P w=.ok false w:=by
 unfold xD at h;split at h
 ·cases h
 ·cases h
 ·rename_i d h1 h2 hu;unfold isAgg;rw[ace,aG hu];simp only[acd];cases d <;> first|rfl|exact(h1 _ hu).elim|exact(h2 _ _ hu).elim
 ·cases h
theorem xU{t:TypeId}{k:Nat}(h:Aj P t=some k):(∀w,(isAgg t).run P w=.ok true w) /\ (∀w,(sizeOf t).run P w=.ok k w) /\ fi P t=some k:=by
 unfold Aj at h;split at h
 case h_3=>cases h
 all_goals
  rename_i hu;rw[Option.map_eq_some_iff] at h;obtain⟨i,hi,rfl⟩:=h;refine⟨λ w=>?_,λ w=>?_,by unfold fi;rw[hi];rfl⟩
  ·unfold isAgg;rw[ace,aG hu];rfl
  ·unfold sizeOf;rw[ace,cZ hi];rfl
theorem eC{t:TypeId}{k:Nat}(h:fi P t=some k)(w:World):(sizeOf t).run P w=.ok k w:=by
 unfold fi at h;rw[Option.map_eq_some_iff] at h;obtain⟨i,hi,rfl⟩:=h;unfold sizeOf;rw[ace,cZ hi];rfl
theorem tN{t:TypeId}{cs:Array Value}{off:Nat}{v:Value}(h:nU P t cs.toList off=some v)(w:World):(part t cs off).run P w=.ok v w:=by
 unfold nU at h;split at h
 ·rename_i h1;rw[kx] at h;unfold part;rw[ace,xT h1];have h2:cs[off]?=some v:=by simpa using h
  simp[h2]
 ·split at h
  ·rename_i k hk;cases h;obtain⟨h1,h2,h3⟩:=xU hk;unfold part;rw[ace,h1];simp only[acd,if_true,ace,h2];rw[xR,xS];have:cs.extract off (off+k)=⟨(cs.toList.drop off).take k⟩:=by
    apply Array.ext';simp
   rw[this];rfl
  ·cases h
theorem tP{t:TypeId}{l l':List Value}{off:Nat}{v:Value}(hl:LR ν l l')(h:nU P t l off=some v):∃v',nU P t l' off=some v' /\ VRi ν v v':=by
 unfold nU at h ⊢;split at h
 ·rename_i h1;rw[kx] at h;obtain⟨v',e,r⟩:=hl.get h;exact⟨v',by simpa [kx] using e,r⟩
 ·rename_i h1;split at h
  ·rename_i k hk;cases h;refine⟨.agg ⟨tF (tE l' off) k⟩,rfl,?_⟩;simp only[xS,xR];exact .agg_of ((hl.drop _).take _)
  ·cases h
theorem rx{ps:List (Nat × Operand)}(h:OK ν T a (ps.map (·.2))):PR ν (vd T ps) (ps.map λ p=>(p.1,a.eval p.2)):=by
 induction ps with
 | nil=>exact .nil
 | cons p ps ih=>exact .cons _ (h _ (by simp)) (ih λ x hx=>h x (aaA _ hx))
theorem ls{l:List Operand}(h:OK ν T a l):LR ν (mU T l) (l.map a.eval):=by
 induction l with
 | nil=>exact .nil
 | cons x l ih=>exact .cons (h _ aax) (ih λ y hy=>h y (aaA _ hy))
theorem jY{t:TypeId}{z:List Value}(h:kO P t=some z):∃zv,(∀w,(zeroValue t).run P w=.ok zv w) /\ zv.cells=⟨z⟩ /\ LR ν z z /\ (∃i,P.info? t=some i /\ i.zero=some zv):=by
 unfold kO at h;split at h
 case h_2=>cases h
 rename_i i hi;split at h
 case h_2=>cases h
 rename_i zv hz;split at h
 case h_2=>cases h
 rename_i hp;cases h;refine⟨zv,λ w=>?_,by rw[gu],kw (.plain_refl _ hp),i,hi,hz⟩;unfold zeroValue;rw[ace,cZ hi];simp only[acd,hz];rfl
theorem mD:∀ {fs:List Field} {l:List (Nat × Nat)},jT P fs=some l -> ∀w,((fs.mapM λ f=>(do pure (f.offset,<- sizeOf f.type):Sem (Nat × Nat)))).run P w=.ok l w
 | [],l,h,w=>by rw[jT] at h;cases h;rfl
 | f::fs,l,h,w=>by
  rw[jT] at h;split at h
  ·rename_i k l0 h1 h2;cases h
   haveI:=ja
   rw[List.mapM_cons,ace,ace,eC h1];have:=mD h2 w;simp only[cD,acd];rw[ace,this];rfl
  ·cases h
theorem KR(l:List (Nat × Nat))(i:Nat):Hn l i=l[i]?:=by
 induction l generalizing i with
 | nil=>rfl
 | cons v l ih=>cases i with
  | zero=>rfl
  | succ i=>simpa [Hn] using ih i
theorem El{t:TypeId}{ps Vs:List (Nat × Value)}{v:Value}(h:Ak P t ps=some v)(hr:PR ν ps Vs):∃v',VRi ν v v' /\ ∀w,(Instr.build t ⟨Vs⟩).run P w=.ok v' w:=by
 unfold Ak at h;split at h
 case h_2=>cases h
 rename_i z hz;obtain⟨zv,h1,h2,h3,-⟩:=jY (ν:=ν) hz;split at h
 ·rename_i fs hu;split at h
  case h_2=>cases h
  rename_i pls hs;split at h
  case h_2=>cases h
  rename_i l hf;cases h;obtain⟨l',e1,e2⟩:=oO hr h3 hf;refine⟨.agg ⟨l'⟩,.agg_of e2,λ w=>?_⟩;have h4:=mD hs w
  haveI:=ja
  unfold Instr.build;rw[ace,h1];simp only[acd];rw[ace,aG hu];simp only[acd];rw[ace,Array.mapM_eq_mapM_toList];have h5:((List.toArray <$> (fs.toList.mapM λ f=>(do pure (f.offset,<- sizeOf f.type):Sem (Nat × Nat)))):Sem (Array (Nat × Nat))).run P w=.ok ⟨pls⟩ w:=by
   rw[<- bind_pure_comp,ace,h4];rfl
  rw[h5];simp only[acd];have h6:=ky e1;have h7:(λ i=>(⟨pls⟩:Array (Nat × Nat))[i]?)=Hn pls:=by funext i;rw[KR];simp
  rw[h2,h7,h6];rfl
 ·rename_i n el hu;split at h
  case h_2=>cases h
  rename_i k hk;split at h
  case h_2=>cases h
  rename_i l hf;cases h;obtain⟨l',e1,e2⟩:=oO hr h3 hf;refine⟨.agg ⟨l'⟩,.agg_of e2,λ w=>?_⟩;unfold Instr.build;rw[ace,h1];simp only[acd];rw[ace,aG hu];simp only[acd];rw[ace,eC hk];simp only[acd];have h6:=ky e1;rw[h2,h6];rfl
 ·cases h
theorem Av{w:World}{ρ:Operand -> Value}{o:Oper}{t ft:TypeId}{j k:Nat}{x:Operand}{ad:Addr}(ho:o.op=.fieldAddr t x j)(hx:ρ x=.pointer (some ad))(hf:xE P t j=some (k,ft)):(execOp ρ o).run P w=.ok (.value (.pointer (some (ad.add k)))) w:=by
 unfold xE at hf;split at hf
 case h_2=>cases hf
 rename_i fs hu;split at hf
 case h_2=>cases hf
 rename_i f hj;split at hf
 case h_2=>cases hf
 rename_i inf hi;split at hf
 ·cases hf
 rename_i m hm;cases hf;have h1:=λ W=>aG hu W;have h2:=λ W=>cZ hi W;simp[execOp,ho,Instr.fieldAt,Instr.sureAddr,hx,ace,h1,hj,fieldPlace,sizeOf,h2,hm]
theorem Aw{w:World}{ρ:Operand -> Value}{o:Oper}{t ft:TypeId}{j k:Nat}{x:Operand}{cs:Array Value}{v:Value}(ho:o.op=.field t x j)(hx:ρ x=.agg cs)(hf:xE P t j=some (k,ft))(hp:nU P ft cs.toList k=some v):(execOp ρ o).run P w=.ok (.value v) w:=by
 unfold xE at hf;split at hf
 case h_2=>cases hf
 rename_i fs hu;split at hf
 case h_2=>cases hf
 rename_i f hj;split at hf
 case h_2=>cases hf
 rename_i inf hi;split at hf
 ·cases hf
 rename_i m hm;cases hf;have h1:=λ W=>aG hu W;have h2:=tN hp;simp[execOp,ho,Instr.field,asAgg,hx,ace,h1,hj,h2]
theorem nW(h o k:Nat):Al ⟨h,o,none⟩ k=⟨h,o+k,none⟩:=by cases k <;> rfl
theorem mY(h o k:Nat):(⟨h,o,none⟩:Addr).add k=⟨h,o+k,none⟩:=by
 unfold Addr.add;split
 ·rename_i e;subst e;rfl
 ·rfl
theorem mZ{v v':Value}{n:Nat}(h:JO v=some n)(hr:VRi ν v v'):∃k,v'=.int k (n:Int):=by
 unfold JO at h;split at h
 ·rename_i k m;cases h;cases hr;exact⟨k,rfl⟩
 ·cases h
end fr
def aau:=@VRi.undef
end Go.Proofs.YtdppjkjbghbnjaaGreatDoor
