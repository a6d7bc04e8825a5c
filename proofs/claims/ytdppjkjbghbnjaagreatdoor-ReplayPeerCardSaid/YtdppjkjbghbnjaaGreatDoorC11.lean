import Derived.RangeFuncLeaves
import Derived.RecoverIn
import Derived.Test.YtdppjkjbghbnjaaGreatDoorC00
set_option maxHeartbeats 4000000
set_option maxRecDepth 100000
set_option linter.all false
namespace Go.Proofs.YtdppjkjbghbnjaaGreatDoor
open Go.RowKit
noncomputable section
inductive Tr(α:Type) where
 | lf
 | nd (v:α) (l r:Tr α)
noncomputable def ga{α:Type}(d:α)(p:List Bool):Tr α -> α :=
 List.rec (motive:=λ _=>Tr α -> α) (λ t=>Tr.rec (motive:=λ _=>α) d (λ v _ _ _ _=>v) t) (λ b _ ih t=>Tr.rec (motive:=λ _=>α) d (λ _ l r _ _=>Bool.rec (motive:=λ _=>α) (ih l) (ih r) b) t) p
noncomputable def dW{α:Type}(d x:α)(p:List Bool):Tr α -> Tr α :=
 List.rec (motive:=λ _=>Tr α -> Tr α) (λ t=>Tr.rec (motive:=λ _=>Tr α) (.nd x .lf .lf) (λ _ l r _ _=>.nd x l r) t)
  (λ b _ ih t=>Tr.rec (motive:=λ _=>Tr α) (Bool.rec (motive:=λ _=>Tr α) (.nd d (ih .lf) .lf) (.nd d .lf (ih .lf)) b) (λ v l r _ _=>Bool.rec (motive:=λ _=>Tr α) (.nd v (ih l) r) (.nd v l (ih r)) b) t) p
noncomputable def HH(k:Nat):Nat -> List Bool :=
 Nat.rec (motive:=λ _=>Nat -> List Bool) (λ _=>[]) (λ _ ih i=>Nat.rec (motive:=λ _=>List Bool) [] (λ i _=>Nat.beq (i % 2) 1::ih (i / 2)) i) k
noncomputable def pth(i:Nat):List Bool:=HH i i
noncomputable def Tr.get{α:Type}(d:α)(t:Tr α)(i:Nat):α:=ga d (pth i) t
noncomputable def Tr.set{α:Type}(d x:α)(t:Tr α)(i:Nat):Tr α:=dW d x (pth i) t
def dS{α:Type}(d:α):List α -> Nat -> Tr α -> Tr α
 | [],_,t=>t
 | x::l,i,t=>match Tr.set d x t i with
  | .lf=>dS d l (i+1) .lf
  | .nd a b c=>dS d l (i+1) (.nd a b c)
def N0{α:Type}(d:α)(t:Tr α)(i:Nat):Nat -> List α
 | 0=>[]
 | n+1=>t.get d i::N0 d t (i+1) n
mutual
def pl:Value -> Bool
 | .pointer (some _)=>false
 | .slice (some _) _ _=>false
 | .map (some _)=>false
 | .chan _=>false
 | .func fn first captured=>match fn with
  | .func _=>match ML first with
   | true=>ML captured
   | false=>false
  | _=>false
 | .iface _ v=>pl v
 | .agg cs=>ML cs
 | .tuple cs=>ML cs
 | _=>true
def ML:Array Value -> Bool
 | ⟨l⟩=>xP l
def xP:List Value -> Bool
 | []=>true
 | v::l=>match pl v with
  | true=>xP l
  | false=>false
end
inductive AB where
 | cells (n:Nat) (t:Tr Value) (ty:TypeId) (w:Nat) (ro:Bool)
 | map (es:List (Value × Value × Nat)) (clock:Nat)
 | loop (st:LoopState) (pend:Option Code) (T:Tr Value) (N:Nat) (ps:Array Tmp) (assign body:Code) (defers:Nat)
 | dfr (shut:Bool)
abbrev AH:=Tr (Option AB)
structure St where
 T:Tr Value
 D:List Deferred
 H:AH
 n:Nat
abbrev bX(H:AH)(h:Nat):Option AB:=Tr.get none H h
abbrev cX(H:AH)(h:Nat)(b:Option AB):AH:=Tr.set none b H h
abbrev cY(T:Tr Value)(t:Nat):Value:=Tr.get undef T t
abbrev sM(T:Tr Value)(t:Nat)(v:Value):Tr Value:=Tr.set undef v T t
def lU:Nat:=9223372036854775808
def ael(T:Tr Value):Operand -> Value
 | .tmp t=>cY T t
 | .const v=>v
 | .global g=>.pointer (some ⟨g,0,none⟩)
 | .func f=>.func (.func f) #[] #[]
def Q4(G:Nat):Operand -> Bool
 | .tmp _=>true
 | .const v=>pl v
 | .global g=>Nat.blt g G
 | .func _=>true
def i9:Op -> Option (List Operand)
 | .defer c=>match c.callee with
  | .value f=>some (f::c.args.toList)
  | _=>none
 | o=>cf o
def sN(G:Nat):List Operand -> Bool
 | []=>true
 | x::l=>match Q4 G x with
  | true=>sN G l
  | false=>false
def vw(T:Tr Value):List Operand -> Bool
 | []=>true
 | x::l=>match pl (ael T x) with
  | true=>vw T l
  | false=>false
def xQ(P:Program){α:Type}:Sem α -> Option α
 | .pure a=>some a
 | .program k=>xQ P (k P)
 | .mark _ k=>xQ P k
 | _=>none
def HI(op:BinOp)(a b:Int):Option Bool:=match op with
 | .lss=>some (decide (a<b))
 | .leq=>some (decide (a <= b))
 | .gtr=>some (decide (a>b))
 | .geq=>some (decide (a >= b))
 | .eql=>some (a == b)
 | .neq=>some (a != b)
 | _=>none
def HJ:Value -> Value -> Option Bool
 | .pointer none,.pointer b=>some b.isNone
 | .pointer (some _),.pointer none=>some false
 | .slice none _ _,.slice b _ _=>some b.isNone
 | .slice (some _) _ _,.slice none _ _=>some false
 | .map none,.map b=>some b.isNone
 | .map (some _),.map none=>some false
 | .nilFunc,.nilFunc=>some true
 | .nilFunc,.func _ _ _=>some false
 | .func _ _ _,.nilFunc=>some false
 | .nilIface,.iface _ _=>some false
 | .iface _ _,.nilIface=>some false
 | _,_=>none
def Ln(P:Program)(t:TypeId)(u:Value):Bool:=match P.underlying t with
 | some (.pointer _)=>match u with | .pointer _=>true|_=>false
 | some (.slice _)=>match u with | .slice _ _ _=>true|_=>false
 | some (.map _ _)=>match u with | .map _=>true|_=>false
 | some (.func _ _ _)=>match u with | .nilFunc=>true | .func _ _ _=>true|_=>false
 | some (.interface _)=>match u with | .nilIface=>true | .iface _ _=>true|_=>false
 | _=>false
def xR(P:Program)(t:TypeId):Bool:=match P.underlying t with
 | some (.struct _)=>false
 | some (.array _ _)=>false
 | some _=>true
 | none=>false
def Aw(P:Program)(t:TypeId):Option Nat:=match P.underlying t with
 | some (.struct _)=>(P.info? t).map (·.size)
 | some (.array _ _)=>(P.info? t).map (·.size)
 | _=>none
def fi(P:Program)(t:TypeId):Option Nat:=(P.info? t).map (·.size)
def xS(P:Program)(t:TypeId)(j:Nat):Option (Nat × TypeId):=match P.underlying t with
 | some (.struct fs)=>match fs[j]? with
  | some f=>match P.info? f.type with
   | some inf=>match inf.size with
    | 0=>none
    | _+1=>some (f.offset,f.type)
   | none=>none
  | none=>none
 | _=>none
def oa:List Value -> Nat -> Option Value
 | [],_=>none
 | v::l,i=>match i with
  | 0=>some v
  | i+1=>oa l i
def tQ:List Value -> Nat -> List Value
 | [],_=>[]
 | v::l,i=>match i with
  | 0=>v::l
  | i+1=>tQ l i
def tR:List Value -> Nat -> List Value
 | [],_=>[]
 | v::l,i=>match i with
  | 0=>[]
  | i+1=>v::tR l i
def kR:List Value -> List Value -> Option (List Value)
 | [],l=>some l
 | _::_,[]=>none
 | v::vs,_::l=>match kR vs l with
  | some l=>some (v::l)
  | none=>none
def fj(vs:List Value):List Value -> Nat -> Option (List Value)
 | [],i=>match i with
  | 0=>kR vs []
  | _+1=>none
 | x::l,i=>match i with
  | 0=>kR vs (x::l)
  | i+1=>match fj vs l i with
   | some l=>some (x::l)
   | none=>none
def hO:Value -> List Value
 | .agg cs=>cs.toList
 | v=>[v]
def gy:List Value -> Nat
 | []=>0
 | _::l=>Nat.succ (gy l)
def oc(P:Program)(t:TypeId)(cs:List Value)(off:Nat):Option Value:=match xR P t with
 | true=>oa cs off
 | false=>match Aw P t with
  | some k=>some (.agg ⟨tR (tQ cs off) k⟩)
  | none=>none
def kS(place:Nat -> Option (Nat × Nat)):List (Nat × Value) -> List Value -> Option (List Value)
 | [],l=>some l
 | (i,v)::ps,l=>match place i with
  | some (off,k+1)=>match Nat.beq (gy (hO v)) (k+1) with
   | false=>none
   | true=>match fj (hO v) l off with
    | some l=>kS place ps l
    | none=>none
  | _=>none
def vz(T:Tr Value):List (Nat × Operand) -> List (Nat × Value)
 | []=>[]
 | (i,x)::l=>(i,ael T x)::vz T l
def kT(P:Program)(t:TypeId):Option (List Value):=match P.info? t with
 | some i=>match i.zero with
  | some z=>match pl z with
   | true=>some (hO z)
   | false=>none
  | none=>none
 | none=>none
def jZ(P:Program):List Field -> Option (List (Nat × Nat))
 | []=>some []
 | f::fs=>match fi P f.type,jZ P fs with
  | some k,some l=>some ((f.offset,k)::l)
  | _,_=>none
def HK:List (Nat × Nat) -> Nat -> Option (Nat × Nat)
 | [],_=>none
 | v::l,i=>match i with
  | 0=>some v
  | i+1=>HK l i
def Ay(P:Program)(t:TypeId)(parts:List (Nat × Value)):Option Value:=match kT P t with
 | some z=>match P.underlying t with
  | some (.struct fs)=>match jZ P fs.toList with
   | some pls=>match kS (HK pls) parts z with
    | some l=>some (.agg ⟨l⟩)
    | none=>none
   | none=>none
  | some (.array _ el)=>match fi P el with
   | some k=>match kS (λ i=>some (i*k,k)) parts z with
    | some l=>some (.agg ⟨l⟩)
    | none=>none
   | none=>none
  | _=>none
 | none=>none
def mu(z:List Value):Nat -> List Value
 | 0=>[]
 | n+1=>z++mu z n
def mZ(T:Tr Value):List Operand -> List Value
 | []=>[]
 | x::l=>ael T x::mZ T l
def Ki:Value -> Option Nat
 | .int _ (.ofNat n)=>some n
 | _=>none
def vA(T:Tr Value)(d:Nat):Option Operand -> Option Nat
 | none=>some d
 | some x=>Ki (ael T x)
def Az(a:Addr)(k:Nat):Addr:=match k with
 | 0=>a
 | k+1=>⟨a.block,a.off+(k+1),none⟩
def AA(P:Program)(t:TypeId)(v:Value):Option Nat:=match P.underlying t,v with
 | some (.slice _),.slice _ n _=>some n
 | some .string,.string s=>some s.size
 | _,_=>none
def N3(P:Program):Call -> Option (Operand × TypeId)
 | ⟨.builtin .len,⟨[x]⟩,⟨[t]⟩⟩=>match P.underlying t with
  | some (.slice _)=>some (x,t)
  | some .string=>some (x,t)
  | _=>none
 | _=>none
def RF:Call -> Bool
 | ⟨.builtin .min,_,_⟩=>true
 | ⟨.builtin .max,_,_⟩=>true
 | _=>false
inductive Cl where
 | pu|lo|nw|ef
def RG(P:Program)(c:Call):Cl:=match N3 P c with
 | some _=>.pu
 | none=>match RF c with
  | true=>.pu
  | false=>.ef
def sy(P:Program):Op -> Cl
 | .alloc _ | .box _ _ | .buildSlice _ _ _ | .makeSlice _ _ _ | .makeMap _ _=>.nw
 | .load _ _ | .lookup _ _ _ _ | .slice _ _ _ _ _=>.lo
 | .store _ _ _ | .mapUpdate _ _ _ _ | .insert _ _ _ _ | .defer _=>.ef
 | .call c=>RG P c
 | _=>.pu
def gz(P:Program)(T:Tr Value)(o:Oper):Option Value:=match cf o.op with
 | some l=>match vw T l with
  | true=>match xQ P (execOp (ael T) o) with
   | some (.value v)=>match pl v with
    | true=>some v
    | false=>none
   | _=>none
  | false=>none
 | none=>none
def gS(P:Program)(o:Oper)(T:Tr Value):Option Value:=match o.op with
 | .move x=>some (ael T x)
 | .assign x=>some (ael T x)
 | .pick c a b=>match ael T c with
  | .bool true=>some (ael T a)
  | .bool false=>some (ael T b)
  | _=>none
 | .build t parts=>Ay P t (vz T parts.toList)
 | .nilCheck x=>match ael T x with
  | .pointer (some a)=>some (.pointer (some a))
  | .func (.func f) first captured=>some (.func (.func f) first captured)
  | .iface t v=>some (.iface t v)
  | _=>none
 | .binOp op t x y _=>match ael T x,ael T y with
  | .int k a,.int k' b=>match HI op a b with
   | some r=>match decide (k=k') with
    | true=>some (.bool r)
    | false=>none
   | none=>gz P T o
  | u,v=>match HJ u v with
   | some r=>match Ln P t u,op with
    | true,.eql=>some (.bool r)
    | true,.neq=>some (.bool (!r))
    | _,_=>none
   | none=>gz P T o
 | .makeInterface t x=>match P.underlying t with
  | some (.interface _)=>none
  | some _=>some (.iface t (ael T x))
  | none=>none
 | .makeFunc fn first captured=>match fn with
  | .func f=>some (.func (.func f) ⟨mZ T first.toList⟩ ⟨mZ T captured.toList⟩)
  | _=>none
 | .fieldAddr t x j=>match ael T x,xS P t j with
  | .pointer (some a),some (k,_)=>some (.pointer (some (Az a k)))
  | _,_=>none
 | .field t x j=>match ael T x,xS P t j with
  | .agg cs,some (k,ft)=>oc P ft cs.toList k
  | _,_=>none
 | .indexAddr t x i=>match P.underlying t,ael T x,Ki (ael T i) with
  | some (.slice el),.slice (some a) n _,some i=>match Nat.blt i n,fi P el with
   | true,some k=>some (.pointer (some (Az a (i*k))))
   | _,_=>none
  | some (.array n el),.pointer (some a),some i=>match Nat.blt i n,fi P el with
   | true,some k=>some (.pointer (some (Az a (i*k))))
   | _,_=>none
  | _,_,_=>none
 | .index t x i=>match P.underlying t,ael T x,Ki (ael T i) with
  | some (.array n el),.agg cs,some i=>match Nat.blt i n,fi P el with
   | true,some k=>oc P el cs.toList (i*k)
   | _,_=>none
  | _,_,_=>gz P T o
 | .extract x i=>match ael T x with
  | .tuple cs=>oa cs.toList i
  | _=>none
 | .call c=>match N3 P c with
  | some (x,t)=>match AA P t (ael T x) with
   | some n=>some (.int .i64 (.ofNat n))
   | none=>none
  | none=>gz P T o
 | _=>gz P T o
def gT(t:Tr Value)(i:Nat):Nat -> List Value
 | 0=>[]
 | k+1=>cY t i::gT t (i+1) k
def tS(P:Program)(t:TypeId)(H:AH)(a:Addr):Option Value:=match a.spot,bX H a.block with
 | none,some (.cells n tr _ _ _)=>match xR P t with
  | true=>match Nat.blt a.off n with
   | true=>some (cY tr a.off)
   | false=>none
  | false=>match Aw P t with
   | some k=>match Nat.ble (a.off+k) n with
    | true=>some (.agg ⟨gT tr a.off k⟩)
    | false=>none
   | none=>none
 | _,_=>none
def lB:Value -> Value -> Option Bool
 | .int k a,.int k' b=>match decide (k=k') with
  | true=>some (a == b)
  | false=>none
 | .string a,.string b=>some (a == b)
 | .bool a,.bool b=>some (a == b)
 | _,_=>none
def HM(P:Program)(t:TypeId)(k:Value):Bool:=match P.underlying t,k with
 | some (.int _),.int _ _=>true
 | some .string,.string _=>true
 | some .bool,.bool _=>true
 | _,_=>false
def xT(k:Value):List (Value × Value × Nat) -> Option (Option Value)
 | []=>some none
 | (k',v,_)::l=>match lB k k' with
  | some true=>some (some v)
  | some false=>xT k l
  | none=>none
def Cg(P:Program)(t:TypeId):Option Value:=match P.info? t with
 | some i=>match i.zero with
  | some z=>match pl z with
   | true=>some z
   | false=>none
  | none=>none
 | none=>none
def Ch(ok:Bool)(v:Value)(b:Bool):Value:=match ok with
 | true=>.tuple ⟨[v,.bool b]⟩
 | false=>v
def HN(P:Program)(t:TypeId)(H:AH)(m k:Value)(ok:Bool):Option Value:=match P.underlying t with
 | some (.map kt et)=>match HM P kt k with
  | true=>match m with
   | .map none=>match Cg P et with
    | some z=>some (Ch ok z false)
    | none=>none
   | .map (some r)=>match bX H r with
    | some (.map es _)=>match xT k es with
     | some (some v)=>some (Ch ok v true)
     | some none=>match Cg P et with
      | some z=>some (Ch ok z false)
      | none=>none
     | none=>none
    | _=>none
   | _=>none
  | false=>none
 | _=>none
def Ci(a:Addr)(m l k:Nat):Addr:=match Nat.beq m l with
 | true=>a
 | false=>Az a (l*k)
def vB(k:Nat)(base:Option Addr)(l h m c:Nat):Option Value:=match Nat.ble l h,Nat.ble h m,Nat.ble m c with
 | true,true,true=>match base with
  | none=>some (.slice none (h-l) (m-l))
  | some a=>match a.spot with
   | none=>some (.slice (some (Ci a m l k)) (h-l) (m-l))
   | some _=>none
 | _,_,_=>none
def HO(H:AH)(k:Nat)(a:Addr)(l h c:Nat)(m:Option Nat):Option Value:=match a.spot,bX H a.block with
 | none,some (.cells nn _ _ w _)=>match Nat.beq w k,Nat.blt 0 w,Nat.ble l h,Nat.ble ((c-lU+h)*w) nn with
  | true,true,true,true=>match m with
   | none=>match Nat.blt l h with
    | true=>some (.slice (some (Az a (l*k))) (h-l) (c+l))
    | false=>match l with
     | 0=>some (.slice (some a) 0 c)
     | _+1=>none
   | some m=>match Nat.ble h m,Nat.ble ((c-lU+m)*w) nn,Nat.blt m lU with
    | true,true,true=>some (.slice (some (Ci a m l k)) (h-l) (m-l))
    | _,_,_=>none
  | _,_,_,_=>none
 | _,_=>none
def P6(hi mx:Option Operand):Bool:=match mx,hi with
 | some _,none=>false
 | _,_=>true
def N4(T:Tr Value):Option Operand -> Option (Option Nat)
 | none=>some none
 | some x=>match Ki (ael T x) with
  | some n=>some (some n)
  | none=>none
def AC(P:Program)(t:TypeId)(H:AH)(T:Tr Value)(x:Value)(lo hi mx:Option Operand):Option Value:=match P6 hi mx with
 | false=>none
 | true=>match P.underlying t with
  | some (.slice el)=>match x with
   | .slice base n c=>match fi P el,vA T 0 lo,vA T n hi with
    | some k,some l,some h=>match Nat.blt c lU with
     | true=>match vA T c mx with
      | some m=>vB k base l h m c
      | none=>none
     | false=>match base,N4 T mx with
      | some a,some m=>HO H k a l h c m
      | _,_=>none
    | _,_,_=>none
   | _=>none
  | some (.array n el)=>match x with
   | .pointer (some a)=>match fi P el,vA T 0 lo,vA T n hi,vA T n mx with
    | some k,some l,some h,some m=>match Nat.blt n lU with
     | true=>vB k (some a) l h m n
     | false=>none
    | _,_,_,_=>none
   | _=>none
  | _=>none
def jB(P:Program)(o:Oper)(T:Tr Value)(H:AH):Option Value:=match o.op with
 | .load t x=>match ael T x with
  | .pointer (some a)=>tS P t H a
  | _=>none
 | .lookup t m k ok=>HN P t H (ael T m) (ael T k) ok
 | .slice t x lo hi mx=>match P.underlying t with
  | some .string=>gz P T o
  | _=>AC P t H T (ael T x) lo hi mx
 | _=>none
inductive Mk where
 | ptr|sl (n c:Nat)|mp
def Mk.val:Mk -> Nat -> Value
 | .ptr,h=>.pointer (some ⟨h,0,none⟩)
 | .sl n c,h=>.slice (some ⟨h,0,none⟩) n c
 | .mp,h=>.map (some h)
def jM(l:List Value)(ty:TypeId):AB:=match dS undef l 0 .lf with
 | .lf=>.cells (gy l) .lf ty 0 false
 | .nd a b c=>.cells (gy l) (.nd a b c) ty 0 false
def tT(P:Program)(t:TypeId):Option TypeId:=match P.underlying t with
 | some (.slice el)=>some el
 | _=>none
def sO(P:Program)(o:Oper)(T:Tr Value):Option (AB × Mk):=match o.op with
 | .alloc t=>match kT P t with
  | some z=>some (jM z t,.ptr)
  | none=>none
 | .box t x=>some (jM (hO (ael T x)) t,.ptr)
 | .buildSlice t len parts=>match tT P t with
  | some el=>match fi P el,kT P el with
   | some k,some z=>match Nat.ble (len*k) 16777216,Nat.beq (gy z) k,Nat.blt 0 k with
    | true,true,true=>match kS (λ i=>some (i*k,k)) (vz T parts.toList) (mu z len) with
     | some l=>some (jM l el,.sl len len)
     | none=>none
    | _,_,_=>none
   | _,_=>none
  | none=>none
 | .makeSlice t l c=>match tT P t with
  | some el=>match P.info? el with
   | some inf=>match kT P el,Ki (ael T l),Ki (ael T c) with
    | some z,some n,some m=>match Nat.ble n m,Nat.ble (inf.bytes*m) 281474976710656,Nat.blt m lU,Nat.beq (gy z) inf.size,Nat.blt 0 inf.size,Nat.blt 0 inf.bytes with
     | true,true,true,true,true,true=>some (jM (mu z m) el,.sl n m)
     | _,_,_,_,_,_=>none
    | _,_,_=>none
   | none=>none
  | none=>none
 | .makeMap t r=>match r with
  | none=>some (.map [] 0,.mp)
  | some r=>match P.underlying t,ael T r with
   | some (.map _ _),.int _ _=>some (.map [] 0,.mp)
   | _,_=>none
 | _=>none
inductive AN where
 | val (v:Value) (H:AH) (n:Nat)
 | ent (f:FuncId) (args:List Value)
 | rnd (l:Nat) (args:List Value)
 | dfr (d:Deferred)
 | rcv
def kw(t:Tr Value)(i:Nat):List Value -> Tr Value
 | []=>t
 | v::l=>kw (sM t i v) (i+1) l
def j0:List Value -> Bool
 | []=>true
 | v::l=>match v with
  | .agg _=>false
  | .tuple _=>false
  | _=>j0 l
def o0(H:AH)(a:Addr)(vs:List Value):Option AH:=match a.spot,bX H a.block with
 | none,some (.cells n tr ty w false)=>match Nat.ble (a.off+gy vs) n,j0 vs with
  | true,true=>some (cX H a.block (some (.cells n (kw tr a.off vs) ty w false)))
  | _,_=>none
 | _,_=>none
def vC(P:Program)(t:TypeId)(H:AH)(a:Addr)(v:Value):Option AH:=match fi P t with
 | some k=>match Nat.beq (gy (hO v)) k with
  | true=>o0 H a (hO v)
  | false=>none
 | none=>none
def ru(k v:Value)(clock:Nat):List (Value × Value × Nat) -> Option (List (Value × Value × Nat) × Nat)
 | []=>some ([(k,v,clock)],clock+1)
 | (k',v',b)::l=>match lB k k' with
  | some true=>some ((k,v,b)::l,clock)
  | some false=>match ru k v clock l with
   | some (l,c)=>some ((k',v',b)::l,c)
   | none=>none
  | none=>none
def Lo(P:Program)(t:TypeId)(H:AH)(m k v:Value):Option AH:=match P.underlying t with
 | some (.map kt _)=>match HM P kt k,m with
  | true,.map (some r)=>match bX H r with
   | some (.map es c)=>match ru k v c es with
    | some (es,c)=>some (cX H r (some (.map es c)))
    | none=>none
   | _=>none
  | _,_=>none
 | _=>none
def p7(H:AH)(k:Nat):Value -> Option (List Value)
 | .slice none n _=>match n with
  | 0=>some []
  | _+1=>none
 | .slice (some a) n _=>match a.spot,bX H a.block with
  | none,some (.cells nn tr _ _ _)=>match Nat.ble (a.off+n*k) nn with
   | true=>some (gT tr a.off (n*k))
   | false=>none
  | _,_=>none
 | _=>none
def dY:Value -> Nat
 | .slice _ n _=>n
 | _=>0
def vD(l:List Value)(ty:TypeId)(w:Nat):AB:=match dS undef l 0 .lf with
 | .lf=>.cells (gy l) .lf ty w false
 | .nd a b c=>.cells (gy l) (.nd a b c) ty w false
def rv(H:AH)(n k len add cap:Nat)(base:Option Addr)(new:List Value):Option AN:=match base with
 | some a=>match a.spot with
  | none=>match o0 H ⟨a.block,a.off+len*k,none⟩ new with
   | some H=>some (.val (.slice (some a) (len+add) cap) H n)
   | none=>none
  | some _=>none
 | none=>match new with
  | []=>some (.val (.slice none (len+add) cap) H n)
  | _=>none
def ja(H:AH)(n k len add:Nat)(el:TypeId)(r_ new:List Value):AN:=.val (.slice (some ⟨n,0,none⟩) (len+add) lU) (cX H n (some (vD (r_++new) el k))) (n+1)
def Q5(H:AH)(a:Addr):Option (Nat × Nat × TypeId):=match bX H a.block with
 | some (.cells nn _ ty w false)=>some (nn,w,ty)
 | _=>none
def HP(H:AH)(n k len add cap:Nat)(a:Addr)(el:TypeId)(new:List Value):Option AN:=match a.spot,a.off,Nat.beq cap lU,Q5 H a with
 | none,0,true,some (nn,w,ty)=>match Nat.beq w k,Nat.ble (len*k) nn,Nat.beq ty el with
  | true,true,true=>match Nat.ble ((len+add)*k) nn with
   | true=>rv H n k len add cap (some a) new
   | false=>match p7 H k (.slice (some a) len cap) with
    | some r_=>some (ja (cX H a.block none) n k len add el r_ new)
    | none=>none
  | _,_,_=>none
 | _,_,_,_=>none
def HQ(tr:Tr Value)(i:Nat)(new:List Value)(el:TypeId)(k:Nat):AB:=match kw tr i new with
 | .lf=>.cells (i+gy new) .lf el k false
 | .nd a b c=>.cells (i+gy new) (.nd a b c) el k false
def tU(H:AH)(n k len add cap:Nat)(a:Addr)(el:TypeId)(new:List Value):Option AN:=match a.spot,a.off,Nat.beq cap lU,bX H a.block with
 | none,0,true,some (.cells nn tr ty w false)=>match Nat.beq w k,Nat.ble (len*k) nn,Nat.beq ty el with
  | true,true,true=>match Nat.ble ((len+add)*k) nn with
   | true=>rv H n k len add cap (some a) new
   | false=>some (.val (.slice (some ⟨n,0,none⟩) (len+add) lU) (cX (cX H a.block none) n (some (HQ tr (len*k) new el k))) (n+1))
  | _,_,_=>none
 | _,_,_,_=>none
def xU(P:Program)(H:AH)(n:Nat)(el:TypeId)(x y:Value):Option AN:=match P.info? el,kT P el with
 | some inf,some z=>match inf.size,inf.bytes,x with
  | k+1,by_+1,.slice base len cap=>match p7 H (k+1) y,Nat.beq (gy z) (k+1),Nat.blt (len+dY y) 1000000,Nat.blt by_ 1000000 with
   | some new,true,true,true=>match j0 new,Nat.blt cap lU with
    | true,true=>match Nat.ble (len+dY y) cap with
     | true=>rv H n (k+1) len (dY y) cap base new
     | false=>match p7 H (k+1) (.slice base len cap) with
      | some r_=>some (ja H n (k+1) len (dY y) el r_ new)
      | none=>none
    | true,false=>match base with
     | some a=>tU H n (k+1) len (dY y) cap a el new
     | none=>none
    | _,_=>none
   | _,_,_,_=>none
  | _,_,_=>none
 | _,_=>none
def P7(P:Program)(t:TypeId):Bool:=match P.underlying t with
 | some (.slice _)=>true
 | _=>false
def HS(P:Program)(H:AH)(n:Nat)(c:Call)(T:Tr Value):Option AN:=match c with
 | ⟨_,⟨[x,y]⟩,⟨[t,u]⟩⟩=>match tT P t,P7 P u with
  | some el,true=>xU P H n el (ael T x) (ael T y)
  | _,_=>none
 | _=>none
def rx(P:Program)(f:FuncId):Bool:=match P.funcs[f]? with
 | some fn=>!(fn.name == "runtime.NumGoroutine") && fn.body.isSome
 | none=>false
def qx(P:Program)(v:Value)(args:List Value):Option AN:=match v with
 | .func fn first captured=>match fn with
  | .func f=>match rx P f with
   | true=>some (.ent f (first.toList++(args++captured.toList)))
   | false=>none
  | .yield l=>match first.toList with
   | []=>some (.rnd l args)
   | _=>none
  | _=>none
 | _=>none
def HT(P:Program)(t:TypeId)(name:String):Option FuncId:=match P.info? t,Nat.blt 0 (P.types.size+Made.depth) with
 | some i,true=>match i.methods.find? (·.name == name) with
  | some m=>match m.path.toList,m.func,P.underlying t with
   | [],some (f,true),some (.pointer _)=>some f
   | [],some (_,false),some (.pointer _)=>none
   | [],some (f,false),some _=>some f
   | _,_,_=>none
  | none=>none
 | _,_=>none
def xV(P:Program)(H:AH)(n:Nat)(el:TypeId)(x y:Value):Option AN:=match fi P el with
 | some k=>match x,y with
  | .slice (some a) dl _,.slice b sl cc=>match a.spot,p7 H k (.slice b (Nat.min sl dl) cc) with
   | none,some vs=>match o0 H a vs with
    | some H=>some (.val (.int .i64 (.ofNat (Nat.min sl dl))) H n)
    | none=>none
   | _,_=>none
  | _,_=>none
 | none=>none
def xW(P:Program)(H:AH)(n:Nat)(c:Call)(T:Tr Value):Option AN:=match c with
 | ⟨_,⟨[x,y]⟩,⟨[t,_]⟩⟩=>match tT P t with
  | some el=>xV P H n el (ael T x) (ael T y)
  | none=>none
 | _=>none
def m0(P:Program)(o:Oper)(T:Tr Value)(H:AH)(n:Nat):Option AN:=match o.op with
 | .store t x y=>match ael T x with
  | .pointer (some a)=>match vC P t H a (ael T y) with
   | some H=>some (.val undef H n)
   | none=>none
  | _=>none
 | .mapUpdate t m k v=>match Lo P t H (ael T m) (ael T k) (ael T v) with
  | some H=>some (.val undef H n)
  | none=>none
 | .insert t m k v=>match Lo P t H (ael T m) (ael T k) (ael T v) with
  | some H=>some (.val undef H n)
  | none=>none
 | .defer c=>match c.callee with
  | .value f=>match ael T f with
   | .func fn first captured=>some (.dfr { target:=.fn fn captured,args:=⟨first.toList++mZ T c.args.toList⟩ })
   | _=>none
  | _=>none
 | .call c=>match c.callee with
  | .value f=>match qx P (ael T f) (mZ T c.args.toList) with
   | some x=>some x
   | none=>match gz P T o with
    | some v=>some (.val v H n)
    | none=>none
  | .builtin b=>match b with
   | .append=>HS P H n c T
   | .copy=>xW P H n c T
   | .recover=>some .rcv
   | _=>none
  | .invoke recv name=>match ael T recv with
   | .iface t v=>match HT P t name with
    | some f=>match rx P f with
     | true=>some (.ent f (v::mZ T c.args.toList))
     | false=>none
    | none=>none
   | _=>none
 | _=>none
def N5(b:AB)(m:Mk)(H:AH)(n:Nat):AN:=.val (m.val n) (cX H n (some b)) (n+1)
def Cj(P:Program)(G:Nat)(o:Oper)(T:Tr Value)(H:AH)(n:Nat):Option AN:=match i9 o.op with
 | none=>none
 | some l=>match sN G l with
  | false=>none
  | true=>match sy P o.op with
   | .pu=>match gS P o T with
    | some v=>some (.val v H n)
    | none=>none
   | .lo=>match jB P o T H with
    | some v=>some (.val v H n)
    | none=>none
   | .nw=>match sO P o T with
    | some (b,m)=>some (N5 b m H n)
    | none=>none
   | .ef=>m0 P o T H n
inductive Ex where
 | normal
 | exit (id:Nat)
 | ret
inductive Task where
 | code (r:Option Nat) (N:Nat) (c:Code) (s:St)
 | loop (r:Option Nat) (N:Nat) (c:Code) (s:St)
 | fn (f:FuncId) (args:List Value) (H:AH) (n:Nat)
 | rnd (l:Nat) (T:Tr Value) (N:Nat) (assign body:Code) (H:AH) (n:Nat)
 | dfn (f:FuncId) (args:List Value) (H:AH) (n:Nat)
inductive Rs where
 | cd (e:Ex) (s:St)
 | fn (v:Value) (H:AH) (n:Nat)
def eO(ops:Array Oper)(o:Oper)(T:Tr Value):Option Bool:=match o.guard with
 | none=>some true
 | some (j,want)=>match (ops[j]?).bind (·.dst) with
  | some d=>match cY T d with
   | .bool b=>some (b == want)
   | .tuple _=>some false
   | _=>none
  | none=>none
def fo(N:Nat)(dst:Option Tmp)(v:Value)(T:Tr Value):Option (Tr Value):=match dst with
 | none=>some T
 | some d=>match Nat.blt d N with
  | true=>some (sM T d v)
  | false=>none
def HU:List Tmp -> List Value -> Tr Value -> Tr Value
 | p::ps,v::vs,T=>HU ps vs (sM T p v)
 | _,_,T=>T
def Cm(N:Nat):List Tmp -> Bool
 | []=>true
 | p::ps=>match Nat.blt p N with
  | true=>Cm N ps
  | false=>false
inductive OpR where
 | val (v:Value) (H:AH) (n:Nat)
 | dfr (d:Deferred)
def j4(P:Program)(G:Nat)(ih:Task -> Option Rs)(r:Option Nat)(o:Oper)(T:Tr Value)(H:AH)(n:Nat):Option OpR:=match Cj P G o T H n with
 | none=>none
 | some x=>match x with
  | .val v H n=>some (.val v H n)
  | .ent f args=>match ih (.fn f args H n) with
   | some (.fn v H n)=>some (.val v H n)
   | _=>none
  | .rnd l args=>match bX H l with
   | some (.loop _ _ T N' ps assign body _)=>match Nat.beq (gy args) ps.size,Cm N' ps.toList with
    | true,true=>match ih (.rnd l (HU ps.toList args T) N' assign body H n) with
     | some (.fn v H n)=>some (.val v H n)
     | _=>none
    | _,_=>none
   | _=>none
  | .dfr d=>match r with
   | none=>some (.dfr d)
   | some _=>none
  | .rcv=>none
def mF(P:Program)(G:Nat)(ih:Task -> Option Rs)(r:Option Nat)(N:Nat)(ops:Array Oper):List Oper -> St -> Option St
 | [],s=>some s
 | o::rest,s=>match eO ops o s.T with
  | none=>none
  | some false=>match fo N o.dst undef s.T with
   | some T=>mF P G ih r N ops rest ⟨T,s.D,s.H,s.n⟩
   | none=>none
  | some true=>match j4 P G ih r o s.T s.H s.n with
   | none=>none
   | some (.val v H n)=>match fo N o.dst v s.T with
    | some T=>mF P G ih r N ops rest ⟨T,s.D,H,n⟩
    | none=>none
   | some (.dfr d)=>match fo N o.dst undef s.T with
    | some T=>mF P G ih r N ops rest ⟨T,d::s.D,s.H,s.n⟩
    | none=>none
mutual
def sA:Value -> Value -> Bool
 | .bool a,.bool b=>a == b
 | .int k a,.int k' b=>match decide (k=k') with
  | true=>a == b
  | false=>false
 | .string a,.string b=>a == b
 | .pointer a,.pointer b=>decide (a=b)
 | .slice a n c,.slice b n' c'=>match decide (a=b),Nat.beq n n',Nat.beq c c' with
  | true,true,true=>true
  | _,_,_=>false
 | .map a,.map b=>decide (a=b)
 | .func fn f c,.func fn' f' c'=>match decide (fn=fn'),EC f f' with
  | true,true=>EC c c'
  | _,_=>false
 | .nilFunc,.nilFunc=>true
 | .iface t v,.iface t' v'=>match Nat.beq t t' with
  | true=>sA v v'
  | false=>false
 | .nilIface,.nilIface=>true
 | .agg c,.agg c'=>EC c c'
 | .tuple c,.tuple c'=>EC c c'
 | _,_=>false
def EC:Array Value -> Array Value -> Bool
 | ⟨l⟩,⟨l'⟩=>p8 l l'
def p8:List Value -> List Value -> Bool
 | [],[]=>true
 | v::l,v'::l'=>match sA v v' with
  | true=>p8 l l'
  | false=>false
 | _,_=>false
end
def xX(e:Edge):Bool:=match e.ground with
 | .textOnly _=>false
 | .gcOnly _=>false
 | _=>true
def j5(i:Nat):List Nat -> Bool
 | []=>false
 | j::l=>match Nat.beq i j with
  | true=>true
  | false=>j5 i l
def Lp{α:Type}:List α -> Nat -> Option α
 | [],_=>none
 | b::l,i=>match i with
  | 0=>some b
  | i+1=>Lp l i
def AD(bs:List (List Nat)):List Edge -> Option (List Nat)
 | []=>some []
 | e::es=>match AD bs es with
  | none=>none
  | some l=>match xX e with
   | false=>some l
   | true=>match Lp bs e.on with
    | some b=>some (e.on::(b++l))
    | none=>none
def HV:List Oper -> List (List Nat) -> Option (List (List Nat))
 | [],bs=>some bs
 | o::l,bs=>match AD bs o.after.toList with
  | some b=>HV l (bs++[b])
  | none=>none
def ry:List Operand -> List Tmp
 | []=>[]
 | x::l=>match x with
  | .tmp t=>t::ry l
  | _=>ry l
def looks(ops:Array Oper)(o:Oper):Option (List Tmp):=match i9 o.op with
 | none=>none
 | some l=>match o.guard with
  | none=>some (ry l)
  | some (j,_)=>match (ops[j]?).bind (·.dst) with
   | some d=>some (d::ry l)
   | none=>none
def isE(P:Program)(o:Oper):Bool:=match sy P o.op with
 | .ef=>true
 | _=>false
def isN(P:Program)(o:Oper):Bool:=match sy P o.op with
 | .nw=>true
 | _=>false
def rz(P:Program)(ops:Array Oper)(i:Nat)(o o':Oper)(b':List Nat):Bool:=match j5 i b' with
 | true=>match o.dst,o'.dst with
  | some d,some d'=>!(Nat.beq d d')
  | _,_=>true
 | false=>match isE P o',isE P o || isN P o with
  | true,true=>false
  | _,_=>match looks ops o,looks ops o' with
   | some l,some l'=>match o.dst,o'.dst with
    | some d,some d'=>!(Nat.beq d d') && !(j5 d l') && !(j5 d' l)
    | some d,none=>!(j5 d l')
    | none,some d'=>!(j5 d' l)
    | none,none=>true
   | _,_=>false
def rB(P:Program)(ops:Array Oper)(o':Oper)(b':List Nat):Nat -> List Oper -> Bool
 | _,[]=>true
 | i,o::l=>match rz P ops i o o' b' with
  | true=>rB P ops o' b' (i+1) l
  | false=>false
def nz(G:Nat)(o:Oper):Bool:=match i9 o.op with
 | some l=>sN G l
 | none=>false
def tV(P:Program)(G:Nat)(ops:Array Oper)(all:List Oper):Nat -> List Oper -> List (List Nat) -> Bool
 | _,[],[]=>true
 | i,o::l,b::bs=>match nz G o,rB P ops o b 0 (all.take i),(looks ops o).isSome with
  | true,true,true=>tV P G ops all (i+1) l bs
  | _,_,_=>false
 | _,_,_=>false
def AE(P:Program)(G:Nat)(ops:Array Oper):Option (List (List Nat)):=match HV ops.toList [] with
 | some bs=>match tV P G ops ops.toList 0 ops.toList bs with
  | true=>some bs
  | false=>none
 | none=>none
structure DLd where
 i:Nat
 o:Oper
 b:List Nat
 T:Tr Value
 v:Value
structure DSt where
 T:Tr Value
 H:AH
 n:Nat
 pend:List (Nat × AB)
 stg:List (Nat × List Nat × AH)
 lds:List DLd
def hZ(H:AH):List (Nat × AB) -> AH
 | []=>H
 | (h,b)::l=>hZ (cX H h (some b)) l
def RH(P:Program)(G:Nat)(ih:Task -> Option Rs)(r:Option Nat)(N:Nat)(ops:Array Oper)(i:Nat)(o:Oper)(b:List Nat)(s:DSt):Option DSt:=match eO ops o s.T with
 | none=>none
 | some false=>match fo N o.dst undef s.T with
  | some T=>some { s with T:=T }
  | none=>none
 | some true=>match sy P o.op with
  | .pu=>match gS P o s.T with
   | some v=>match fo N o.dst v s.T with
    | some T=>some { s with T:=T }
    | none=>none
   | none=>none
  | .lo=>match jB P o s.T s.H with
   | some v=>match fo N o.dst v s.T with
    | some T=>some { s with T:=T,lds:=⟨i,o,b,s.T,v⟩::s.lds }
    | none=>none
   | none=>none
  | .nw=>match sO P o s.T with
   | some (bl,m)=>match fo N o.dst (m.val s.n) s.T with
    | some T=>some { s with T:=T,n:=s.n+1,pend:=s.pend++[(s.n,bl)] }
    | none=>none
   | none=>none
  | .ef=>match hZ s.H s.pend with
   | H=>match j4 P G ih r o s.T H s.n with
    | some (.val v H' n')=>match fo N o.dst v s.T with
     | some T=>some { s with T:=T,H:=H',n:=n',pend:=[],stg:=s.stg++[(i,b,H')] }
     | none=>none
    | _=>none
def xY(P:Program)(G:Nat)(ih:Task -> Option Rs)(r:Option Nat)(N:Nat)(ops:Array Oper):Nat -> List Oper -> List (List Nat) -> DSt -> Option DSt
 | _,[],_,s=>some s
 | i,o::l,b::bs,s=>match RH P G ih r N ops i o b s with
  | some s=>xY P G ih r N ops (i+1) l bs s
  | none=>none
 | _,_,_,_=>none
def Q6(P:Program)(d:DLd)(H:AH):Bool:=match jB P d.o d.T H with
 | some v=>sA d.v v
 | none=>false
def sP(P:Program)(d:DLd):List Nat -> AH -> List (Nat × List Nat × AH) -> Bool
 | be,H,[]=>match j5 d.i be with
  | true=>true
  | false=>Q6 P d H
 | be,H,(e,be',H')::l=>match j5 d.i be || j5 e d.b with
  | true=>sP P d be' H' l
  | false=>match Q6 P d H with
   | true=>sP P d be' H' l
   | false=>false
def Cn(P:Program)(H:AH)(stg:List (Nat × List Nat × AH)):List DLd -> Bool
 | []=>true
 | d::l=>match sP P d [] H stg with
  | true=>Cn P H stg l
  | false=>false
def N6(P:Program)(G:Nat)(ih:Task -> Option Rs)(r:Option Nat)(N:Nat)(ops:Array Oper)(s:St):Option St:=match AE P G ops with
 | none=>none
 | some bs=>match xY P G ih r N ops 0 ops.toList bs ⟨s.T,s.H,s.n,[],[],[]⟩ with
  | none=>none
  | some d=>match Cn P s.H d.stg d.lds with
   | true=>some ⟨d.T,s.D,hZ d.H d.pend,d.n⟩
   | false=>none
def Co:Code -> Option Ex
 | .ret=>some .ret
 | .exit id=>some (.exit id)
 | _=>none
def jd(P:Program)(G:Nat)(ih:Task -> Option Rs)(r:Option Nat)(N:Nat):Code -> St -> Option (Ex × St)
 | .skip,s=>some (.normal,s)
 | .label _,s=>some (.normal,s)
 | .region _ ops draw,s=>match draw with
  | false=>match mF P G ih r N ops ops.toList s with
   | some s=>some (.normal,s)
   | none=>none
  | true=>match N6 P G ih r N ops s with
   | some s=>some (.normal,s)
   | none=>none
 | .seq a b,s=>match jd P G ih r N a s with
  | some (.normal,s)=>jd P G ih r N b s
  | x=>x
 | .cond c x y,s=>match ael s.T c with
  | .bool true=>jd P G ih r N x s
  | .bool false=>jd P G ih r N y s
  | _=>none
 | .block id c,s=>match jd P G ih r N c s with
  | some (.exit Vc,s)=>match Nat.beq Vc id with
   | true=>some (.normal,s)
   | false=>some (.exit Vc,s)
  | x=>x
 | .loop c,s=>match jd P G ih r N c s with
  | some (.normal,s)=>match ih (.loop r N c s) with
   | some (.cd e s)=>some (e,s)
   | _=>none
  | x=>x
 | .rangeFunc g ps assign body,s=>match ael s.T g,Q4 G g with
  | .func (.func f) first captured,true=>match rx P f with
   | true=>match (match r with
    | none=>some (s.n,(⟨{ target:=.collected s.n,args:=#[] },[]⟩:Deferred × List Deferred).1::s.D,cX s.H s.n (some (.dfr false)),s.n+1)
    | some l0=>match bX s.H l0 with
     | some (.loop _ _ _ _ _ _ _ d)=>some (d,s.D,s.H,s.n)
     | _=>none) with
    | some (d,D,H,n)=>match ih (.fn f (first.toList++(.func (.yield n) #[] #[]::captured.toList)) (cX H n (some (.loop .ready none s.T N ps assign body d))) (n+1)) with
     | some (.fn _ H' n')=>match bX H' n with
      | some (.loop st pend T' N' Wo V8 bo' d')=>match st with
       | .busy=>none
       | _=>match pend with
        | none=>some (.normal,⟨s.T,D,cX H' n (some (.loop .exhausted pend T' N' Wo V8 bo' d')),n'⟩)
        | some c=>match Co c with
         | some e=>some (e,⟨s.T,D,cX H' n (some (.loop .exhausted pend T' N' Wo V8 bo' d')),n'⟩)
         | none=>none
      | _=>none
     | _=>none
    | none=>none
   | false=>none
  | _,_=>none
 | .exit id,s=>some (.exit id,s)
 | .scope c,s=>jd P G ih r N c s
 | .goto _,_=>none
 | .ret,s=>some (.ret,s)
 | .refuse _,_=>none
def o7(P:Program)(T:Tr Value)(H:AH):List ResultVar -> Option (List Value)
 | []=>some []
 | .tmp t::l=>match o7 P T H l with
  | some vs=>some (cY T t::vs)
  | none=>none
 | .cell a t::l=>match cY T a with
  | .pointer (some a)=>match tS P t H a,o7 P T H l with
   | some v,some vs=>some (v::vs)
   | _,_=>none
  | _=>none
def xZ:List Value -> Value
 | [v]=>v
 | l=>.tuple ⟨l⟩
def kx(P:Program)(ih:Task -> Option Rs):List Deferred -> AH -> Nat -> Option (AH × Nat)
 | [],H,n=>some (H,n)
 | d::ds,H,n=>match d.target with
  | .collected h=>match bX H h with
   | some (.dfr false)=>kx P ih ds (cX H h (some (.dfr true))) n
   | _=>none
  | .fn (.func f) captured=>match rx P f with
   | true=>match ih (.dfn f (d.args.toList++captured.toList) H n) with
    | some (.fn _ H n)=>kx P ih ds H n
    | _=>none
   | false=>none
  | _=>none
def m5(P:Program)(G:Nat)(N:Nat)(ops:Array Oper):List Oper -> St -> Option St
 | [],s=>some s
 | o::rest,s=>match eO ops o s.T with
  | none=>none
  | some false=>match fo N o.dst undef s.T with
   | some T=>m5 P G N ops rest ⟨T,s.D,s.H,s.n⟩
   | none=>none
  | some true=>match Cj P G o s.T s.H s.n with
   | some (.val v H n)=>match fo N o.dst v s.T with
    | some T=>m5 P G N ops rest ⟨T,s.D,H,n⟩
    | none=>none
   | some .rcv=>match fo N o.dst .nilIface s.T with
    | some T=>m5 P G N ops rest ⟨T,s.D,s.H,s.n⟩
    | none=>none
   | _=>none
def HW(P:Program)(G:Nat)(ih:Task -> Option Rs)(N:Nat):Code -> St -> Option (Ex × St)
 | .seq a b,s=>match HW P G ih N a s with
  | some (.normal,s)=>HW P G ih N b s
  | x=>x
 | .cond c x y,s=>match ael s.T c with
  | .bool true=>HW P G ih N x s
  | .bool false=>HW P G ih N y s
  | _=>none
 | .region id ops false,s=>match m5 P G N ops ops.toList s with
  | some s=>some (.normal,s)
  | none=>match jd P G ih none N (.region id ops false) s with
   | some x=>some x
   | none=>none
 | c,s=>jd P G ih none N c s
def mG(args:List Value):Tr Value:=dS undef args 0 .lf
def rC(P:Program)(f:FuncId):Option (Func × Code):=match P.funcs[f]? with
 | some fn=>match fn.body with
  | some c=>some (fn,c)
  | none=>none
 | none=>none
def gU(P:Program)(G:Nat)(ih:Task -> Option Rs):Task -> Option Rs
 | .code r N c s=>match jd P G ih r N c s with
  | some (e,s)=>some (.cd e s)
  | none=>none
 | .loop r N c s=>match jd P G ih r N (.loop c) s with
  | some (e,s)=>some (.cd e s)
  | none=>none
 | .fn f args H n=>match rC P f with
  | some (fn,c)=>match Nat.ble (gy args) fn.ntmps with
   | true=>match jd P G ih none fn.ntmps c ⟨mG args,[],H,n⟩ with
    | some (.exit _,_)=>none
    | some (_,s)=>match kx P ih s.D s.H s.n with
     | some (H,n)=>match o7 P s.T H fn.results.toList with
      | some vs=>some (.fn (xZ vs) H n)
      | none=>none
     | none=>none
    | none=>none
   | false=>none
  | none=>none
 | .rnd l T N assign body H n=>match jd P G ih (some l) N assign ⟨T,[],H,n⟩ with
  | some (.normal,s)=>match bX s.H l,s.D with
   | some (.loop .ready pend T' N' ps V8 bo d),[]=>match jd P G ih (some l) N body ⟨s.T,[],cX s.H l (some (.loop .busy pend T' N' ps V8 bo d)),s.n⟩ with
    | some (e,s)=>match bX s.H l with
     | some (.loop _ _ T' N' ps V8 bo d)=>match e with
      | .normal=>some (.fn (.bool true) (cX s.H l (some (.loop .ready none T' N' ps V8 bo d))) s.n)
      | .ret=>some (.fn (.bool false) (cX s.H l (some (.loop .done (some .ret) T' N' ps V8 bo d))) s.n)
      | .exit id=>some (.fn (.bool false) (cX s.H l (some (.loop .done (some (.exit id)) T' N' ps V8 bo d))) s.n)
     | _=>none
    | none=>none
   | _,_=>none
  | _=>none
 | .dfn f args H n=>match rC P f with
  | some (fn,c)=>match Nat.ble (gy args) fn.ntmps with
   | true=>match HW P G ih fn.ntmps c ⟨mG args,[],H,n⟩ with
    | some (.exit _,_)=>none
    | some (_,s)=>match s.D with
     | []=>match o7 P s.T s.H fn.results.toList with
      | some vs=>some (.fn (xZ vs) s.H s.n)
      | none=>none
     | _=>none
    | none=>none
   | false=>none
  | none=>none
def HX(P:Program)(G:Nat):Nat -> Task -> Option Rs
 | 0,_=>none
 | k+1,t=>gU P G (HX P G k) t
end
section tr
variable {α:Type} {d x:α}
theorem ya:ga d [] .lf=d:=rfl
theorem yb{v:α}{l r:Tr α}:ga d [] (.nd v l r)=v:=rfl
theorem od{b:Bool}{p:List Bool}:ga d (b::p) .lf=d:=rfl
theorem fp{b:Bool}{p:List Bool}{v:α}{l r:Tr α}:ga d (b::p) (.nd v l r)=ga d p (match b with|true=>r|false=>l):=by cases b <;> rfl
theorem qy(p:List Bool):ga d p .lf=d:=by cases p <;> rfl
theorem yc:dW d x [] .lf=.nd x .lf .lf:=rfl
theorem yd{v:α}{l r:Tr α}:dW d x [] (.nd v l r)=.nd x l r:=rfl
theorem ky{b:Bool}{p:List Bool}:dW d x (b::p) .lf=(match b with|true=>.nd d .lf (dW d x p .lf)|false=>.nd d (dW d x p .lf) .lf):=by cases b <;> rfl
theorem kz{b:Bool}{p:List Bool}{v:α}{l r:Tr α}:dW d x (b::p) (.nd v l r)=(match b with|true=>.nd v l (dW d x p r)|false=>.nd v (dW d x p l) r):=by cases b <;> rfl
theorem HY(p:List Bool):∀t:Tr α,ga d p (dW d x p t)=x:=by
 induction p with
 | nil=>intro t;cases t <;> rfl
 | cons b p ih =>
  intro t;cases t with
  | lf=>rw[ky];cases b <;> simp only[fp] <;> exact ih _
  | nd v l r=>rw[kz];cases b <;> simp only[fp] <;> exact ih _
theorem ye:∀ (p q:List Bool) (t:Tr α),p≠q -> ga d q (dW d x p t)=ga d q t:=by
 intro p
 induction p with
 | nil =>
  intro q t h;cases q with
  | nil=>exact absurd rfl h
  | cons c q=>cases t <;> cases c <;> simp[yc,yd,fp,od,qy]
 | cons b p ih =>
  intro q t h;cases q with
  | nil=>cases t <;> cases b <;> simp[ky,kz,yb,ya]
  | cons c q =>
   cases t with
   | lf =>
    rw[ky,od];cases b <;> cases c <;> simp only[fp,qy] <;> (rw[ih _ _ (λ e=>h (by rw[e]))];exact qy _)
   | nd v l r =>
    rw[kz,fp];cases b <;> cases c <;> simp only[fp] <;> exact ih _ _ (λ e=>h (by rw[e]))
theorem ED(k i:Nat):HH (k+1) (i+1)=(Nat.beq (i % 2) 1::HH k (i / 2)):=rfl
def RI:List Bool -> Nat
 | []=>0
 | b::p=>2*RI p+(match b with|true=>1|false=>0)+1
theorem Cp:∀k i,i <= k -> RI (HH k i)=i:=by
 intro k
 induction k with
 | zero =>
  intro i h;obtain rfl:i=0:=by omega
  rfl
 | succ k ih =>
  intro i h;cases i with
  | zero=>rfl
  | succ i =>
   rw[ED];show 2*RI (HH k (i / 2))+(match Nat.beq (i % 2) 1 with|true=>1|false=>0)+1=i+1;rw[ih _ (by omega)];rcases Nat.mod_two_eq_zero_or_one i with e|e <;> rw[e] <;> simp <;> omega
theorem Lq{i j:Nat}(h:pth i=pth j):i=j:=by
 have h1:=Cp i i (aaK _);have h2:=Cp j j (aaK _);unfold pth at h;rw[h] at h1;exact h1.symm.trans h2
theorem Lr(t:Tr α)(i:Nat):Tr.get d (Tr.set d x t i) i=x:=HY _ _
theorem rD(t:Tr α){i j:Nat}(h:i≠j):Tr.get d (Tr.set d x t i) j=Tr.get d t j:=ye _ _ _ λ e=>h (Lq e)
theorem AF(i:Nat):Tr.get d (.lf:Tr α) i=d:=qy _
theorem jb(t:Tr α)(i j:Nat):Tr.get d (Tr.set d x t i) j=if i=j then x else Tr.get d t j:=by
 split
 ·rename_i e;subst e;exact Lr _ _
 ·rename_i e;exact rD _ e
theorem HZ(y:α)(l:List α)(i:Nat)(t:Tr α):dS d (y::l) i t=dS d l (i+1) (Tr.set d y t i):=by
 rw[dS];split <;> rename_i h <;> rw[h]
theorem qz:∀ (l:List α) (i:Nat) (t:Tr α) (j:Nat),Tr.get d (dS d l i t) j=if i <= j then (if h:j-i<l.length then l[j-i] else Tr.get d t j) else Tr.get d t j
 | [],i,t,j=>by simp[dS]
 | y::l,i,t,j=>by
  rw[HZ,qz l,jb]
  by_cases h1:i=j
  ·subst h1;simp;intro h;omega
  ·by_cases h2:i <= j
   ·have h3:i+1 <= j:=by omega
    have h4:j-i=(j-(i+1))+1:=by omega
    simp only[h1,h2,h3,if_true,if_false,h4,aaS,Nat.add_lt_add_iff_right,List.getElem_cons_succ]
   ·have h3:¬ i+1 <= j:=by omega
    simp[h1,h2,h3]
end tr
abbrev Nu:=Nat -> Option (Nat × Nat)
def Nu.Le(ν ν':Nu):Prop:=∀h x,ν h=some x -> ν' h=some x
theorem Nu.Le.refl(ν:Nu):ν.Le ν:=λ _ _ h=>h
theorem Nu.Le.trans{a b c:Nu}(h:a.Le b)(h':b.Le c):a.Le c:=λ _ _ e=>h' _ _ (h _ _ e)
def Nu.upd(ν:Nu)(h r K:Nat):Nu:=λ k=>if k=h then some (r,K) else ν k
theorem cm{ν:Nu}{h r K:Nat}:ν.upd h r K h=some (r,K):=if_pos rfl
theorem eR{ν:Nu}{h r K k:Nat}(e:k≠h):ν.upd h r K k=ν k:=if_neg e
theorem j6{ν:Nu}{h r K:Nat}(e:ν h=none):ν.Le (ν.upd h r K):=λ k x hx=>by
 rw[eR];exact hx;intro e';subst e';rw[e] at hx;cases hx
def cC:Value -> Bool
 | .bool _=>true
 | .int _ _=>true
 | .float _ _=>true
 | .complex _ _ _=>true
 | .string _=>true
 | .pointer none=>true
 | .slice none _ _=>true
 | .map none=>true
 | .nilFunc=>true
 | .nilIface=>true
 | _=>false
inductive FnR(ν:Nu):Fn -> Fn -> Prop
 | func (f:FuncId):FnR ν (.func f) (.func f)
 | yield {l b K:Nat}:ν l=some (b,K) -> FnR ν (.yield l) (.yield b)
def RJ(K c c':Nat):Prop:=(c<lU -> c'=c) /\ (lU <= c -> c'+(c-lU)=K)
inductive VRi(ν:Nu):Value -> Value -> Prop
 | atom (v:Value):cC v=true -> VRi ν v v
 | ptr {h b K:Nat} (o:Nat):ν h=some (b,K) -> VRi ν (.pointer (some ⟨h,o,none⟩)) (.pointer (some ⟨b,o,none⟩))
 | slice {h b K c c':Nat} (o n:Nat):ν h=some (b,K) -> RJ K c c' -> VRi ν (.slice (some ⟨h,o,none⟩) n c) (.slice (some ⟨b,o,none⟩) n c')
 | map {h b K:Nat}:ν h=some (b,K) -> VRi ν (.map (some h)) (.map (some b))
 | func {fn fn':Fn} {f f' c c':Array Value}:FnR ν fn fn' -> f.size=f'.size -> (∀ (i:Nat) (v v':Value),f[i]?=some v -> f'[i]?=some v' -> VRi ν v v') -> c.size=c'.size -> (∀ (i:Nat) (v v':Value),c[i]?=some v -> c'[i]?=some v' -> VRi ν v v') -> VRi ν (.func fn f c) (.func fn' f' c')
 | iface {v v':Value} (t:TypeId):VRi ν v v' -> VRi ν (.iface t v) (.iface t v')
 | agg {c c':Array Value}:c.size=c'.size -> (∀ (i:Nat) (v v':Value),c[i]?=some v -> c'[i]?=some v' -> VRi ν v v') -> VRi ν (.agg c) (.agg c')
 | tuple {c c':Array Value}:c.size=c'.size -> (∀ (i:Nat) (v v':Value),c[i]?=some v -> c'[i]?=some v' -> VRi ν v v') -> VRi ν (.tuple c) (.tuple c')
inductive LR(ν:Nu):List Value -> List Value -> Prop
 | nil:LR ν [] []
 | cons {v v':Value} {l l':List Value}:VRi ν v v' -> LR ν l l' -> LR ν (v::l) (v'::l')
section vr
variable {ν ν':Nu}
theorem FnR.mono{f f':Fn}(h:FnR ν f f')(hl:ν.Le ν'):FnR ν' f f':=by
 cases h with
 | func f=>exact .func f
 | yield h=>exact .yield (hl _ _ h)
theorem VRi.mono{v v':Value}(h:VRi ν v v')(hl:ν.Le ν'):VRi ν' v v':=by
 induction h with
 | atom v h=>exact .atom v h
 | ptr o h=>exact .ptr o (hl _ _ h)
 | slice o n h c=>exact .slice o n (hl _ _ h) c
 | map h=>exact .map (hl _ _ h)
 | func hf e1 _ e2 _ Wx Ww=>exact .func (hf.mono hl) e1 Wx e2 Ww
 | iface t _ ih=>exact .iface t ih
 | agg e _ ih=>exact .agg e ih
 | tuple e _ ih=>exact .tuple e ih
theorem LR.mono{l l':List Value}(h:LR ν l l')(hl:ν.Le ν'):LR ν' l l':=by
 induction h with
 | nil=>exact .nil
 | cons h _ ih=>exact .cons (h.mono hl) ih
theorem LR.length{l l':List Value}(h:LR ν l l'):l'.length=l.length:=by
 induction h with
 | nil=>rfl
 | cons _ _ ih=>simp[ih]
theorem LR.get{l l':List Value}(h:LR ν l l'){i:Nat}{v:Value}(hv:l[i]?=some v):∃v',l'[i]?=some v' /\ VRi ν v v':=by
 induction h generalizing i with
 | nil=>simp at hv
 | cons hd _ ih =>
  cases i with
  | zero=>simp at hv;subst hv;exact⟨_,rfl,hd⟩
  | succ i=>simp at hv;simpa using ih hv
theorem LR.of_get{l l':List Value}(e:l.length=l'.length)(h:∀ (i:Nat) (v v':Value),l[i]?=some v -> l'[i]?=some v' -> VRi ν v v'):LR ν l l':=by
 induction l generalizing l' with
 | nil=>cases l' with
  | nil=>exact .nil
  | cons _ _=>simp at e
 | cons v l ih=>cases l' with
  | nil=>simp at e
  | cons v' l'=>exact .cons (h 0 v v' rfl rfl) (ih (by simpa using e) λ i u u' hu hu'=>h (i+1) u u' (by simpa using hu) (by simpa using hu'))
theorem LR.of_arr{c c':Array Value}(e:c.size=c'.size)(h:∀ (i:Nat) (v v':Value),c[i]?=some v -> c'[i]?=some v' -> VRi ν v v'):LR ν c.toList c'.toList :=
 .of_get (by simpa using e) λ i v v' h1 h2=>h i v v' (by simpa using h1) (by simpa using h2)
theorem LR.arr{l l':List Value}(h:LR ν l l'):(⟨l⟩:Array Value).size=(⟨l'⟩:Array Value).size /\ (∀ (i:Nat) (v v':Value),(⟨l⟩:Array Value)[i]?=some v -> (⟨l'⟩:Array Value)[i]?=some v' -> VRi ν v v'):=by
 refine⟨by simp[h.length],λ i v v' h1 h2=>?_⟩;obtain⟨u,hu,hr⟩:=h.get (i:=i) (v:=v) (by simpa using h1);have:u=v':=by
  have h2':l'[i]?=some v':=by simpa using h2
  rw[hu] at h2';simpa using h2'
 subst this;exact hr
theorem VRi.agg_of{l l':List Value}(h:LR ν l l'):VRi ν (.agg ⟨l⟩) (.agg ⟨l'⟩):=.agg h.arr.1 h.arr.2
theorem VRi.tuple_of{l l':List Value}(h:LR ν l l'):VRi ν (.tuple ⟨l⟩) (.tuple ⟨l'⟩):=.tuple h.arr.1 h.arr.2
theorem VRi.func_of{fn fn':Fn}{l l' c c':List Value}(hf:FnR ν fn fn')(h:LR ν l l')(k:LR ν c c'):VRi ν (.func fn ⟨l⟩ ⟨c⟩) (.func fn' ⟨l'⟩ ⟨c'⟩):=.func hf h.arr.1 h.arr.2 k.arr.1 k.arr.2
theorem VRi.undef:VRi ν undef undef:=.tuple rfl (by simp)
theorem LR.append{a a' b b':List Value}(h:LR ν a a')(k:LR ν b b'):LR ν (a++b) (a'++b'):=by
 induction h with
 | nil=>exact k
 | cons h _ ih=>exact .cons h ih
theorem VRi.plain_refl:∀ (v:Value),pl v=true -> VRi ν v v:=by
 intro v;refine Value.rec (motive_1:=λ v=>pl v=true -> VRi ν v v) (motive_2:=λ a=>ML a=true -> LR ν a.toList a.toList) (motive_3:=λ l=>xP l=true -> LR ν l l)
  ?_ ?_ ?_ ?_ ?_ ?_ ?_ ?_ ?_ ?_ ?_ ?_ ?_ ?_ ?_ ?_ ?_ ?_ v
 case _=>exact λ b _=>.atom _ rfl
 case _=>exact λ b _ _=>.atom _ rfl
 case _=>exact λ b _ _=>.atom _ rfl
 case _=>exact λ b _ _ _=>.atom _ rfl
 case _=>exact λ b _=>.atom _ rfl
 case _=>intro a h;cases a with
  | none=>exact .atom _ rfl
  | some a=>simp[pl] at h
 case _=>intro a n c h;cases a with
  | none=>exact .atom _ rfl
  | some a=>simp[pl] at h
 case _=>intro a h;cases a with
  | none=>exact .atom _ rfl
  | some a=>simp[pl] at h
 case _=>intro a h;simp[pl] at h
 case _ =>
  intro fn f c Wx Ww h;cases fn with
  | func g =>
   rw[pl] at h;split at h
   ·rename_i e;have:=VRi.func_of (FnR.func (ν:=ν) g) (Wx e) (Ww h);exact this
   ·cases h
  | _=>simp[pl] at h
 case _=>exact λ _=>.atom _ rfl
 case _=>intro t v ih h;exact .iface t (ih (by simpa [pl] using h))
 case _=>exact λ _=>.atom _ rfl
 case _=>intro c ih h;exact .agg_of (ih (by simpa [pl] using h))
 case _=>intro c ih h;exact .tuple_of (ih (by simpa [pl] using h))
 case _=>intro l ih h;exact ih (by simpa [ML] using h)
 case _=>exact λ _=>.nil
 case _ =>
  intro v l Wx Ww h;rw[xP] at h;split at h
  ·rename_i e;exact .cons (Wx e) (Ww h)
  ·cases h
theorem VRi.plain_eq{v v':Value}(h:VRi ν v v')(hp:pl v=true):v'=v:=by
 have key:∀ (l l':List Value),LR ν l l' -> (∀v∈l,∀v',VRi ν v v' -> pl v=true -> v'=v) -> xP l=true -> l'=l:=by
  intro l l' hl
  induction hl with
  | nil=>intros;rfl
  | cons hd _ ih =>
   intro hv hpl;rw[xP] at hpl;split at hpl
   ·rename_i e;rw[hv _ aaB _ hd e,ih (λ v hm=>hv v (aaE _ hm)) hpl]
   ·cases hpl
 have arr:∀ (c c':Array Value),c.size=c'.size -> (∀ (i:Nat) (v v':Value),c[i]?=some v -> c'[i]?=some v' -> VRi ν v v') -> (∀ (i:Nat) (v v':Value),c[i]?=some v -> c'[i]?=some v' -> pl v=true -> v'=v) -> ML c=true -> c'=c:=by
  intro c c' e h1 h2 hp;obtain⟨l⟩:=c;obtain⟨l'⟩:=c';have hl:=LR.of_arr e h1;rw[ML] at hp;have H_:∀v∈l,pl v=true:=by
   clear h1 h2 e hl
   induction l with
   | nil=>intro v hv;cases hv
   | cons u l ih =>
    rw[xP] at hp;split at hp
    ·rename_i eu;intro v hv;rcases List.mem_cons.1 hv with rfl|hv
     ·exact eu
     ·exact ih hp v hv
    ·cases hp
  congr 1;apply List.ext_getElem?;intro i;cases hi:l[i]? with
  | none =>
   have e':l.length=l'.length:=by simpa using e
   rw[List.getElem?_eq_none_iff] at hi ⊢;omega
  | some v =>
   obtain⟨v',h3,h4⟩:=hl.get hi;simp only at h3;rw[h3,h2 i v v' (by simpa using hi) (by simpa using h3) (H_ v (List.mem_of_getElem? hi))]
 induction h with
 | atom v h=>rfl
 | ptr o h=>simp[pl] at hp
 | slice o n h c=>simp[pl] at hp
 | map h=>simp[pl] at hp
 | func hf e1 h1 e2 h2 Wx Ww =>
  cases hf with
  | func g =>
   rw[pl] at hp;split at hp
   ·rename_i e;rw[arr _ _ e1 h1 Wx e,arr _ _ e2 h2 Ww hp]
   ·cases hp
  | yield _=>simp[pl] at hp
 | iface t _ ih=>rw[ih (by simpa [pl] using hp)]
 | agg e h1 ih=>rw[arr _ _ e h1 ih (by simpa [pl] using hp)]
 | tuple e h1 ih=>rw[arr _ _ e h1 ih (by simpa [pl] using hp)]
end vr
theorem rE{α β γ:Type}(s:Sem α)(f:α -> Sem β)(g:β -> Sem γ):(s.bind f).bind g=s.bind λ x=>(f x).bind g:=by
 induction s <;> simp only[Sem.bind] <;> first|rfl|(congr 1;funext x;rename_i ih;exact ih x)|(rename_i ih;rw[ih])
theorem sQ{α:Type}(s:Sem α):s.bind .pure=s:=by
 induction s <;> simp only[Sem.bind] <;> first|rfl|(congr 1;funext x;rename_i ih;exact ih x)|(rename_i ih;rw[ih])
theorem jc:LawfulMonad Sem:=LawfulMonad.mk' (m:=Sem)
 (id_map:=λ x=>sQ x) (pure_bind:=λ _ _=>rfl) (bind_assoc:=λ x f g=>rE x f g)
section lists
variable {ν:Nu} {P:Program}
theorem ew(l:List Value):gy l=l.length:=by induction l with
 | nil=>rfl
 | cons v l ih=>simp[gy,ih]
theorem gA(v:Value):hO v=v.cells.toList:=by cases v <;> rfl
theorem kB{v v':Value}(h:VRi ν v v'):LR ν (hO v) (hO v'):=by
 cases h with
 | atom v h=>cases v <;> first|exact .cons (.atom _ h) .nil|simp[cC] at h
 | ptr o h=>exact .cons (.ptr o h) .nil
 | slice o n h c=>exact .cons (.slice o n h c) .nil
 | map h=>exact .cons (.map h) .nil
 | func hf e1 h1 e2 h2=>exact .cons (.func hf e1 h1 e2 h2) .nil
 | iface t h=>exact .cons (.iface t h) .nil
 | agg e h=>exact .of_arr e h
 | tuple e h=>exact .cons (.tuple e h) .nil
theorem kC(l:List Value)(i:Nat):oa l i=l[i]?:=by
 induction l generalizing i with
 | nil=>rfl
 | cons v l ih=>cases i with
  | zero=>rfl
  | succ i=>simpa [oa] using ih i
theorem yf(l:List Value)(i:Nat):tQ l i=l.drop i:=by
 induction l generalizing i with
 | nil=>simp[tQ]
 | cons v l ih=>cases i with
  | zero=>rfl
  | succ i=>simpa [tQ] using ih i
theorem yg(l:List Value)(i:Nat):tR l i=l.take i:=by
 induction l generalizing i with
 | nil=>simp[tR]
 | cons v l ih=>cases i with
  | zero=>rfl
  | succ i=>simpa [tR] using ih i
theorem LR.drop{l l':List Value}(h:LR ν l l')(n:Nat):LR ν (l.drop n) (l'.drop n):=by
 induction h generalizing n with
 | nil=>simpa using LR.nil
 | cons h1 h2 ih=>cases n with
  | zero=>exact .cons h1 h2
  | succ n=>simpa using ih n
theorem LR.take{l l':List Value}(h:LR ν l l')(n:Nat):LR ν (l.take n) (l'.take n):=by
 induction h generalizing n with
 | nil=>simpa using LR.nil
 | cons h1 h2 ih=>cases n with
  | zero=>simpa using LR.nil
  | succ n=>simpa using LR.cons h1 (ih n)
theorem tW{vs IS:List Value}(h:LR ν vs IS):∀ {l l' r:List Value},LR ν l l' -> kR vs l=some r -> ∃r',kR IS l'=some r' /\ LR ν r r':=by
 induction h with
 | nil=>intro l l' r hl e;rw[kR] at e;cases e;exact⟨_,rfl,hl⟩
 | cons hv _ ih =>
  intro l l' r hl e;cases hl with
  | nil=>simp[kR] at e
  | cons h1 h2 =>
   rw[kR] at e;split at e
   ·rename_i r0 hr;cases e;obtain⟨r1,e1,e2⟩:=ih h2 hr;exact⟨_,by rw[kR,e1],.cons hv e2⟩
   ·cases e
theorem EE{vs IS:List Value}(h:LR ν vs IS):∀ {l l' r:List Value} (i:Nat),LR ν l l' -> fj vs l i=some r -> ∃r',fj IS l' i=some r' /\ LR ν r r':=by
 intro l l' r i hl
 induction hl generalizing i r with
 | nil =>
  intro e;cases i with
  | zero=>exact tW h .nil e
  | succ i=>simp[fj] at e
 | cons h1 h2 ih =>
  intro e;cases i with
  | zero=>exact tW h (.cons h1 h2) e
  | succ i =>
   rw[fj] at e;split at e
   ·rename_i r0 hr;cases e;obtain⟨r1,e1,e2⟩:=ih i hr;exact⟨_,by rw[fj];simp only[e1],.cons h1 e2⟩
   ·cases e
inductive PR(ν:Nu):List (Nat × Value) -> List (Nat × Value) -> Prop
 | nil:PR ν [] []
 | cons {v v':Value} {l l':List (Nat × Value)} (i:Nat):VRi ν v v' -> PR ν l l' -> PR ν ((i,v)::l) ((i,v')::l')
theorem o8{place:Nat -> Option (Nat × Nat)}{ps Wo:List (Nat × Value)}(h:PR ν ps Wo):∀ {l l' r:List Value},LR ν l l' -> kS place ps l=some r -> ∃r',kS place Wo l'=some r' /\ LR ν r r':=by
 induction h with
 | nil=>intro l l' r hl e;rw[kS] at e;cases e;exact⟨_,rfl,hl⟩
 | cons i hv _ ih =>
  intro l l' r hl e;rw[kS] at e;split at e
  ·rename_i off k hp;split at e
   ·cases e
   ·rename_i hb;split at e
    ·rename_i l1 XY;have hc:=kB hv;obtain⟨l2,e1,e2⟩:=EE hc off hl XY;obtain⟨r',e3,e4⟩:=ih e2 e;refine⟨r',?_,e4⟩;rw[kS,hp];simp only[e1,e3];rw[ew] at hb ⊢;rw[hc.length,hb]
    ·cases e
  ·cases e
theorem tX(l:List Value):kR [] l=some l:=by cases l <;> rfl
theorem tY{l r:List Value}{i:Nat}(h:fj [] l i=some r):r=l:=by
 induction l generalizing i r with
 | nil=>cases i with
  | zero=>rw[fj] at h;simp only[tX] at h;cases h;rfl
  | succ i=>simp[fj] at h
 | cons x l ih=>cases i with
  | zero=>rw[fj] at h;simp only[tX] at h;cases h;rfl
  | succ i =>
   rw[fj] at h;split at h
   ·rename_i l1 hl;cases h;rw[ih hl]
   ·cases h
theorem rF{v:Value}{vs l r:List Value}{i:Nat}(h:fj (v::vs) l i=some r):i<l.length /\ fj vs (l.set i v) (i+1)=some r:=by
 induction l generalizing i r with
 | nil=>cases i <;> simp[fj,kR] at h
 | cons x l ih=>cases i with
  | zero =>
   rw[fj] at h;simp only[kR] at h;split at h
   ·rename_i l1 hl;cases h;refine⟨by simp,?_⟩;simp only[List.set_cons_zero];rw[fj];cases l with
    | nil=>rw[fj];simp only[hl]
    | cons y l=>rw[fj];simp only[hl]
   ·cases h
  | succ i =>
   rw[fj] at h;split at h
   ·rename_i l1 hl;cases h;obtain⟨h1,h2⟩:=ih hl;refine⟨by simp;omega,?_⟩;simp only[List.set_cons_succ];rw[fj];simp only[h2]
   ·cases h
theorem EF{vs l r:List Value}{i:Nat}(h:fj vs l i=some r):r.length=l.length /\ (vs≠[] -> i+vs.length <= l.length):=by
 induction vs generalizing l i with
 | nil=>rw[tY h];simp
 | cons v vs ih =>
  obtain⟨h1,h2⟩:=rF h;obtain⟨h3,h4⟩:=ih h2;rw[List.length_set] at h3 h4;refine⟨h3,λ _=>?_⟩;cases vs with
  | nil=>simp;omega
  | cons u vs=>have:=h4 (by simp);simp at this ⊢;omega
theorem AG{vs l r:List Value}{off k:Nat}(h:fj vs l (off+k)=some r):(vs.zipIdx k).foldl (λ (cs:Array Value) p=>cs.setIfInBounds (off+p.2) p.1) ⟨l⟩=⟨r⟩:=by
 induction vs generalizing l k with
 | nil=>rw[tY h];rfl
 | cons v vs ih =>
  obtain⟨h1,h2⟩:=rF h;rw[List.zipIdx_cons,List.foldl_cons];have:=ih (l:=l.set (off+k) v) (k:=k+1) h2;simpa using this
theorem kD{place:Nat -> Option (Nat × Nat)}:∀ {ps:List (Nat × Value)} {l r:List Value},kS place ps l=some r -> Instr.fill place ⟨l⟩ ps=some ⟨r⟩
 | [],l,r,h=>by rw[kS] at h;cases h;rfl
 | (i,v)::ps,l,r,h=>by
  rw[kS] at h;split at h
  ·rename_i off k hp;split at h
   ·cases h
   ·rename_i hs;split at h
    ·rename_i l1 XY;have Q_:(hO v).length=k+1:=by rw[ew] at hs;exact aa1 hs
     have D_:v.cells.size=k+1:=by rw[<- Q_,gA];simp
     have hbd:=(EF XY).2 (by intro e;rw[e] at Q_;simp at Q_);rw[Instr.fill,hp];simp only;rw[if_neg (by rw[D_];simp;omega)];have:=AG (k:=0) (off:=off) (by simpa using XY);have e2:(Array.foldl (λ (cs:Array Value) (x:Value × Nat)=>cs.setIfInBounds (off+x.2) x.1) ⟨l⟩ v.cells.zipIdx)=⟨l1⟩:=by
      rw[<- Array.foldl_toList,Array.toList_zipIdx,<- gA];exact this
     have e3:=kD (r:=r) h;rw[<- e3,<- e2]
    ·cases h
  ·cases h
end lists
structure TRel(ν:Nu)(N:Nat)(T:Tr Value)(tm:Array Value):Prop where
 size:tm.size=N
 get:∀t,t<N -> ∃v',tm[t]?=some v' /\ VRi ν (cY T t) v'
 out:∀t,N <= t -> cY T t=undef
section fr
variable {ν ν':Nu} {P:Program} {G N:Nat} {T T':Tr Value} {a:Act}
theorem TRel.mono{tm:Array Value}(h:TRel ν N T tm)(hl:ν.Le ν'):TRel ν' N T tm :=
 ⟨h.size,λ t ht=>let ⟨v',e,r⟩:=h.get t ht;⟨v',e,r.mono hl⟩,h.out⟩
theorem TRel.set{tm:Array Value}(h:TRel ν N T tm){d:Nat}{v v':Value}(hd:d<N)(hv:VRi ν v v'):TRel ν N (sM T d v) (tm.setIfInBounds d v'):=by
 refine⟨by simp[h.size],λ t ht=>?_,λ t ht=>?_⟩
 ·unfold cY sM;rw[jb]
  by_cases e:d=t
  ·subst e;refine⟨v',?_,by simpa using hv⟩;rw[Array.getElem?_setIfInBounds_self_of_lt (by rw[h.size];exact hd)]
  ·rw[if_neg e,Array.getElem?_setIfInBounds_ne e];exact h.get t ht
 ·unfold cY sM;rw[rD _ (by omega)];exact h.out t ht
theorem TRel.put(h:TRel ν N T a.tmps){dst:Option Tmp}{v v':Value}(hv:VRi ν v v')(hp:fo N dst v T=some T'):TRel ν N T' (a.put dst v').tmps:=by
 unfold fo at hp;split at hp
 ·cases hp;exact h
 ·rename_i d;split at hp
  ·rename_i hd;cases hp;exact h.set (Nat.lt_of_lt_of_le (Nat.lt_of_succ_le (aaJ hd)) (aaK _)) hv
  ·cases hp
theorem fJ(a:Act)(dst:Option Tmp)(v:Value):(a.put dst v).defers=a.defers:=by cases dst <;> rfl
structure FE(ν:Nu)(G N:Nat)(T:Tr Value)(a:Act):Prop where
 t:TRel ν N T a.tmps
 g:∀k,k<G -> ∃K,ν k=some (k,K)
theorem dT{a b:Nat}(h:Nat.blt a b=true):a<b:=aaJ h
theorem FE.ael(h:FE ν G N T a){x:Operand}(hx:Q4 G x=true):VRi ν (ael T x) (a.eval x):=by
 cases x with
 | tmp t =>
  show VRi ν (cY T t) (a.eval (.tmp t));unfold Act.eval;simp only;rcases aaZ t N with ht|ht
  ·obtain⟨v',e,r⟩:=h.t.get t ht;simpa [e] using r
  ·rw[h.t.out t ht,Array.getD_eq_getD_getElem?,Array.getElem?_eq_none (by rw[h.t.size];exact ht)];exact VRi.undef
 | const v=>exact .plain_refl _ hx
 | global g =>
  obtain⟨K,e⟩:=h.g g (dT hx);exact .ptr 0 e
 | func f=>exact .func (.func f) rfl (by simp) rfl (by simp)
theorem rH{l:List Operand}(h:sN G l=true):∀x∈l,Q4 G x=true:=by
 induction l with
 | nil=>intro x hx;cases hx
 | cons y l ih =>
  rw[sN] at h;split at h
  ·rename_i e;intro x hx;rcases List.mem_cons.1 hx with rfl|hx
   ·exact e
   ·exact ih h x hx
  ·cases h
def OK(ν:Nu)(T:Tr Value)(a:Act)(l:List Operand):Prop:=∀x∈l,VRi ν (Go.Proofs.YtdppjkjbghbnjaaGreatDoor.ael T x) (a.eval x)
theorem FE.ok(h:FE ν G N T a){l:List Operand}(hl:sN G l=true):OK ν T a l:=λ x hx=>h.ael (rH hl x hx)
theorem Ls{α:Type}(s:Sem α):∀ {x:α},xQ P s=some x -> ∀w,s.run P w=.ok x w:=by
 induction s with
 | pure a=>intro x h w;rw[xQ] at h;cases h;rfl
 | program k ih=>intro x h w;rw[xQ] at h;rw[Sem.run];exact ih _ h w
 | mark m k ih=>intro x h w;rw[xQ] at h;rw[Sem.run];exact ih h w
 | _=>intro x h;simp[xQ] at h
theorem AJ{l:List Operand}(h:vw T l=true):∀x∈l,pl (Go.Proofs.YtdppjkjbghbnjaaGreatDoor.ael T x)=true:=by
 induction l with
 | nil=>intro x hx;cases hx
 | cons y l ih =>
  rw[vw] at h;split at h
  ·rename_i e;intro x hx;rcases List.mem_cons.1 hx with rfl|hx
   ·exact e
   ·exact ih h x hx
  ·cases h
theorem o9{o:Oper}{v:Value}(h:gz P T o=some v){l:List Operand}(hl:cf o.op=some l)(g_:OK ν T a l):∃v',VRi ν v v' /\ ∀w,(execOp a.eval o).run P w=.ok (.value v') w:=by
 unfold gz at h;rw[hl] at h;simp only at h;split at h
 case h_2=>cases h
 rename_i hp;split at h
 case h_2=>cases h
 rename_i u hr;split at h
 case h_2=>cases h
 rename_i hv;cases h;obtain⟨k1,k2⟩:=sY hl;have e:execOp a.eval o=execOp (Go.Proofs.YtdppjkjbghbnjaaGreatDoor.ael T) o:=execOp_congr o k2 λ x hx=>(g_ x (k1 x hx)).plain_eq (AJ hp x (k1 x hx));exact⟨v,.plain_refl _ hv,λ w=>by rw[e];exact Ls _ hr w⟩
theorem H3{w:World}{ρ:Operand -> Value}{o:Oper}{op:BinOp}{t ty:TypeId}{x y:Operand}{k:IntKind}{m n:Int}{r:Bool}(ho:o.op=.binOp op t x y ty)(hx:ρ x=.int k m)(hy:ρ y=.int k n)(h:HI op m n=some r):(execOp ρ o).run P w=.ok (.value (.bool r)) w:=by
 unfold HI at h;split at h <;> first|(cases h;done)|skip
 all_goals
  cases h;simp[execOp,ho,hx,hy,eqGuard,Go.binOp,Op.intCmp,pure,bind,Sem.bind,Sem.run]
theorem yh{t:TypeId}(h:xR P t=true)(w:World):(isAgg t).run P w=.ok false w:=by
 unfold xR at h;split at h
 ·cases h
 ·cases h
 ·rename_i d h1 h2 hu;unfold isAgg;rw[aa4,aG hu];simp only[aa3];cases d <;> first|rfl|exact(h1 _ hu).elim|exact(h2 _ _ hu).elim
 ·cases h
theorem yi{t:TypeId}{k:Nat}(h:Aw P t=some k):(∀w,(isAgg t).run P w=.ok true w) /\ (∀w,(sizeOf t).run P w=.ok k w) /\ fi P t=some k:=by
 unfold Aw at h;split at h
 case h_3=>cases h
 all_goals
  rename_i hu;rw[Option.map_eq_some_iff] at h;obtain⟨i,hi,rfl⟩:=h;refine⟨λ w=>?_,λ w=>?_,by unfold fi;rw[hi];rfl⟩
  ·unfold isAgg;rw[aa4,aG hu];rfl
  ·unfold sizeOf;rw[aa4,cZ hi];rfl
theorem eC{t:TypeId}{k:Nat}(h:fi P t=some k)(w:World):(sizeOf t).run P w=.ok k w:=by
 unfold fi at h;rw[Option.map_eq_some_iff] at h;obtain⟨i,hi,rfl⟩:=h;unfold sizeOf;rw[aa4,cZ hi];rfl
theorem tZ{t:TypeId}{cs:Array Value}{off:Nat}{v:Value}(h:oc P t cs.toList off=some v)(w:World):(part t cs off).run P w=.ok v w:=by
 unfold oc at h;split at h
 ·rename_i h1;rw[kC] at h;unfold part;rw[aa4,yh h1];have h2:cs[off]?=some v:=by simpa using h
  simp[h2]
 ·split at h
  ·rename_i k hk;cases h;obtain⟨h1,h2,h3⟩:=yi hk;unfold part;rw[aa4,h1];simp only[aa3,if_true,aa4,h2];rw[yf,yg];have:cs.extract off (off+k)=⟨(cs.toList.drop off).take k⟩:=by
    apply Array.ext';simp
   rw[this];rfl
  ·cases h
theorem t2{t:TypeId}{l l':List Value}{off:Nat}{v:Value}(hl:LR ν l l')(h:oc P t l off=some v):∃v',oc P t l' off=some v' /\ VRi ν v v':=by
 unfold oc at h ⊢;split at h
 ·rename_i h1;rw[kC] at h;obtain⟨v',e,r⟩:=hl.get h;exact⟨v',by simpa [kC] using e,r⟩
 ·rename_i h1;split at h
  ·rename_i k hk;cases h;refine⟨.agg ⟨tR (tQ l' off) k⟩,rfl,?_⟩;simp only[yg,yf];exact .agg_of ((hl.drop _).take _)
  ·cases h
theorem rI{ps:List (Nat × Operand)}(h:OK ν T a (ps.map (·.2))):PR ν (vz T ps) (ps.map λ p=>(p.1,a.eval p.2)):=by
 induction ps with
 | nil=>exact .nil
 | cons p ps ih=>exact .cons _ (h _ (by simp)) (ih λ x hx=>h x (aaE _ hx))
theorem lC{l:List Operand}(h:OK ν T a l):LR ν (mZ T l) (l.map a.eval):=by
 induction l with
 | nil=>exact .nil
 | cons x l ih=>exact .cons (h _ aaB) (ih λ y hy=>h y (aaE _ hy))
theorem j7{t:TypeId}{z:List Value}(h:kT P t=some z):∃zv,(∀w,(zeroValue t).run P w=.ok zv w) /\ zv.cells=⟨z⟩ /\ LR ν z z /\ (∃i,P.info? t=some i /\ i.zero=some zv):=by
 unfold kT at h;split at h
 case h_2=>cases h
 rename_i i hi;split at h
 case h_2=>cases h
 rename_i zv hz;split at h
 case h_2=>cases h
 rename_i hp;cases h;refine⟨zv,λ w=>?_,by rw[gA],kB (.plain_refl _ hp),i,hi,hz⟩;unfold zeroValue;rw[aa4,cZ hi];simp only[aa3,hz];rfl
theorem mH:∀ {fs:List Field} {l:List (Nat × Nat)},jZ P fs=some l -> ∀w,((fs.mapM λ f=>(do pure (f.offset,<- sizeOf f.type):Sem (Nat × Nat)))).run P w=.ok l w
 | [],l,h,w=>by rw[jZ] at h;cases h;rfl
 | f::fs,l,h,w=>by
  rw[jZ] at h;split at h
  ·rename_i k l0 h1 h2;cases h
   haveI:=jc
   rw[List.mapM_cons,aa4,aa4,eC h1];have:=mH h2 w;simp only[cq,aa3];rw[aa4,this];rfl
  ·cases h
theorem Lt(l:List (Nat × Nat))(i:Nat):HK l i=l[i]?:=by
 induction l generalizing i with
 | nil=>rfl
 | cons v l ih=>cases i with
  | zero=>rfl
  | succ i=>simpa [HK] using ih i
theorem EG{t:TypeId}{ps Wo:List (Nat × Value)}{v:Value}(h:Ay P t ps=some v)(hr:PR ν ps Wo):∃v',VRi ν v v' /\ ∀w,(Instr.build t ⟨Wo⟩).run P w=.ok v' w:=by
 unfold Ay at h;split at h
 case h_2=>cases h
 rename_i z hz;obtain⟨zv,h1,h2,h3,-⟩:=j7 (ν:=ν) hz;split at h
 ·rename_i fs hu;split at h
  case h_2=>cases h
  rename_i pls hs;split at h
  case h_2=>cases h
  rename_i l hf;cases h;obtain⟨l',e1,e2⟩:=o8 hr h3 hf;refine⟨.agg ⟨l'⟩,.agg_of e2,λ w=>?_⟩;have h4:=mH hs w
  haveI:=jc
  unfold Instr.build;rw[aa4,h1];simp only[aa3];rw[aa4,aG hu];simp only[aa3];rw[aa4,Array.mapM_eq_mapM_toList];have h5:((List.toArray <$> (fs.toList.mapM λ f=>(do pure (f.offset,<- sizeOf f.type):Sem (Nat × Nat)))):Sem (Array (Nat × Nat))).run P w=.ok ⟨pls⟩ w:=by
   rw[<- bind_pure_comp,aa4,h4];rfl
  rw[h5];simp only[aa3];have h6:=kD e1;have h7:(λ i=>(⟨pls⟩:Array (Nat × Nat))[i]?)=HK pls:=by funext i;rw[Lt];simp
  rw[h2,h7,h6];rfl
 ·rename_i n el hu;split at h
  case h_2=>cases h
  rename_i k hk;split at h
  case h_2=>cases h
  rename_i l hf;cases h;obtain⟨l',e1,e2⟩:=o8 hr h3 hf;refine⟨.agg ⟨l'⟩,.agg_of e2,λ w=>?_⟩;unfold Instr.build;rw[aa4,h1];simp only[aa3];rw[aa4,aG hu];simp only[aa3];rw[aa4,eC hk];simp only[aa3];have h6:=kD e1;rw[h2,h6];rfl
 ·cases h
theorem AK{w:World}{ρ:Operand -> Value}{o:Oper}{t ft:TypeId}{j k:Nat}{x:Operand}{ad:Addr}(ho:o.op=.fieldAddr t x j)(hx:ρ x=.pointer (some ad))(hf:xS P t j=some (k,ft)):(execOp ρ o).run P w=.ok (.value (.pointer (some (ad.add k)))) w:=by
 unfold xS at hf;split at hf
 case h_2=>cases hf
 rename_i fs hu;split at hf
 case h_2=>cases hf
 rename_i f hj;split at hf
 case h_2=>cases hf
 rename_i inf hi;split at hf
 ·cases hf
 rename_i m hm;cases hf;have h1:=λ W=>aG hu W;have h2:=λ W=>cZ hi W;simp[execOp,ho,Instr.fieldAt,Instr.sureAddr,hx,aa4,h1,hj,fieldPlace,sizeOf,h2,hm]
theorem AL{w:World}{ρ:Operand -> Value}{o:Oper}{t ft:TypeId}{j k:Nat}{x:Operand}{cs:Array Value}{v:Value}(ho:o.op=.field t x j)(hx:ρ x=.agg cs)(hf:xS P t j=some (k,ft))(hp:oc P ft cs.toList k=some v):(execOp ρ o).run P w=.ok (.value v) w:=by
 unfold xS at hf;split at hf
 case h_2=>cases hf
 rename_i fs hu;split at hf
 case h_2=>cases hf
 rename_i f hj;split at hf
 case h_2=>cases hf
 rename_i inf hi;split at hf
 ·cases hf
 rename_i m hm;cases hf;have h1:=λ W=>aG hu W;have h2:=tZ hp;simp[execOp,ho,Instr.field,asAgg,hx,aa4,h1,hj,h2]
theorem og(h o k:Nat):Az ⟨h,o,none⟩ k=⟨h,o+k,none⟩:=by cases k <;> rfl
theorem m6(h o k:Nat):(⟨h,o,none⟩:Addr).add k=⟨h,o+k,none⟩:=by
 unfold Addr.add;split
 ·rename_i e;subst e;rfl
 ·rfl
theorem m8{v v':Value}{n:Nat}(h:Ki v=some n)(hr:VRi ν v v'):∃k,v'=.int k (n:Int):=by
 unfold Ki at h;split at h
 ·rename_i k m;cases h;cases hr;exact⟨k,rfl⟩
 ·cases h
end fr
def aav:=@VRi.undef
end Go.Proofs.YtdppjkjbghbnjaaGreatDoor
