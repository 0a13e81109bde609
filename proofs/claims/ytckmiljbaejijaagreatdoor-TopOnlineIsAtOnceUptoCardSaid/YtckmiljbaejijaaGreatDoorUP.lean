/- Plain functions: what the code computes. -/
import Derived.Test.YtckmiljbaejijaaGreatDoorUTy
import Derived.Test.YtckmiljbaejijaaGreatDoorHP
import Derived.Test.YtckmiljbaejijaaGreatDoorLfS

namespace Go.Lf
open Go.RowKit Go.OB

def Fbt (a:Int):Option Bool:=
 bindO (letO (decide (97≤a)) fun b=>
 bindO (iteB b
 (letO (decide (a≤122)) fun c=>
 some c)
 (some false)) fun d=>
 bindO (iteB d
 (some true)
 (letO (decide (48≤a)) fun e=>
 iteB e
 (letO (decide (a≤57)) fun f=>
 some f)
 (some false))) fun h=>
 iteB h
 (some true)
 (letO (decide (a=45)) fun i=>
 some i)) fun j=>
 some j

def Fco (a:Str):Option Bool:=
 bindO (letO (decide ((a:Str)= [112,104,97,115,101])) fun b=>
 iteB b
 (some b)
 (letO (decide ((a:Str)= [109,111,118,101])) fun c=>
 iteB c
 (some c)
 (letO (decide ((a:Str)= [114,117,108,101])) fun d=>
 iteB d
 (some d)
 (letO (decide ((a:Str)= [105,102])) fun e=>
 iteB e
 (some e)
 (letO (decide ((a:Str)= [111,114])) fun f=>
 iteB f
 (some f)
 (letO (decide ((a:Str)= [97,110,100])) fun h=>
 iteB h
 (some h)
 (letO (decide ((a:Str)= [116,114,117,101])) fun i=>
 iteB i
 (some i)
 (letO (decide ((a:Str)= [102,97,108,115,101])) fun j=>
 iteB j
 (some j)
 (letO (decide ((a:Str)= [115,116,101,97,100,121])) fun k=>
 iteB k
 (some k)
 (letO (decide ((a:Str)= [110,111,116])) fun l=>
 iteB l
 (some l)
 (letO (decide ((a:Str)= [102,111,114])) fun m=>
 iteB m
 (some m)
 (letO (decide ((a:Str)= [119,105,116,104,105,110])) fun n=>
 iteB n
 (some n)
 (letO (decide ((a:Str)= [99,111,117,110,116])) fun o=>
 iteB o
 (some o)
 (letO (decide ((a:Str)= [111,102])) fun p=>
 iteB p
 (some p)
 (letO (decide ((a:Str)= [114,105,115,101,115])) fun q=>
 iteB q
 (some q)
 (letO (decide ((a:Str)= [115,105,110,99,101])) fun r=>
 some r)))))))))))))))) fun s=>
 iteB s
 (some true)
 (some false)

def Fae (a:Int)(b:Int)(c:Int):Option Bool:=
 bindO (letO (decide (b≤a)) fun d=>
 iteB d
 (letO (decide (a≤c)) fun e=>
 some e)
 (some false)) fun f=>
 some f

def Fdd (b:Str)(c:Unit→Option Bool)(d:Int):Int→Option Bool:=loopO fun e a=>
 letO (decide (a<d)) fun f=>
 iteB f
 (bindO (byte' b a) fun h=>
 bindO (Fbt h) fun i=>
 letO (!i) fun j=>
 iteB j
 (some false)
 (letO (IntKind.i64.wrap (a+1)) fun k=>
 e k))
 (c ())
def Fak (a:Str):Option Bool:=
 bindO (letO (a.length:Int) fun b=>
 bindO (Fae b 1 30) fun c=>
 letO (!c) fun d=>
 bindO (iteB d
 (some true)
 (bindO (byte' a 0) fun e=>
 letO (decide (e<97)) fun f=>
 some f)) fun h=>
 bindO (iteB h
 (some true)
 (bindO (byte' a 0) fun i=>
 letO (decide (122<i)) fun j=>
 some j)) fun k=>
 iteB k
 (some true)
 (bindO (Fco a) fun l=>
 some l)) fun m=>
 iteB m
 (some false)
 (joinO (fun _=>
 some true) fun n=>
 letO (a.length:Int) fun o=>
 Fdd a n o 0)

def Fdc (b:List Str)(c:Str)(d:Unit→Option Int)(e:Int):Int→Option Int:=loopO fun f a=>
 letO (decide (a<e)) fun h=>
 iteB h
 (bindO (at' b a) fun i=>
 letO (decide ((c:Str)=i)) fun j=>
 iteB j
 (some a)
 (letO (IntKind.i64.wrap (a+1)) fun k=>
 f k))
 (d ())
def Fah (a:List Str)(b:Str):Option Int:=
 joinO (fun _=>
 some (-1)) fun c=>
 letO (a.length:Int) fun d=>
 Fdc a b c d 0

def Fa1 (a:List Str)(b:Str):Option Bool:=
 bindO (Fah a b) fun c=>
 letO (decide (0≤c)) fun d=>
 some d

def Fd5 (a:Int):Option Int:=
 bindO (shr' .u16 a 8) fun b=>
 bindO (byte' [0,1,1,2,1,2,2,3,1,2,2,3,2,3,3,4,1,2,2,3,2,3,3,4,2,3,3,4,3,4,4,5,1,2,2,3,2,3,3,4,2,3,3,4,3,4,4,5,2,3,3,4,3,4,4,5,3,4,4,5,4,5,5,6,1,2,2,3,2,3,3,4,2,3,3,4,3,4,4,5,2,3,3,4,3,4,4,5,3,4,4,5,4,5,5,6,2,3,3,4,3,4,4,5,3,4,4,5,4,5,5,6,3,4,4,5,4,5,5,6,4,5,5,6,5,6,6,7,1,2,2,3,2,3,3,4,2,3,3,4,3,4,4,5,2,3,3,4,3,4,4,5,3,4,4,5,4,5,5,6,2,3,3,4,3,4,4,5,3,4,4,5,4,5,5,6,3,4,4,5,4,5,5,6,4,5,5,6,5,6,6,7,2,3,3,4,3,4,4,5,3,4,4,5,4,5,5,6,3,4,4,5,4,5,5,6,4,5,5,6,5,6,6,7,3,4,4,5,4,5,5,6,4,5,5,6,5,6,6,7,4,5,5,6,5,6,6,7,5,6,6,7,6,7,7,8] b) fun c=>
 letO (bits .and .u16 a 255) fun d=>
 bindO (byte' [0,1,1,2,1,2,2,3,1,2,2,3,2,3,3,4,1,2,2,3,2,3,3,4,2,3,3,4,3,4,4,5,1,2,2,3,2,3,3,4,2,3,3,4,3,4,4,5,2,3,3,4,3,4,4,5,3,4,4,5,4,5,5,6,1,2,2,3,2,3,3,4,2,3,3,4,3,4,4,5,2,3,3,4,3,4,4,5,3,4,4,5,4,5,5,6,2,3,3,4,3,4,4,5,3,4,4,5,4,5,5,6,3,4,4,5,4,5,5,6,4,5,5,6,5,6,6,7,1,2,2,3,2,3,3,4,2,3,3,4,3,4,4,5,2,3,3,4,3,4,4,5,3,4,4,5,4,5,5,6,2,3,3,4,3,4,4,5,3,4,4,5,4,5,5,6,3,4,4,5,4,5,5,6,4,5,5,6,5,6,6,7,2,3,3,4,3,4,4,5,3,4,4,5,4,5,5,6,3,4,4,5,4,5,5,6,4,5,5,6,5,6,6,7,3,4,4,5,4,5,5,6,4,5,5,6,5,6,6,7,4,5,5,6,5,6,6,7,5,6,6,7,6,7,7,8] d) fun e=>
 letO (IntKind.u8.wrap (c+e)) fun f=>
 letO (IntKind.i64.wrap f) fun h=>
 some h

def Fer (a:Int):Option Bool:=
 bindO (letO (decide (a≤4095)) fun b=>
 iteB b
 (bindO (Fd5 a) fun c=>
 bindO (rem' c 2) fun d=>
 letO (decide (d=1)) fun e=>
 some e)
 (some false)) fun f=>
 some f

def Fau (b:Int):Option Int:=
 letO (IntKind.u16.wrap b) fun a=>
 bindO (bindO (Fer a) fun c=>
 letO (!c) fun d=>
 iteB d
 (letO (bits .or .u16 a 2048) fun e=>
 some e)
 (some a)) fun f=>
 some f

def Fch (a:Int):Option Int:=
 letO (bits .and .u16 a 2047) fun b=>
 letO (IntKind.i64.wrap b) fun c=>
 some c

def Fey (a:Option (Arr 64 Int)):Option Int:=
 bindO a fun b=>
 bindO (at' b.l 1) fun c=>
 bindO (Fch c) fun d=>
 bindO a fun e=>
 bindO (at' e.l 2) fun f=>
 bindO (Fch f) fun h=>
 bindO (shl' .i64 h 11) fun i=>
 letO (bits .or .i64 d i) fun j=>
 some j

def Fe8 (c:Option (Arr 64 Int)):Int×Int→Option Int:=loopO fun d ⟨b,a⟩=>
 letO (decide (a<60)) fun e=>
 iteB e
 (letO (IntKind.i64.wrap (a+1)) fun f=>
 bindO c fun h=>
 bindO (at' h.l f) fun i=>
 bindO (Fch i) fun j=>
 letO (bits .xor .i64 b j) fun k=>
 letO (IntKind.i64.wrap (a+1)) fun m=>
 d (k,m))
 (some b)
def Fem (a:Option (Arr 64 Int)):Option Int:=
 bindO (Fe8 a (0,0)) fun b=>
 some b

def Fe7 (d:Option (Arr 64 Int))(e:Int):Int×Int→Option Int:=loopO fun f ⟨a,b⟩=>
 letO (decide (0≤b)) fun h=>
 iteB h
 (bindO (letO (bits .and .i64 a 2097152) fun i=>
 letO (decide (i≠0)) fun j=>
 bindO (shl' .i64 a 1) fun k=>
 letO (bits .and .i64 k 4194303) fun c=>
 bindO d fun m=>
 bindO (at' m.l e) fun n=>
 bindO (shr' .u16 n b) fun o=>
 letO (bits .and .u16 o 1) fun p=>
 letO (decide (p=1)) fun q=>
 letO (!(j==q)) fun r=>
 iteB r
 (letO (bits .xor .i64 c 2097167) fun s=>
 some s)
 (some c)) fun t=>
 letO (IntKind.i64.wrap (b - 1)) fun u=>
 f (t,u))
 (some a)
def Fe5 (c:Option (Arr 64 Int)):Int×Int→Option Int:=loopO fun d ⟨b,a⟩=>
 letO (decide (a<62)) fun e=>
 iteB e
 (bindO (Fe7 c a (b,11)) fun f=>
 letO (IntKind.i64.wrap (a+1)) fun h=>
 d (f,h))
 (some b)
def Fet (a:Option (Arr 64 Int)):Option Int:=
 bindO (Fe5 a (0,0)) fun b=>
 some b

def Fd1 (a:Arr 64 Int):Option (Arr 64 Int):=
 bindO (Fey (some a)) fun f=>
 bindO (rem' f 4) fun h=>
 bindO (at' yT.l h) fun i=>
 bindO (at' a.l 0) fun r=>
 letO (Arr.set a 0 i) fun b=>
 bindO (Fem (some b)) fun j=>
 bindO (Fau j) fun k=>
 bindO (at' b.l 61) fun s=>
 letO (Arr.set b 61 k) fun c=>
 bindO (Fet (some c)) fun d=>
 bindO (shr' .i64 d 11) fun m=>
 bindO (Fau m) fun n=>
 letO (bits .and .i64 d 2047) fun o=>
 bindO (Fau o) fun p=>
 bindO (at' c.l 62) fun t=>
 letO (Arr.set c 62 n) fun e=>
 bindO (at' e.l 63) fun u=>
 letO (Arr.set e 63 p) fun q=>
 some q

def Fe3 (e:List Int)(f:(Arr 64 Int)→Option ((Arr 64 Int)×Int))(h:Int):Int×(Arr 64 Int)→Option ((Arr 64 Int)×Int):=loopO fun i ⟨a,b⟩=>
 letO (decide (a<h)) fun j=>
 iteB j
 (bindO (at' e a) fun c=>
 bindO (letO (decide (c<0)) fun k=>
 iteB k
 (some true)
 (letO (decide (2047<c)) fun m=>
 some m)) fun n=>
 iteB n
 (some ((Arr.rep 64 0:Arr 64 Int),9))
 (letO (IntKind.i64.wrap (3+a)) fun d=>
 bindO (Fau c) fun o=>
 bindO (at' b.l d) fun r=>
 letO (Arr.set b d o) fun p=>
 letO (IntKind.i64.wrap (a+1)) fun q=>
 i (q,p)))
 (f b)
def Fea (a:Int)(b:List Int):Option ((Arr 64 Int)×Int):=
 bindO (letO (decide (a<0)) fun d=>
 iteB d
 (some true)
 (letO (decide (4194304≤a)) fun e=>
 some e)) fun f=>
 iteB f
 (some ((Arr.rep 64 0:Arr 64 Int),9))
 (letO (b.length:Int) fun h=>
 letO (decide (h≠58)) fun i=>
 iteB i
 (some ((Arr.rep 64 0:Arr 64 Int),3))
 (letO (bits .and .i64 a 2047) fun j=>
 bindO (Fau j) fun k=>
 bindO (shr' .i64 a 11) fun m=>
 bindO (Fau m) fun n=>
 bindO (at' (Arr.rep 64 0:Arr 64 Int).l 1) fun t=>
 letO (Arr.set (Arr.rep 64 0:Arr 64 Int) 1 k) fun c=>
 bindO (at' c.l 2) fun u=>
 letO (Arr.set c 2 n) fun o=>
 joinO (fun p=>
 bindO (Fd1 p) fun q=>
 some (q,0)) fun r=>
 letO (b.length:Int) fun s=>
 Fe3 b r s (0,o)))

def Fdr:Option Bool:=
 bindO (make' 8 58 (0:Int)) fun b=>
 bindO (at' b 0) fun t=>
 bindO (set' b 0 5) fun c=>
 bindO (Fea 2050 c) fun ⟨a,d⟩=>
 bindO (letO (decide (d=0)) fun e=>
 bindO (iteB e
 (bindO (at' a.l 0) fun f=>
 letO (decide (f=2631)) fun h=>
 some h)
 (some false)) fun i=>
 bindO (iteB i
 (bindO (at' a.l 1) fun j=>
 letO (decide (j=2)) fun k=>
 some k)
 (some false)) fun m=>
 bindO (iteB m
 (bindO (at' a.l 2) fun n=>
 letO (decide (n=1)) fun o=>
 some o)
 (some false)) fun p=>
 iteB p
 (bindO (at' a.l 3) fun q=>
 letO (decide (q=2053)) fun r=>
 some r)
 (some false)) fun s=>
 some s


def Fd2 (rfC:Cond→Int→Int→Option (Bool×Int))(d:Cond)(e:Int)(f:Int→Option (Bool×Int))(h:Int):Int×Int→Option (Bool×Int):=loopO fun i ⟨a,b⟩=>
 letO (decide (a<h)) fun j=>
 iteB j
 (bindO (at' d.Kids a) fun k=>
 letO (IntKind.i64.wrap (e - 1)) fun l=>
 bindO (rfC k l b) fun ⟨m,c⟩=>
 letO (!m) fun n=>
 iteB n
 (some (false,c))
 (letO (IntKind.i64.wrap (a+1)) fun o=>
 i (o,c)))
 (f b)
def Fbs (rfC:Cond→Int→Int→Option (Bool×Int))(b:Cond)(c:Int)(d:Int):Option (Bool×Int):=
 letO (IntKind.i64.wrap (d+1)) fun a=>
 bindO (letO (decide (c=0)) fun e=>
 iteB e
 (some true)
 (letO (decide (200<a)) fun f=>
 some f)) fun h=>
 iteB h
 (some (false,a))
 (joinO (fun i=>
 some (true,i)) fun j=>
 letO (b.Kids.length:Int) fun k=>
 Fd2 rfC b c j k (0,a))

def Faj:Nat→Cond→Int→Int→Option (Bool×Int)
 | 0=>fun _ _ _=>none
 | n+1=>Fbs (Faj n)
def Fdo:Cond→Int→Int→Option (Bool×Int):=Faj FU

def Faa (a:Int):Option (EventFields×Bool):=
 bindO (letO (decide (a=1)) fun b=>
 iteB b
 (some b)
 (letO (decide (a=2)) fun h=>
 some h)) fun i=>
 iteB i
 (some (EventFields.mk false false false false false 0 0,true))
 (letO (decide (a=3)) fun j=>
 iteB j
 (some (EventFields.mk true false true true false 0 0,true))
 (letO (decide (a=4)) fun k=>
 iteB k
 (some (EventFields.mk true true true false false 0 0,true))
 (letO (decide (a=5)) fun l=>
 iteB l
 (some (EventFields.mk true false false true true 0 0,true))
 (bindO (letO (decide (a=6)) fun c=>
 iteB c
 (some c)
 (letO (decide (a=7)) fun m=>
 some m)) fun n=>
 iteB n
 (some (EventFields.mk true false false false false 0 0,true))
 (bindO (letO (decide (a=8)) fun d=>
 iteB d
 (some d)
 (letO (decide (a=15)) fun o=>
 some o)) fun p=>
 iteB p
 (some (EventFields.mk false false false false false 1 1,true))
 (bindO (letO (decide (a=9)) fun e=>
 iteB e
 (some e)
 (letO (decide (a=10)) fun q=>
 some q)) fun r=>
 iteB r
 (some (EventFields.mk false false false false false 2 200,true))
 (bindO (letO (decide (a=11)) fun f=>
 iteB f
 (some f)
 (letO (decide (a=12)) fun s=>
 some s)) fun t=>
 iteB t
 (some (EventFields.mk false false false false true 1 1,true))
 (letO (decide (a=13)) fun u=>
 iteB u
 (some (EventFields.mk false false false true true 1 1,true))
 (letO (decide (a=14)) fun v=>
 iteB v
 (some (EventFields.mk false false false false false 2 2,true))
 (some (EventFields.mk false false false false false 0 0,false)))))))))))

def Fan (a:Cond):Option Int:=
 bindO (Faa a.Kind) fun ⟨b,c⟩=>
 letO (!c) fun d=>
 iteB d
 (some 7)
 (bindO (letO (!b.name) fun e=>
 bindO (iteB e
 (letO (decide ((a.Name:Str)≠ [])) fun f=>
 some f)
 (some false)) fun h=>
 bindO (iteB h
 (some true)
 (letO (!b.other) fun i=>
 iteB i
 (letO (decide ((a.Other:Str)≠ [])) fun j=>
 some j)
 (some false))) fun k=>
 bindO (iteB k
 (some true)
 (letO (!b.op) fun l=>
 iteB l
 (letO (decide (a.Op≠0)) fun m=>
 some m)
 (some false))) fun o=>
 bindO (iteB o
 (some true)
 (letO (!b.n) fun p=>
 iteB p
 (letO (decide (a.N≠0)) fun q=>
 some q)
 (some false))) fun r=>
 bindO (iteB r
 (some true)
 (letO (!b.frames) fun s=>
 iteB s
 (letO (decide (a.Frames≠0)) fun t=>
 some t)
 (some false))) fun u=>
 iteB u
 (some true)
 (letO (a.Kids.length:Int) fun v=>
 bindO (Fae v b.least b.most) fun x=>
 letO (!x) fun y=>
 some y)) fun z=>
 iteB z
 (some 2)
 (bindO (bindO (iteB b.name
 (bindO (Fak a.Name) fun A=>
 letO (!A) fun B=>
 some B)
 (some false)) fun C=>
 iteB C
 (some true)
 (iteB b.other
 (bindO (Fak a.Other) fun D=>
 letO (!D) fun E=>
 some E)
 (some false))) fun F=>
 iteB F
 (some 8)
 (bindO (iteB b.op
 (bindO (Fae a.Op 1 6) fun G=>
 letO (!G) fun I=>
 some I)
 (some false)) fun J=>
 iteB J
 (some 7)
 (bindO (iteB b.frames
 (bindO (Fae a.Frames 1 4096) fun K=>
 letO (!K) fun L=>
 some L)
 (some false)) fun M=>
 iteB M
 (some 9)
 (bindO (letO (decide (a.Kind=13)) fun P=>
 iteB P
 (bindO (Fae a.N 1 a.Frames) fun Q=>
 letO (!Q) fun R=>
 some R)
 (some false)) fun T=>
 iteB T
 (some 9)
 (bindO (bindO (iteB b.n
 (bindO (Fae a.N (-1125899906842624) 1125899906842624) fun U=>
 letO (!U) fun V=>
 some V)
 (some false)) fun X=>
 iteB X
 (some true)
 (letO (decide (a.Kind=5)) fun Y=>
 iteB Y
 (letO (decide (a.N<0)) fun Z=>
 some Z)
 (some false))) fun aa=>
 iteB aa
 (some 9)
 (some 0)))))))


def Feh (rfD:Cond→Option Int)(c:Cond)(d:Unit→Option Int)(e:Int):Int→Option Int:=loopO fun f a=>
 letO (decide (a<e)) fun h=>
 iteB h
 (bindO (at' c.Kids a) fun i=>
 bindO (rfD i) fun b=>
 letO (decide (b≠0)) fun j=>
 iteB j
 (some b)
 (letO (IntKind.i64.wrap (a+1)) fun k=>
 f k))
 (d ())
def Fcu (rfD:Cond→Option Int)(a:Cond):Option Int:=
 bindO (Fan a) fun b=>
 letO (decide (b≠0)) fun c=>
 iteB c
 (some b)
 (joinO (fun _=>
 some 0) fun d=>
 letO (a.Kids.length:Int) fun e=>
 Feh rfD a d e 0)

def Fbg:Nat→Cond→Option Int
 | 0=>fun _=>none
 | n+1=>Fcu (Fbg n)
def Fdu:Cond→Option Int:=Fbg FU

def Fbo (a:Cond):Option Int:=
 bindO (Fdo a 20 0) fun ⟨b,e⟩=>
 letO (!b) fun c=>
 iteB c
 (some 3)
 (bindO (Fdu a) fun d=>
 some d)

def Fb0 (a:Cond):Option Int:=
 bindO (letO (decide (a.Kind=6)) fun b=>
 iteB b
 (some true)
 (letO (decide (a.Kind=7)) fun c=>
 some c)) fun d=>
 iteB d
 (some 2)
 (some 0)


def Fek (rfE:Cond→Option Int)(c:Cond)(d:Unit→Option Int)(e:Int):Int→Option Int:=loopO fun f a=>
 letO (decide (a<e)) fun h=>
 iteB h
 (bindO (at' c.Kids a) fun i=>
 bindO (rfE i) fun b=>
 letO (decide (b≠0)) fun j=>
 iteB j
 (some b)
 (letO (IntKind.i64.wrap (a+1)) fun k=>
 f k))
 (d ())
def Fbw (rfE:Cond→Option Int)(a:Cond):Option Int:=
 bindO (Fb0 a) fun b=>
 letO (decide (b≠0)) fun c=>
 iteB c
 (some b)
 (joinO (fun _=>
 some 0) fun d=>
 letO (a.Kids.length:Int) fun e=>
 Fek rfE a d e 0)

def Fbm:Nat→Cond→Option Int
 | 0=>fun _=>none
 | n+1=>Fbw (Fbm n)
def Fd8:Cond→Option Int:=Fbm FU

def Fe0 (c:Rules)(b:MoveT)(d:Unit→Option Int)(e:Int):Int→Option Int:=loopO fun f a=>
 letO (decide (a<e)) fun h=>
 iteB h
 (bindO (at' ([b.From,b.To]:List Str) a) fun i=>
 bindO (Fa1 c.Phases i) fun j=>
 letO (!j) fun k=>
 iteB k
 (some 4)
 (letO (IntKind.i64.wrap (a+1)) fun l=>
 f l))
 (d ())
def Fcq (c:Rules)(a:MoveT):Option Int:=
 joinO (fun _=>
 bindO (Fbo a.When) fun b=>
 letO (decide (b≠0)) fun d=>
 iteB d
 (some b)
 (bindO (Fd8 a.When) fun e=>
 some e)) fun f=>
 letO ([a.From,a.To]:List Str) fun _=>
 letO ((([a.From,a.To]:List Str)).length:Int) fun h=>
 Fe0 c a f h 0

def Fda (a:Rule)(b:Str):Option Bool:=
 letO (decide ((a.Name:Str)=b)) fun c=>
 some c

def Fee (b:List Rule)(p1c0:Str)(c:Unit→Option Int)(d:Int):Int→Option Int:=loopO fun e a=>
 letO (decide (a<d)) fun f=>
 iteB f
 (bindO (at' b a) fun h=>
 bindO (Fda h p1c0) fun i=>
 iteB i
 (some a)
 (letO (IntKind.i64.wrap (a+1)) fun j=>
 e j))
 (c ())
def Fdg (a:List Rule)(p1c0:Str):Option Int:=
 joinO (fun _=>
 some (-1)) fun b=>
 letO (a.length:Int) fun c=>
 Fee a p1c0 b c 0

def Fdp (a:List Rule)(p1c0:Str):Option Bool:=
 bindO (Fdg a p1c0) fun b=>
 letO (decide (0≤b)) fun c=>
 some c

def Fbl (a:Str)(b:Rules)(c:Int):Option Bool:=
 bindO (sub' b.Rules 0 c) fun d=>
 bindO (Fdp d a) fun e=>
 some e

def Fcg (a:Cond)(b:Rules)(c1f1:Int):Option Int:=
 bindO (letO (decide (a.Kind=6)) fun c=>
 bindO (iteB c
 (bindO (Fa1 b.Phases a.Name) fun d=>
 letO (!d) fun e=>
 some e)
 (some false)) fun f=>
 iteB f
 (some true)
 (letO (decide (a.Kind=7)) fun h=>
 iteB h
 (bindO (Fbl a.Name b c1f1) fun i=>
 letO (!i) fun j=>
 some j)
 (some false))) fun k=>
 iteB k
 (some 4)
 (some 0)


def Fdx (rfF:Cond→Rules→Int→Option Int)(c:Cond)(p1c0:Rules)(p1c1f1:Int)(d:Unit→Option Int)(e:Int):Int→Option Int:=loopO fun f a=>
 letO (decide (a<e)) fun h=>
 iteB h
 (bindO (at' c.Kids a) fun i=>
 bindO (rfF i p1c0 p1c1f1) fun b=>
 letO (decide (b≠0)) fun j=>
 iteB j
 (some b)
 (letO (IntKind.i64.wrap (a+1)) fun k=>
 f k))
 (d ())
def Fb7 (rfF:Cond→Rules→Int→Option Int)(a:Cond)(p1c0:Rules)(p1c1f1:Int):Option Int:=
 bindO (Fcg a p1c0 p1c1f1) fun b=>
 letO (decide (b≠0)) fun c=>
 iteB c
 (some b)
 (joinO (fun _=>
 some 0) fun d=>
 letO (a.Kids.length:Int) fun e=>
 Fdx rfF a p1c0 p1c1f1 d e 0)

def Fba:Nat→Cond→Rules→Int→Option Int
 | 0=>fun _ _ _=>none
 | n+1=>Fb7 (Fba n)
def Fei:Cond→Rules→Int→Option Int:=Fba FU

def Fb1 (b:Rules)(c:Int):Option Int:=
 bindO (at' b.Rules c) fun a=>
 bindO (Fak a.Name) fun e=>
 letO (!e) fun f=>
 iteB f
 (some 8)
 (bindO (Fbl a.Name b c) fun h=>
 iteB h
 (some 5)
 (bindO (Fbo a.When) fun d=>
 letO (decide (d≠0)) fun i=>
 iteB i
 (some d)
 (bindO (Fei a.When b c) fun j=>
 some j)))

def Feb (b:Rules)(d:Unit→Option Int)(e:Int):Int→Option Int:=loopO fun f a=>
 letO (decide (a<e)) fun h=>
 iteB h
 (bindO (at' b.Phases a) fun c=>
 bindO (Fak c) fun i=>
 letO (!i) fun j=>
 iteB j
 (some 8)
 (bindO (sub' b.Phases 0 a) fun k=>
 bindO (Fa1 k c) fun l=>
 iteB l
 (some 5)
 (letO (IntKind.i64.wrap (a+1)) fun m=>
 f m)))
 (d ())
def Fd9 (b:Rules)(d:Unit→Option Int)(e:Int):Int→Option Int:=loopO fun f a=>
 letO (decide (a<e)) fun h=>
 iteB h
 (bindO (at' b.Moves a) fun i=>
 bindO (Fcq b i) fun c=>
 letO (decide (c≠0)) fun j=>
 iteB j
 (some c)
 (letO (IntKind.i64.wrap (a+1)) fun k=>
 f k))
 (d ())
def Fdt (c:Rules)(d:Unit→Option Int)(e:Int):Int→Option Int:=loopO fun f a=>
 letO (decide (a<e)) fun h=>
 iteB h
 (bindO (Fb1 c a) fun b=>
 letO (decide (b≠0)) fun i=>
 iteB i
 (some b)
 (letO (IntKind.i64.wrap (a+1)) fun j=>
 f j))
 (d ())
def Fcn (a:Rules):Option Int:=
 bindO (letO (a.Phases.length:Int) fun b=>
 letO (decide (20<b)) fun c=>
 bindO (iteB c
 (some true)
 (letO (a.Moves.length:Int) fun d=>
 letO (decide (60<d)) fun e=>
 some e)) fun f=>
 iteB f
 (some true)
 (letO (a.Rules.length:Int) fun h=>
 letO (decide (60<h)) fun i=>
 some i)) fun j=>
 iteB j
 (some 3)
 (joinO (fun _=>
 joinO (fun _=>
 joinO (fun _=>
 some 0) fun k=>
 letO (a.Rules.length:Int) fun l=>
 Fdt a k l 0) fun m=>
 letO (a.Moves.length:Int) fun n=>
 Fd9 a m n 0) fun o=>
 letO (a.Phases.length:Int) fun p=>
 Feb a o p 0)

def Fdk (a:Track)(b:Track):Option Bool:=
 letO (decide ((a.Name:Str)=b.Name)) fun c=>
 some c

def Fej (b:List Track)(p1c0:Track)(c:Unit→Option Int)(d:Int):Int→Option Int:=loopO fun e a=>
 letO (decide (a<d)) fun f=>
 iteB f
 (bindO (at' b a) fun h=>
 bindO (Fdk h p1c0) fun i=>
 iteB i
 (some a)
 (letO (IntKind.i64.wrap (a+1)) fun j=>
 e j))
 (c ())
def Fcc (a:List Track)(p1c0:Track):Option Int:=
 joinO (fun _=>
 some (-1)) fun b=>
 letO (a.length:Int) fun c=>
 Fej a p1c0 b c 0

def Fbz (a:List Track)(p1c0:Track):Option Bool:=
 bindO (Fcc a p1c0) fun b=>
 letO (decide (0≤b)) fun c=>
 some c

def Faq (a:Int)(b:Int)(c:Int):Option Bool:=
 bindO (letO (decide (b≤a)) fun d=>
 iteB d
 (letO (decide (a≤c)) fun e=>
 some e)
 (some false)) fun f=>
 some f

def Fdb (c:Series)(d:Unit→Option (Int×Int))(e:Int):Int→Option (Int×Int):=loopO fun f a=>
 letO (decide (a<e)) fun h=>
 iteB h
 (bindO (at' c.Samples a) fun b=>
 bindO (bindO (Faq b.At 0 1099511627776) fun i=>
 letO (!i) fun j=>
 bindO (iteB j
 (some true)
 (bindO (Faq b.N (-1125899906842624) 1125899906842624) fun k=>
 letO (!k) fun l=>
 some l)) fun m=>
 iteB m
 (some true)
 (bindO (Faq b.Mark 0 4) fun n=>
 letO (!n) fun o=>
 some o)) fun p=>
 iteB p
 (some (a,9))
 (bindO (letO (decide (b.N≠0)) fun q=>
 iteB q
 (letO (decide (b.Mark≤1)) fun r=>
 some r)
 (some false)) fun s=>
 iteB s
 (some (a,2))
 (bindO (letO (decide (0<a)) fun t=>
 iteB t
 (letO (IntKind.i64.wrap (a - 1)) fun u=>
 bindO (at' c.Samples u) fun v=>
 letO (decide (b.At≤v.At)) fun x=>
 some x)
 (some false)) fun y=>
 iteB y
 (some (a,10))
 (letO (IntKind.i64.wrap (a+1)) fun z=>
 f z))))
 (d ())
def Fbx (a:Series):Option (Int×Int):=
 bindO (Faq a.Den 1 1000000) fun b=>
 letO (!b) fun c=>
 iteB c
 (some ((-1),9))
 (letO (a.Samples.length:Int) fun d=>
 letO (decide (20000<d)) fun e=>
 iteB e
 (some ((-1),3))
 (joinO (fun _=>
 some ((-1),0)) fun f=>
 letO (a.Samples.length:Int) fun h=>
 Fdb a f h 0))

def Fb2 (a:Series):Option Int:=
 bindO (Fbx a) fun ⟨c,b⟩=>
 some b

def Fe1 (c:List Track)(e:Unit→Option Int)(f:Int):Int→Option Int:=loopO fun h a=>
 letO (decide (a<f)) fun i=>
 iteB i
 (bindO (at' c a) fun b=>
 bindO (Fak b.Name) fun j=>
 letO (!j) fun k=>
 iteB k
 (some 8)
 (bindO (sub' c 0 a) fun l=>
 bindO (Fbz l b) fun m=>
 iteB m
 (some 5)
 (bindO (Fb2 b.Series) fun d=>
 letO (decide (d≠0)) fun n=>
 iteB n
 (some d)
 (bindO (Fae b.Long 0 1099511627776) fun o=>
 letO (!o) fun p=>
 iteB p
 (some 9)
 (letO (IntKind.i64.wrap (a+1)) fun q=>
 h q)))))
 (e ())
def Fbf (a:List Track):Option Int:=
 letO (a.length:Int) fun b=>
 letO (decide (50<b)) fun c=>
 iteB c
 (some 3)
 (joinO (fun _=>
 some 0) fun d=>
 letO (a.length:Int) fun e=>
 Fe1 a d e 0)

def Fby (a:Cond)(b:List Str):Option (Int×(List Str)):=
 bindO (bindO (letO (decide (a.Kind=3)) fun c=>
 iteB c
 (some c)
 (letO (decide (a.Kind=5)) fun d=>
 some d)) fun e=>
 iteB e
 (letO ([a.Name]:List Str) fun _=>
 bindO (app' 16 b ([a.Name]:List Str)) fun f=>
 some f)
 (letO (decide (a.Kind=4)) fun h=>
 iteB h
 (letO ([a.Name,a.Other]:List Str) fun _=>
 bindO (app' 16 b ([a.Name,a.Other]:List Str)) fun i=>
 some i)
 (some b))) fun j=>
 some (0,j)


def Fd3 (rfG:Cond→(List Str)→Option (Int×(List Str)))(e:Cond)(f:(List Str)→Option (Int×(List Str)))(h:Int):Int×(List Str)→Option (Int×(List Str)):=loopO fun i ⟨a,b⟩=>
 letO (decide (a<h)) fun j=>
 iteB j
 (bindO (at' e.Kids a) fun k=>
 bindO (rfG k b) fun ⟨c,d⟩=>
 letO (decide (c≠0)) fun l=>
 iteB l
 (some (c,d))
 (letO (IntKind.i64.wrap (a+1)) fun m=>
 i (m,d)))
 (f b)
def Fcm (rfG:Cond→(List Str)→Option (Int×(List Str)))(a:Cond)(p1c0:List Str):Option (Int×(List Str)):=
 bindO (Fby a p1c0) fun ⟨b,c⟩=>
 letO (decide (b≠0)) fun d=>
 iteB d
 (some (b,c))
 (joinO (fun e=>
 some (0,e)) fun f=>
 letO (a.Kids.length:Int) fun h=>
 Fd3 rfG a f h (0,c))

def Fay:Nat→Cond→(List Str)→Option (Int×(List Str))
 | 0=>fun _ _=>none
 | n+1=>Fcm (Fay n)
def Fd4:Cond→(List Str)→Option (Int×(List Str)):=Fay FU

def Fa8 (a:Cond):Option (List Str):=
 bindO (Fd4 a []) fun ⟨c,b⟩=>
 some b

def Fci (c:Rules)(d:Int):(List Str)×Int→Option (List Str):=loopO fun e ⟨b,a⟩=>
 letO (decide (a<d)) fun f=>
 iteB f
 (bindO (at' c.Moves a) fun h=>
 bindO (Fa8 h.When) fun i=>
 bindO (app' 16 b i) fun j=>
 letO (IntKind.i64.wrap (a+1)) fun k=>
 e (j,k))
 (some b)
def Fb3 (c:Rules)(d:Int):(List Str)×Int→Option (List Str):=loopO fun e ⟨b,a⟩=>
 letO (decide (a<d)) fun f=>
 iteB f
 (bindO (at' c.Rules a) fun h=>
 bindO (Fa8 h.When) fun i=>
 bindO (app' 16 b i) fun j=>
 letO (IntKind.i64.wrap (a+1)) fun k=>
 e (j,k))
 (some b)
def Fa7 (a:Rules):Option (List Str):=
 bindO (letO (a.Moves.length:Int) fun b=>
 Fci a b ([],0)) fun c=>
 bindO (letO (a.Rules.length:Int) fun d=>
 Fb3 a d (c,0)) fun e=>
 bindO (Fc8 e) fun f=>
 bindO (Fcy f) fun h=>
 some h

def Fc5 (a:Track)(b:Str):Option Bool:=
 letO (decide ((a.Name:Str)=b)) fun c=>
 some c

def Fex (b:List Track)(p1c0:Str)(c:Unit→Option Int)(d:Int):Int→Option Int:=loopO fun e a=>
 letO (decide (a<d)) fun f=>
 iteB f
 (bindO (at' b a) fun h=>
 bindO (Fc5 h p1c0) fun i=>
 iteB i
 (some a)
 (letO (IntKind.i64.wrap (a+1)) fun j=>
 e j))
 (c ())
def Fcj (a:List Track)(p1c0:Str):Option Int:=
 joinO (fun _=>
 some (-1)) fun b=>
 letO (a.length:Int) fun c=>
 Fex a p1c0 b c 0

def Fb5 (a:List Track)(p1c0:Str):Option Bool:=
 bindO (Fcj a p1c0) fun b=>
 letO (decide (0≤b)) fun c=>
 some c

def Feo (b:List Track)(c:Unit→Option Int)(d:List Str)(e:Int):Int→Option Int:=loopO fun f a=>
 letO (decide (a<e)) fun h=>
 iteB h
 (bindO (at' d a) fun i=>
 bindO (Fb5 b i) fun j=>
 letO (!j) fun k=>
 iteB k
 (some 4)
 (letO (IntKind.i64.wrap (a+1)) fun l=>
 f l))
 (c ())
def Fax (a:Rules)(b:List Track):Option Int:=
 bindO (Fcn a) fun c=>
 letO (decide (c≠0)) fun f=>
 iteB f
 (some c)
 (bindO (Fbf b) fun d=>
 letO (decide (d≠0)) fun h=>
 iteB h
 (some d)
 (joinO (fun _=>
 some 0) fun i=>
 bindO (Fa7 a) fun e=>
 letO (e.length:Int) fun j=>
 Feo b i e j 0))

def Fcs (a:List Str):Option (List Str):=
 nilO a fun b=>
 iteB b
 (some [])
 (bindO (app' 16 ([]:List Str) a) fun c=>
 some c)


def Fd0 (rfH:EventMaker→Cond→Option Nd)(a:EventMaker)(d:List Cond)(e:Int):(List Nd)×Int→Option (List Nd):=loopO fun f ⟨c,b⟩=>
 letO (decide (b<e)) fun h=>
 iteB h
 (bindO (at' d b) fun i=>
 bindO (rfH (EventMaker.mk a.tracks a.dens a.phases a.rules) i) fun j=>
 bindO (app' 16 c [j]) fun k=>
 letO (IntKind.i64.wrap (b+1)) fun l=>
 f (k,l))
 (some c)
def Fa6 (rfH:EventMaker→Cond→Option Nd)(b:EventMaker)(a:List Cond):Option (List Nd):=
 bindO (letO (a.length:Int) fun c=>
 Fd0 rfH b a c ([],0)) fun d=>
 some d

def Fbr (rfH:EventMaker→Cond→Option Nd)(b:EventMaker)(a:Cond):Option Nd:=
 bindO (Fa6 rfH (EventMaker.mk b.tracks b.dens b.phases b.rules) a.Kids) fun c=>
 letO (decide (a.Kind=1)) fun h=>
 iteB h
 (some (.constant 2:Nd))
 (letO (decide (a.Kind=2)) fun i=>
 iteB i
 (some (.constant 1:Nd))
 (letO (decide (a.Kind=3)) fun j=>
 iteB j
 (letO (mget b.tracks a.Name 0) fun k=>
 some (.number k a.Op a.N:Nd))
 (letO (decide (a.Kind=4)) fun l=>
 iteB l
 (letO (mget b.tracks a.Name 0) fun d=>
 letO (mget b.tracks a.Other 0) fun e=>
 bindO (at' b.dens d) fun m=>
 bindO (at' b.dens e) fun n=>
 some (.pair d e m n a.Op:Nd))
 (letO (decide (a.Kind=5)) fun o=>
 iteB o
 (letO (mget b.tracks a.Name 0) fun p=>
 some (.steady p a.N a.Frames []:Nd))
 (letO (decide (a.Kind=6)) fun q=>
 iteB q
 (bindO (Fah b.phases a.Name) fun r=>
 some (.phase r:Nd))
 (letO (decide (a.Kind=7)) fun s=>
 iteB s
 (letO (mget b.rules a.Name 0) fun t=>
 some (.rule t:Nd))
 (letO (decide (a.Kind=8)) fun u=>
 iteB u
 (bindO (at' c 0) fun v=>
 some (.not v:Nd))
 (bindO (letO (decide (a.Kind=9)) fun f=>
 iteB f
 (some f)
 (letO (decide (a.Kind=10)) fun x=>
 some x)) fun y=>
 iteB y
 (letO (decide (a.Kind=10)) fun z=>
 some (.group c z:Nd))
 (letO (decide (a.Kind=11)) fun A=>
 iteB A
 (bindO (at' c 0) fun B=>
 some (.count B a.Frames a.Frames [] (Arr.rep 3 0:Arr 3 Int):Nd))
 (letO (decide (a.Kind=12)) fun C=>
 iteB C
 (bindO (at' c 0) fun D=>
 some (.count D 1 a.Frames [] (Arr.rep 3 0:Arr 3 Int):Nd))
 (letO (decide (a.Kind=13)) fun E=>
 iteB E
 (bindO (at' c 0) fun F=>
 some (.count F a.N a.Frames [] (Arr.rep 3 0:Arr 3 Int):Nd))
 (letO (decide (a.Kind=14)) fun G=>
 iteB G
 (bindO (at' c 0) fun I=>
 bindO (at' c 1) fun J=>
 some (.since I J 0 false:Nd))
 (bindO (at' c 0) fun K=>
 some (.rises K 0 false:Nd))))))))))))))

def Fat:Nat→EventMaker→Cond→Option Nd
 | 0=>fun _ _=>none
 | n+1=>Fbr (Fat n)
def Fbj:EventMaker→Cond→Option Nd:=Fat FU

def Fdn (e:List Track)(f:Int):Int×(List (Str×Int))×(List Int)→Option ((List (Str×Int))×(List Int)):=loopO fun h ⟨a,c,d⟩=>
 letO (decide (a<f)) fun i=>
 iteB i
 (bindO (at' e a) fun b=>
 letO (mset c b.Name a) fun j=>
 letO ([b.Series.Den]:List Int) fun _=>
 bindO (app' 8 d ([b.Series.Den]:List Int)) fun k=>
 letO (IntKind.i64.wrap (a+1)) fun l=>
 h (l,j,k))
 (some (c,d))
def Fdm (a:Rules)(e:List (Str×Int))(f:List Int)(h:Int):Int×(List EventMove)→Option (List EventMove):=loopO fun i ⟨b,d⟩=>
 letO (decide (b<h)) fun j=>
 iteB j
 (bindO (at' a.Moves b) fun c=>
 bindO (Fah a.Phases c.From) fun k=>
 bindO (Fah a.Phases c.To) fun l=>
 bindO (Fbj (EventMaker.mk e f a.Phases ([]:List (Str×Int))) c.When) fun m=>
 bindO (app' 32 d [EventMove.mk k l m]) fun n=>
 letO (IntKind.i64.wrap (b+1)) fun o=>
 i (o,n))
 (some d)
def Fdh (b:Rules)(f:List (Str×Int))(h:List Int)(i:Int):Int×(List (Str×Int))×(List Nd)→Option (List Nd):=loopO fun j ⟨a,c,d⟩=>
 letO (decide (a<i)) fun k=>
 iteB k
 (bindO (at' b.Rules a) fun e=>
 bindO (Fbj (EventMaker.mk f h b.Phases c) e.When) fun l=>
 bindO (app' 16 d [l]) fun m=>
 letO (mset c e.Name a) fun n=>
 letO (IntKind.i64.wrap (a+1)) fun o=>
 j (o,n,m))
 (some d)
def Fao (a:Rules)(b:List Track):Option EventWatch:=
 bindO (letO (b.length:Int) fun f=>
 Fdn b f (0,([]:List (Str×Int)),[])) fun ⟨d,e⟩=>
 letO (b.length:Int) fun h=>
 letO (a.Phases.length:Int) fun i=>
 bindO (Fcs a.Phases) fun j=>
 bindO (make' 1 i (false:Bool)) fun c=>
 bindO (letO (a.Phases.length:Int) fun k=>
 letO (decide (0<k)) fun l=>
 iteB l
 (bindO (at' c 0) fun s=>
 bindO (set' c 0 true) fun m=>
 some m)
 (some c)) fun n=>
 bindO (letO (a.Moves.length:Int) fun o=>
 Fdm a d e o (0,[])) fun p=>
 bindO (letO (a.Rules.length:Int) fun q=>
 Fdh a d e q (0,([]:List (Str×Int)),[])) fun r=>
 some (EventWatch.mk j h p r n)

def Fas (a:Sample)(b:Int):Option Int:=
 letO (IntKind.i64.wrap (a.At - b)) fun c=>
 some c

def Fdj (e:List Sample)(f:Int):Int×Int→Option Int:=loopO fun d ⟨a,b⟩=>
 letO (decide (a<b)) fun h=>
 iteB h
 (letO (IntKind.i64.wrap (a+b)) fun i=>
 letO (IntKind.u64.wrap i) fun j=>
 bindO (shr' .u64 j 1) fun k=>
 letO (IntKind.i64.wrap k) fun c=>
 bindO (at' e c) fun l=>
 bindO (Fas l f) fun m=>
 letO (decide (m<0)) fun n=>
 iteB n
 (letO (IntKind.i64.wrap (c+1)) fun o=>
 d (o,b))
 (d (a,c)))
 (some a)
def Fc1 (a:List Sample)(c:Int):Option (Int×Bool):=
 letO (a.length:Int) fun d=>
 bindO (Fdj a c (0,d)) fun b=>
 bindO (letO (decide (b<d)) fun e=>
 iteB e
 (bindO (at' a b) fun f=>
 bindO (Fas f c) fun h=>
 letO (decide (h=0)) fun i=>
 some i)
 (some false)) fun j=>
 some (b,j)

def Fb9 (b:Series)(c:Int):Option Int:=
 bindO (Fc1 b.Samples c) fun ⟨a,d⟩=>
 iteB d
 (some a)
 (letO (IntKind.i64.wrap (a - 1)) fun e=>
 some e)

def Fdi (a:Sample):Option Bool:=
 letO (decide (3≤a.Mark)) fun b=>
 some b

def Fdq (a:Series)(c:Int)(d:Int):Option (Sample×Bool):=
 bindO (Fb9 a c) fun b=>
 bindO (letO (decide (b<0)) fun e=>
 bindO (iteB e
 (some true)
 (bindO (at' a.Samples b) fun f=>
 bindO (Fdi f) fun h=>
 letO (!h) fun i=>
 some i)) fun j=>
 iteB j
 (some true)
 (bindO (at' a.Samples b) fun k=>
 letO (IntKind.i64.wrap (c - k.At)) fun l=>
 letO (decide (d<l)) fun m=>
 some m)) fun n=>
 iteB n
 (some (Sample.mk 0 0 0,false))
 (bindO (at' a.Samples b) fun o=>
 some (o,true))

def Fcf (a:Series)(b:Int)(c:Int):Option (Sample×Bool):=
 bindO (Fdq a b c) fun ⟨d,e⟩=>
 some (d,e)

def Feu (f:List Track)(h:Int)(i:Int):(List ToldT)×Int→Option (List ToldT):=loopO fun j ⟨b,a⟩=>
 letO (decide (a<i)) fun k=>
 iteB k
 (bindO (at' f a) fun c=>
 letO (IntKind.i64.wrap (64 * h)) fun l=>
 letO (IntKind.i64.wrap (l+64)) fun m=>
 letO (IntKind.i64.wrap (m - 1)) fun n=>
 bindO (Fcf c.Series n c.Long) fun ⟨d,e⟩=>
 letO ([ToldT.mk d.N e]:List ToldT) fun _=>
 bindO (app' 16 b ([ToldT.mk d.N e]:List ToldT)) fun o=>
 letO (IntKind.i64.wrap (a+1)) fun p=>
 j (o,p))
 (some b)
def Fai (a:List Track)(b:Int):Option (List ToldT):=
 bindO (letO (a.length:Int) fun c=>
 Feu a b c ([],0)) fun d=>
 some d



def Feq (a:EventConstant)(b:EventMoment):Option Int:=
 some a.truth

def Fal (a:Int):Option Int:=
 letO (decide (a<0)) fun b=>
 iteB b
 (some (-1))
 (letO (decide (0<a)) fun c=>
 iteB c
 (some 1)
 (some 0))

def Fa9 (b:Int)(a:Int):Option Bool:=
 letO (decide (b=1)) fun c=>
 iteB c
 (letO (decide (a<0)) fun d=>
 some d)
 (letO (decide (b=2)) fun e=>
 iteB e
 (letO (decide (a≤0)) fun f=>
 some f)
 (letO (decide (b=3)) fun h=>
 iteB h
 (letO (decide (a=0)) fun i=>
 some i)
 (letO (decide (b=4)) fun j=>
 iteB j
 (letO (decide (a≠0)) fun k=>
 some k)
 (letO (decide (b=5)) fun l=>
 iteB l
 (letO (decide (0≤a)) fun m=>
 some m)
 (letO (decide (0<a)) fun n=>
 some n)))))

def Fct (a:Bool):Option Int:=
 iteB a
 (some 2)
 (some 1)

def Fa5 (a:EventNumber)(c:EventMoment):Option Int:=
 bindO (at' c.told a.track) fun b=>
 letO (!b.Known) fun d=>
 iteB d
 (some 0)
 (letO (IntKind.i64.wrap (b.N - a.n)) fun e=>
 bindO (Fal e) fun f=>
 bindO (Fa9 a.op f) fun h=>
 bindO (Fct h) fun i=>
 some i)

def Fbe (a:Int)(b:Int):Option (Int×Int):=
 letO (bits .and .u64 a 4294967295) fun c=>
 bindO (shr' .u64 a 32) fun d=>
 letO (bits .and .u64 b 4294967295) fun e=>
 bindO (shr' .u64 b 32) fun f=>
 letO (IntKind.u64.wrap (c * e)) fun i=>
 letO (IntKind.u64.wrap (d * e)) fun j=>
 bindO (shr' .u64 i 32) fun k=>
 letO (IntKind.u64.wrap (j+k)) fun h=>
 letO (bits .and .u64 h 4294967295) fun l=>
 bindO (shr' .u64 h 32) fun m=>
 letO (IntKind.u64.wrap (c * f)) fun n=>
 letO (IntKind.u64.wrap (l+n)) fun o=>
 letO (IntKind.u64.wrap (d * f)) fun p=>
 letO (IntKind.u64.wrap (p+m)) fun q=>
 bindO (shr' .u64 o 32) fun r=>
 letO (IntKind.u64.wrap (q+r)) fun s=>
 letO (IntKind.u64.wrap (a * b)) fun t=>
 some (s,t)

def Fbu (b:Int)(k:Int)(e:Int)(l:Int):Option Int:=
 bindO (Fal b) fun f=>
 bindO (Fal e) fun h=>
 letO (decide (f≠h)) fun m=>
 iteB m
 (letO (IntKind.i64.wrap (f - h)) fun n=>
 bindO (Fal n) fun o=>
 some o)
 (bindO (Fal b) fun a=>
 letO (IntKind.i64.wrap (b * a)) fun p=>
 letO (IntKind.u64.wrap p) fun q=>
 letO (IntKind.u64.wrap l) fun r=>
 bindO (Fbe q r) fun ⟨c,i⟩=>
 letO (IntKind.i64.wrap (e * a)) fun s=>
 letO (IntKind.u64.wrap s) fun t=>
 letO (IntKind.u64.wrap k) fun u=>
 bindO (Fbe t u) fun ⟨d,j⟩=>
 bindO (letO (decide (c<d)) fun v=>
 iteB v
 (some true)
 (letO (decide (c=d)) fun x=>
 iteB x
 (letO (decide (i<j)) fun y=>
 some y)
 (some false))) fun z=>
 iteB z
 (letO (IntKind.i64.wrap (-a)) fun A=>
 some A)
 (bindO (letO (decide (c=d)) fun B=>
 iteB B
 (letO (decide (i=j)) fun C=>
 some C)
 (some false)) fun D=>
 iteB D
 (some 0)
 (some a)))

def Fav (c:EventPair)(d:EventMoment):Option Int:=
 bindO (at' d.told c.a) fun e=>
 bindO (at' d.told c.b) fun f=>
 bindO (letO (!e.Known) fun h=>
 iteB h
 (some true)
 (letO (!f.Known) fun i=>
 some i)) fun j=>
 iteB j
 (some 0)
 (bindO (Fbu e.N c.denA f.N c.denB) fun k=>
 bindO (Fa9 c.op k) fun l=>
 bindO (Fct l) fun m=>
 some m)

def Fep (f:List ToldT)(h:Int):Int×Int×Int×Int→Option (Int×Int×Int):=loopO fun i ⟨b,c,d,e⟩=>
 letO (decide (e<h)) fun j=>
 iteB j
 (bindO (bindO (at' f e) fun a=>
 letO (!a.Known) fun k=>
 iteB k
 (some (b,c,d))
 (bindO (letO (decide (b=0)) fun l=>
 iteB l
 (some (a.N,a.N))
 (some (c,d))) fun ⟨m,n⟩=>
 letO (IntKind.i64.wrap (b+1)) fun o=>
 letO (min m a.N:Int) fun p=>
 letO (max n a.N:Int) fun q=>
 some (o,p,q))) fun ⟨r,s,t⟩=>
 letO (IntKind.i64.wrap (e+1)) fun u=>
 i (r,s,t,u))
 (some (b,c,d))
def Faz (a:EventSteady)(e:EventMoment):Option (Int×EventSteady):=
 bindO (at' e.told a.track) fun d=>
 letO ([d]:List ToldT) fun _=>
 bindO (app' 16 a.last ([d]:List ToldT)) fun b=>
 bindO (letO (b.length:Int) fun f=>
 Fep b f (0,0,0,0)) fun ⟨h,i,j⟩=>
 letO (b.length:Int) fun k=>
 letO (IntKind.i64.wrap (k - a.frames)) fun l=>
 letO (IntKind.i64.wrap (l+1)) fun m=>
 letO (max 0 m:Int) fun o=>
 bindO (sub' b o (b.length:Int)) fun c=>
 letO (IntKind.i64.wrap (j - i)) fun p=>
 letO (decide (a.n<p)) fun q=>
 iteB q
 (some (1,EventSteady.mk a.track a.n a.frames c))
 (letO (decide (h=a.frames)) fun r=>
 iteB r
 (some (2,EventSteady.mk a.track a.n a.frames c))
 (some (0,EventSteady.mk a.track a.n a.frames c)))

def Fes (c:EventMoment)(d:Int):Int×Int→Option Int:=loopO fun e ⟨a,b⟩=>
 letO (decide (b<d)) fun f=>
 iteB f
 (bindO (bindO (at' c.possible b) fun h=>
 iteB h
 (letO (IntKind.i64.wrap (a+1)) fun i=>
 some i)
 (some a)) fun j=>
 letO (IntKind.i64.wrap (b+1)) fun k=>
 e (j,k))
 (some a)
def Fa4 (b:EventPhase)(a:EventMoment):Option Int:=
 bindO (letO (a.possible.length:Int) fun c=>
 Fes a c (0,0)) fun d=>
 bindO (at' a.possible b.phase) fun e=>
 letO (!e) fun f=>
 iteB f
 (some 1)
 (letO (decide (d=1)) fun h=>
 iteB h
 (some 2)
 (some 0))

def Fe2 (a:EventRule)(b:EventMoment):Option Int:=
 bindO (at' b.rules a.rule) fun c=>
 some c

def Fbb (a:Int):Option Int:=
 letO (decide (a=2)) fun b=>
 iteB b
 (some 1)
 (letO (decide (a=1)) fun c=>
 iteB c
 (some 2)
 (some 0))

def Fbp (rfI:Nd→EventMoment→Option (Int×Nd))(c:EventNot)(a:EventMoment):Option (Int×EventNot):=
 bindO (rfI c.kid (EventMoment.mk a.told a.possible a.rules)) fun b=>
 bindO (Fbb b.1) fun d=>
 some (d,EventNot.mk b.2)

def Fcd (rfI:Nd→EventMoment→Option (Int×Nd))(e:EventMoment)(f:Int)(h:Int)(i:Int):Int×Int×(List Nd)→Option (Int×(List Nd)):=loopO fun j ⟨d,a,b⟩=>
 letO (decide (a<i)) fun k=>
 iteB k
 (bindO (bindO (at' b a) fun l=>
 bindO (rfI l (EventMoment.mk e.told e.possible e.rules)) fun c=>
 letO (decide (c.1=f)) fun m=>
 iteB m
 (bindO (set' b a c.2) fun n=>
 some (f,n))
 (letO (decide (c.1=0)) fun o=>
 iteB o
 (letO (decide (d=h)) fun p=>
 iteB p
 (bindO (set' b a c.2) fun q=>
 some (0,q))
 (bindO (set' b a c.2) fun r=>
 some (d,r)))
 (bindO (set' b a c.2) fun s=>
 some (d,s)))) fun ⟨t,u⟩=>
 letO (IntKind.i64.wrap (a+1)) fun v=>
 j (t,v,u))
 (some (d,b))
def Fbc (rfI:Nd→EventMoment→Option (Int×Nd))(a:EventGroup)(c:EventMoment):Option (Int×EventGroup):=
 bindO (iteB a.any
 (some (2,1))
 (some (1,2))) fun ⟨d,b⟩=>
 bindO (letO (a.kids.length:Int) fun e=>
 Fcd rfI c d b e (b,0,a.kids)) fun ⟨f,h⟩=>
 some (f,EventGroup.mk h a.any)

def Fbh (rfI:Nd→EventMoment→Option (Int×Nd))(a:EventCount)(e:EventMoment):Option (Int×EventCount):=
 bindO (rfI a.kid (EventMoment.mk e.told e.possible e.rules)) fun b=>
 bindO (at' a.totals.l b.1) fun k=>
 letO (IntKind.i64.wrap (k+1)) fun m=>
 bindO (at' a.totals.l b.1) fun C=>
 letO (Arr.set a.totals b.1 m) fun j=>
 letO ([b.1]:List Int) fun _=>
 bindO (app' 8 a.last ([b.1]:List Int)) fun c=>
 bindO (at' a.totals.l b.1) fun o=>
 letO (IntKind.i64.wrap (o+1)) fun p=>
 bindO (at' a.totals.l b.1) fun D=>
 letO (Arr.set a.totals b.1 p) fun d=>
 bindO (letO (c.length:Int) fun q=>
 letO (decide (q=a.frames)) fun r=>
 iteB r
 (bindO (at' c 0) fun f=>
 bindO (at' d.l f) fun s=>
 letO (IntKind.i64.wrap (s - 1)) fun t=>
 bindO (at' d.l f) fun E=>
 letO (Arr.set d f t) fun u=>
 bindO (sub' c 1 (c.length:Int)) fun v=>
 some (v,u))
 (some (c,d))) fun ⟨h,i⟩=>
 bindO (at' j.l 2) fun x=>
 letO (decide (a.n≤x)) fun y=>
 iteB y
 (some (2,EventCount.mk b.2 a.n a.frames h i))
 (bindO (at' j.l 1) fun z=>
 letO (IntKind.i64.wrap (a.frames - a.n)) fun A=>
 letO (decide (A<z)) fun B=>
 iteB B
 (some (1,EventCount.mk b.2 a.n a.frames h i))
 (some (0,EventCount.mk b.2 a.n a.frames h i)))

def Fbq (rfI:Nd→EventMoment→Option (Int×Nd))(b:EventSince)(a:EventMoment):Option (Int×EventSince):=
 bindO (rfI b.while_ (EventMoment.mk a.told a.possible a.rules)) fun c=>
 bindO (rfI b.from_ (EventMoment.mk a.told a.possible a.rules)) fun d=>
 bindO (bindO (letO (decide (d.1=2)) fun f=>
 iteB f
 (some true)
 (letO (decide (c.1=2)) fun h=>
 iteB h
 (letO (decide (b.last=2)) fun i=>
 some i)
 (some false))) fun j=>
 iteB j
 (some 2)
 (bindO (letO (decide (d.1=1)) fun k=>
 iteB k
 (letO (decide (c.1=1)) fun l=>
 iteB l
 (some true)
 (letO (decide (b.last=1)) fun m=>
 some m))
 (some false)) fun n=>
 iteB n
 (some 1)
 (some 0))) fun e=>
 some (e,EventSince.mk c.2 d.2 e true)

def Fbi (rfI:Nd→EventMoment→Option (Int×Nd))(b:EventRises)(c:EventMoment):Option (Int×EventRises):=
 bindO (rfI b.kid (EventMoment.mk c.told c.possible c.rules)) fun a=>
 bindO (bindO (letO (decide (a.1=2)) fun d=>
 iteB d
 (letO (decide (b.last=1)) fun e=>
 some e)
 (some false)) fun f=>
 iteB f
 (some 2)
 (bindO (letO (decide (a.1=1)) fun h=>
 iteB h
 (some true)
 (letO (decide (b.last=2)) fun i=>
 some i)) fun j=>
 iteB j
 (some 1)
 (some 0))) fun k=>
 some (k,EventRises.mk a.2 a.1 true)

def Fde (rfI:Nd→EventMoment→Option (Int×Nd))(t:Nd)(a:EventMoment):Option (Int×Nd):=
 match t with
 | .constant f=>
 bindO (Feq (EventConstant.mk f) (EventMoment.mk a.told a.possible a.rules)) fun u=>
 some (u,(.constant f))
 | .number h i j=>
 bindO (Fa5 (EventNumber.mk h i j) (EventMoment.mk a.told a.possible a.rules)) fun v=>
 some (v,(.number h i j))
 | .pair k l m o p=>
 bindO (Fav (EventPair.mk k l m o p) (EventMoment.mk a.told a.possible a.rules)) fun x=>
 some (x,(.pair k l m o p))
 | .steady y z A B=>
 bindO (Faz (EventSteady.mk y z A B) (EventMoment.mk a.told a.possible a.rules)) fun ⟨C,c⟩=>
 some (C,(.steady c.track c.n c.frames c.last))
 | .phase q=>
 bindO (Fa4 (EventPhase.mk q) (EventMoment.mk a.told a.possible a.rules)) fun D=>
 some (D,(.phase q))
 | .rule r=>
 bindO (Fe2 (EventRule.mk r) (EventMoment.mk a.told a.possible a.rules)) fun E=>
 some (E,(.rule r))
 | .not F=>
 bindO (Fbp rfI (EventNot.mk F) (EventMoment.mk a.told a.possible a.rules)) fun ⟨G,I⟩=>
 some (G,(.not I.kid))
 | .group J K=>
 bindO (Fbc rfI (EventGroup.mk J K) (EventMoment.mk a.told a.possible a.rules)) fun ⟨L,s⟩=>
 some (L,(.group s.kids s.any))
 | .count M N P Q R=>
 bindO (Fbh rfI (EventCount.mk M N P Q R) (EventMoment.mk a.told a.possible a.rules)) fun ⟨T,b⟩=>
 some (T,(.count b.kid b.n b.frames b.last b.totals))
 | .since U V X Y=>
 bindO (Fbq rfI (EventSince.mk U V X Y) (EventMoment.mk a.told a.possible a.rules)) fun ⟨Z,d⟩=>
 some (Z,(.since d.while_ d.from_ d.last d.begun))
 | .rises aa ab ac=>
 bindO (Fbi rfI (EventRises.mk aa ab ac) (EventMoment.mk a.told a.possible a.rules)) fun ⟨ad,e⟩=>
 some (ad,(.rises e.kid e.last e.begun))

def Fcv:Nat→Nd→EventMoment→Option (Int×Nd)
 | 0=>fun _ _=>none
 | n+1=>Fde (Fcv n)
def Fac:Nd→EventMoment→Option (Int×Nd):=Fcv FU

def Fdz (b:EventMoment)(h:Int):(List Int)×Int×(List EventMove)→Option ((List Int)×(List EventMove)):=loopO fun i ⟨f,a,c⟩=>
 letO (decide (a<h)) fun j=>
 iteB j
 (bindO (at' c a) fun d=>
 bindO (Fac d.when (EventMoment.mk b.told b.possible b.rules)) fun e=>
 letO ([e.1]:List Int) fun _=>
 bindO (app' 8 f ([e.1]:List Int)) fun k=>
 letO (IntKind.i64.wrap (a+1)) fun l=>
 bindO (set' c a (EventMove.mk d.from_ d.to e.2)) fun m=>
 i (k,l,m))
 (some (f,c))
def Fcl (d:List Int)(h:List EventMove)(i:Int)(j:Int):Int×(List Bool)→Option (Bool×(List Bool)):=loopO fun k ⟨a,b⟩=>
 letO (decide (a<j)) fun l=>
 iteB l
 (joinO (fun m=>
 letO (IntKind.i64.wrap (a+1)) fun n=>
 k (n,m)) fun e=>
 bindO (at' h a) fun c=>
 bindO (letO (decide (c.from_≠i)) fun o=>
 iteB o
 (some true)
 (bindO (at' d a) fun p=>
 letO (decide (p=1)) fun q=>
 some q)) fun r=>
 iteB r
 (e b)
 (bindO (at' b c.to) fun u=>
 bindO (set' b c.to true) fun f=>
 bindO (at' d a) fun s=>
 letO (decide (s=2)) fun t=>
 iteB t
 (some (false,f))
 (e f)))
 (some (true,b))
def Fds (e:EventWatch)(f:List Int)(d:List EventMove)(h:Int):Int×(List Bool)→Option (List Bool):=loopO fun i ⟨a,c⟩=>
 letO (decide (a<h)) fun j=>
 iteB j
 (bindO (bindO (at' e.possible a) fun k=>
 letO (!k) fun l=>
 iteB l
 (some c)
 (bindO (letO (d.length:Int) fun m=>
 Fcl f d a m (0,c)) fun ⟨n,b⟩=>
 bindO (at' b a) fun o=>
 iteB o
 (bindO (at' b a) fun t=>
 bindO (set' b a true) fun p=>
 some p)
 (bindO (at' b a) fun u=>
 bindO (set' b a n) fun q=>
 some q))) fun r=>
 letO (IntKind.i64.wrap (a+1)) fun s=>
 i (s,r))
 (some c)
def Fbn (a:EventWatch)(c:EventMoment):Option EventWatch:=
 bindO (letO (a.moves.length:Int) fun d=>
 Fdz c d ([],0,a.moves)) fun ⟨e,b⟩=>
 letO (a.phases.length:Int) fun f=>
 bindO (make' 1 f (false:Bool)) fun h=>
 bindO (letO (a.possible.length:Int) fun i=>
 Fds a e b i (0,h)) fun j=>
 some (EventWatch.mk a.phases a.tracks b a.rules j)

def Fen (e:List ToldT)(f:EventWatch)(h:Int):Int×(List Nd)×(List Int)→Option ((List Nd)×(List Int)):=loopO fun i ⟨a,b,c⟩=>
 letO (decide (a<h)) fun j=>
 iteB j
 (bindO (at' b a) fun k=>
 bindO (Fac k (EventMoment.mk e f.possible c)) fun d=>
 letO ([d.1]:List Int) fun _=>
 bindO (app' 8 c ([d.1]:List Int)) fun l=>
 letO (IntKind.i64.wrap (a+1)) fun m=>
 bindO (set' b a d.2) fun n=>
 i (m,n,l))
 (some (b,c))
def Faf (b:EventWatch)(c:List ToldT):Option ((List Int)×EventWatch):=
 bindO (Fbn (EventWatch.mk b.phases b.tracks b.moves b.rules b.possible) (EventMoment.mk c [] [])) fun a=>
 bindO (letO (a.rules.length:Int) fun d=>
 Fen c a d (0,a.rules,[])) fun ⟨e,f⟩=>
 some (f,EventWatch.mk a.phases a.tracks a.moves e a.possible)

def Fd7 (c:EventWatch)(e:Int):(List Str)×Int→Option (List Str):=loopO fun f ⟨b,a⟩=>
 letO (decide (a<e)) fun h=>
 iteB h
 (bindO (bindO (at' c.possible a) fun i=>
 iteB i
 (bindO (at' c.phases a) fun d=>
 letO ([d]:List Str) fun _=>
 bindO (app' 16 b ([d]:List Str)) fun j=>
 some j)
 (some b)) fun k=>
 letO (IntKind.i64.wrap (a+1)) fun l=>
 f (k,l))
 (some b)
def Fag (a:EventWatch):Option (List Str):=
 bindO (letO (a.possible.length:Int) fun b=>
 Fd7 a b ([],0)) fun c=>
 some c

def Fev (d:List Int)(e:Int):Int×(List (List Int))→Option (List (List Int)):=loopO fun f ⟨a,b⟩=>
 letO (decide (a<e)) fun h=>
 iteB h
 (bindO (at' d a) fun c=>
 bindO (at' b a) fun i=>
 letO ([c]:List Int) fun _=>
 bindO (app' 8 i ([c]:List Int)) fun j=>
 bindO (at' b a) fun m=>
 letO (IntKind.i64.wrap (a+1)) fun k=>
 bindO (set' b a j) fun l=>
 f (k,l))
 (some b)
def Fbk (a:List Int)(d:List Str)(b:List (List Int)):Option (List (List Int)):=
 letO (a.length:Int) fun c=>
 Fev a c (0,b)

def Fc0 (d:List Track)(e:Int):Int×(List (List Int))×(List Str)×Int×(List EventMove)×(List Nd)×(List Bool)→Option (List (List Int)):=loopO fun f ⟨b,c,h,i,j,k,l⟩=>
 letO (decide (b≤e)) fun m=>
 iteB m
 (bindO (Fai d b) fun n=>
 bindO (Faf (EventWatch.mk h i j k l) n) fun ⟨o,a⟩=>
 bindO (Fag (EventWatch.mk a.phases a.tracks a.moves a.rules a.possible)) fun p=>
 bindO (Fbk o p c) fun q=>
 letO (IntKind.i64.wrap (b+1)) fun r=>
 f (r,q,a.phases,a.tracks,a.moves,a.rules,a.possible))
 (some c)
def Fcr (e:Rules)(d:List Track)(b:Int)(c:Int)(p4c0:List (List Int)):Option (Int×(List (List Int))):=
 bindO (Fax e d) fun f=>
 letO (decide (f≠0)) fun h=>
 iteB h
 (some (f,p4c0))
 (bindO (letO (decide (b<0)) fun i=>
 bindO (iteB i
 (some true)
 (letO (decide (c<b)) fun j=>
 some j)) fun k=>
 iteB k
 (some true)
 (letO (decide (4194304≤c)) fun l=>
 some l)) fun m=>
 iteB m
 (some (9,p4c0))
 (letO (IntKind.i64.wrap (c - b)) fun n=>
 letO (IntKind.i64.wrap (n+1)) fun o=>
 letO (decide (20000<o)) fun p=>
 iteB p
 (some (3,p4c0))
 (bindO (Fao e d) fun a=>
 bindO (Fc0 d c (b,p4c0,a.phases,a.tracks,a.moves,a.rules,a.possible)) fun q=>
 some (0,q))))

def Fcb (a:Rules)(c:List Track)(d:Int)(e:Int):Option ((List (List Int))×Int):=
 letO (a.Rules.length:Int) fun f=>
 bindO (make' 24 f ([]:List Int)) fun h=>
 bindO (Fcr a c d e h) fun ⟨b,i⟩=>
 letO (decide (b≠0)) fun j=>
 iteB j
 (some ([],b))
 (some (i,0))

def Fa3 (d:List Int)(a:List Str)(b:List (List Str)):Option (List (List Str)):=
 letO ([a]:List (List Str)) fun _=>
 bindO (app' 24 b ([a]:List (List Str))) fun c=>
 some c

def Fdl (d:List Track)(e:Int):Int×(List (List Str))×(List Str)×Int×(List EventMove)×(List Nd)×(List Bool)→Option (List (List Str)):=loopO fun f ⟨b,c,h,i,j,k,l⟩=>
 letO (decide (b≤e)) fun m=>
 iteB m
 (bindO (Fai d b) fun n=>
 bindO (Faf (EventWatch.mk h i j k l) n) fun ⟨o,a⟩=>
 bindO (Fag (EventWatch.mk a.phases a.tracks a.moves a.rules a.possible)) fun p=>
 bindO (Fa3 o p c) fun q=>
 letO (IntKind.i64.wrap (b+1)) fun r=>
 f (r,q,a.phases,a.tracks,a.moves,a.rules,a.possible))
 (some c)
def Fck (e:Rules)(d:List Track)(b:Int)(c:Int)(p4c0:List (List Str)):Option (Int×(List (List Str))):=
 bindO (Fax e d) fun f=>
 letO (decide (f≠0)) fun h=>
 iteB h
 (some (f,p4c0))
 (bindO (letO (decide (b<0)) fun i=>
 bindO (iteB i
 (some true)
 (letO (decide (c<b)) fun j=>
 some j)) fun k=>
 iteB k
 (some true)
 (letO (decide (4194304≤c)) fun l=>
 some l)) fun m=>
 iteB m
 (some (9,p4c0))
 (letO (IntKind.i64.wrap (c - b)) fun n=>
 letO (IntKind.i64.wrap (n+1)) fun o=>
 letO (decide (20000<o)) fun p=>
 iteB p
 (some (3,p4c0))
 (bindO (Fao e d) fun a=>
 bindO (Fdl d c (b,p4c0,a.phases,a.tracks,a.moves,a.rules,a.possible)) fun q=>
 some (0,q))))

def Fb4 (b:Rules)(c:List Track)(d:Int)(e:Int):Option ((List (List Str))×Int):=
 bindO (Fck b c d e []) fun ⟨a,f⟩=>
 letO (decide (a≠0)) fun h=>
 iteB h
 (some ([],a))
 (some (f,0))

def Fb8 (b:Rules)(c:List Track):Option ((Option EventWatch)×Int):=
 bindO (Fax b c) fun d=>
 letO (decide (d≠0)) fun e=>
 iteB e
 (some (none,d))
 (bindO (Fao b c) fun a=>
 some ((some (EventWatch.mk a.phases a.tracks a.moves a.rules a.possible)),0))

def Fcx (a:List Track)(b:Int):Option ((List ToldT)×Int):=
 bindO (Fbf a) fun c=>
 letO (decide (c≠0)) fun d=>
 iteB d
 (some ([],c))
 (bindO (Fae b 0 4194303) fun e=>
 letO (!e) fun f=>
 iteB f
 (some ([],9))
 (bindO (Fai a b) fun h=>
 some (h,0)))

def Few (a:EventWatch)(d:List ToldT)(e:Unit→Option ((List Int)×Int×EventWatch))(f:Int):Int→Option ((List Int)×Int×EventWatch):=loopO fun h b=>
 letO (decide (b<f)) fun i=>
 iteB i
 (bindO (at' d b) fun c=>
 bindO (letO (!c.Known) fun j=>
 iteB j
 (letO (decide (c.N≠0)) fun k=>
 some k)
 (some false)) fun l=>
 iteB l
 (some ([],2,EventWatch.mk a.phases a.tracks a.moves a.rules a.possible))
 (bindO (Fae c.N (-1125899906842624) 1125899906842624) fun m=>
 letO (!m) fun n=>
 iteB n
 (some ([],9,EventWatch.mk a.phases a.tracks a.moves a.rules a.possible))
 (letO (IntKind.i64.wrap (b+1)) fun o=>
 h o)))
 (e ())
def Fa0 (a:EventWatch)(c:List ToldT):Option ((List Int)×Int×EventWatch):=
 letO (c.length:Int) fun d=>
 letO (decide (d≠a.tracks)) fun e=>
 iteB e
 (some ([],2,EventWatch.mk a.phases a.tracks a.moves a.rules a.possible))
 (joinO (fun _=>
 bindO (Faf (EventWatch.mk a.phases a.tracks a.moves a.rules a.possible) c) fun ⟨f,b⟩=>
 some (f,0,EventWatch.mk b.phases b.tracks b.moves b.rules b.possible)) fun h=>
 letO (c.length:Int) fun i=>
 Few a c h i 0)

def Fb6 (a:List Int)(b:Int)(d:Int):Option (List Int):=
 letO (IntKind.u64.wrap b) fun c=>
 bindO (letO (decide (b<0)) fun e=>
 iteB e
 (letO ([45]:List Int) fun _=>
 bindO (app' 1 a ([45]:List Int)) fun f=>
 letO (IntKind.u64.wrap (-c)) fun h=>
 some (f,h))
 (some (a,c))) fun ⟨i,j⟩=>
 bindO (Fbv i j d) fun k=>
 some k

def Fcw (a:List Int)(b:Int)(c:Int):Option (List Int):=
 bindO (Fb6 a b c) fun d=>
 some d

def Fbd (a:Orangeboxref0Ink)(b:Int):Option Orangeboxref0Ink:=
 bindO (Fcw a.out b 10) fun c=>
 letO ([32]:List Int) fun _=>
 bindO (app' 1 c ([32]:List Int)) fun d=>
 some (Orangeboxref0Ink.mk d)

def Fca (b:Orangeboxref0Ink)(a:Str):Option Orangeboxref0Ink:=
 letO (a.length:Int) fun c=>
 bindO (Fbd (Orangeboxref0Ink.mk b.out) c) fun d=>
 bindO (app' 1 d.out (nums a)) fun e=>
 some (Orangeboxref0Ink.mk e)

def Fel (b:List Str):Int×(List Int)→Option Orangeboxref0Ink:=loopO fun d ⟨a,c⟩=>
 letO (b.length:Int) fun e=>
 letO (decide (a<e)) fun f=>
 iteB f
 (bindO (at' b a) fun h=>
 bindO (Fca (Orangeboxref0Ink.mk c) h) fun i=>
 letO (IntKind.i64.wrap (a+1)) fun j=>
 d (j,i.out))
 (some (Orangeboxref0Ink.mk c))
def Faw (b:Orangeboxref0Ink)(a:List Str):Option Orangeboxref0Ink:=
 letO (a.length:Int) fun c=>
 bindO (Fbd (Orangeboxref0Ink.mk b.out) c) fun d=>
 Fel a (0,d.out)

def Fcp (a:Option Orangeboxref0Ink):Option Str:=
 bindO a fun b=>
 letO (str' b.out) fun c=>
 some c

def Fc6 (c:Int)(d:Int)(b:List (List Int))(e:Int)(f:List Int)(h:Unit→Option Bool):Int→Option Bool:=loopO fun i a=>
 letO (b.length:Int) fun j=>
 letO (decide (a<j)) fun k=>
 iteB k
 (bindO (bindO (at' b a) fun l=>
 letO (l.length:Int) fun m=>
 letO (IntKind.i64.wrap (d - c)) fun n=>
 letO (IntKind.i64.wrap (n+1)) fun o=>
 letO (decide (m≠o)) fun p=>
 iteB p
 (some true)
 (bindO (at' f a) fun q=>
 bindO (at' b a) fun r=>
 letO (IntKind.i64.wrap (e - c)) fun s=>
 bindO (at' r s) fun t=>
 letO (decide (q≠t)) fun u=>
 some u)) fun v=>
 iteB v
 (some false)
 (letO (IntKind.i64.wrap (a+1)) fun x=>
 i x))
 (h ())
def Fc2 (i:List Track)(d:Int)(e:Int)(f:List (List Int))(j:List (List Str))(k:Unit→Option Bool):(Option EventWatch)×Int→Option Bool:=loopO fun l ⟨m,b⟩=>
 letO (decide (b≤e)) fun n=>
 iteB n
 (joinO (fun ⟨o,p,q,r,s⟩=>
 letO (IntKind.i64.wrap (b+1)) fun t=>
 l ((some (EventWatch.mk o p q r s)),t)) fun u=>
 bindO (Fcx i b) fun ⟨v,x⟩=>
 letO (decide (x≠0)) fun y=>
 iteB y
 (some false)
 (bindO m fun c=>
 bindO (Fa0 (EventWatch.mk c.phases c.tracks c.moves c.rules c.possible) v) fun ⟨h,z,a⟩=>
 bindO (letO (decide (z≠0)) fun A=>
 iteB A
 (some true)
 (letO (h.length:Int) fun B=>
 letO (f.length:Int) fun C=>
 letO (decide (B≠C)) fun D=>
 some D)) fun E=>
 iteB E
 (some false)
 (joinO (fun _=>
 bindO (Fag (EventWatch.mk a.phases a.tracks a.moves a.rules a.possible)) fun F=>
 bindO (Faw (Orangeboxref0Ink.mk []) F) fun G=>
 letO (IntKind.i64.wrap (b - d)) fun I=>
 bindO (at' j I) fun J=>
 bindO (Faw (Orangeboxref0Ink.mk []) J) fun K=>
 bindO (Fcp (some G)) fun L=>
 bindO (Fcp (some K)) fun M=>
 letO (decide ((L:Str)≠M)) fun N=>
 iteB N
 (some false)
 (u (a.phases,a.tracks,a.moves,a.rules,a.possible))) fun P=>
 Fc6 d e f b h P 0)))
 (k ())
def Fcz (b:Rules)(c:List Track)(a:Int)(d:Int):Option Bool:=
 bindO (Fdr) fun j=>
 letO (!j) fun k=>
 iteB k
 (some false)
 (bindO (Fcb b c a d) fun ⟨e,f⟩=>
 bindO (Fb4 b c a d) fun ⟨h,i⟩=>
 bindO (letO (decide (f≠0)) fun l=>
 iteB l
 (some true)
 (letO (decide (i≠0)) fun m=>
 some m)) fun n=>
 iteB n
 (letO (decide (f=i)) fun o=>
 some o)
 (bindO (Fb8 b c) fun ⟨p,q⟩=>
 bindO (letO (decide (q≠0)) fun r=>
 bindO (iteB r
 (some true)
 (letO (e.length:Int) fun s=>
 letO (b.Rules.length:Int) fun t=>
 letO (decide (s≠t)) fun u=>
 some u)) fun v=>
 iteB v
 (some true)
 (letO (h.length:Int) fun x=>
 letO (IntKind.i64.wrap (d - a)) fun y=>
 letO (IntKind.i64.wrap (y+1)) fun z=>
 letO (decide (x≠z)) fun A=>
 some A)) fun B=>
 iteB B
 (some false)
 (joinO (fun _=>
 some true) fun C=>
 Fc2 c a d e h C (p,a))))

def Fa2 (a:Int)(b:Int)(c:Int):Option Bool:=
 bindO (letO (decide (a<b)) fun d=>
 iteB d
 (some true)
 (letO (decide (c<a)) fun e=>
 some e)) fun f=>
 some f

def Fab (a:Int):Option (Bool×Bool×Bool×Bool×Bool×Int):=
 letO (decide (a=3)) fun f=>
 iteB f
 (some (true,false,true,true,false,0))
 (letO (decide (a=4)) fun h=>
 iteB h
 (some (true,true,true,false,false,0))
 (letO (decide (a=5)) fun i=>
 iteB i
 (some (true,false,false,true,true,0))
 (bindO (letO (decide (a=6)) fun b=>
 iteB b
 (some b)
 (letO (decide (a=7)) fun j=>
 some j)) fun k=>
 iteB k
 (some (true,false,false,false,false,0))
 (bindO (letO (decide (a=8)) fun c=>
 iteB c
 (some c)
 (letO (decide (a=15)) fun l=>
 some l)) fun m=>
 iteB m
 (some (false,false,false,false,false,1))
 (bindO (letO (decide (a=9)) fun d=>
 iteB d
 (some d)
 (letO (decide (a=10)) fun n=>
 some n)) fun o=>
 iteB o
 (some (false,false,false,false,false,(-1)))
 (bindO (letO (decide (a=11)) fun e=>
 iteB e
 (some e)
 (letO (decide (a=12)) fun p=>
 some p)) fun q=>
 iteB q
 (some (false,false,false,false,true,1))
 (letO (decide (a=13)) fun r=>
 iteB r
 (some (false,false,false,true,true,1))
 (letO (decide (a=14)) fun s=>
 iteB s
 (some (false,false,false,false,false,2))
 (some (false,false,false,false,false,0))))))))))

def Fe6:Option (List Str):=
 letO ([[112,104,97,115,101],[109,111,118,101],[114,117,108,101],[105,102],[111,114],[97,110,100],[116,114,117,101],[102,97,108,115,101],[115,116,101,97,100,121],[110,111,116],[102,111,114],[119,105,116,104,105,110],[99,111,117,110,116],[111,102],[114,105,115,101,115],[115,105,110,99,101]]:List Str) fun _=>
 some ([[112,104,97,115,101],[109,111,118,101],[114,117,108,101],[105,102],[111,114],[97,110,100],[116,114,117,101],[102,97,108,115,101],[115,116,101,97,100,121],[110,111,116],[102,111,114],[119,105,116,104,105,110],[99,111,117,110,116],[111,102],[114,105,115,101,115],[115,105,110,99,101]]:List Str)

def Fec (c:Str)(b:List Str)(d:Unit→Option Bool):Int→Option Bool:=loopO fun e a=>
 letO (b.length:Int) fun f=>
 letO (decide (a<f)) fun h=>
 iteB h
 (bindO (at' b a) fun i=>
 letO (decide ((i:Str)=c)) fun j=>
 iteB j
 (some true)
 (letO (IntKind.i64.wrap (a+1)) fun k=>
 e k))
 (d ())
def Fdw (a:Str):Option Bool:=
 bindO (Fe6) fun b=>
 joinO (fun _=>
 some false) fun c=>
 Fec a b c 0

def Fd6 (c:Str)(d:Unit→Option Bool):Int→Option Bool:=loopO fun e b=>
 letO (c.length:Int) fun f=>
 letO (decide (b<f)) fun h=>
 iteB h
 (bindO (byte' c b) fun a=>
 bindO (letO (decide (97≤a)) fun i=>
 bindO (iteB i
 (letO (decide (a≤122)) fun j=>
 some j)
 (some false)) fun k=>
 iteB k
 (some false)
 (letO (decide (0<b)) fun l=>
 iteB l
 (letO (decide (48≤a)) fun m=>
 bindO (iteB m
 (letO (decide (a≤57)) fun n=>
 some n)
 (some false)) fun o=>
 iteB o
 (some false)
 (letO (decide (a=45)) fun p=>
 letO (!p) fun q=>
 some q))
 (some true))) fun r=>
 iteB r
 (some false)
 (letO (IntKind.i64.wrap (b+1)) fun s=>
 e s))
 (d ())
def Fc3 (a:Str):Option Bool:=
 joinO (fun _=>
 bindO (letO (decide ((a:Str)≠ [])) fun b=>
 bindO (iteB b
 (letO (a.length:Int) fun c=>
 letO (decide (c≤30)) fun d=>
 some d)
 (some false)) fun e=>
 iteB e
 (bindO (Fdw a) fun f=>
 letO (!f) fun h=>
 some h)
 (some false)) fun i=>
 some i) fun j=>
 Fd6 a j 0

def Fad (a:Cond):Option Int:=
 bindO (Fa2 a.Kind 1 15) fun j=>
 iteB j
 (some 7)
 (bindO (Fab a.Kind) fun ⟨d,e,f,k,h,b⟩=>
 bindO (letO (!d) fun l=>
 bindO (iteB l
 (letO (decide ((a.Name:Str)≠ [])) fun m=>
 some m)
 (some false)) fun n=>
 bindO (iteB n
 (some true)
 (letO (!e) fun o=>
 iteB o
 (letO (decide ((a.Other:Str)≠ [])) fun p=>
 some p)
 (some false))) fun q=>
 bindO (iteB q
 (some true)
 (letO (!f) fun r=>
 iteB r
 (letO (decide (a.Op≠0)) fun s=>
 some s)
 (some false))) fun t=>
 bindO (iteB t
 (some true)
 (letO (!k) fun u=>
 iteB u
 (letO (decide (a.N≠0)) fun v=>
 some v)
 (some false))) fun x=>
 iteB x
 (some true)
 (letO (!h) fun y=>
 iteB y
 (letO (decide (a.Frames≠0)) fun z=>
 some z)
 (some false))) fun A=>
 iteB A
 (some 2)
 (bindO (letO (decide (0≤b)) fun B=>
 bindO (iteB B
 (letO (a.Kids.length:Int) fun C=>
 letO (decide (C≠b)) fun D=>
 some D)
 (some false)) fun E=>
 iteB E
 (some true)
 (letO (decide (b<0)) fun F=>
 iteB F
 (letO (a.Kids.length:Int) fun G=>
 letO (decide (G<2)) fun I=>
 some I)
 (some false))) fun J=>
 iteB J
 (some 2)
 (bindO (bindO (iteB d
 (bindO (Fc3 a.Name) fun K=>
 letO (!K) fun L=>
 some L)
 (some false)) fun M=>
 iteB M
 (some true)
 (iteB e
 (bindO (Fc3 a.Other) fun P=>
 letO (!P) fun Q=>
 some Q)
 (some false))) fun R=>
 iteB R
 (some 8)
 (bindO (iteB f
 (bindO (Fa2 a.Op 1 6) fun T=>
 some T)
 (some false)) fun U=>
 iteB U
 (some 7)
 (bindO (iteB h
 (bindO (Fa2 a.Frames 1 4096) fun V=>
 some V)
 (some false)) fun X=>
 iteB X
 (some 9)
 (joinO (fun _=>
 bindO (letO (decide (a.Kind=5)) fun Y=>
 iteB Y
 (letO (decide (a.N<0)) fun Z=>
 some Z)
 (some false)) fun aa=>
 iteB aa
 (some 9)
 (some 0)) fun c=>
 bindO (letO (decide (a.Kind=3)) fun i=>
 iteB i
 (some i)
 (letO (decide (a.Kind=5)) fun ab=>
 some ab)) fun ac=>
 iteB ac
 (bindO (Fa2 a.N (-1125899906842624) 1125899906842624) fun ad=>
 iteB ad
 (some 9)
 (c ()))
 (letO (decide (a.Kind=13)) fun ae=>
 iteB ae
 (bindO (Fa2 a.N 1 a.Frames) fun af=>
 iteB af
 (some 9)
 (c ()))
 (c ()))))))))


end Go.Lf
