import Derived.Test.YtjboagogechleaaGreatTD
namespace Go.Ab.M
open Go.Proofs
set_option linter.unusedVariables false
set_option linter.defProp false
set_option maxRecDepth 100000
structure BD where
 Rat:Rat
 deriving DecidableEq,Inhabited
abbrev BD.D (x:BD):List D:=Rat.D x.Rat
structure zo where
 halves:BD
 deriving DecidableEq,Inhabited
abbrev zo.D (x:zo):List D:=BD.D x.halves
def rM (a:List Int) (b:List Int):Option (List Int×List Int×Bool):=(lK b).bind fun x0=>bif x0==0 then some ([],[],false) else (lC a b).bind fun x1=>(oV a x1).bind fun x2=>(oV b x1).bind fun x3=>some (x2.1,x3.1,true)
theorem Ls (a:List Int) (b:List Int):∀r,rM a b=some r->au Tryz.prog 164 0 [SL (cI .u32) a,SL (cI .u32) b] [] (.tup [SL (cI .u32) r.1,SL (cI .u32) r.2.1,B r.2.2]) []:=
 ay 10 (.call [] [] (DT b) .no fun x0=>.br 100000010 (.ps 1000003 [.n 4,.n 5] (.ret ([],[],false))) (.call [] [] (Fa a b) .no fun x1=>.call [] [] (zO a x1) .no fun x2=>.call [] [] (zO b x1) .no fun x3=>.ret (x2.1,x3.1,true))) Tryz.func164
def Hl (a:Int) (b:Int) (c:Int):Option (Int×Int):=(jQ [a,b,c]).bind fun x0=>(ru x0).bind fun x1=>some (x1.2,x1.1)
theorem YS (a:Int) (b:Int) (c:Int):∀r,Hl a b c=some r->au Tryz.prog 218 0 [NI .u32 a,NI .u32 b,NI .u32 c] [] (.tup [NI .u32 r.1,NI .u32 r.2]) []:=
 ay 10 (.call [] [] (uO [a,b,c]) (.yes fun _=>⟨rfl,trivial⟩) fun x0=>.call [] [] (yj x0) .no fun x1=>.ret (x1.2,x1.1)) Tryz.func218
def Xv (a:List Int) (b:List Int) (i:Nat) (out:List Int):St:=⟨43,0,[(0,SL (cI .u32) a),(1,SL (cI .u32) b),(5,I (mxI ((a.length:Nat):Int) ((b.length:Nat):Int))),(6,.msl 10 0 none (some (((mxI ((a.length:Nat):Int) ((b.length:Nat):Int))+1).toNat))),(16,I (mxI ((a.length:Nat):Int) ((b.length:Nat):Int))),(17,I ((i:Nat):Int))],[(10,ROW 1 (cI .u32) out 0)]⟩
def VO (a:List Int) (b:List Int) (out:List Int):St:=⟨43,0,[(6,.msl 10 0 none (some (((mxI ((a.length:Nat):Int) ((b.length:Nat):Int))+1).toNat)))],[(10,ROW 1 (cI .u32) out 0)]⟩
def pU (a:List Int) (b:List Int) (i:Nat) (out:List Int):Option ((Nat×List Int)⊕(List Int)):=bif decide (((i:Nat):Int)<(mxI ((a.length:Nat):Int) ((b.length:Nat):Int))) then (F5 a ((i:Nat):Int)).bind fun x0=>(F5 b ((i:Nat):Int)).bind fun x1=>bif decide (0<=mxI ((a.length:Nat):Int) ((b.length:Nat):Int)) then bif decide ((mxI ((a.length:Nat):Int) ((b.length:Nat):Int)).toNat<out.length) then bif decide ((mxI ((a.length:Nat):Int) ((b.length:Nat):Int)).toNat<out.length) then (Hl x0 x1 (nth out ((mxI ((a.length:Nat):Int) ((b.length:Nat):Int)).toNat))).bind fun x2=>bif decide (i<out.length) then bif decide (i<out.length) then bif decide (0<=mxI ((a.length:Nat):Int) ((b.length:Nat):Int)) then bif decide ((mxI ((a.length:Nat):Int) ((b.length:Nat):Int)).toNat<(out.set i x2.1).length) then bif decide ((mxI ((a.length:Nat):Int) ((b.length:Nat):Int)).toNat<(out.set i x2.1).length) then bif inK .i64 (((i:Nat):Int)+1) then some (.inl (i+1,(out.set i x2.1).set ((mxI ((a.length:Nat):Int) ((b.length:Nat):Int)).toNat) x2.2)) else none else none else none else none else none else none else none else none else none else some (.inr out)
theorem Xi (a:List Int) (b:List Int):∀σ:Nat×List Int,aN Tryz.prog (nav [1,1,1,0,1,0,0] (aj Tryz.f178)) (fun (σ:Nat×List Int)=>Xv a b σ.1 σ.2) (fun (_:List Int)=>(.exit 0)) (fun (y:List Int)=>VO a b y) σ (pU a b σ.1 σ.2)
 | (i,out)=>aF 1010 (.br 100000018 (.call [] [] (Le a ((i:Nat):Int)) .no fun x0=>.call [] [] (Le b ((i:Nat):Int)) .no fun x1=>.op 60024 (.el (cI .u32) out .dn) (.op 60026 (.ld (cI .u32) out) (.call [] [] (YS x0 x1 (nth out ((mxI ((a.length:Nat):Int) ((b.length:Nat):Int)).toNat))) .no fun x2=>.op 60036 (.el (cI .u32) out (.up i)) (.op 60038 (.st (cI .u32) out x2.1) (.op 60040 (.el (cI .u32) (out.set i x2.1) .dn) (.op 60042 (.st (cI .u32) (out.set i x2.1) x2.2) (.ps 1000003 [.k [0,1,5,6,16,17] [10]] (.ret (.inl (i+1,(out.set i x2.1).set ((mxI ((a.length:Nat):Int) ((b.length:Nat):Int)).toNat) x2.2)))))))))) (.ps 1000003 [.k [6] [10]] (.ret (.inr out))))
def JL (a:List Int) (b:List Int) (i:Nat) (out:List Int):Option (List Int):=aO (fun (σ:Nat×List Int)=>pU a b σ.1 σ.2) FU (i,out)
def Xb (a:List Int) (b:List Int) (i:Nat) (out:List Int):=
 aS (Xi a b) (fun _ h=>by cases h) FU (i,out)
def IQ (a:List Int) (b:List Int):Option (List Int):=bif inK .i64 ((mxI ((a.length:Nat):Int) ((b.length:Nat):Int))+1) then bif decide (0<=(mxI ((a.length:Nat):Int) ((b.length:Nat):Int))+1) then bif decide (((mxI ((a.length:Nat):Int) ((b.length:Nat):Int))+1).toNat<=2147483648) then (JL a b 0 (List.replicate (((mxI ((a.length:Nat):Int) ((b.length:Nat):Int))+1).toNat) 0)).bind fun x0=>(fJ x0).bind fun x1=>some x1 else none else none else none
theorem Qd (a:List Int) (b:List Int):∀r,IQ a b=some r->au Tryz.prog 178 0 [SL (cI .u32) a,SL (cI .u32) b] [] (SL (cI .u32) r) []:=
 ay 10 (.op 10002 (.ln (cI .u32) a) (.op 10006 (.ln (cI .u32) b) (.op 20004 (.mk (cI .u32) 0 .dn) (.ps 1000001 [.k [0,1,5,6,16,17] [10]] (.lp1 0 (Xb a b 0 (List.replicate (((mxI ((a.length:Nat):Int) ((b.length:Nat):Int))+1).toNat) 0)) fun x0=>.call [] [] (fH x0) .no fun x1=>.ret x1))))) Tryz.func178
def gX (neg:Bool) (mag:List Int):Option Whole:=(fJ mag).bind fun x0=>bif neg then some (Whole.mk (decide (((x0.length:Nat):Int)>0)) x0) else some (Whole.mk false x0)
theorem iV (neg:Bool) (mag:List Int):∀r,gX neg mag=some r->au Tryz.prog 169 0 [B neg,SL (cI .u32) mag] [] (AG Whole.D r) []:=
 ay 10 (.call [] [] (fH mag) .no fun x0=>.br 20004 (.op 20006 (.ln (cI .u32) x0) (.ret (Whole.mk (decide (((x0.length:Nat):Int)>0)) x0))) (.ret (Whole.mk false x0))) Tryz.func169
def CX (n:Int):Option Whole:=bif decide (n<0) then bif inK .i64 (n+1) then bif inK .i64 (0-(n+1)) then (nV (IntKind.wrap .u64 (0-(n+1)))).bind fun x0=>(nV 1).bind fun x1=>(IQ x0 x1).bind fun x2=>(gX true x2).bind fun x3=>some x3 else none else none else (nV (IntKind.wrap .u64 n)).bind fun x0=>(gX false x0).bind fun x1=>some x1
theorem Y7 (n:Int):∀r,CX n=some r->au Tryz.prog 135 0 [I n] [] (AG Whole.D r) []:=
 ay 10 (.br 100000004 (.op 20006 .wr (.call [] [] (jy (IntKind.wrap .u64 (0-(n+1)))) .no fun x0=>.call [] [] (jy 1) .no fun x1=>.call [] [] (Qd x0 x1) .no fun x2=>.call [] [] (iV true x2) .no fun x3=>.ret x3)) (.op 30002 .wr (.call [] [] (jy (IntKind.wrap .u64 n)) .no fun x0=>.call [] [] (iV false x0) .no fun x1=>.ret x1))) Tryz.func135
def Cc (a:Whole) (b:Whole):Option Whole:=(IQ a.Mag b.Mag).bind fun x0=>(gX a.Neg x0).bind fun x1=>some x1
theorem RH (a:Whole) (b:Whole):∀r,Cc a b=some r->au Tryz.prog 168 0 [AG Whole.D a,AG Whole.D b] [] (AG Whole.D r) []:=
 ay 10 (.call [] [] (Qd a.Mag b.Mag) .no fun x0=>.call [] [] (iV a.Neg x0) .no fun x1=>.ret x1) Tryz.func168
def uS (a:Whole) (b:Whole):Option Whole:=(EK a.Mag b.Mag).bind fun x0=>bif x0.2 then (gX a.Neg x0.1).bind fun x1=>some x1 else (EK b.Mag a.Mag).bind fun x1=>(gX b.Neg x1.1).bind fun x2=>some x2
theorem ML (a:Whole) (b:Whole):∀r,uS a b=some r->au Tryz.prog 167 0 [AG Whole.D a,AG Whole.D b] [] (AG Whole.D r) []:=
 ay 10 (.call [] [] (FX a.Mag b.Mag) .no fun x0=>.br 100000017 (.call [] [] (iV a.Neg x0.1) .no fun x1=>.ret x1) (.call [] [] (FX b.Mag a.Mag) .no fun x1=>.call [] [] (iV b.Neg x1.1) .no fun x2=>.ret x2)) Tryz.func167
def vg (a:Whole) (b:Whole):Option Whole:=bif a.Neg==b.Neg then (Cc a b).bind fun x0=>some x0 else (uS a b).bind fun x0=>some x0
theorem WQ (a:Whole) (b:Whole):∀r,vg a b=some r->au Tryz.prog 120 0 [AG Whole.D a,AG Whole.D b] [] (AG Whole.D r) []:=
 ay 10 (.br 100000011 (.call [] [] (RH a b) .no fun x0=>.ret x0) (.call [] [] (ML a b) .no fun x0=>.ret x0)) Tryz.func120
def yO (a:Whole) (b:Whole):Option Whole:=(kZ a.Mag b.Mag).bind fun x0=>(gX (!(a.Neg==b.Neg)) x0).bind fun x1=>some x1
theorem Io (a:Whole) (b:Whole):∀r,yO a b=some r->au Tryz.prog 121 0 [AG Whole.D a,AG Whole.D b] [] (AG Whole.D r) []:=
 ay 10 (.call [] [] (mQ a.Mag b.Mag) .no fun x0=>.call [] [] (iV (!(a.Neg==b.Neg)) x0) .no fun x1=>.ret x1) Tryz.func121
def kM (neg:Bool) (n:List Int) (d:List Int):Option Rat:=(rM n d).bind fun x0=>bif !x0.2.2 then (nV 1).bind fun x1=>some (Rat.mk false [] x1) else bif ((x0.1.length:Nat):Int)==0 then (nV 1).bind fun x1=>some (Rat.mk false [] x1) else some (Rat.mk neg x0.1 x0.2.1)
theorem nS (neg:Bool) (n:List Int) (d:List Int):∀r,kM neg n d=some r->au Tryz.prog 115 0 [B neg,SL (cI .u32) n,SL (cI .u32) d] [] (AG Rat.D r) []:=
 ay 10 (.call [] [] (Ls n d) .no fun x0=>.br 20006 (.call [] [] (jy 1) .no fun x1=>.ps 1000003 [.b 10] (.ret (Rat.mk false [] x1))) (.op 20008 (.ln (cI .u32) x0.1) (.br 100000023 (.call [] [] (jy 1) .no fun x1=>.ps 1000003 [.b 10] (.ret (Rat.mk false [] x1))) (.ret (Rat.mk neg x0.1 x0.2.1))))) Tryz.func115
def vw (a:Rat):Option Rat:=(kM a.Neg a.Num a.Den).bind fun x0=>some x0
theorem zS (a:Rat):∀r,vw a=some r->au Tryz.prog 81 0 [AG Rat.D a] [] (AG Rat.D r) []:=
 ay 10 (.call [] [] (nS a.Neg a.Num a.Den) .no fun x0=>.ret x0) Tryz.func81
def qh (n:Int):Option Rat:=(CX n).bind fun x0=>(nV 1).bind fun x1=>(kM x0.Neg x0.Mag x1).bind fun x2=>some x2
theorem oW (n:Int):∀r,qh n=some r->au Tryz.prog 80 0 [I n] [] (AG Rat.D r) []:=
 ay 10 (.call [] [] (Y7 n) .no fun x0=>.call [] [] (jy 1) .no fun x1=>.call [] [] (nS x0.Neg x0.Mag x1) .no fun x2=>.ret x2) Tryz.func80
def CZ (a:Rat):Option zo:=(vw a).bind fun x0=>some (zo.mk (BD.mk x0))
theorem LZ (a:Rat):∀r,CZ a=some r->au Tryz.prog 119 0 [AG Rat.D a] [] (AG zo.D r) []:=
 ay 10 (.call [] [] (zS a) .no fun x0=>.ret (zo.mk (BD.mk x0))) Tryz.func119
def kH (h:BD):Option Whole:=some (Whole.mk h.Rat.Neg h.Rat.Num)
theorem qE (h:BD):∀r,kH h=some r->au Tryz.prog 122 0 [AG BD.D h] [] (AG Whole.D r) []:=
 ay 10 (.ret (Whole.mk h.Rat.Neg h.Rat.Num)) Tryz.func122
def ku (h:BD):Option Whole:=some (Whole.mk false h.Rat.Den)
theorem qC (h:BD):∀r,ku h=some r->au Tryz.prog 123 0 [AG BD.D h] [] (AG Whole.D r) []:=
 ay 10 (.ret (Whole.mk false h.Rat.Den)) Tryz.func123
def kY (a:Rat) (b:Rat):Option Rat:=(CZ a).bind fun x0=>(CZ b).bind fun x1=>(kH x0.halves).bind fun x2=>(ku x1.halves).bind fun x3=>(yO x2 x3).bind fun x4=>(kH x1.halves).bind fun x5=>(ku x0.halves).bind fun x6=>(yO x5 x6).bind fun x7=>(vg x4 x7).bind fun x8=>(kZ x0.halves.Rat.Den x1.halves.Rat.Den).bind fun x9=>(kM x8.Neg x8.Mag x9).bind fun x10=>some x10
theorem qj (a:Rat) (b:Rat):∀r,kY a b=some r->au Tryz.prog 59 0 [AG Rat.D a,AG Rat.D b] [] (AG Rat.D r) []:=
 ay 10 (.call [] [] (LZ a) .no fun x0=>.call [] [] (LZ b) .no fun x1=>.call [] [] (qE x0.halves) .no fun x2=>.call [] [] (qC x1.halves) .no fun x3=>.call [] [] (Io x2 x3) .no fun x4=>.call [] [] (qE x1.halves) .no fun x5=>.call [] [] (qC x0.halves) .no fun x6=>.call [] [] (Io x5 x6) .no fun x7=>.call [] [] (WQ x4 x7) .no fun x8=>.call [] [] (mQ x0.halves.Rat.Den x1.halves.Rat.Den) .no fun x9=>.call [] [] (nS x8.Neg x8.Mag x9) .no fun x10=>.ret x10) Tryz.func59
def mG (a:Rat) (b:Rat):Option Rat:=(kZ a.Num b.Num).bind fun x0=>(kZ a.Den b.Den).bind fun x1=>(kM (!(a.Neg==b.Neg)) x0 x1).bind fun x2=>some x2
theorem uI (a:Rat) (b:Rat):∀r,mG a b=some r->au Tryz.prog 56 0 [AG Rat.D a,AG Rat.D b] [] (AG Rat.D r) []:=
 ay 10 (.call [] [] (mQ a.Num b.Num) .no fun x0=>.call [] [] (mQ a.Den b.Den) .no fun x1=>.call [] [] (nS (!(a.Neg==b.Neg)) x0 x1) .no fun x2=>.ret x2) Tryz.func56
end Go.Ab.M
