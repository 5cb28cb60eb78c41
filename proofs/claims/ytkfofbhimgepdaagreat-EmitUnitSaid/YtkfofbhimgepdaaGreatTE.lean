import Derived.Test.YtkfofbhimgepdaaGreatTD
namespace Go.Ab.M
open Go.Proofs
set_option linter.unusedVariables false
set_option linter.defProp false
set_option maxRecDepth 100000
structure Fh where
 Rat:Rat
 deriving DecidableEq,Inhabited
abbrev Fh.D (x:Fh):List D:=Rat.D x.Rat
structure Dh where
 halves:Fh
 deriving DecidableEq,Inhabited
abbrev Dh.D (x:Dh):List D:=Fh.D x.halves
def wQ (a:List Int) (b:List Int):Option (List Int×List Int×Bool):=(jU b).bind fun x0=>bif x0==0 then some ([],[],false) else (nU a b).bind fun x1=>(uh a x1).bind fun x2=>(uh b x1).bind fun x3=>some (x2.1,x3.1,true)
theorem Ov (a:List Int) (b:List Int):∀r,wQ a b=some r->au Tryz.prog 68 0 [SL K2 a,SL K2 b] [] (.tup [SL K2 r.1,SL K2 r.2.1,B r.2.2]) []:=
 aA 10 (.call [] [] (tN b) .no fun x0=>.br 100000010 (.ps 1000003 [.n 4,.n 5] (.ret ([],[],false))) (.call [] [] (Ky a b) .no fun x1=>.call [] [] (Ec a x1) .no fun x2=>.call [] [] (Ec b x1) .no fun x3=>.ret (x2.1,x3.1,true))) Tryz.func68
def MI (a:Int) (b:Int) (c:Int):Option (Int×Int):=(kU [a,b,c]).bind fun x0=>(vY x0).bind fun x1=>some (x1.2,x1.1)
theorem aaD (a:Int) (b:Int) (c:Int):∀r,MI a b c=some r->au Tryz.prog 119 0 [NI .u32 a,NI .u32 b,NI .u32 c] [] (.tup [NI .u32 r.1,NI .u32 r.2]) []:=
 aA 10 (.call [] [] (yO [a,b,c]) (.yes fun _=>⟨rfl,trivial⟩) fun x0=>.call [] [] (BL x0) .no fun x1=>.ret (x1.2,x1.1)) Tryz.func119
def ZN (a:List Int) (b:List Int) (i:Nat) (out:List Int):St:=⟨43,0,[(0,SL K2 a),(1,SL K2 b),(5,I (mxI (a.length:Int) (b.length:Int))),(6,.msl 10 0 none (some (((mxI (a.length:Int) (b.length:Int))+1).toNat))),(16,I (mxI (a.length:Int) (b.length:Int))),(17,I (i:Int))],[(10,ROW 1 K2 out 0)]⟩
def Z9 (a:List Int) (b:List Int) (out:List Int):St:=⟨43,0,[(6,.msl 10 0 none (some (((mxI (a.length:Int) (b.length:Int))+1).toNat)))],[(10,ROW 1 K2 out 0)]⟩
def uV (a:List Int) (b:List Int) (i:Nat) (out:List Int):Option ((Nat×List Int)⊕(List Int)):=let y0:=mxI (a.length:Int) (b.length:Int);let y1:=0<=mxI (a.length:Int) (b.length:Int);let y2:=y0.toNat<out.length;let y3:=i<out.length;bif decide ((i:Int)<y0) then (KC a (i:Int)).bind fun x0=>(KC b (i:Int)).bind fun x1=>G1 y1<|G1 y2<|G1 y2<|(MI x0 x1 (nth out (y0.toNat))).bind fun x2=>G1 y3<|G1 y3<|G1 y1<|G1 (y0.toNat<(out.set i x2.1).length)<|G1 (y0.toNat<(out.set i x2.1).length)<|G2 ((i:Int)+1)<|some (.inl (i+1,(out.set i x2.1).set (y0.toNat) x2.2)) else some (.inr out)
theorem ZP (a:List Int) (b:List Int):∀σ:Nat×List Int,aU Tryz.prog (nav [1,1,1,0,1,0,0] (aQ Tryz.f67)) (fun (σ:Nat×List Int)=>ZN a b σ.1 σ.2) (fun (_:List Int)=>(.exit 0)) (fun (y:List Int)=>Z9 a b y) σ (uV a b σ.1 σ.2)
 | (i,out)=>let y0:=(mxI (a.length:Int) (b.length:Int)).toNat;aJ 1010 (.br 100000018 (.call [] [] (PW a (i:Int)) .no fun x0=>.call [] [] (PW b (i:Int)) .no fun x1=>.op 60024 (.el K2 out .dn) (.op 60026 (.ld K2 out) (.call [] [] (aaD x0 x1 (nth out y0)) .no fun x2=>.op 60036 (.el K2 out (.up i)) (.op 60038 (.st K2 out x2.1) (.op 60040 (.el K2 (out.set i x2.1) .dn) (.op 60042 (.st K2 (out.set i x2.1) x2.2) (G3 [0,1,5,6,16,17] [10] (.ret (.inl (i+1,(out.set i x2.1).set y0 x2.2)))))))))) (G3 [6] [10] (.ret (.inr out))))
def O7 (a:List Int) (b:List Int) (i:Nat) (out:List Int):Option (List Int):=aT (fun (σ:Nat×List Int)=>uV a b σ.1 σ.2) FU (i,out)
def Zg (a:List Int) (b:List Int) (i:Nat) (out:List Int):=
 bf (ZP a b) (fun _ h=>by cases h) FU (i,out)
def NY (a:List Int) (b:List Int):Option (List Int):=G2 ((mxI (a.length:Int) (b.length:Int))+1)<|G1 (0<=(mxI (a.length:Int) (b.length:Int))+1)<|G1 (((mxI (a.length:Int) (b.length:Int))+1).toNat<=2147483648)<|(O7 a b 0 (List.replicate (((mxI (a.length:Int) (b.length:Int))+1).toNat) 0)).bind fun x0=>(iy x0).bind fun x1=>some x1
theorem Tn (a:List Int) (b:List Int):∀r,NY a b=some r->au Tryz.prog 67 0 [SL K2 a,SL K2 b] [] (SL K2 r) []:=
 aA 10 (.op 10002 (.ln K2 a) (.op 10006 (.ln K2 b) (.op 20004 (.mk K2 0 .dn) (G4 [0,1,5,6,16,17] [10] (.lp1 0 (Zg a b 0 (List.replicate (((mxI (a.length:Int) (b.length:Int))+1).toNat) 0)) fun x0=>.call [] [] (gZ x0) .no fun x1=>.ret x1))))) Tryz.func67
def jg (neg:Bool) (mag:List Int):Option Whole:=(iy mag).bind fun x0=>bif neg then some (Whole.mk (decide ((x0.length:Int)>0)) x0) else some (Whole.mk false x0)
theorem jO (neg:Bool) (mag:List Int):∀r,jg neg mag=some r->au Tryz.prog 66 0 [B neg,SL K2 mag] [] (AG Whole.D r) []:=
 aA 10 (.call [] [] (gZ mag) .no fun x0=>.br 20004 (.op 20006 (.ln K2 x0) (.ret (Whole.mk (decide ((x0.length:Int)>0)) x0))) (.ret (Whole.mk false x0))) Tryz.func66
def Gq (n:Int):Option Whole:=bif decide (n<0) then G2 (n+1)<|G2 (0-(n+1))<|(sF (IntKind.wrap .u64 (0-(n+1)))).bind fun x0=>(sF 1).bind fun x1=>(NY x0 x1).bind fun x2=>(jg true x2).bind fun x3=>some x3 else (sF (IntKind.wrap .u64 n)).bind fun x0=>(jg false x0).bind fun x1=>some x1
theorem abd (n:Int):∀r,Gq n=some r->au Tryz.prog 34 0 [I n] [] (AG Whole.D r) []:=
 aA 10 (.br 100000004 (.op 20006 .wr (.call [] [] (kW (IntKind.wrap .u64 (0-(n+1)))) .no fun x0=>.call [] [] (kW 1) .no fun x1=>.call [] [] (Tn x0 x1) .no fun x2=>.call [] [] (jO true x2) .no fun x3=>.ret x3)) (.op 30002 .wr (.call [] [] (kW (IntKind.wrap .u64 n)) .no fun x0=>.call [] [] (jO false x0) .no fun x1=>.ret x1))) Tryz.func34
def Qj (a:Whole) (b:Whole):Option Whole:=(NY a.Mag b.Mag).bind fun x0=>(jg a.Neg x0).bind fun x1=>some x1
theorem UU (a:Whole) (b:Whole):∀r,Qj a b=some r->au Tryz.prog 219 0 [AG Whole.D a,AG Whole.D b] [] (AG Whole.D r) []:=
 aA 10 (.call [] [] (Tn a.Mag b.Mag) .no fun x0=>.call [] [] (jO a.Neg x0) .no fun x1=>.ret x1) Tryz.func219
def Ns (a:Whole) (b:Whole):Option Whole:=(Ja a.Mag b.Mag).bind fun x0=>bif x0.2 then (jg a.Neg x0.1).bind fun x1=>some x1 else (Ja b.Mag a.Mag).bind fun x1=>(jg b.Neg x1.1).bind fun x2=>some x2
theorem Q7 (a:Whole) (b:Whole):∀r,Ns a b=some r->au Tryz.prog 218 0 [AG Whole.D a,AG Whole.D b] [] (AG Whole.D r) []:=
 aA 10 (.call [] [] (LQ a.Mag b.Mag) .no fun x0=>.br 100000017 (.call [] [] (jO a.Neg x0.1) .no fun x1=>.ret x1) (.call [] [] (LQ b.Mag a.Mag) .no fun x1=>.call [] [] (jO b.Neg x1.1) .no fun x2=>.ret x2)) Tryz.func218
def Yg (a:Whole) (b:Whole):Option Whole:=bif a.Neg==b.Neg then (Qj a b).bind fun x0=>some x0 else (Ns a b).bind fun x0=>some x0
theorem Z6 (a:Whole) (b:Whole):∀r,Yg a b=some r->au Tryz.prog 187 0 [AG Whole.D a,AG Whole.D b] [] (AG Whole.D r) []:=
 aA 10 (.br 100000011 (.call [] [] (UU a b) .no fun x0=>.ret x0) (.call [] [] (Q7 a b) .no fun x0=>.ret x0)) Tryz.func187
def CB (a:Whole) (b:Whole):Option Whole:=(pY a.Mag b.Mag).bind fun x0=>(jg (!(a.Neg==b.Neg)) x0).bind fun x1=>some x1
theorem yM (a:Whole) (b:Whole):∀r,CB a b=some r->au Tryz.prog 188 0 [AG Whole.D a,AG Whole.D b] [] (AG Whole.D r) []:=
 aA 10 (.call [] [] (pO a.Mag b.Mag) .no fun x0=>.call [] [] (jO (!(a.Neg==b.Neg)) x0) .no fun x1=>.ret x1) Tryz.func188
def dQ (neg:Bool) (n:List Int) (d:List Int):Option Rat:=(wQ n d).bind fun x0=>bif !x0.2.2 then (sF 1).bind fun x1=>some (Rat.mk false [] x1) else bif (x0.1.length:Int)==0 then (sF 1).bind fun x1=>some (Rat.mk false [] x1) else some (Rat.mk neg x0.1 x0.2.1)
theorem dJ (neg:Bool) (n:List Int) (d:List Int):∀r,dQ neg n d=some r->au Tryz.prog 35 0 [B neg,SL K2 n,SL K2 d] [] (AG Rat.D r) []:=
 aA 10 (.call [] [] (Ov n d) .no fun x0=>.br 20006 (.call [] [] (kW 1) .no fun x1=>.ps 1000003 [.b 10] (.ret (Rat.mk false [] x1))) (.op 20008 (.ln K2 x0.1) (.br 100000023 (.call [] [] (kW 1) .no fun x1=>.ps 1000003 [.b 10] (.ret (Rat.mk false [] x1))) (.ret (Rat.mk neg x0.1 x0.2.1))))) Tryz.func35
def wJ (a:Rat):Option Rat:=(dQ a.Neg a.Num a.Den).bind fun x0=>some x0
theorem iJ (a:Rat):∀r,wJ a=some r->au Tryz.prog 52 0 [AG Rat.D a] [] (AG Rat.D r) []:=
 aA 10 (.call [] [] (dJ a.Neg a.Num a.Den) .no fun x0=>.ret x0) Tryz.func52
def jA (n:Int):Option Rat:=(Gq n).bind fun x0=>(sF 1).bind fun x1=>(dQ x0.Neg x0.Mag x1).bind fun x2=>some x2
theorem bH (n:Int):∀r,jA n=some r->au Tryz.prog 15 0 [I n] [] (AG Rat.D r) []:=
 aA 10 (.call [] [] (abd n) .no fun x0=>.call [] [] (kW 1) .no fun x1=>.call [] [] (dJ x0.Neg x0.Mag x1) .no fun x2=>.ret x2) Tryz.func15
def Dz (a:Rat):Option Dh:=(wJ a).bind fun x0=>some (Dh.mk (Fh.mk x0))
theorem xK (a:Rat):∀r,Dz a=some r->au Tryz.prog 186 0 [AG Rat.D a] [] (AG Dh.D r) []:=
 aA 10 (.call [] [] (iJ a) .no fun x0=>.ret (Dh.mk (Fh.mk x0))) Tryz.func186
def jB (h:Fh):Option Whole:=some (Whole.mk h.Rat.Neg h.Rat.Num)
theorem jH (h:Fh):∀r,jB h=some r->au Tryz.prog 189 0 [AG Fh.D h] [] (AG Whole.D r) []:=
 aA 10 (.ret (Whole.mk h.Rat.Neg h.Rat.Num)) Tryz.func189
def jr (h:Fh):Option Whole:=some (Whole.mk false h.Rat.Den)
theorem jE (h:Fh):∀r,jr h=some r->au Tryz.prog 190 0 [AG Fh.D h] [] (AG Whole.D r) []:=
 aA 10 (.ret (Whole.mk false h.Rat.Den)) Tryz.func190
def IV (a:Rat) (b:Rat):Option Rat:=(Dz a).bind fun x0=>(Dz b).bind fun x1=>(jB x0.halves).bind fun x2=>(jr x1.halves).bind fun x3=>(CB x2 x3).bind fun x4=>(jB x1.halves).bind fun x5=>(jr x0.halves).bind fun x6=>(CB x5 x6).bind fun x7=>(Yg x4 x7).bind fun x8=>(pY x0.halves.Rat.Den x1.halves.Rat.Den).bind fun x9=>(dQ x8.Neg x8.Mag x9).bind fun x10=>some x10
theorem Ee (a:Rat) (b:Rat):∀r,IV a b=some r->au Tryz.prog 130 0 [AG Rat.D a,AG Rat.D b] [] (AG Rat.D r) []:=
 aA 10 (.call [] [] (xK a) .no fun x0=>.call [] [] (xK b) .no fun x1=>.call [] [] (jH x0.halves) .no fun x2=>.call [] [] (jE x1.halves) .no fun x3=>.call [] [] (yM x2 x3) .no fun x4=>.call [] [] (jH x1.halves) .no fun x5=>.call [] [] (jE x0.halves) .no fun x6=>.call [] [] (yM x5 x6) .no fun x7=>.call [] [] (Z6 x4 x7) .no fun x8=>.call [] [] (pO x0.halves.Rat.Den x1.halves.Rat.Den) .no fun x9=>.call [] [] (dJ x8.Neg x8.Mag x9) .no fun x10=>.ret x10) Tryz.func130
def OO (a:Rat) (b:Rat):Option Rat:=(pY a.Num b.Num).bind fun x0=>(pY a.Den b.Den).bind fun x1=>(dQ (!(a.Neg==b.Neg)) x0 x1).bind fun x2=>some x2
theorem NH (a:Rat) (b:Rat):∀r,OO a b=some r->au Tryz.prog 131 0 [AG Rat.D a,AG Rat.D b] [] (AG Rat.D r) []:=
 aA 10 (.call [] [] (pO a.Num b.Num) .no fun x0=>.call [] [] (pO a.Den b.Den) .no fun x1=>.call [] [] (dJ (!(a.Neg==b.Neg)) x0 x1) .no fun x2=>.ret x2) Tryz.func131
def P7 (a:Rat):Option Rat:=(dQ (!a.Neg) a.Num a.Den).bind fun x0=>some x0
theorem NS (a:Rat):∀r,P7 a=some r->au Tryz.prog 153 0 [AG Rat.D a] [] (AG Rat.D r) []:=
 aA 10 (.call [] [] (dJ (!a.Neg) a.Num a.Den) .no fun x0=>.ret x0) Tryz.func153
def Yb (a:Rat) (b:Rat):Option Rat:=(P7 b).bind fun x0=>(IV a x0).bind fun x1=>some x1
theorem Z8 (a:Rat) (b:Rat):∀r,Yb a b=some r->au Tryz.prog 151 0 [AG Rat.D a,AG Rat.D b] [] (AG Rat.D r) []:=
 aA 10 (.call [] [] (NS b) .no fun x0=>.call [] [] (Ee a x0) .no fun x1=>.ret x1) Tryz.func151
def WC (n:Whole) (d:Whole):Option (Rat×Int):=(jU d.Mag).bind fun x0=>bif x0==0 then some (Rat.mk false [] [],3) else (dQ (!(n.Neg==d.Neg)) n.Mag d.Mag).bind fun x1=>some (x1,0)
theorem Xp (n:Whole) (d:Whole):∀r,WC n d=some r->au Tryz.prog 207 0 [AG Whole.D n,AG Whole.D d] [] (.tup [AG Rat.D r.1,I r.2]) []:=
 aA 10 (.call [] [] (tN d.Mag) .no fun x0=>.br 100000009 (.ps 1000003 [.b 12] (.ret (Rat.mk false [] [],3))) (.call [] [] (dJ (!(n.Neg==d.Neg)) n.Mag d.Mag) .no fun x1=>.ret (x1,0))) Tryz.func207
def Yw (a:Rat) (b:Rat):Option (Rat×Int):=(Dz a).bind fun x0=>(Dz b).bind fun x1=>(jB x0.halves).bind fun x2=>(jr x1.halves).bind fun x3=>(CB x2 x3).bind fun x4=>(jr x0.halves).bind fun x5=>(jB x1.halves).bind fun x6=>(CB x5 x6).bind fun x7=>(WC x4 x7).bind fun x8=>some (x8.1,x8.2)
theorem aad (a:Rat) (b:Rat):∀r,Yw a b=some r->au Tryz.prog 152 0 [AG Rat.D a,AG Rat.D b] [] (.tup [AG Rat.D r.1,I r.2]) []:=
 aA 10 (.call [] [] (xK a) .no fun x0=>.call [] [] (xK b) .no fun x1=>.call [] [] (jH x0.halves) .no fun x2=>.call [] [] (jE x1.halves) .no fun x3=>.call [] [] (yM x2 x3) .no fun x4=>.call [] [] (jE x0.halves) .no fun x5=>.call [] [] (jH x1.halves) .no fun x6=>.call [] [] (yM x5 x6) .no fun x7=>.call [] [] (Xp x4 x7) .no fun x8=>.ret (x8.1,x8.2)) Tryz.func152
def P5 (tA:Rat) (a:Int):Option (Rat×Int):=let y0:=(Int.tmod a 2) != 0;let y1:=mxI a (0-a);let y2:=(Rat.mk false [] [],4);(Dz tA).bind fun x0=>bif decide (a<(-64)) then some y2 else bif decide (a>64) then some y2 else bif decide (a<0) then bif (x0.halves.Rat.Num.length:Int)==0 then some (Rat.mk false [] [],3) else G2 (0-a)<|(uG x0.halves.Rat.Num y1).bind fun x1=>G2 (0-a)<|(uG x0.halves.Rat.Den y1).bind fun x2=>bif x0.halves.Rat.Neg then G1 ((2:Int)≠0)<|bif decide (a<0) then (dQ y0 x2.1 x1.1).bind fun x3=>some (x3,0) else (dQ y0 x1.1 x2.1).bind fun x3=>some (x3,0) else bif decide (a<0) then (dQ false x2.1 x1.1).bind fun x3=>some (x3,0) else (dQ false x1.1 x2.1).bind fun x3=>some (x3,0) else G2 (0-a)<|(uG x0.halves.Rat.Num y1).bind fun x1=>G2 (0-a)<|(uG x0.halves.Rat.Den y1).bind fun x2=>bif x0.halves.Rat.Neg then G1 ((2:Int)≠0)<|bif decide (a<0) then (dQ y0 x2.1 x1.1).bind fun x3=>some (x3,0) else (dQ y0 x1.1 x2.1).bind fun x3=>some (x3,0) else bif decide (a<0) then (dQ false x2.1 x1.1).bind fun x3=>some (x3,0) else (dQ false x1.1 x2.1).bind fun x3=>some (x3,0)
theorem N8 (tA:Rat) (a:Int):∀r,P5 tA a=some r->au Tryz.prog 154 0 [AG Rat.D tA,I a] [] (.tup [AG Rat.D r.1,I r.2]) []:=
 let y0:=(Int.tmod a 2) != 0;let y1:=mxI a (0-a);let y2:=(Rat.mk false [] [],4);aA 10 (.call [] [] (xK tA) .no fun x0=>.br 20006 (.ps 1000003 [.b 11] (.ret y2)) (.br 100000014 (.ps 1000003 [.b 11] (.ret y2)) (.br 40006 (.op 40014 (.ln K2 x0.halves.Rat.Num) (.br 100000022 (.ps 1000003 [.b 11] (.ret (Rat.mk false [] [],3))) (.call [] [] (uM x0.halves.Rat.Num y1) .no fun x1=>.call [] [] (uM x0.halves.Rat.Den y1) .no fun x2=>.br 80010 (.op 80012 .wr (.br 100000068 (.call [] [] (dJ y0 x2.1 x1.1) .no fun x3=>.ret (x3,0)) (.call [] [] (dJ y0 x1.1 x2.1) .no fun x3=>.ret (x3,0)))) (.br 100000068 (.call [] [] (dJ false x2.1 x1.1) .no fun x3=>.ret (x3,0)) (.call [] [] (dJ false x1.1 x2.1) .no fun x3=>.ret (x3,0)))))) (.call [] [] (uM x0.halves.Rat.Num y1) .no fun x1=>.call [] [] (uM x0.halves.Rat.Den y1) .no fun x2=>.br 80010 (.op 80012 .wr (.br 100000068 (.call [] [] (dJ y0 x2.1 x1.1) .no fun x3=>.ret (x3,0)) (.call [] [] (dJ y0 x1.1 x2.1) .no fun x3=>.ret (x3,0)))) (.br 100000068 (.call [] [] (dJ false x2.1 x1.1) .no fun x3=>.ret (x3,0)) (.call [] [] (dJ false x1.1 x2.1) .no fun x3=>.ret (x3,0))))))) Tryz.func154
end Go.Ab.M
