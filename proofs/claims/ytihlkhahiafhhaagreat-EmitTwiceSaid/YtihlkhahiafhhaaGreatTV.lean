import Derived.Test.YtihlkhahiafhhaaGreatTF
namespace Go.Ab.M
open Go.Proofs
set_option linter.unusedVariables false
set_option linter.defProp false
set_option maxRecDepth 100000
structure TOp where
 Code:Int
 A_:Int
 B_:Int
 Exp:Int
 Num:Rat
 deriving DecidableEq,Inhabited
abbrev TOp.D (x:TOp):List D:=[.v (.int .i64 x.Code)]++[.v (.int .i64 x.A_)]++[.v (.int .i64 x.B_)]++[.v (.int .i64 x.Exp)]++Rat.D x.Num
structure Tape where
 Ins:Int
 Ops:List TOp
 au:List Int
 deriving DecidableEq,Inhabited
abbrev Tape.D (x:Tape):List D:=[.v (.int .i64 x.Ins),.sl (x.Ops.map TOp.D),.sl (x.au.map K1)]
def QG (tA:Tape) (i:List Int) (i1:Nat):St:=⟨85,0,[(1,.ptr 10 0 0),(4,aU 100006 i),(38,I tA.Ins),(39,I (i1:Int))],[(10,BOX [I tA.Ins,SL TOp.D tA.Ops,SL K1 tA.au]),(100006,aY 1 K1 i)]⟩
def SB (tA:Tape) (i:List Int):St:=⟨85,0,[(1,.ptr 10 0 0),(4,aU 100006 i)],[(10,BOX [I tA.Ins,SL TOp.D tA.Ops,SL K1 tA.au]),(100006,aY 1 K1 i)]⟩
def nP (tA:Tape) (i:List Int) (i1:Nat):Option ((List Int×Nat)⊕(List Int)):=bif decide ((i1:Int)<tA.Ins) then G1 (i.length+1<=2147483648)<|G2 ((i1:Int)+1)<|some (.inl (i++[1],i1+1)) else some (.inr i)
theorem Tv (tA:Tape):∀σ:List Int×Nat,aO Tryz.prog (nav [1,1,1,0,1,0,0] (aK Tryz.f160)) (fun (σ:List Int×Nat)=>QG tA σ.1 σ.2) (fun (_:List Int)=>(.exit 0)) (fun (y:List Int)=>SB tA y) σ (nP tA σ.1 σ.2)
 | ([],i1)=>aI 1010 (.br 100000040 (.op 60004 (.ap K1 [] [1] 1 fun _=>⟨rfl,rfl⟩) (.ps 1000003 [.k [1,4,38,39] [10,1011],.m 1011 100006] (.ret (.inl ([1],i1+1))))) (G3 [1,4] [10,100006] (.ret (.inr []))))
 | (i_h::i_t,i1)=>aI 1010 (.br 100000040 (.op 60004 (.ap K1 (i_h::i_t) [1] 1 fun _=>⟨rfl,rfl⟩) (.ps 1000003 [.k [1,4,38,39] [10,1011],.m 1011 100006] (.ret (.inl ((i_h::i_t)++[1],i1+1))))) (G3 [1,4] [10,100006] (.ret (.inr (i_h::i_t)))))
def EJ (tA:Tape) (i:List Int) (i1:Nat):Option (List Int):=aQ (fun (σ:List Int×Nat)=>nP tA σ.1 σ.2) FU (i,i1)
def QS (tA:Tape) (i:List Int) (i1:Nat):=
 aX (Tv tA) (fun _ h=>by cases h) FU (i,i1)
def acW:ByteArray:=⟨#[]⟩
def WJ (a1:List Int) (out:List Int):St:=⟨32,0,[(0,SL K2 a1),(3,aU 100007 out)],[(100007,aY 1 (cI .u8) out)]⟩
def Xt (out:List Int):St:=⟨32,0,[(3,aU 100007 out)],[(100007,aY 1 (cI .u8) out)]⟩
def dW (a1:List Int) (out:List Int):Option ((List Int×List Int)⊕(List Int)):=let y0:=out.length+1<=2147483648;(nU a1).bind fun x0=>bif decide (x0>0) then (pO a1 10).bind fun x1=>G1 y0<|some (.inl (x1.1,out++[IntKind.wrap .u8 (IntKind.wrap .u32 (48+x1.2.1))])) else bif (out.length:Int)==0 then (pO a1 10).bind fun x1=>G1 y0<|some (.inl (x1.1,out++[IntKind.wrap .u8 (IntKind.wrap .u32 (48+x1.2.1))])) else some (.inr out)
theorem Xc:∀σ:List Int×List Int,aO Tryz.prog (nav [1,1,0,0,0] (aK Tryz.f223)) (fun (σ:List Int×List Int)=>WJ σ.1 σ.2) (fun (_:List Int)=>(.exit 0)) (fun (y:List Int)=>Xt y) σ (dW σ.1 σ.2)
 | (a1,[])=>aI 1010 (.call [] [] (yC a1) .no fun x0=>.br 20008 (.call [] [] (sQ a1 10) .no fun x1=>.op 40006 .wr (.op 40010 (.ap (cI .u8) [] [IntKind.wrap .u8 (IntKind.wrap .u32 (48+x1.2.1))] 1 fun _=>⟨rfl,rfl⟩) (.ps 1000003 [.k [0,3] [1011],.m 1011 100007] (.ret (.inl (x1.1,[IntKind.wrap .u8 (IntKind.wrap .u32 (48+x1.2.1))])))))) (.call [] [] (sQ a1 10) .no fun x1=>.op 40006 .wr (.op 40010 (.ap (cI .u8) [] [IntKind.wrap .u8 (IntKind.wrap .u32 (48+x1.2.1))] 1 fun _=>⟨rfl,rfl⟩) (.ps 1000003 [.k [0,3] [1011],.m 1011 100007] (.ret (.inl (x1.1,[IntKind.wrap .u8 (IntKind.wrap .u32 (48+x1.2.1))])))))))
 | (a1,eG::dZ)=>aI 1010 (.call [] [] (yC a1) .no fun x0=>.br 20008 (.call [] [] (sQ a1 10) .no fun x1=>.op 40006 .wr (.op 40010 (.ap (cI .u8) (eG::dZ) [IntKind.wrap .u8 (IntKind.wrap .u32 (48+x1.2.1))] 1 fun _=>⟨rfl,rfl⟩) (.ps 1000003 [.k [0,3] [1011],.m 1011 100007] (.ret (.inl (x1.1,(eG::dZ)++[IntKind.wrap .u8 (IntKind.wrap .u32 (48+x1.2.1))])))))) (.op 20010 (.ln (cI .u8) (eG::dZ)) (.br 100000014 (.call [] [] (sQ a1 10) .no fun x1=>.op 40006 .wr (.op 40010 (.ap (cI .u8) (eG::dZ) [IntKind.wrap .u8 (IntKind.wrap .u32 (48+x1.2.1))] 1 fun _=>⟨rfl,rfl⟩) (.ps 1000003 [.k [0,3] [1011],.m 1011 100007] (.ret (.inl (x1.1,(eG::dZ)++[IntKind.wrap .u8 (IntKind.wrap .u32 (48+x1.2.1))])))))) (G3 [3] [100007] (.ret (.inr (eG::dZ)))))))
def QK (a1:List Int) (out:List Int):Option (List Int):=aQ (fun (σ:List Int×List Int)=>dW σ.1 σ.2) FU (a1,out)
def Xo (a1:List Int) (out:List Int):=
 aX (Xc) (fun _ h=>by cases h) FU (a1,out)
def AL:St:=⟨28,0,[(0,SL (cI .u8) ([]:List Int)),(2,I 0),(3,I ((([]:List Int).length:Int)-1))],[]⟩
def Bc:St:=⟨28,0,[],[]⟩
def pU:Option (Unit⊕Unit):=let y0:=(([]:List Int).length:Int);let y1:=0<([]:List Int).length;bif decide (0<(y0-1)) then G1 (0<=y0-1)<|G1 ((y0-1).toNat<([]:List Int).length)<|G1 y1<|G1 y1<|none else some (.inr ())
theorem AO:∀σ:Unit,aO Tryz.prog (nav [1,0,0] (aK Tryz.f250)) (fun (σ:Unit)=>AL) (fun (_:Unit)=>(.exit 0)) (fun (y:Unit)=>Bc) σ (pU)
 | ()=>aI 1010 (.br 100000009 (.op 30012 (.el (cI .u8) ([]:List Int) .dn) (.op 30020 (.el (cI .u8) ([]:List Int) (.up 0)) (.op 30024 (.el (cI .u8) ([]:List Int) (.up 0)) .nil))) (G3 [] [] (.ret (.inr ()))))
def Ei:Option Unit:=aQ (fun (σ:Unit)=>pU) FU ()
def AZ:=
 aX (AO) (fun _ h=>by cases h) FU ()
def wU:Option Unit:=G2 ((([]:List Int).length:Int)-1)<|(Ei).bind fun x0=>some ()
theorem DF:∀r,wU=some r->aj Tryz.prog 250 0 [SL (cI .u8) ([]:List Int)] [] (.tup []) []:=
 ak 10 (.op 2 (.ln (cI .u8) ([]:List Int)) (G4 [0,2,3] [] (.lp1 0 (AZ) fun x0=>.ret ()))) Tryz.func250
def zH (i:Nat) (j:Int) (s:List Int):St:=⟨28,1,[(0,.msl 0 0 none none),(2,I (i:Int)),(3,I j)],[(0,ROW 1 (cI .u8) s 0)]⟩
def zD (o:List Int):St:=⟨28,1,[],[(0,ROW 1 (cI .u8) o 0)]⟩
def fA (i:Nat) (j:Int) (s:List Int):Option ((Nat×Int×List Int)⊕(List Int)):=let y0:=s.set i (nth s j.toNat);let y1:=i<s.length;let y2:=j.toNat<y0.length;let y3:=j.toNat<s.length;bif decide ((i:Int)<j) then G1 (0<=j)<|G1 y3<|G1 y3<|G1 y1<|G1 y1<|G1 y1<|G1 y1<|G1 (0<=j)<|G1 y2<|G1 y2<|G2 ((i:Int)+1)<|G2 (j-1)<|some (.inl (i+1,j-1,y0.set j.toNat (nth s i))) else some (.inr s)
theorem zF:∀σ:Nat×Int×List Int,aO Tryz.prog (nav [1,0,0] (aK Tryz.f250)) (fun (σ:Nat×Int×List Int)=>zH σ.1 σ.2.1 σ.2.2) (fun (_:List Int)=>(.exit 0)) (fun (y:List Int)=>zD y) σ (fA σ.1 σ.2.1 σ.2.2)
 | (i,j,s)=>let y0:=s.set i (nth s j.toNat);aI 1010 (.br 100000009 (.op 30012 (.el (cI .u8) s .dn) (.op 30014 (.ld (cI .u8) s) (.op 30020 (.el (cI .u8) s (.up i)) (.op 30022 (.ld (cI .u8) s) (.op 30024 (.el (cI .u8) s (.up i)) (.op 30026 (.st (cI .u8) s (nth s j.toNat)) (.op 30028 (.el (cI .u8) y0 .dn) (.op 30030 (.st (cI .u8) y0 (nth s i)) (G3 [0,2,3] [0] (.ret (.inl (i+1,j-1,y0.set j.toNat (nth s i))))))))))))) (G3 [] [0] (.ret (.inr s))))
def kN (i:Nat) (j:Int) (s:List Int):Option (List Int):=aQ (fun (σ:Nat×Int×List Int)=>fA σ.1 σ.2.1 σ.2.2) FU (i,j,s)
def zG (i:Nat) (j:Int) (s:List Int):=
 aX (zF) (fun _ h=>by cases h) FU (i,j,s)
def iY (o0:List Int):Option (List Int):=G2 ((o0.length:Int)-1)<|(kN 0 ((o0.length:Int)-1) o0).bind fun x0=>some x0
theorem Bf (o0:List Int):∀r,iY o0=some r->aj Tryz.prog 250 1 [.msl 0 0 none none] [(0,ROW 1 (cI .u8) o0 0)] (.tup []) [(0,ROW 1 (cI .u8) r 0)]:=
 ak 10 (.op 2 (.ln (cI .u8) o0) (G4 [0,2,3] [0] (.lp1 0 (zG 0 ((o0.length:Int)-1) o0) fun x0=>.ret x0))) Tryz.func250
def P7 (a:List Int):Option ByteArray:=(QK a []).bind fun x0=>bif x0.isEmpty then (wU).bind fun x1=>some (strOfNums ([]:List Int)) else (iY x0).bind fun x1=>some (strOfNums x1)
theorem acA (a:List Int):∀r,P7 a=some r->aj Tryz.prog 223 0 [SL K2 a] [] (SX r) []:=
 ak 10 (G4 [0,3] [100007] (.lp1 0 (Xo a []) fun x0=>.cl 1 3 100007 1 (cI .u8) x0 (.ps 1 [.k [3] []] (.call [] [] (DF) .no fun x1=>.ps 12 [.n 3] (.op 70002 (.bs ([]:List Int)) (.ret (strOfNums ([]:List Int)))))) (.ps 1 [.k [3] [100007]] (.call [100007] [] (Bf x0) .no fun x1=>.op 70002 (.bs x1) (.ret (strOfNums x1)))))) Tryz.func223
def jQ (a:List Int):Option Int:=(P7 a).bind fun x0=>some (x0.size:Int)
theorem yS (a:List Int):∀r,jQ a=some r->aj Tryz.prog 169 0 [SL K2 a] [] (I r) []:=
 ak 10 (.call [] [] (acA a) .no fun x0=>.ret (x0.size:Int)) Tryz.func169
def Ai (x:Rat):Option Bool:=(uw x).bind fun x0=>bif x0 then (jQ x.Num).bind fun x1=>bif decide (x1<=40) then (jQ x.Den).bind fun x2=>some (decide (x2<=40)) else some false else some false
theorem Vq (x:Rat):∀r,Ai x=some r->aj Tryz.prog 242 0 [AG Rat.D x] [] (B r) []:=
 ak 10 (.call [] [] (Ec x) .no fun x0=>.br 10006 (.call [] [] (yS x.Num) .no fun x1=>.br 10018 (.call [] [] (yS x.Den) .no fun x2=>.ret (decide (x2<=40))) (.ret false)) (.ret false)) Tryz.func242
def tu (x:Rat):Option Bool:=bif !x.Neg then bif (x.Num.length:Int)==0 then some ((x.Den.length:Int)==0) else some false else some false
theorem ou (x:Rat):∀r,tu x=some r->aj Tryz.prog 243 0 [AG Rat.D x] [] (B r) []:=
 ak 10 (.br 10008 (.op 10012 (.ln K2 x.Num) (.br 10020 (.op 10024 (.ln K2 x.Den) (.ret ((x.Den.length:Int)==0))) (.ret false))) (.ret false)) Tryz.func243
def Az (o:TOp):Option Bool:=let y0:=o.Exp>=(-20);bif o.Code==1 then (Ai o.Num).bind fun x0=>bif !x0 then some false else bif o.A_ != 0 then some false else bif o.B_ != 0 then some false else bif o.Exp != 0 then some false else (tu (Rat.mk false [] [])).bind fun x1=>bif x1 then bif decide y0 then bif decide (o.Exp<=20) then bif o.Code != 7 then some true else some (o.B_==0) else some false else some false else some false else bif o.Code==6 then bif o.B_ != 0 then some false else bif o.Exp != 0 then some false else (tu o.Num).bind fun x0=>bif x0 then bif decide y0 then bif decide (o.Exp<=20) then bif o.Code != 7 then some true else some (o.B_==0) else some false else some false else some false else bif o.Code==2 then bif o.Exp != 0 then some false else (tu o.Num).bind fun x0=>bif x0 then bif decide y0 then bif decide (o.Exp<=20) then bif o.Code != 7 then some true else some (o.B_==0) else some false else some false else some false else bif o.Code==3 then bif o.Exp != 0 then some false else (tu o.Num).bind fun x0=>bif x0 then bif decide y0 then bif decide (o.Exp<=20) then bif o.Code != 7 then some true else some (o.B_==0) else some false else some false else some false else bif o.Code==4 then bif o.Exp != 0 then some false else (tu o.Num).bind fun x0=>bif x0 then bif decide y0 then bif decide (o.Exp<=20) then bif o.Code != 7 then some true else some (o.B_==0) else some false else some false else some false else bif o.Code==5 then bif o.Exp != 0 then some false else (tu o.Num).bind fun x0=>bif x0 then bif decide y0 then bif decide (o.Exp<=20) then bif o.Code != 7 then some true else some (o.B_==0) else some false else some false else some false else bif o.Code==7 then (tu o.Num).bind fun x0=>bif x0 then bif decide y0 then bif decide (o.Exp<=20) then bif o.Code != 7 then some true else some (o.B_==0) else some false else some false else some false else some false
theorem LY (o:TOp):∀r,Az o=some r->aj Tryz.prog 210 0 [AG TOp.D o] [] (B r) []:=
 ak 10 (.br 100000005 (.call [] [] (Vq o.Num) .no fun x0=>.br 90010 (.ret false) (.br 100000024 (.ret false) (.br 100000029 (.ret false) (.br 100000032 (.ret false) (.call [] [] (ou (Rat.mk false [] [])) .no fun x1=>.br 160008 (.br 160018 (.br 160028 (.br 160036 (.ret true) (.ret (o.B_==0))) (.ret false)) (.ret false)) (.ret false)))))) (.br 100000007 (.br 100000029 (.ret false) (.br 100000032 (.ret false) (.call [] [] (ou o.Num) .no fun x0=>.br 160008 (.br 160018 (.br 160028 (.br 160036 (.ret true) (.ret (o.B_==0))) (.ret false)) (.ret false)) (.ret false)))) (.br 100000009 (.br 100000032 (.ret false) (.call [] [] (ou o.Num) .no fun x0=>.br 160008 (.br 160018 (.br 160028 (.br 160036 (.ret true) (.ret (o.B_==0))) (.ret false)) (.ret false)) (.ret false))) (.br 100000009 (.br 100000032 (.ret false) (.call [] [] (ou o.Num) .no fun x0=>.br 160008 (.br 160018 (.br 160028 (.br 160036 (.ret true) (.ret (o.B_==0))) (.ret false)) (.ret false)) (.ret false))) (.br 100000009 (.br 100000032 (.ret false) (.call [] [] (ou o.Num) .no fun x0=>.br 160008 (.br 160018 (.br 160028 (.br 160036 (.ret true) (.ret (o.B_==0))) (.ret false)) (.ret false)) (.ret false))) (.br 100000009 (.br 100000032 (.ret false) (.call [] [] (ou o.Num) .no fun x0=>.br 160008 (.br 160018 (.br 160028 (.br 160036 (.ret true) (.ret (o.B_==0))) (.ret false)) (.ret false)) (.ret false))) (.br 100000014 (.call [] [] (ou o.Num) .no fun x0=>.br 160008 (.br 160018 (.br 160028 (.br 160036 (.ret true) (.ret (o.B_==0))) (.ret false)) (.ret false)) (.ret false)) (.ret false)))))))) Tryz.func210
def SI (n:Int):Option Int:=G2 (0-n)<|some (mxI n (0-n))
theorem aeX (n:Int):∀r,SI n=some r->aj Tryz.prog 244 0 [I n] [] (I r) []:=
 ak 10 (.ret (mxI n (0-n))) Tryz.func244
def xY (o:TOp) (w:List Int):Option (Int×Bool):=let y1:=nth w o.A_.toNat;let y2:=y1+(nth w o.B_.toNat);let y0:=(y1+(nth w o.B_.toNat),decide (y2<=200));let y3:=o.B_.toNat<w.length;let y4:=(w.length:Int);bif o.Code==1 then some (1,true) else bif decide (o.A_<0) then some (0,false) else bif decide (o.A_>=y4) then some (0,false) else bif decide (o.B_<0) then some (0,false) else bif decide (o.B_>=y4) then some (0,false) else G1 (0<=o.A_)<|G1 (o.A_.toNat<w.length)<|bif o.Code==2 then G1 (0<=o.B_)<|G1 y3<|G2 y2<|some y0 else bif o.Code==3 then G1 (0<=o.B_)<|G1 y3<|G2 y2<|some y0 else bif o.Code==4 then G1 (0<=o.B_)<|G1 y3<|G2 y2<|some y0 else bif o.Code==5 then G1 (0<=o.B_)<|G1 y3<|G2 y2<|some y0 else bif o.Code==7 then (SI o.Exp).bind fun x0=>G2 (y1*(mxI 1 x0))<|some (y1*(mxI 1 x0),decide ((y1*(mxI 1 x0))<=200)) else some (nth w o.A_.toNat,decide (y1<=200))
theorem KC (o:TOp) (w:List Int):∀r,xY o w=some r->aj Tryz.prog 211 0 [AG TOp.D o,SL K1 w] [] (.tup [I r.1,B r.2]) []:=
 let y1:=nth w o.A_.toNat;let y0:=(y1+(nth w o.B_.toNat),decide ((y1+(nth w o.B_.toNat))<=200));ak 10 (.br 100000009 (.ret (1,true)) (.br 30008 (.ret (0,false)) (.op 30014 (.ln K1 w) (.br 30022 (.ret (0,false)) (.br 30032 (.ret (0,false)) (.op 30038 (.ln K1 w) (.br 100000031 (.ret (0,false)) (.op 50006 (.el K1 w .dn) (.br 100000039 (.op 110008 (.el K1 w .dn) (.ret y0)) (.br 100000039 (.op 110008 (.el K1 w .dn) (.ret y0)) (.br 100000039 (.op 110008 (.el K1 w .dn) (.ret y0)) (.br 100000039 (.op 110008 (.el K1 w .dn) (.ret y0)) (.br 100000051 (.call [] [] (aeX o.Exp) .no fun x0=>.ret (y1*(mxI 1 x0),decide ((y1*(mxI 1 x0))<=200))) (.ret (nth w o.A_.toNat,decide (y1<=200)))))))))))))))) Tryz.func211
def Oi (tA:Tape) (i:List Int) (i1:Nat):St:=⟨85,0,[(1,.ptr 10 0 0),(4,aU 100006 i),(46,SL TOp.D tA.Ops),(47,I (tA.Ops.length:Int)),(48,I (i1:Int))],[(10,BOX [I tA.Ins,SL TOp.D tA.Ops,SL K1 tA.au]),(100006,aY 1 K1 i)]⟩
def Oq (tA:Tape):St:=⟨85,0,[(2,dR),(3,B false)],[]⟩
def Ol (tA:Tape) (i:List Int):St:=⟨85,0,[(1,.ptr 10 0 0),(4,aU 100006 i)],[(10,BOX [I tA.Ins,SL TOp.D tA.Ops,SL K1 tA.au]),(100006,aY 1 K1 i)]⟩
def kV (tA:Tape) (i:List Int) (i1:Nat):Option ((List Int×Nat)⊕(Unit⊕(List Int))):=let y0:=nth tA.Ops i1;bif decide ((i1:Int)<(tA.Ops.length:Int)) then G1 (i1<tA.Ops.length)<|(Az y0).bind fun x1=>bif !x1 then some (.inr (.inl ())) else (xY y0 i).bind fun x2=>bif !x2.2 then some (.inr (.inl ())) else G1 (i.length+1<=2147483648)<|G2 ((i1:Int)+1)<|some (.inl (i++[x2.1],i1+1)) else some (.inr (.inr i))
theorem Ou (tA:Tape):∀σ:List Int×Nat,aO Tryz.prog (nav [1,1,1,1,0,1,0,0] (aK Tryz.f160)) (fun (σ:List Int×Nat)=>Oi tA σ.1 σ.2) (fun (y:Unit⊕(List Int))=>bF y (fun _=>.ret) (fun _=>(.exit 2))) (fun (y:Unit⊕(List Int))=>bF y (fun y=>Oq tA) (fun y=>Ol tA y)) σ (kV tA σ.1 σ.2)
 | ([],i1)=>let y0:=G3 [2,3] [] (.ret (.inr (.inl ())));let y1:=nth tA.Ops i1;aI 1010 (.br 100000049 (.op 100000 (.el TOp.D tA.Ops (.up i1)) (.call [] [] (LY y1) .no fun x1=>.br 100000054 y0 (.call [] [] (KC y1 []) .no fun x2=>.br 100000062 y0 (.op 160006 (.ap K1 [] [x2.1] 1 fun _=>⟨rfl,rfl⟩) (.ps 1000003 [.k [1,4,46,47,48] [10,1012],.m 1012 100006] (.ret (.inl ([x2.1],i1+1)))))))) (G3 [1,4] [10,100006] (.ret (.inr (.inr [])))))
 | (i_h::i_t,i1)=>let y0:=G3 [2,3] [] (.ret (.inr (.inl ())));let y1:=nth tA.Ops i1;aI 1010 (.br 100000049 (.op 100000 (.el TOp.D tA.Ops (.up i1)) (.call [] [] (LY y1) .no fun x1=>.br 100000054 y0 (.call [] [] (KC y1 (i_h::i_t)) (.yes fun _=>⟨rfl,trivial⟩) fun x2=>.br 100000062 y0 (.op 160006 (.ap K1 (i_h::i_t) [x2.1] 1 fun _=>⟨rfl,rfl⟩) (.ps 1000003 [.k [1,4,46,47,48] [10,1012],.m 1012 100006] (.ret (.inl ((i_h::i_t)++[x2.1],i1+1)))))))) (G3 [1,4] [10,100006] (.ret (.inr (.inr (i_h::i_t))))))
def uT (tA:Tape) (i:List Int) (i1:Nat):Option (Unit⊕(List Int)):=aQ (fun (σ:List Int×Nat)=>kV tA σ.1 σ.2) FU (i,i1)
def Cm (tA:Tape) (i:List Int) (i1:Nat):=
 aX (Ou tA) (fun y h=>by rcases y with y | y<;>cases h) FU (i,i1)
def Oc (tA:Tape) (x2:List Int) (i:Nat):St:=⟨85,0,[(4,SL K1 x2),(69,SL K1 tA.au),(70,I (tA.au.length:Int)),(71,I (i:Int))],[]⟩
def Ot (tA:Tape) (x2:List Int):St:=⟨85,0,[(2,dR),(3,B false)],[]⟩
def Oh (tA:Tape) (x2:List Int):St:=⟨85,0,[(4,SL K1 x2)],[]⟩
def kP (tA:Tape) (x2:List Int) (i:Nat):Option (Nat⊕(Unit⊕Unit)):=let y0:=nth tA.au i;bif decide ((i:Int)<(tA.au.length:Int)) then G1 (i<tA.au.length)<|bif decide (y0<0) then some (.inr (.inl ())) else bif decide (y0>=(x2.length:Int)) then some (.inr (.inl ())) else G2 ((i:Int)+1)<|some (.inl (i+1)) else some (.inr (.inr ()))
theorem Oe (tA:Tape) (x2:List Int):∀σ:Nat,aO Tryz.prog (nav [1,1,1,1,1,0,1,0,0] (aK Tryz.f160)) (fun (σ:Nat)=>Oc tA x2 σ) (fun (y:Unit⊕Unit)=>bF y (fun _=>.ret) (fun _=>(.exit 4))) (fun (y:Unit⊕Unit)=>bF y (fun y=>Ot tA x2) (fun y=>Oh tA x2)) σ (kP tA x2 σ)
 | i=>let y0:=G3 [2,3] [] (.ret (.inr (.inl ())));aI 1010 (.br 100000072 (.op 200000 (.el K1 tA.au (.up i)) (.br 210006 y0 (.op 210010 (.ln K1 x2) (.br 100000082 y0 (G3 [4,69,70,71] [] (.ret (.inl (i+1)))))))) (G3 [4] [] (.ret (.inr (.inr ())))))
def uJ (tA:Tape) (x2:List Int) (i:Nat):Option (Unit⊕Unit):=aQ (fun (σ:Nat)=>kP tA x2 σ) FU i
def Ci (tA:Tape) (x2:List Int) (i:Nat):=
 aX (Oe tA x2) (fun y h=>by rcases y with y | y<;>cases h) FU i
def DC (tA:Tape):Option (List Int×Bool):=let y0:=(tA.au.length:Int);bif decide (tA.Ins<1) then some ([],false) else bif decide (tA.Ins>40) then some ([],false) else bif decide (y0<1) then some ([],false) else bif decide (y0>40) then some ([],false) else bif decide ((tA.Ops.length:Int)>400) then some ([],false) else (EJ tA [] 0).bind fun x0=>bif x0.isEmpty then (uT tA [] 0).bind fun y_=>bF y_ (fun x1=>some ([],false)) (fun x2=>(uJ tA x2 0).bind fun y_=>bF y_ (fun x3=>some ([],false)) (fun x4=>some (x2,true))) else bif !x0.isEmpty then (uT tA x0 0).bind fun y_=>bF y_ (fun x1=>some ([],false)) (fun x2=>(uJ tA x2 0).bind fun y_=>bF y_ (fun x3=>some ([],false)) (fun x4=>some (x2,true))) else none
theorem X8 (tA:Tape):∀r,DC tA=some r->aj Tryz.prog 160 0 [AG Tape.D tA] [] (.tup [SL K1 r.1,B r.2]) []:=
 ak 10 (.br 10008 (.ps 1000003 [.n 2] (.ret ([],false))) (.br 10018 (.ps 1000003 [.n 2] (.ret ([],false))) (.op 10022 (.ln K1 tA.au) (.br 10030 (.ps 1000003 [.n 2] (.ret ([],false))) (.op 10034 (.ln K1 tA.au) (.br 10042 (.ps 1000003 [.n 2] (.ret ([],false))) (.op 10046 (.ln TOp.D tA.Ops) (.br 100000036 (.ps 1000003 [.n 2] (.ret ([],false))) (G4 [1,4,38,39] [10,100006] (.lp1 0 (QS tA [] 0) fun x0=>.cl 1 4 100006 1 K1 x0 (.ps 1 [.k [1,4] [10]] (.op 80004 (.ln TOp.D tA.Ops) (G4 [1,4,46,47,48] [10,100006] (.lp2 0 (Cm tA [] 0) (fun x1=>.ps 1000003 [.n 2] (.ret ([],false))) (fun x2=>.oz 5 4 100006 1 K1 x2 (.ps 5 [.k [1,4] [10]] (.op 180004 (.ln K1 tA.au) (G4 [4,69,70,71] [] (.lp2 0 (Ci tA x2 0) (fun x3=>.ps 1000003 [.n 2] (.ret ([],false))) (fun x4=>.ret (x2,true))))))))))) (.ps 1 [.k [1,4] [10,100006]] (.op 80004 (.ln TOp.D tA.Ops) (G4 [1,4,46,47,48] [10,100006] (.ow 1000001 4 100006 1 K1 x0 .no (G4 [1,4,46,47,48] [10,100006] (.lp2 0 (Cm tA x0 0) (fun x1=>.ps 1000003 [.n 2] (.ret ([],false))) (fun x2=>.oz 5 4 100006 1 K1 x2 (.ps 5 [.k [1,4] [10]] (.op 180004 (.ln K1 tA.au) (G4 [4,69,70,71] [] (.lp2 0 (Ci tA x2 0) (fun x3=>.ps 1000003 [.n 2] (.ret ([],false))) (fun x4=>.ret (x2,true))))))))))))))))))))))) Tryz.func160
def D7 (t:Tape):Option Bool:=(DC t).bind fun x0=>some x0.2
theorem acE (t:Tape):∀r,D7 t=some r->aj Tryz.prog 92 0 [AG Tape.D t] [] (B r) []:=
 ak 10 (.call [] [] (X8 t) .no fun x0=>.ret x0.2) Tryz.func92
end Go.Ab.M
