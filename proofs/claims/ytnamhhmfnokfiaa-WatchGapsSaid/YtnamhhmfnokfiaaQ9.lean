/- All of the engine. -/
import Derived.Test.YtnamhhmfnokfiaaQT
